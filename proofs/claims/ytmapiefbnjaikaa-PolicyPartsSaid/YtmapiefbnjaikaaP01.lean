/- Soundness: what is made: variables, boxes, structs, slices. -/
import Derived.Test.YtmapiefbnjaikaaP00
import Derived.Laws.MakeOwn
import Derived.Deep.AppendSrc
import Derived.Deep.Upon
import Derived.Orders
set_option linter.all false
namespace Go.Proofs.Ytmapiefbnjaikaa.Vm
open Go

/-- cells that say what cells are -/
structure RelC (g : Gh) (w : World) (cs : List AV) (c : Array Value) : Prop where
  size : cs.length = c.size
  rel : ∀ (j : Nat) (x : AV) (v : Value), cs[j]? = some x → c[j]? = some v → Rel g w x v

theorem RelC.mono {B : Nat → Prop} {g g' : Gh} {w w' : World} (h : Ext B g w g' w') {cs : List AV} {c : Array Value} (r : RelC g w cs c) : RelC g' w' cs c :=
  ⟨r.size, fun j x v a b => (r.rel j x v a b).mono h⟩

theorem cells_one {g : Gh} {w : World} {v : AV} {u : Value} (h : Rel g w v u) (h1 : v.oneC = true) : v.cells = [v] ∧ u.cells = #[u] ∧ u.oneCell' = true := by
  cases h <;> first | exact ⟨rfl, rfl, rfl⟩ | exact nomatch h1

theorem rel_cells {g : Gh} {w : World} {v : AV} {u : Value} (h : Rel g w v u) (hd : v ≠ .dead) : RelC g w v.cells u.cells := by
  by_cases h1 : v.oneC = true
  · obtain ⟨e1, e2, _⟩ := cells_one h h1
    rw [e1, e2]
    refine ⟨rfl, fun j x y hx hy => ?_⟩
    cases j with
    | zero => cases hx; cases hy; exact h
    | succ j => simp at hx
  · cases v with
    | dead => exact (hd rfl).elim
    | agg cs =>
      obtain ⟨vs, e1, e2, rfl⟩ := inv_agg h
      exact ⟨e1, e2⟩
    | tuple cs =>
      obtain ⟨vs, e1, e2, rfl⟩ := inv_tuple h
      refine ⟨rfl, fun j x y hx hy => ?_⟩
      cases j with
      | zero => cases hx; cases hy; exact h
      | succ j => simp [AV.cells] at hx
    | _ => exact (h1 rfl).elim

theorem fold_set (xs : List Value) (off : Nat) : ∀ (k : Nat) (cells : Array Value), ((xs.zipIdx k).foldl (fun (cs : Array Value) (p : Value × Nat) => cs.setIfInBounds (off + p.2) p.1) cells).size = cells.size ∧
    ∀ j : Nat, ((xs.zipIdx k).foldl (fun (cs : Array Value) (p : Value × Nat) => cs.setIfInBounds (off + p.2) p.1) cells)[j]? = if off + k ≤ j ∧ j < off + k + xs.length ∧ j < cells.size then xs[j - (off + k)]? else cells[j]? := by
  induction xs with
  | nil => intro k cells; refine ⟨rfl, fun j => ?_⟩; rw [if_neg (by simp; omega)]; rfl
  | cons x xs ih =>
    intro k cells
    obtain ⟨h1, h2⟩ := ih (k + 1) (cells.setIfInBounds (off + k) x)
    refine ⟨by simpa [List.zipIdx_cons] using h1, fun j => ?_⟩
    rw [List.zipIdx_cons, List.foldl_cons, h2 j]
    simp only [Array.size_setIfInBounds, List.length_cons, Array.getElem?_setIfInBounds]
    by_cases c1 : off + (k + 1) ≤ j ∧ j < off + (k + 1) + xs.length ∧ j < cells.size
    · rw [if_pos c1, if_pos (by omega), show j - (off + k) = (j - (off + (k + 1))) + 1 by omega]; rfl
    · rw [if_neg c1]
      by_cases c2 : off + k = j
      · subst c2
        by_cases c3 : off + k < cells.size
        · rw [if_pos rfl, if_pos c3, if_pos (by omega)]; simp
        · rw [if_pos rfl, if_neg c3, if_neg (by omega)]; simp; omega
      · rw [if_neg c2, if_neg (by omega)]

section
variable {P : Program} {E : Env} {t : List AV} {s : List VObj} {dst : Option Tmp} {ty : TypeId} {pos : String} {after : Array Edge} {guard : Option (Nat × Bool)}
variable {K : OpOut → Prop} {R : AV → List VObj → FP → Prop}

theorem fill_rel (hF : ¬ K .fail) {place placeV : Nat → Option (Nat × Nat)} (hp : ∀ i x, place i = some x → placeV i = some x) {L : List AV → Prop} : ∀ (parts : List (Nat × Operand)) (cs : List AV),
    fillAV K place cs (parts.map fun p => (p.1, evV t p.2)) L →
    ∃ cs', L cs' ∧ cs'.length = cs.length ∧ ∀ (g : Gh) (w : World) (ρ : Operand → Value) (cells : Array Value), (∀ p ∈ parts, Rel g w (evV t p.2) (ρ p.2)) → RelC g w cs cells →
      ∃ cells', Instr.fill placeV cells (parts.map fun p => (p.1, ρ p.2)) = some cells' ∧ RelC g w cs' cells' := by
  intro parts
  induction parts with
  | nil => intro cs h; exact ⟨cs, h, rfl, fun g w ρ cells _ hc => ⟨cells, rfl, hc⟩⟩
  | cons p parts ih =>
    obtain ⟨i, x⟩ := p
    intro cs h
    simp only [List.map_cons] at h
    by_cases hd : evV t x = .dead
    · rw [hd] at h; exact (hF (by simpa [fillAV] using h)).elim
    · have h' : (match place i with
        | none => K .fail
        | some (off, size) => match Nat.beq (evV t x).cells.length size && Nat.ble (off + size) cs.length with
          | true => forceC (splice cs off (evV t x).cells) fun c => fillAV K place c (parts.map fun p => (p.1, evV t p.2)) L
          | false => K .fail) := by
        revert hd h
        generalize evV t x = v
        intro h hd
        cases v <;> first | exact (hd rfl).elim | exact h
      split at h'
      · exact (hF h').elim
      · rename_i off size hpl
        split at h'
        · rename_i hb
          simp only [Bool.and_eq_true] at hb
          have b1 := Nat.eq_of_beq_eq_true hb.1
          have b2 := Nat.le_of_ble_eq_true hb.2
          rw [forceC_eq] at h'
          obtain ⟨cs', hL, hlen, hrest⟩ := ih _ h'
          refine ⟨cs', hL, by rw [hlen, splice_length _ _ _ (by omega)], fun g w ρ cells hparts hc => ?_⟩
          have hr : RelC g w (evV t x).cells (ρ x).cells := rel_cells (hparts (i, x) (by simp)) hd
          have hpv := hp _ _ hpl
          simp only [List.map_cons, Instr.fill, hpv]
          rw [if_neg (by have := hr.size; have := hc.size; simp; omega)]
          refine hrest g w ρ _ (fun p hp => hparts p (by simp [hp])) ?_
          have hf := fold_set (ρ x).cells.toList off 0 cells
          rw [← Array.foldl_toList]
          simp only [Array.toList_zipIdx]
          have hrs := hr.size
          have hcsz := hc.size
          refine ⟨by rw [splice_length _ _ _ (by omega)]; exact hc.size.trans hf.1.symm, fun j y v hy hv => ?_⟩
          have hv' := (hf.2 j).symm.trans hv
          rw [splice_get _ _ _ (by omega)] at hy
          simp only [Nat.add_zero, Array.length_toList] at hv'
          by_cases c1 : off ≤ j ∧ j < off + (evV t x).cells.length
          · rw [if_pos c1] at hy
            rw [if_pos (by omega)] at hv'
            exact hr.rel _ _ _ hy (by simpa using hv')
          · rw [if_neg c1] at hy
            rw [if_neg (by omega)] at hv'
            exact hc.rel _ _ _ hy hv'
        · exact (hF h').elim

theorem relC_lits {g : Gh} {w : World} (z : Array Value) : RelC g w (z.toList.map avLit) z :=
  ⟨by simp, fun j x v hx hv => by
    simp [hv] at hx
    rw [← hx]; exact rel_lit v⟩

theorem over_one {σ : Nat → VObj} {n : Nat} {o : VObj} : over σ (getO (setO s n o)) [n] = updF σ n o := by
  funext j
  simp only [over, updF, getO_setO, List.mem_singleton]
  by_cases h : j = n
  · rw [if_pos h, if_pos h, if_pos h]
  · rw [if_neg h, if_neg h]

theorem getO_setO_out {n j : Nat} {o : VObj} (h : j ∉ [n]) : getO (setO s n o) j = getO s j := by
  rw [getO_setO, if_neg (by simpa using h)]

theorem run_alloc' (o : Obj) (w : World) : (newObj o).run P w = .ok w.heap.size (w.alloc o) := rfl

theorem drop_take_get' {α : Type} {cs : List α} {off n j : Nat} : ((cs.drop off).take n)[j]? = if j < n then cs[off + j]? else none := by
  rw [List.getElem?_take]; split
  · rw [List.getElem?_drop]
  · rfl

theorem s_alloc (hE : E.Fits P) {e n by_ : Nat} {k : TK} {z : AV} {zero : List AV} (h : E.ti e = ⟨k, n, by_, z :: zero⟩) :
    OpSem P ⟨dst, .alloc e, ty, pos, after, guard⟩ t s (.ptr s.length 0) (setO s s.length (.box (z :: zero) false)) ⟨[], [s.length]⟩ := by
  obtain ⟨i, d, zv, h1, h2, h3, h4, h5, h6, h7, h8, h9⟩ := ti_at hE h (.inr (.inr (by simp)))
  refine .val (fun id hid => getO_setO_out hid) fun B g w a σ hB hx hσ hs => ?_
  rw [over_one]
  have hg : σ s.length = .gone := (hσ _ (by simp)).trans (getO_len s)
  have hc := relC_lits (g := g) (w := w) zv.cells
  rw [h9]
  obtain ⟨g', e1, e2, e3⟩ := new_box hs hB hg hc.size hc.rel e
  refine ⟨g', _, _, ?_, e1, e2, e3⟩
  simp only [execOp, Instr.alloc, newVar, newRow, Sem.run_bind, run_zeroValue' h1 h3, Result.andThen_ok, Sem.run_pure, run_alloc']

theorem s_box {e : TypeId} {x : Operand} (hd : evV t x ≠ .dead) :
    OpSem P ⟨dst, .box e x, ty, pos, after, guard⟩ t s (.ptr s.length 0) (setO s s.length (.box (evV t x).cells false)) ⟨[], [s.length]⟩ := by
  refine .val (fun id hid => getO_setO_out hid) fun B g w a σ hB hx hσ hs => ?_
  rw [over_one]
  have hg : σ s.length = .gone := (hσ _ (by simp)).trans (getO_len s)
  have hc := rel_cells (hx x (by simp [Op.operands])) hd
  obtain ⟨g', e1, e2, e3⟩ := new_box hs hB hg hc.size hc.rel e
  refine ⟨g', _, _, ?_, e1, e2, e3⟩
  simp only [execOp, Instr.box, newVar, newRow, Sem.run_bind, Result.andThen_ok, Sem.run_pure, run_alloc']


theorem mapM_sizes (sz : TypeId → Nat) {fs : List Field} (h : ∀ f ∈ fs, ∃ i, P.info? f.type = some i ∧ i.size = sz f.type) (w : World) :
    (fs.mapM fun (f : Field) => (do pure (f.offset, ← sizeOf f.type) : Sem (Nat × Nat))).run P w = .ok (fs.map fun f => (f.offset, sz f.type)) w := by
  induction fs with
  | nil => rfl
  | cons f fs ih =>
    obtain ⟨i0, hi0, he⟩ := h f (by simp)
    have := ih fun f hf => h f (by simp [hf])
    simp only [List.mapM_cons, Sem.run_bind, run_sizeOf' hi0, Result.andThen_ok, Sem.run_pure, this, he, List.map_cons]
theorem mapM_sizes' (sz : TypeId → Nat) {fs : Array Field} (h : ∀ f ∈ fs.toList, ∃ i, P.info? f.type = some i ∧ i.size = sz f.type) (w : World) :
    (fs.mapM fun (f : Field) => (do pure (f.offset, ← sizeOf f.type) : Sem (Nat × Nat))).run P w = .ok (fs.toList.map fun f => (f.offset, sz f.type)).toArray w := by
  rw [Array.mapM_eq_mapM_toList]
  simp only [map_eq_pure_bind, Sem.run_bind, mapM_sizes sz h w, Result.andThen_ok, Sem.run_pure]

theorem operands_build {ty' : TypeId} {parts : Array (Nat × Operand)} {p : Nat × Operand} (h : p ∈ parts.toList) : p.2 ∈ (Op.build ty' parts).operands := by
  simp only [Op.operands]; exact List.mem_toArray.2 (List.mem_map.2 ⟨p, h, rfl⟩)
theorem operands_buildSlice {ty' : TypeId} {n : Nat} {parts : Array (Nat × Operand)} {p : Nat × Operand} (h : p ∈ parts.toList) : p.2 ∈ (Op.buildSlice ty' n parts).operands := by
  simp only [Op.operands]; exact List.mem_toArray.2 (List.mem_map.2 ⟨p, h, rfl⟩)

theorem info_of {E : Env} {P : Program} (hE : E.Fits P) {t : TypeId} (h : 0 < (E.ti t).size) : ∃ i, P.info? t = some i ∧ i.size = (E.ti t).size := by
  obtain ⟨i, d, zv, h1, h2, h3, h4, h5, h6, h7, _⟩ := ti_at hE (t := t) rfl (.inr (.inl h))
  exact ⟨i, h1, h7⟩

theorem s_build_struct (hF : ¬ K .fail) (hE : E.Fits P) {ty' n by_ : Nat} {zero : List AV} {fs : List (Nat × TypeId)} {parts : Array (Nat × Operand)} (e1 : E.ti ty' = ⟨.struct fs, n, by_, zero⟩)
    (hfs : (fs.all fun f => Nat.blt 0 (E.ti f.2).size) = true) {L : List AV → Prop}
    (h : fillAV K (fun i => (fs[i]?).map fun f => (f.1, (E.ti f.2).size)) zero (parts.toList.map fun p => (p.1, evV t p.2)) L) :
    ∃ cs, L cs ∧ OpSem P ⟨dst, .build ty' parts, ty, pos, after, guard⟩ t s (.agg cs) s fp0 := by
  obtain ⟨i, d, zv, h1, h2, h3, h4, h5, h6, h7, h8, h9⟩ := ti_at hE e1 (.inl (by simp))
  obtain ⟨f, rfl, hf⟩ := tk_struct h6.symm
  have hinfo : ∀ x ∈ f.toList, ∃ i, P.info? x.type = some i ∧ i.size = (E.ti x.type).size := fun x hx => by
    rw [List.all_eq_true] at hfs
    have := hfs (x.offset, x.type) (by rw [hf]; exact List.mem_map.2 ⟨x, hx, rfl⟩)
    exact info_of hE (Nat.le_of_ble_eq_true this)
  have hp : ∀ (i : Nat) (x : Nat × Nat), ((fs[i]?).map fun (f : Nat × TypeId) => (f.1, (E.ti f.2).size)) = some x → ((f.toList.map fun f => (f.offset, (E.ti f.type).size)).toArray[i]?) = some x := fun i x hx => by
    rw [hf, List.getElem?_map] at hx
    rw [List.getElem?_toArray, List.getElem?_map, ← hx]
    cases f.toList[i]? <;> rfl
  obtain ⟨cs, hL, hlen, hrel⟩ := fill_rel hF hp _ _ h
  refine ⟨cs, hL, .same fun B g w a σ hB hx hσ hs => ?_⟩
  obtain ⟨cells, hc1, hc2⟩ := hrel g w a.eval zv.cells (fun p hp => hx p.2 (operands_build hp)) (h9 ▸ relC_lits zv.cells)
  refine ⟨.agg cells, ?_, .agg hc2.size hc2.rel⟩
  have hm := mapM_sizes' (P := P) (fun t => (E.ti t).size) hinfo w
  simp only [execOp, Instr.build, Sem.run_bind, run_zeroValue' h1 h3, Result.andThen_ok, Sem.run_pure, run_underlying' h2, hm, Array.toList_map, hc1]

theorem s_build_arr (hF : ¬ K .fail) (hE : E.Fits P) {ty' e m n by_ : Nat} {zero : List AV} {parts : Array (Nat × Operand)} (e1 : E.ti ty' = ⟨.arr m e, n, by_, zero⟩)
    (h0 : Nat.blt 0 (E.ti e).size = true) {L : List AV → Prop}
    (h : fillAV K (fun i => some (i * (E.ti e).size, (E.ti e).size)) zero (parts.toList.map fun p => (p.1, evV t p.2)) L) :
    ∃ cs, L cs ∧ OpSem P ⟨dst, .build ty' parts, ty, pos, after, guard⟩ t s (.agg cs) s fp0 := by
  obtain ⟨i, d, zv, h1, h2, h3, h4, h5, h6, h7, h8, h9⟩ := ti_at hE e1 (.inl (by simp))
  have hd := tk_arr h6.symm; subst hd
  obtain ⟨inf, q1, q2⟩ := info_of hE (Nat.le_of_ble_eq_true h0)
  obtain ⟨cs, hL, hlen, hrel⟩ := fill_rel hF (placeV := fun i => some (i * (E.ti e).size, (E.ti e).size)) (fun _ _ h => h) _ _ h
  refine ⟨cs, hL, .same fun B g w a σ hB hx hσ hs => ?_⟩
  obtain ⟨cells, hc1, hc2⟩ := hrel g w a.eval zv.cells (fun p hp => hx p.2 (operands_build hp)) (h9 ▸ relC_lits zv.cells)
  refine ⟨.agg cells, ?_, .agg hc2.size hc2.rel⟩
  simp only [execOp, Instr.build, Sem.run_bind, run_zeroValue' h1 h3, Result.andThen_ok, Sem.run_pure, run_underlying' h2, run_sizeOf' q1, q2, Array.toList_map, hc1]

/- Slices that are written out. -/
theorem rep_get {α : Type} (z : List α) (n : Nat) (hz : z.length = n) (h0 : 0 < n) : ∀ len j, j < len * n → ((List.replicate len z).flatten)[j]? = z[j % n]? := by
  intro len
  induction len with
  | zero => intro j h; simp at h
  | succ len ih =>
    intro j h
    rw [List.replicate_succ, List.flatten_cons, List.getElem?_append]
    by_cases hj : j < z.length
    · rw [if_pos hj, Nat.mod_eq_of_lt (by omega)]
    · rw [if_neg hj, ih _ (by rw [Nat.add_mul] at h; omega), hz]
      congr 1
      rw [Nat.mod_eq_sub_mod (show j ≥ n by omega)]

theorem chunk_len (n : Nat) : ∀ m cs, (chunk n m cs).length = m := by
  intro m; induction m with
  | zero => intro cs; rfl
  | succ m ih => intro cs; simp [chunk, ih]
theorem chunk_get (n : Nat) : ∀ (m : Nat) (cs : List AV) (i : Nat) (c : List AV), (chunk n m cs)[i]? = some c → i < m ∧ c = (cs.drop (i * n)).take n := by
  intro m; induction m with
  | zero => intro cs i c h; simp [chunk] at h
  | succ m ih =>
    intro cs i c h
    cases i with
    | zero => simp [chunk] at h; exact ⟨by omega, by rw [← h]; simp⟩
    | succ i =>
      simp only [chunk, List.getElem?_cons_succ] at h
      obtain ⟨h1, h2⟩ := ih _ _ _ h
      refine ⟨by omega, ?_⟩
      rw [h2, List.drop_drop, Nat.add_mul]
      congr 2; omega

theorem fzd_fzd (o : VObj) : o.fzd.fzd = o.fzd := by cases o <;> rfl
theorem getO_freeze (l : List Nat) : ∀ (s : List VObj) (id : Nat), getO (freeze s l) id = if id ∈ l then (getO s id).fzd else getO s id := by
  induction l with
  | nil => intro s id; rfl
  | cons i l ih =>
    intro s id
    simp only [freeze, ih, getO_setO, List.mem_cons]
    by_cases h : id = i
    · subst h; simp [fzd_fzd]
    · simp [h]

theorem freeze_list {B : Nat → Prop} {g : Gh} {w : World} (l : List Nat) : ∀ {σ : Nat → VObj} {s : List VObj} {g : Gh}, RelS B g w σ → (∀ id ∈ l, σ id = getO s id) →
    ∃ g', Ext B g w g' w ∧ RelS B g' w (over σ (getO (freeze s l)) l) ∧ g'.loc = g.loc ∧ g'.hdr = g.hdr := by
  induction l with
  | nil => intro σ s g hs _; exact ⟨g, Ext.refl B g w, by rw [over_nil]; exact hs, rfl, rfl⟩
  | cons i l ih =>
    intro σ s g hs hag
    obtain ⟨g1, e1, r1, l1, k1⟩ := freeze_one (id := i) hs
    obtain ⟨g2, e2, r2, l2, k2⟩ := ih (s := setO s i (getO s i).fzd) r1 (fun j hj => by
      rw [getO_setO]
      by_cases h : j = i
      · subst h; rw [updF_same, if_pos rfl, hag j (by simp)]
      · rw [updF_other _ _ h, if_neg h, hag j (by simp [hj])])
    refine ⟨g2, e1.trans e2, ?_, l2.trans l1, k2.trans k1⟩
    have : over σ (getO (freeze s (i :: l))) (i :: l) = over (updF σ i (σ i).fzd) (getO (freeze (setO s i (getO s i).fzd) l)) l := by
      funext j
      simp only [over, List.mem_cons, freeze]
      by_cases h : j ∈ l
      · simp [h]
      · by_cases h' : j = i
        · subst h'; simp [h, getO_freeze, getO_setO, hag j (by simp)]
        · simp [h, h', updF_other]
    rw [this]; exact r2

theorem nrm_pure (s : List VObj) (x : AV) : (nrm s x).pure = true := by
  cases x <;> simp only [nrm] <;> (repeat' split) <;> rfl

/-- what a leaf is once its object is frozen -/
theorem nrm_rel {B : Nat → Prop} {g : Gh} {w : World} {σ : Nat → VObj} (hs : RelS B g w σ) {x : AV} {v : Value} (hr : Rel g w x v) (hag : ∀ id ∈ refsOf x, σ id = (getO s id).fzd) : Rel g w (nrm s x) v := by
  cases x with
  | dead => exact hr
  | bool b => exact hr
  | kb b => exact hr.unkb
  | int k n => exact hr
  | str b => exact hr
  | nilptr => exact hr
  | nilmap => exact hr
  | nilfunc => exact hr
  | nilif => exact hr
  | sl nn full es =>
    cases hr with
    | slnil h h' => exact .slnil nofun nofun
    | sl vs h0 h1 h2 h3 h4 h5 h6 => exact .sl vs nofun h1 nofun h3 h4 h5 h6
  | sall id ver =>
    have hobj := hs.obj id
    rw [hag id (by simp [refsOf])] at hobj
    cases ho : getO s id with
    | arr ver' esz nn es fz =>
      cases hv : Nat.beq ver ver' with
      | false => simp only [nrm, ho, hv]; exact .dead _
      | true =>
        simp only [nrm, ho, hv]
        have hv := Nat.eq_of_beq_eq_true hv
        subst hv
        rw [ho] at hobj
        obtain ⟨_, h2, h3, h4, hcase⟩ := hobj
        obtain ⟨ver0, hd, a, len, cap, r1, r2, r3, rfl⟩ := inv_sall hr
        rcases hcase with ⟨a', k1, k2, k3, k4⟩ | ⟨b, o, cap', vs, k1, k0, k2, k3, k4, k5, k6, k7, k8, k9⟩
        · rw [k1] at r1; cases r1
          have r3 := r3 rfl
          cases r3
          subst k2
          exact .slnil nofun nofun
        · rw [k1] at r1; cases r1
          have r3 := r3 rfl
          cases r3
          refine .sl vs nofun k3 nofun h2 (fun i c j x hi hj => ?_) (fun i c j x hi hj => (k7 i c j x hi hj).2) (fun i c j hi hj => ?_)
          · rw [h3 c (List.mem_of_getElem? hi)]; exact (k7 i c j x hi hj).1
          · have hl := h3 c (List.mem_of_getElem? hi)
            rw [hl]
            exact (k8 rfl).1 i j (List.getElem?_eq_some_iff.1 hi).1 (hl ▸ hj)
    | _ => simp only [nrm, ho]; exact .dead _
  | sref id ver esz' off len =>
    have hobj := hs.obj id
    rw [hag id (by simp [refsOf])] at hobj
    cases ho : getO s id with
    | arr ver' esz nn es fz =>
      cases hv : (Nat.beq ver ver' && Nat.beq esz' esz && Nat.ble (off + len) es.length) with
      | false => simp only [nrm, ho, hv]; exact .dead _
      | true =>
        simp only [nrm, ho, hv]
        simp only [Bool.and_eq_true] at hv
        obtain ⟨⟨hv, hv2⟩, hv3⟩ := hv
        have hv := Nat.eq_of_beq_eq_true hv
        have hv2 := Nat.eq_of_beq_eq_true hv2
        have hv3 := Nat.le_of_ble_eq_true hv3
        subst hv; subst hv2
        rw [ho] at hobj
        obtain ⟨_, h2, h3, h4, hcase⟩ := hobj
        obtain ⟨ver0, hd, a, cap, r1, r2, r3, rfl⟩ := inv_sref hr
        have hlw : ((es.drop off).take len).length = len := by simp; omega
        have hpw : pureL ((es.drop off).take len) := fun c hc => h2 c (List.mem_of_mem_drop (List.mem_of_mem_take hc))
        have hgw : ∀ i c, ((es.drop off).take len)[i]? = some c → i < len ∧ es[off + i]? = some c := fun i c h => by
          rw [drop_take_get'] at h
          split at h
          · exact ⟨by assumption, h⟩
          · exact nomatch h
        rcases hcase with ⟨a', k1, k2, k3, k4⟩ | ⟨b, o, cap', vs, k1, k0, k2, k3, k4, k5, k6, k7, k8, k9⟩
        · rw [k1] at r1; cases r1
          subst k2
          have hl0 : len = 0 := by simp at hv3; omega
          subst hl0
          rcases r3 rfl with ⟨q1, q2, q3, q4⟩ | ⟨b, o, len0, cap0, o', q1, q2, q3, q4, q5⟩
          · subst q4; simp; exact .slnil nofun nofun
          · cases q2
            have := Rel.sl (g := g) (w := w) (nn := none) (full := false) (es := []) (b := b) (o := o') (cap := cap) (fun _ _ => undef) nofun (Nat.zero_le _) nofun (fun c h => by simp at h) (fun i c j x h => by simp at h) (fun i c j x h => by simp at h) (fun i c j h => by simp at h)
            simpa using this
        · rw [k1] at r1; cases r1
          rcases r3 rfl with ⟨q1, q2, q3, q4⟩ | ⟨b', o0, len0, cap0, o', q1, q2, q3, q4, q5⟩
          · injection q1 with _ _ hcc; exact (k0 hcc).elim
          · cases q1; subst q2
            have := Rel.sl (g := g) (w := w) (nn := none) (full := false) (es := (es.drop off).take len) (b := b) (o := o') (cap := cap) (fun i j => vs (off + i) j) nofun (by omega) nofun hpw (fun i c j x hi hj => ?_) (fun i c j x hi hj => (k7 _ c j x (hgw i c hi).2 hj).2) (fun i c j hi hj => ?_)
            · rw [hlw] at this; exact this
            · obtain ⟨hil, hie⟩ := hgw i c hi
              have hcl := h3 c (List.mem_of_getElem? hie)
              have := (k7 _ c j x hie hj).1
              rw [q3 (by omega), hcl]
              rw [Nat.add_mul] at this
              rw [show o + off * esz' + i * esz' + j = o + (off * esz' + i * esz') + j by omega]
              exact this
            · obtain ⟨hil, hie⟩ := hgw i c hi
              have hcl := h3 c (List.mem_of_getElem? hie)
              have := (k8 rfl).1 (off + i) j (List.getElem?_eq_some_iff.1 hie).1 (hcl ▸ hj)
              rw [q3 (by omega), hcl]
              rw [Nat.add_mul] at this
              rw [show o + off * esz' + i * esz' + j = o + (off * esz' + i * esz') + j by omega]
              exact this
    | _ => simp only [nrm, ho]; exact .dead _
  | _ => exact .dead _


theorem refs_mem {cs : List AV} {x : AV} {id : Nat} (hx : x ∈ cs) (h : id ∈ refsOf x) : id ∈ cellsRefs cs := List.mem_flatMap.2 ⟨x, hx, h⟩

/-- a literal slice's cells, in memory -/
theorem lit_cells (hF : ¬ K .fail) (hE : E.Fits P) {ty' e len n by2 m by_ : Nat} {k : TK} {z zero : List AV} {parts : Array (Nat × Operand)} (e1 : E.ti ty' = ⟨.sl e, m, by_, z⟩) (e2 : E.ti e = ⟨k, n, by2, zero⟩) (h0 : 0 < n) (hz : zero.length = n) (hlim : len * n ≤ 16777216) {L : List AV → Prop}
    (h : fillAV K (fun i => some (i * n, n)) ((List.replicate len zero).flatten) (parts.toList.map fun p => (p.1, evV t p.2)) L) :
    ∃ cs, L cs ∧ cs.length = len * n ∧ ∀ (g : Gh) (w : World) (a : Act), (∀ x ∈ (Op.buildSlice ty' len parts).operands, Rel g w (evV t x) (a.eval x)) → ∃ cells, RelC g w cs cells ∧
      (execOp a.eval ⟨dst, .buildSlice ty' len parts, ty, pos, after, guard⟩).run P w = .ok (.value (.slice (some ⟨w.heap.size, 0, none⟩) len len)) (w.alloc (.cells cells e)) := by
  obtain ⟨i, d, zv, h1, h2, h3, h4, h5, h6, h7, h8, h9⟩ := ti_at hE e1 (.inl (by simp))
  have hd := tk_slice h6.symm; subst hd
  obtain ⟨i2, d2, zv2, q1, q2, q3, q4, q5, q6, q7, q8, q9⟩ := ti_at hE e2 (.inr (.inl h0))
  obtain ⟨cs, hL, hlen, hrel⟩ := fill_rel hF (placeV := fun i => some (i * n, n)) (fun _ _ h => h) _ _ h
  have hl : ((List.replicate len zero).flatten).length = len * n := by simp [hz]
  refine ⟨cs, hL, hlen.trans hl, fun g w a hx => ?_⟩
  have hzc : RelC g w ((List.replicate len zero).flatten) ((Array.range (len * n)).map (zv2.cells[· % zv2.cells.size]!)) := by
    refine ⟨by simp [hz], fun j x v hx hv => ?_⟩
    have hj : j < len * n := by rw [← hl]; exact (List.getElem?_eq_some_iff.1 hx).1
    rw [rep_get zero n hz h0 len j hj, q9] at hx
    simp only [Array.getElem?_map, Array.getElem?_range, hj, if_true, Option.map_some] at hv
    have hm : j % n < zv2.cells.size := by rw [q5]; exact Nat.mod_lt _ h0
    rw [q5, getElem!_pos zv2.cells (j % n) hm] at hv
    simp only [List.getElem?_map, Array.getElem?_toList, Array.getElem?_eq_getElem hm, Option.map_some] at hx
    cases hx; cases hv
    exact rel_lit _
  obtain ⟨cells, hc1, hc2⟩ := hrel g w a.eval _ (fun p hp => hx p.2 (operands_buildSlice hp)) hzc
  refine ⟨cells, hc2, ?_⟩
  have hlim' : ¬ (len * n > 2 ^ 24) := by omega
  by_cases hz0 : len * n = 0
  · have hcells : ((Array.range (len * n)).map ((#[] : Array Value)[· % (#[] : Array Value).size]!)) = ((Array.range (len * n)).map (zv2.cells[· % zv2.cells.size]!)) := by
      rw [hz0]; simp
    simp only [execOp, Instr.buildSlice, Sem.run_bind, run_underlying' h2, Result.andThen_ok, Sem.run_pure, run_sizeOf' q1, q7, hlim', if_false, if_pos hz0, hcells, Array.toList_map, hc1, newRow, run_alloc']
  · simp only [execOp, Instr.buildSlice, Sem.run_bind, run_underlying' h2, Result.andThen_ok, Sem.run_pure, run_sizeOf' q1, q7, hlim', if_false, if_neg hz0, run_zeroValue' q1 q3, Array.toList_map, hc1, newRow, run_alloc']

theorem chunk_cells {g : Gh} {w : World} {ds : List AV} {cells : Array Value} {len n : Nat} (hc : RelC g w ds cells) (hl : ds.length = len * n) (hp : ∀ x ∈ ds, x.pure = true) :
    pureL (chunk n len ds) ∧ (∀ c ∈ chunk n len ds, c.length = n) ∧ ∀ (i : Nat) (ci : List AV) (j : Nat) (x : AV), (chunk n len ds)[i]? = some ci → ci[j]? = some x → ∃ v, cells[i * n + j]? = some v ∧ Rel g w x v := by
  have hlen : ∀ i c, (chunk n len ds)[i]? = some c → c.length = n ∧ c = (ds.drop (i * n)).take n := fun i c h => by
    obtain ⟨h1, h2⟩ := chunk_get n len ds i c h
    refine ⟨?_, h2⟩
    have : (i + 1) * n ≤ len * n := Nat.mul_le_mul_right _ h1
    rw [Nat.add_mul] at this
    rw [h2]; simp; omega
  refine ⟨fun c h x hx => ?_, fun c h => ?_, fun i c j x hi hj => ?_⟩
  · obtain ⟨i, hi⟩ := List.getElem?_of_mem h
    rw [(hlen i c hi).2] at hx
    exact hp x (List.mem_of_mem_drop (List.mem_of_mem_take hx))
  · obtain ⟨i, hi⟩ := List.getElem?_of_mem h
    exact (hlen i c hi).1
  · rw [(hlen i c hi).2, drop_take_get] at hj
    split at hj
    · have hlt := (List.getElem?_eq_some_iff.1 hj).1
      rw [hc.size] at hlt
      exact ⟨cells[i * n + j], Array.getElem?_eq_getElem hlt, hc.rel _ _ _ hj (Array.getElem?_eq_getElem hlt)⟩
    · exact nomatch hj

theorem freeze_cells {B : Nat → Prop} {g : Gh} {w : World} {σ : Nat → VObj} {cs : List AV} {cells : Array Value} (hs : RelS B g w σ) (hag : ∀ id ∈ cellsRefs cs, σ id = getO s id) (hc : RelC g w cs cells) :
    ∃ g', Ext B g w g' w ∧ RelS B g' w (over σ (getO (freeze s (cellsRefs cs))) (cellsRefs cs)) ∧ RelC g' w (cs.map (nrm s)) cells ∧ g'.loc = g.loc ∧ g'.hdr = g.hdr := by
  obtain ⟨g', e1, r1, l1, k1⟩ := freeze_list (w := w) (g := g) (cellsRefs cs) hs hag
  refine ⟨g', e1, r1, ⟨by rw [List.length_map]; exact hc.size, fun j x v hx hv => ?_⟩, l1, k1⟩
  rw [List.getElem?_map] at hx
  cases hj : cs[j]? with
  | none => rw [hj] at hx; exact nomatch hx
  | some y =>
    rw [hj] at hx
    cases hx
    exact nrm_rel r1 ((hc.rel j y v hj hv).mono e1) fun id hid => by
      have hm := refs_mem (List.mem_of_getElem? hj) hid
      simp only [over, if_pos hm, getO_freeze]

theorem s_buildSlice_row {ty' len e n : Nat} {parts : Array (Nat × Operand)} {cs : List AV} (hl : cs.length = len * n)
    (hc : ∀ (g : Gh) (w : World) (a : Act), (∀ x ∈ (Op.buildSlice ty' len parts).operands, Rel g w (evV t x) (a.eval x)) → ∃ cells, RelC g w cs cells ∧
      (execOp a.eval ⟨dst, .buildSlice ty' len parts, ty, pos, after, guard⟩).run P w = .ok (.value (.slice (some ⟨w.heap.size, 0, none⟩) len len)) (w.alloc (.cells cells e))) :
    OpSem P ⟨dst, .buildSlice ty' len parts, ty, pos, after, guard⟩ t s (.sl (some false) true (chunk n len (cs.map (nrm s)))) (freeze s (cellsRefs cs)) ⟨[], cellsRefs cs⟩ := by
  refine .val (fun id hid => by rw [getO_freeze, if_neg hid]) fun B g w a σ hB hx hσ hs => ?_
  obtain ⟨cells, h1, h2⟩ := hc g w a hx
  obtain ⟨g1, e1, r1, c1, l1, k1⟩ := freeze_cells (s := s) hs (fun id hid => hσ id (.inr hid)) h1
  obtain ⟨q1, q2, q3⟩ := chunk_cells (len := len) (n := n) c1 (by simpa using hl) (fun x hx => by obtain ⟨y, _, rfl⟩ := List.mem_map.1 hx; exact nrm_pure s y)
  obtain ⟨g2, e2, r2, v2⟩ := new_row r1 hB q1 q2 (by rw [chunk_len, ← c1.size, List.length_map]; exact hl.symm) q3 e
  rw [chunk_len] at v2
  exact ⟨g2, _, _, h2, e1.trans e2, r2, v2⟩

theorem s_buildSlice_arr {ty' len e n : Nat} {parts : Array (Nat × Operand)} {cs : List AV} (h0 : 0 < n) (hl : cs.length = len * n)
    (hc : ∀ (g : Gh) (w : World) (a : Act), (∀ x ∈ (Op.buildSlice ty' len parts).operands, Rel g w (evV t x) (a.eval x)) → ∃ cells, RelC g w cs cells ∧
      (execOp a.eval ⟨dst, .buildSlice ty' len parts, ty, pos, after, guard⟩).run P w = .ok (.value (.slice (some ⟨w.heap.size, 0, none⟩) len len)) (w.alloc (.cells cells e))) :
    OpSem P ⟨dst, .buildSlice ty' len parts, ty, pos, after, guard⟩ t s (.sall (freeze s (cellsRefs cs)).length 0)
      (setO (freeze s (cellsRefs cs)) (freeze s (cellsRefs cs)).length (.arr 0 n (some false) (chunk n len (cs.map (nrm s))) false)) ⟨[], (freeze s (cellsRefs cs)).length :: cellsRefs cs⟩ := by
  refine .val (fun id hid => ?_) fun B g w a σ hB hx hσ hs => ?_
  · simp only [List.mem_cons, not_or] at hid
    rw [getO_setO, if_neg hid.1, getO_freeze, if_neg hid.2]
  obtain ⟨cells, h1, h2⟩ := hc g w a hx
  obtain ⟨g1, e1, r1, c1, l1, k1⟩ := freeze_cells (s := s) hs (fun id hid => hσ id (.inr (List.mem_cons_of_mem _ hid))) h1
  obtain ⟨q1, q2, q3⟩ := chunk_cells (len := len) (n := n) c1 (by simpa using hl) (fun x hx => by obtain ⟨y, _, rfl⟩ := List.mem_map.1 hx; exact nrm_pure s y)
  have hgone : over σ (getO (freeze s (cellsRefs cs))) (cellsRefs cs) (freeze s (cellsRefs cs)).length = .gone := by
    simp only [over]
    split
    · exact getO_len _
    · rename_i hn
      rw [hσ _ (.inr (by simp))]
      have := getO_len (freeze s (cellsRefs cs))
      rwa [getO_freeze, if_neg hn] at this
  have hob := r1.obj (freeze s (cellsRefs cs)).length
  rw [hgone] at hob
  obtain ⟨g2, e2, r2, v2⟩ := set_arr r1 hB (id := (freeze s (cellsRefs cs)).length) (ver := 0) (cap := len) (nn := some false) hob.1 (fun v h e => by rw [hob.2] at e; exact nomatch e) q1 q2 h0 nofun (by rw [chunk_len]; exact Nat.le_refl _)
    (by rw [← c1.size, List.length_map, hl]; exact Nat.le_refl _) q3 e false
  rw [chunk_len] at v2
  refine ⟨g2, _, _, h2, e1.trans e2, ?_, v2⟩
  have : over σ (getO (setO (freeze s (cellsRefs cs)) (freeze s (cellsRefs cs)).length (.arr 0 n (some false) (chunk n len (cs.map (nrm s))) false))) ((freeze s (cellsRefs cs)).length :: cellsRefs cs) =
      updF (over σ (getO (freeze s (cellsRefs cs))) (cellsRefs cs)) (freeze s (cellsRefs cs)).length (.arr 0 n (some false) (chunk n len (cs.map (nrm s))) false) := by
    funext j
    simp only [over, updF, List.mem_cons, getO_setO]
    by_cases h : j = (freeze s (cellsRefs cs)).length
    · simp only [h, true_or, if_true]
    · simp only [h, false_or, if_false]
  rw [this]; exact r2

theorem s_makeSlice (hE : E.Fits P) {ty' e n by2 m by_ : Nat} {k : TK} {kn km : IntKind} {z zero : List AV} {l c : Operand} {nl nc : Int} (e1 : E.ti ty' = ⟨.sl e, m, by_, z⟩) (e2 : E.ti e = ⟨k, n, by2, zero⟩) (h0 : 0 < n) (hz : zero.length = n) (hb : 0 < by2)
    (hl : evV t l = .int kn nl) (hc : evV t c = .int km nc) (hn : 0 ≤ nl ∧ nl ≤ nc ∧ nc * by2 ≤ big) :
    OpSem P ⟨dst, .makeSlice ty' l c, ty, pos, after, guard⟩ t s (.sall s.length 0) (setO s s.length (.arr 0 n (some false) (List.replicate nl.toNat zero) false)) ⟨[], [s.length]⟩ := by
  obtain ⟨i, d, zv, h1, h2, h3, h4, h5, h6, h7, h8, h9⟩ := ti_at hE e1 (.inl (by simp))
  have hd := tk_slice h6.symm; subst hd
  obtain ⟨i2, d2, zv2, q1, q2, q3, q4, q5, q6, q7, q8, q9⟩ := ti_at hE e2 (.inr (.inl h0))
  obtain ⟨n1, n2, n3⟩ := hn
  obtain ⟨L, rfl⟩ := Int.eq_ofNat_of_zero_le n1
  obtain ⟨C, rfl⟩ := Int.eq_ofNat_of_zero_le (Int.le_trans n1 n2)
  have n2 : L ≤ C := by omega
  have n3 : C * by2 ≤ 70368744177664 := by have : ((C * by2 : Nat) : Int) ≤ (big : Nat) := by push_cast; exact n3
                                           simpa [big] using Int.ofNat_le.1 this
  have hC : C ≤ 70368744177664 := Nat.le_trans (Nat.le_mul_of_pos_right _ hb) n3
  refine .val (fun id hid => getO_setO_out hid) fun B g w a σ hB hx hσ hs => ?_
  rw [over_one]
  have hg : σ s.length = .gone := (hσ _ (by simp)).trans (getO_len s)
  have hob := hs.obj s.length
  rw [hg] at hob
  have hrl := rel_int (hl ▸ hx l (by simp [Op.operands]))
  have hrc := rel_int (hc ▸ hx c (by simp [Op.operands]))
  have hcell : ∀ j, j < C * n → ((Array.range (C * n)).map (zv2.cells[· % zv2.cells.size]!))[j]? = zv2.cells[j % n]? := fun j hj => by
    have hm : j % n < zv2.cells.size := by rw [q5]; exact Nat.mod_lt _ h0
    simp only [Array.getElem?_map, Array.getElem?_range, hj, if_true, Option.map_some]
    rw [q5, getElem!_pos zv2.cells (j % n) hm, Array.getElem?_eq_getElem hm]
  obtain ⟨g2, e2, r2, v2⟩ := set_arr (c := (Array.range (C * n)).map (zv2.cells[· % zv2.cells.size]!)) hs hB (id := s.length) (ver := 0) (cap := C) (nn := some false) (es := List.replicate L zero) (esz := n) hob.1 (fun v h e => by rw [hob.2] at e; exact nomatch e)
    (fun c hc x hx => by
      rw [(List.mem_replicate.1 hc).2, q9] at hx
      obtain ⟨v, hv, rfl⟩ := List.mem_map.1 hx
      have := q4 v hv
      cases v <;> first | rfl | (simp [litOk] at this; done) | skip
      · rename_i p; cases p <;> first | rfl | simp [litOk] at this
      · rename_i a l c; cases a <;> cases l <;> cases c <;> first | rfl | simp [litOk] at this
      · rename_i r; cases r <;> first | rfl | simp [litOk] at this)
    (fun c hc => by rw [(List.mem_replicate.1 hc).2]; exact hz) h0 nofun (by simpa using n2) (by simp) (fun i ci j x hi hj => by
      obtain ⟨hil, rfl⟩ : i < L ∧ ci = zero := by
        rw [List.getElem?_replicate] at hi
        split at hi
        · cases hi; exact ⟨by assumption, rfl⟩
        · exact nomatch hi
      have hjl : j < n := hz ▸ (List.getElem?_eq_some_iff.1 hj).1
      have : (i + 1) * n ≤ C * n := Nat.mul_le_mul_right _ (by omega)
      rw [Nat.add_mul] at this
      rw [hcell _ (by omega), Nat.mul_add_mod_self_right, Nat.mod_eq_of_lt hjl]
      have hjz : j < zv2.cells.size := by omega
      refine ⟨zv2.cells[j], Array.getElem?_eq_getElem hjz, ?_⟩
      rw [q9] at hj
      simp only [List.getElem?_map, Array.getElem?_toList, Array.getElem?_eq_getElem hjz, Option.map_some] at hj
      cases hj
      exact rel_lit _) e false
  rw [List.length_replicate] at v2
  refine ⟨g2, _, _, ?_, e2, r2, v2⟩
  have hr := run_make (P := P) w ty' e i2 zv2 h2 q1 q3 kn km L C (by omega) (by omega) (by
    rw [q8, Int.mul_comm]
    have : ((C * by2 : Nat) : Int) ≤ 70368744177664 := by omega
    push_cast at this
    omega) (by omega)
  simp only [execOp, hrl, hrc, Sem.run_bind, hr, Result.andThen_ok, Sem.run_pure, madeCells, q7, Int.toNat_natCast]

end
end Go.Proofs.Ytmapiefbnjaikaa.Vm
/- Soundness: stores, appends, calls; an operation as a whole. -/
set_option linter.all false
namespace Go.Proofs.Ytmapiefbnjaikaa.Vm
open Go

section
variable {P : Program} {E : Env} {t : List AV} {s : List VObj} {dst : Option Tmp} {ty : TypeId} {pos : String} {after : Array Edge} {guard : Option (Nat × Bool)}
variable {K : OpOut → Prop} {R : AV → List VObj → FP → Prop}

theorem cells_all {g : Gh} {w : World} {v : AV} {u : Value} (h : Rel g w v u) (h1 : v.cells.all AV.oneC = true) : RelC g w v.cells u.cells ∧ ∀ x ∈ u.cells.toList, x.oneCell' = true := by
  have hd : v ≠ .dead := by rintro rfl; simp [AV.cells, AV.oneC] at h1
  have hc := rel_cells h hd
  refine ⟨hc, fun x hx => ?_⟩
  obtain ⟨j, hj⟩ := List.getElem?_of_mem hx
  have hj' : u.cells[j]? = some x := by simpa using hj
  have hl : j < v.cells.length := by rw [hc.size]; exact (Array.getElem?_eq_some_iff.1 hj').1
  have := hc.rel j _ _ (List.getElem?_eq_getElem hl) hj'
  rw [List.all_eq_true] at h1
  exact (cells_one this (h1 _ (List.getElem_mem hl))).2.2

theorem run_storeAt {ty' : TypeId} {i : TypeInfo} {b o : Nat} {u : Value} {w : World} (hi : P.info? ty' = some i) (hs : u.cells.size = i.size) (h1 : ∀ x ∈ u.cells.toList, x.oneCell' = true) (ho : Owned w b)
    (hc : ∀ j, j < u.cells.toList.length → (w.cell? ⟨b, o + j, none⟩).isSome = true) : (Instr.storeAt ty' (.pointer (some ⟨b, o, none⟩)) u).run P w = .ok () (wset w b o u.cells.toList) := by
  have hr := run_storeCells (P := P) (w := w) (b := b) (o := o) u.cells.toList w 0 h1 ho (fun j hj => by rw [Nat.zero_add]; exact hc j hj)
  rw [Nat.add_zero] at hr
  simp only [Instr.storeAt, Instr.sureAddr, storeVar, Sem.run_bind, Sem.run_pure, Result.andThen_ok, run_sizeOf' hi, hs, ne_eq, not_true_eq_false, if_false, hr]

theorem s_store (hE : E.Fits P) (hK : ∀ out, K out → OpHolds P out R) {ty' : TypeId} {a x : Operand} {kind : TK} {n by_ : Nat} {z : List AV} (e : E.ti ty' = ⟨kind, n, by_, z⟩) (h : vstore K s n (evV t a) (evV t x)) :
    ∃ v s2 fp, OpSem P ⟨dst, .store ty' a x, ty, pos, after, guard⟩ t s v s2 fp ∧ R v s2 fp := by
  cases ha : evV t a with
  | ptr id off =>
    rw [ha] at h
    simp only [vstore, getOK_eq] at h
    cases ho : getO s id with
    | box cs fz =>
      simp only [ho] at h
      cases hb : (!fz && Nat.blt 0 n && Nat.ble (off + n) cs.length && Nat.beq (evV t x).cells.length n && (evV t x).cells.all AV.oneC) with
      | false => simp only [hb] at h; exact (hK _ h).elim
      | true =>
        simp only [hb, forceC_eq, setOK_eq] at h
        simp only [Bool.and_eq_true, Bool.not_eq_true'] at hb
        obtain ⟨⟨⟨⟨b1, b2⟩, b3⟩, b4⟩, b5⟩ := hb
        subst b1
        have b2 := Nat.le_of_ble_eq_true b2
        have b3 := Nat.le_of_ble_eq_true b3
        have b4 := Nat.eq_of_beq_eq_true b4
        refine ⟨_, _, _, .skip (fun id hid => getO_setO_out hid) fun B g w ac σ hB hx hσ hs => ?_, hK _ h⟩
        rw [over_one]
        obtain ⟨i, d, zv, h1, h2, h3, h4, h5, h6, h7, h8, h9⟩ := ti_at hE e (.inr (.inl b2))
        have hra := hx a (by simp [Op.operands])
        rw [ha] at hra
        obtain ⟨b, o, hl, hav⟩ := inv_ptr hra
        obtain ⟨hc, hone⟩ := cells_all (hx x (by simp [Op.operands])) b5
        have hsz := hc.size
        obtain ⟨p1, p2, p3, p4⟩ := put_box hs (cs := cs) (xs := (evV t x).cells) (off := off) (vals := (ac.eval x).cells.toList) ((hσ id (by simp)).trans ho) hl (by simpa using hsz) (by omega) (fun j y v hy hv => hc.rel j y v hy (by simpa using hv))
        refine ⟨g, _, ?_, p3, p4⟩
        have := run_storeAt (P := P) (ty' := ty') (b := b) (o := o + off) (u := ac.eval x) h1 (by omega) hone p2 p1
        simp only [execOp, hav, Sem.run_bind, this, Result.andThen_ok, Sem.run_pure]
    | _ => simp only [ho] at h; exact (hK _ h).elim
  | eptr id ver esz i off =>
    rw [ha] at h
    simp only [vstore, getOK_eq] at h
    cases ho : getO s id with
    | arr ver' esz' nn es fz =>
      simp only [ho] at h
      cases hb : (Nat.beq esz esz' && !fz && Nat.blt 0 n && Nat.ble (off + n) esz && Nat.beq (evV t x).cells.length n && (evV t x).cells.all AV.oneC && !(cellsRefs (evV t x).cells).contains id) with
      | false => simp only [hb] at h; exact (hK _ h).elim
      | true =>
        simp only [hb, nrmLK_eq, freezeK_eq] at h
        simp only [Bool.and_eq_true, Bool.not_eq_true'] at hb
        obtain ⟨⟨⟨⟨⟨⟨b0, b1⟩, b2⟩, b3⟩, b4⟩, b5⟩, b6⟩ := hb
        subst b1
        have b0 := Nat.eq_of_beq_eq_true b0
        subst b0
        have b2 := Nat.le_of_ble_eq_true b2
        have b3 := Nat.le_of_ble_eq_true b3
        have b4 := Nat.eq_of_beq_eq_true b4
        have b6 : id ∉ cellsRefs (evV t x).cells := by simpa using b6
        obtain ⟨hver, hi0, c, hc, hcl, hR⟩ := hK _ h
        subst hver
        rw [Int.toNat_natCast] at hc
        refine ⟨_, _, _, .skip (fun id' hid => ?_) fun B g w ac σ hB hx hσ hs => ?_, hR⟩
        · simp only [List.mem_cons, not_or] at hid
          rw [getO_setO, if_neg hid.1, getO_freeze, if_neg hid.2]
        obtain ⟨inf, d, zv, h1, h2, h3, h4, h5, h6, h7, h8, h9⟩ := ti_at hE e (.inr (.inl b2))
        have hra := hx a (by simp [Op.operands])
        rw [ha] at hra
        obtain ⟨ver0, hd, ad, g1, g2, g3, hav⟩ := inv_eptr hra
        obtain ⟨hcc, hone⟩ := cells_all (hx x (by simp [Op.operands])) b5
        obtain ⟨gf, e1, r1, c1, l1, k1⟩ := freeze_cells (s := s) hs (fun j hj => hσ j (.inr (List.mem_cons_of_mem _ hj))) hcc
        have hoid : over σ (getO (freeze s (cellsRefs (evV t x).cells))) (cellsRefs (evV t x).cells) id = .arr ver esz nn es false := by
          simp only [over, if_neg b6]
          exact (hσ id (.inr (by simp))).trans ho
        have hhdr : ∃ b o len cap, g.hdr id = some (ver, .slice (some ⟨b, o, none⟩) len cap) ∧ ad = ⟨b, o + i * esz + off, none⟩ := by
          have hobj := hs.obj id
          rw [hσ id (.inr (by simp)), ho] at hobj
          obtain ⟨_, _, _, _, hcase⟩ := hobj
          have hv : ver0 = ver := by
            rcases hcase with ⟨a', k1, _⟩ | ⟨b, o, cap', vs, k1, _⟩ <;> (rw [k1] at g1; cases g1; rfl)
          subst hv
          obtain ⟨b, o, len, cap, q1, q2⟩ := g3 rfl
          exact ⟨b, o, len, cap, q1 ▸ g1, q2⟩
        obtain ⟨b, o, len, cap, hh, rfl⟩ := hhdr
        have hsz := hcc.size
        obtain ⟨p1, p2, p3, p4⟩ := put_elem r1 (c := c) (xs := (evV t x).cells.map (nrm s)) (off := off) (vals := (ac.eval x).cells.toList) hoid (k1 ▸ hh) hc (by simpa using hsz) (by simpa using (show off + (evV t x).cells.length ≤ esz by omega))
          (fun y hy => by obtain ⟨q, _, rfl⟩ := List.mem_map.1 hy; exact nrm_pure s q) (fun j y v hy hv => c1.rel j y v hy (by simpa using hv))
        refine ⟨gf, _, ?_, e1.trans p3, ?_⟩
        · have := run_storeAt (P := P) (ty' := ty') (b := b) (o := o + i * esz + off) (u := ac.eval x) h1 (by omega) hone p2 p1
          simp only [execOp, hav, Sem.run_bind, this, Result.andThen_ok, Sem.run_pure]
        · have : over σ (getO (setO (freeze s (cellsRefs (evV t x).cells)) id (.arr ver esz nn (es.set i (splice c off ((evV t x).cells.map (nrm s)))) false))) (id :: cellsRefs (evV t x).cells) =
              updF (over σ (getO (freeze s (cellsRefs (evV t x).cells))) (cellsRefs (evV t x).cells)) id (.arr ver esz nn (es.set i (splice c off ((evV t x).cells.map (nrm s)))) false) := by
            funext j
            simp only [over, updF, List.mem_cons, getO_setO]
            by_cases h : j = id
            · simp only [h, true_or, if_true]
            · simp only [h, false_or, if_false]
          have p4' : RelS B gf (wset w b (o + i * esz + off) (ac.eval x).cells.toList) (over σ (getO (setO (freeze s (cellsRefs (evV t x).cells)) id (.arr ver esz nn (es.set i (splice c off ((evV t x).cells.map (nrm s)))) false))) (id :: cellsRefs (evV t x).cells)) := this ▸ p4
          exact p4'
    | _ => simp only [ho] at h; exact (hK _ h).elim
  | _ => rw [ha] at h; simp only [vstore] at h; exact (hK _ h).elim

/- Calls. -/
theorem s_call (hK : ∀ out, K out → OpHolds P out R) {f : Operand} {args : Array Operand} {argTypes : Array TypeId} {fid : FuncId} {first cap : List AV} (hf : evV t f = .func (.func fid) first cap)
    (h : K (.call fid (first ++ args.toList.map (evV t) ++ cap) s)) : ∃ v s2 fp, OpSem P ⟨dst, .call { callee := .value f, args := args, argTypes := argTypes }, ty, pos, after, guard⟩ t s v s2 fp ∧ R v s2 fp := by
  have hc : VCall P fid (first ++ args.toList.map (evV t) ++ cap) s R := hK _ h
  unfold VCall at hc
  obtain ⟨v, s2, fp, hR, h0, ⟨fn, q1, q2, q3⟩, hc⟩ := hc
  refine ⟨v, s2, fp, ⟨h0, fun B g w a σ next Q hB hx hσ hs hn => ?_⟩, hR⟩
  have hrf := hx f (by simp [Op.operands, Call.operands])
  rw [hf] at hrf
  obtain ⟨fv, cv, l1, l2, r1, r2, hev⟩ := inv_func hrf
  have hargs : ∀ (i : Nat) (y : AV) (u : Value), (args.toList.map (evV t))[i]? = some y → (args.map a.eval)[i]? = some u → Rel g w y u := fun i y u hy hu => by
    rw [List.getElem?_map] at hy
    cases hj : args[i]? with
    | none => simp [hj] at hy
    | some o =>
      simp [hj] at hy hu
      subst hy; subst hu
      exact hx o (by
        have := Array.mem_of_getElem? hj
        simp [Op.operands, Call.operands]; exact .inr this)
  have hrel : ∀ (i : Nat) (y : AV) (u : Value), (first ++ args.toList.map (evV t) ++ cap)[i]? = some y → (fv ++ args.map a.eval ++ cv)[i]? = some u → Rel g w y u := fun i y u hy hu => by
    rw [List.getElem?_append] at hy
    rw [Array.getElem?_append] at hu
    have hl1 : (first ++ args.toList.map (evV t)).length = (fv ++ args.map a.eval).size := by simp [l1]
    rw [hl1] at hy
    split at hy
    · rename_i hi
      rw [if_pos hi] at hu
      rw [List.getElem?_append] at hy
      rw [Array.getElem?_append] at hu
      rw [l1] at hy
      split at hy
      · rename_i hi2; rw [if_pos hi2] at hu; exact r1 _ _ _ hy hu
      · rename_i hi2; rw [if_neg hi2] at hu; exact hargs _ _ _ hy hu
    · rename_i hi; rw [if_neg hi] at hu; exact r2 _ _ _ hy hu
  have hC := hc B g w (fv ++ args.map a.eval ++ cv) σ hB (by simp [l1, l2]) hrel hσ hs
  unfold Oper.wp
  have hrun : (execOp a.eval ⟨dst, .call { callee := .value f, args := args, argTypes := argTypes }, ty, pos, after, guard⟩).run P w = .ok (.enter fid (fv ++ args.map a.eval ++ cv)) w := by
    have hb : fn.body.isNone = false := by cases hh : fn.body <;> simp_all
    simp only [execOp, resolve, Deferred.ofValue, hev, invoke, callFunc, q1, q3, hb, Sem.run_bind, run_program, Sem.run_pure, Result.andThen_ok, Bool.false_eq_true, if_false]
  rw [hrun, Oper.upon_enter]
  refine Calls.mono hC fun e w' he => ?_
  obtain ⟨g', val, rfl, k1, k2, k3⟩ := he
  exact hn g' w' val k1 k2 k3.unkb

end
end Go.Proofs.Ytmapiefbnjaikaa.Vm
/- Soundness: appends. -/
set_option linter.all false
namespace Go.Proofs.Ytmapiefbnjaikaa.Vm
open Go

section
variable {P : Program} {E : Env} {t : List AV} {s : List VObj} {dst : Option Tmp} {ty : TypeId} {pos : String} {after : Array Edge} {guard : Option (Nat × Bool)}
variable {K : OpOut → Prop} {R : AV → List VObj → FP → Prop}

/-- elements, in a list of cells that lie one behind the other -/
structure RowC (g : Gh) (w : World) (esz : Nat) (es : List (List AV)) (vs : List Value) : Prop where
  len : vs.length = es.length * esz
  rel : ∀ (i : Nat) (c : List AV) (j : Nat) (x : AV), es[i]? = some c → c[j]? = some x → ∃ u, vs[i * esz + j]? = some u ∧ Rel g w x u

theorem div_lem {i j n : Nat} (h : j < n) : (i * n + j) / n = i ∧ (i * n + j) % n = j := by
  have hn : 0 < n := by omega
  constructor
  · rw [Nat.mul_comm, Nat.mul_add_div hn, Nat.div_eq_of_lt h]; rfl
  · rw [Nat.mul_add_mod_self_right, Nat.mod_eq_of_lt h]

/-- cells in memory, as a list -/
theorem row_of {g : Gh} {w : World} {esz : Nat} {es : List (List AV)} {b o : Nat} {vs : Nat → Nat → Value} (h0 : 0 < esz) (hu : ∀ c ∈ es, c.length = esz)
    (h : ∀ (i : Nat) (c : List AV) (j : Nat) (x : AV), es[i]? = some c → c[j]? = some x → w.cell? ⟨b, o + i * esz + j, none⟩ = some (vs i j) ∧ Rel g w x (vs i j)) :
    ∃ l : List Value, RowC g w esz es l ∧ ∀ j u, l[j]? = some u → w.cell? ⟨b, o + j, none⟩ = some u := by
  have hl : ∀ k, k < es.length * esz → (k / esz) < es.length ∧ k % esz < esz := fun k hk => ⟨(Nat.div_lt_iff_lt_mul h0).2 hk, Nat.mod_lt _ h0⟩
  refine ⟨(List.range (es.length * esz)).map fun k => vs (k / esz) (k % esz), ⟨by simp, fun i c j x hi hj => ?_⟩, fun k u hk => ?_⟩
  · have hi' := (List.getElem?_eq_some_iff.1 hi).1
    have hj' := (List.getElem?_eq_some_iff.1 hj).1
    have hc := hu c (List.mem_of_getElem? hi)
    have hlt : i * esz + j < es.length * esz := by
      have : (i + 1) * esz ≤ es.length * esz := Nat.mul_le_mul_right _ hi'
      rw [Nat.add_mul] at this; omega
    obtain ⟨d1, d2⟩ := div_lem (i := i) (j := j) (n := esz) (by omega)
    refine ⟨vs i j, ?_, (h i c j x hi hj).2⟩
    simp [hlt, d1, d2]
  · have hlt : k < es.length * esz := by have := (List.getElem?_eq_some_iff.1 hk).1; simpa using this
    simp [hlt] at hk
    obtain ⟨k1, k2⟩ := hl k hlt
    have hi := List.getElem?_eq_getElem k1
    have hc := hu _ (List.getElem_mem k1)
    have hj := List.getElem?_eq_getElem (show k % esz < es[k / esz].length by omega)
    have := (h _ _ _ _ hi hj).1
    rw [← hk]
    rw [Nat.add_assoc, Nat.mul_comm, Nat.div_add_mod] at this
    exact this

theorem row_one {g : Gh} {w : World} {esz : Nat} {es : List (List AV)} {vs : List Value} (h : RowC g w esz es vs) (h0 : 0 < esz) (ho : elemsOk esz es) : ∀ u ∈ vs, u.oneCell' = true := by
  intro u hu
  obtain ⟨k, hk⟩ := List.getElem?_of_mem hu
  have hlt : k < es.length * esz := by rw [← h.len]; exact (List.getElem?_eq_some_iff.1 hk).1
  have k1 : k / esz < es.length := (Nat.div_lt_iff_lt_mul h0).2 hlt
  have k2 : k % esz < esz := Nat.mod_lt _ h0
  obtain ⟨hc, hx⟩ := ho _ (List.getElem_mem k1)
  have hj := List.getElem?_eq_getElem (show k % esz < es[k / esz].length by omega)
  obtain ⟨u', q1, q2⟩ := h.rel _ _ _ _ (List.getElem?_eq_getElem k1) hj
  rw [Nat.mul_comm, Nat.div_add_mod, hk] at q1
  cases q1
  exact (cells_one q2 (hx _ (List.getElem_mem _))).2.2

/-- what is appended -/
structure SrcC (P : Program) (g : Gh) (w : World) (esz : Nat) (xs : List (List AV)) (v : Value) : Prop where
  pure : pureL xs
  src : ∃ vs, RowC g w esz xs vs ∧ (elemsOk esz xs → ∀ tx, ((∃ e', P.underlying tx = some (.slice e')) ∨ P.underlying tx = some .string) → Src P esz tx v xs.length vs w)

theorem src_row {g : Gh} {w : World} {esz : Nat} {xs : List (List AV)} {b o cap : Nat} {vs : List Value} (h0 : 0 < esz) (hr : RowC g w esz xs vs) (hc : ∀ j u, vs[j]? = some u → w.cell? ⟨b, o + j, none⟩ = some u) :
    elemsOk esz xs → ∀ tx, ((∃ e', P.underlying tx = some (.slice e')) ∨ P.underlying tx = some .string) → Src P esz tx (.slice (some ⟨b, o, none⟩) xs.length cap) xs.length vs w := fun ho tx htx =>
  ⟨htx, fun _ => rfl, run_firstCells_some w esz _ _ _ _ vs hr.len (fun j u h => by rw [add_none]; exact hc j u h), run_firstCells_some w.drew esz _ _ _ _ vs hr.len (fun j u h => by rw [add_none]; exact hc j u h), hr.len, row_one hr h0 ho⟩

theorem src_nil {g : Gh} {w : World} {esz : Nat} {a : Option Addr} {cap : Nat} : ∃ vs, RowC g w esz [] vs ∧ (elemsOk esz [] → ∀ tx, ((∃ e', P.underlying tx = some (.slice e')) ∨ P.underlying tx = some .string) → Src P esz tx (.slice a 0 cap) 0 vs w) := by
  refine ⟨[], ⟨by simp, fun i c j x h => by simp at h⟩, fun _ tx htx => ?_⟩
  cases a with
  | none => exact ⟨htx, fun _ => rfl, run_firstCells_none w esz 0 0 cap, run_firstCells_none w.drew esz 0 0 cap, by simp, fun _ h => by cases h⟩
  | some a => exact ⟨htx, fun _ => rfl, run_firstCells_some w esz 0 _ _ _ [] (by simp) (by simp), run_firstCells_some w.drew esz 0 _ _ _ [] (by simp) (by simp), by simp, fun _ h => by cases h⟩

/-- the elements of what is appended: under 'p', where the store says what 's' says at 'rd' -/
theorem elems_ok (hF : ¬ K .fail) {esz : Nat} (h0 : 0 < esz) {y : AV} {L : Prop → List (List AV) → List Nat → Prop} (h : elems K s esz y L) :
    ∃ p xs rd, L p xs rd ∧ (p → elemsOk esz xs → ∀ (B : Nat → Prop) (g : Gh) (w : World) (σ : Nat → VObj) (v : Value), RelS B g w σ → (∀ id ∈ rd, σ id = getO s id) → Rel g w y v → SrcC P g w esz xs v) := by
  cases y with
  | sl nn full es =>
    refine ⟨_, _, _, h, fun _ ho B g w σ v hs _ hr => ?_⟩
    rcases inv_sl hr with ⟨rfl, ad, _, _, rfl⟩ | ⟨b, o, cap, vs, k0, k1, k2, k3, k4, k5, rfl⟩
    · exact ⟨fun c h => by simp at h, src_nil⟩
    · have hu : ∀ c ∈ es, c.length = esz := fun c hc => (ho c hc).1
      obtain ⟨l, r1, r2⟩ := row_of (w := w) (g := g) (b := b) (o := o) (vs := vs) h0 hu (fun i c j x hi hj => by
        have := k4 i c j x hi hj
        rwa [hu c (List.mem_of_getElem? hi)] at this)
      exact ⟨k3, l, r1, src_row h0 r1 r2⟩
  | sall id ver =>
    simp only [elems, getOK_eq] at h
    cases hob : getO s id with
    | arr ver' esz' nn es fz =>
      simp only [hob] at h
      refine ⟨_, _, _, h, fun hv ho B g w σ v hs hag hr => ?_⟩
      subst hv
      have hobj := hs.obj id
      rw [hag id (by simp), hob] at hobj
      obtain ⟨_, h2, h3, h4, hcase⟩ := hobj
      obtain ⟨ver0, hd, a, len, cap, r1, r2, r3, rfl⟩ := inv_sall hr
      rcases hcase with ⟨a', k1, rfl, k3, k4⟩ | ⟨b, o, cap', vs, k1, k0, k2, k3, k4, k5, k6, k7, k8, k9⟩
      · rw [k1] at r1; cases r1
        have r3 := r3 rfl; cases r3
        exact ⟨h2, src_nil⟩
      · rw [k1] at r1; cases r1
        have r3 := r3 rfl; cases r3
        have hu : ∀ c ∈ es, c.length = esz := fun c hc => (ho c hc).1
        have he : es = [] ∨ esz' = esz := by
          cases es with
          | nil => exact .inl rfl
          | cons c es => right; rw [← h3 c (by simp), hu c (by simp)]
        rcases he with rfl | rfl
        · exact ⟨h2, src_nil⟩
        · obtain ⟨l, r1, r2⟩ := row_of (w := w) (g := g) (b := b) (o := o) (vs := vs) h0 hu k7
          exact ⟨h2, l, r1, src_row h0 r1 r2⟩
    | _ => simp only [hob] at h; exact (hF h).elim
  | sref id ver esz' off len =>
    simp only [elems, getOK_eq] at h
    cases hob : getO s id with
    | arr ver' esz2 nn es fz =>
      simp only [hob] at h
      cases hbe : Nat.beq esz' esz with
      | false => simp only [hbe] at h; exact (hF h).elim
      | true =>
        simp only [hbe] at h
        have hbe := Nat.eq_of_beq_eq_true hbe
        subst hbe
        refine ⟨_, _, _, h, fun hp ho B g w σ v hs hag hr => ?_⟩
        obtain ⟨hv, hol⟩ := hp
        subst hv
        have hobj := hs.obj id
        rw [hag id (by simp), hob] at hobj
        obtain ⟨_, h2, h3, h4, hcase⟩ := hobj
        obtain ⟨ver0, hd, a, cap, r1, r2, r3, rfl⟩ := inv_sref hr
        have hpw : pureL ((es.drop off).take len) := fun c hc => h2 c (List.mem_of_mem_drop (List.mem_of_mem_take hc))
        have hlw : ((es.drop off).take len).length = len := by simp; omega
        have hgw : ∀ i c, ((es.drop off).take len)[i]? = some c → i < len ∧ es[off + i]? = some c := fun i c h => by
          rw [drop_take_get'] at h
          split at h
          · exact ⟨by assumption, h⟩
          · exact nomatch h
        cases len with
        | zero => simp only [List.take_zero]; exact ⟨fun c h => by simp at h, src_nil⟩
        | succ len =>
          rcases hcase with ⟨a', k1, rfl, k3, k4⟩ | ⟨b, o, cap', vs, k1, k0, k2, k3, k4, k5, k6, k7, k8, k9⟩
          · simp at hol
          · rw [k1] at r1; cases r1
            rcases r3 rfl with ⟨q1, q2, q3, q4⟩ | ⟨b', o0, len0, cap0, o', q1, q2, q3, q4, q5⟩
            · injection q1 with _ _ hcc; exact (k0 hcc).elim
            · cases q1; subst q2
              have hu : ∀ c ∈ (es.drop off).take (len + 1), c.length = esz' := fun c hc => (ho c hc).1
              have he : esz2 = esz' := by
                obtain ⟨c, hc⟩ : ∃ c, es[off]? = some c := ⟨_, List.getElem?_eq_getElem (by omega)⟩
                have h' : ((es.drop off).take (len + 1))[0]? = some c := by rw [drop_take_get']; simpa using hc
                rw [← h3 c (List.mem_of_getElem? hc), hu c (List.mem_of_getElem? h')]
              subst he
              obtain ⟨l, r1, r2⟩ := row_of (w := w) (g := g) (b := b) (o := o') (vs := fun i j => vs (off + i) j) h0 hu (fun i c j x hi hj => by
                obtain ⟨hil, hie⟩ := hgw i c hi
                have := k7 _ c j x hie hj
                rw [q3 (by omega)]
                rw [Nat.add_mul] at this
                rw [show o + off * esz2 + i * esz2 + j = o + (off * esz2 + i * esz2) + j by omega]
                exact this)
              refine ⟨hpw, l, r1, ?_⟩
              have := src_row (P := P) (cap := cap) h0 r1 r2
              rw [hlw] at this ⊢
              exact this
    | _ => simp only [hob] at h; exact (hF h).elim
  | str bs =>
    simp only [elems] at h
    cases hbe : Nat.beq esz 1 with
    | false => simp only [hbe] at h; exact (hF h).elim
    | true =>
      simp only [hbe] at h
      have hbe := Nat.eq_of_beq_eq_true hbe
      subst hbe
      refine ⟨_, _, _, h, fun _ ho B g w σ v hs _ hr => ?_⟩
      have hv := rel_str hr; subst hv
      refine ⟨fun c hc x hx => ?_, byteCells ⟨bs.toArray⟩, ⟨by simp [byteCells], fun i c j x hi hj => ?_⟩, fun _ tx htx => ?_⟩
      · obtain ⟨q, _, rfl⟩ := List.mem_map.1 hc
        simp at hx; subst hx; rfl
      · rw [List.getElem?_map] at hi
        cases hq : bs[i]? with
        | none => rw [hq] at hi; exact nomatch hi
        | some q =>
          rw [hq] at hi; cases hi
          cases j with
          | succ j => simp at hj
          | zero =>
            cases hj
            exact ⟨.int .u8 q.toNat, by simp [byteCells, hq], .int _ _⟩
      · have := fun w' => firstCells_string (P := P) ⟨bs.toArray⟩ w'
        rw [size_mk] at this
        refine ⟨htx, fun _ => by simp [Builtin.lenOf, size_mk], by simpa using this w, by simpa using this w.drew, by simp [byteCells], fun u hu => by
          obtain ⟨_, _, rfl⟩ := List.mem_map.1 hu
          rfl⟩
  | _ => exact (hF h).elim

theorem setCells_wset (w : World) (b : Nat) : ∀ (vs : List Value) (w : World) (o : Nat), w.setCells b o vs = wset w b o vs := by
  intro vs; induction vs with
  | nil => intro w o; rfl
  | cons v vs ih => intro w o; simp only [World.setCells, wset, ih]

/-- of an append: what the program says of its types -/
structure AppT (P : Program) (esz bytes : Nat) (t0 t1 e : TypeId) (i : TypeInfo) (z : Value) : Prop where
  ht : P.underlying t0 = some (.slice e)
  hi : P.info? e = some i
  hz : i.zero = some z
  hsz : i.size = esz
  hby : i.bytes = bytes
  hzs : z.cells.size = esz
  htx : (∃ e', P.underlying t1 = some (.slice e')) ∨ P.underlying t1 = some .string
  h0 : 0 < esz
  hb0 : 0 < bytes

section
variable {B : Nat → Prop} {g : Gh} {w : World} {σ : Nat → VObj} {esz bytes : Nat} {t0 t1 e : TypeId} {i : TypeInfo} {z : Value} {id ver : Nat} {es xs : List (List AV)} {xv : Value}

theorem grow_new (A : AppT P esz bytes t0 t1 e i z) (hs : RelS B g w σ) (hB : ∀ b, w.heap.size ≤ b → B b) (fz : Bool) (hloc : g.loc id = none) (hver : ∀ v h, g.hdr id = some (v, h) → v < ver)
    (hpe : pureL es) (hue : ∀ c ∈ es, c.length = esz) (hx : SrcC P g w esz xs xv) (hxo : elemsOk esz xs) {base : Option Addr} {len cap : Nat} (hlen : len = es.length) {olds : List Value} (hro : RowC g w esz es olds)
    (hold : (Builtin.firstCells esz len (.slice base len cap)).run P w.drew = .ok olds.toArray w.drew) (hg : cap < len + xs.length) (hb : (len + xs.length) * bytes ≤ big) :
    ∃ g' w' val, (Builtin.append_ #[t0, t1] ty #[.slice base len cap, xv]).run P w = .ok val w' ∧ Ext B g w g' w' ∧ RelS B g' w' (updF σ id (.arr ver esz none (es ++ xs) fz)) ∧ Rel g' w' (.sall id ver) val := by
  obtain ⟨hpx, vs, hrx, hsrc⟩ := hx
  have hS := hsrc hxo t1 A.htx
  subst hlen
  have hb' : (es.length + xs.length) * bytes ≤ 70368744177664 := hb
  have hn : es.length + xs.length ≤ 70368744177664 := Nat.le_trans (Nat.le_mul_of_pos_right _ A.hb0) hb'
  have hfit := growslice_fits (bytes := bytes) hg (by omega)
  have hrun := run_append_grow_src (P := P) w t0 t1 ty e i z A.ht A.hi A.hz base es.length cap olds (by rw [A.hsz]; exact hold) xv xs.length vs (by rw [A.hsz]; exact hS) hg (by omega) (by rw [A.hby]; exact hfit)
  have hge := grownCap_ge w (es.length + xs.length) cap e
  generalize grownCap w (es.length + xs.length) cap e = nc at hrun hge
  have hs' : RelS B g w.drew σ := hs.heap rfl ⟨rfl, rfl, rfl, fun _ => rfl⟩
  have hE : Ext B g w g w.drew := Ext.ofHeap rfl ⟨rfl, rfl, rfl, fun _ => rfl⟩
  have hsz : ((olds ++ vs).toArray ++ Builtin.zeroCells z.cells (nc - (es.length + xs.length))).size = nc * esz := by
    rw [Array.size_append, size_zeroCells, A.hzs]
    simp only [List.size_toArray, List.length_append, hro.len, hrx.len]
    rw [← Nat.add_mul, ← Nat.add_mul]; congr 1; omega
  obtain ⟨g', e1, r1, v1⟩ := set_arr (w := w.drew) (id := id) (ver := ver) (es := es ++ xs) (esz := esz) (cap := nc) (nn := none) hs' hB hloc hver (fun c hc => by
      rcases List.mem_append.1 hc with h | h
      · exact hpe c h
      · exact hpx c h) (fun c hc => by
      rcases List.mem_append.1 hc with h | h
      · exact hue c h
      · exact (hxo c h).1) A.h0 nofun (by simpa using hge) (Nat.le_of_eq hsz.symm) (fun k c j x hk hj => by
      rw [List.getElem?_append] at hk
      have key : ∃ u, (olds ++ vs)[k * esz + j]? = some u ∧ Rel g w x u := by
        rw [List.getElem?_append, hro.len]
        split at hk
        · rename_i hlt
          obtain ⟨u, q1, q2⟩ := hro.rel k c j x hk hj
          have := (List.getElem?_eq_some_iff.1 q1).1
          rw [hro.len] at this
          rw [if_pos this]; exact ⟨u, q1, q2⟩
        · rename_i hlt
          obtain ⟨u, q1, q2⟩ := hrx.rel _ c j x hk hj
          have hm : (k - es.length) * esz + es.length * esz = k * esz := by rw [← Nat.add_mul]; congr 1; omega
          rw [if_neg (by omega), show k * esz + j - es.length * esz = (k - es.length) * esz + j by omega]; exact ⟨u, q1, q2⟩
      obtain ⟨u, q1, q2⟩ := key
      refine ⟨u, ?_, q2.mono hE⟩
      have hlt := (List.getElem?_eq_some_iff.1 q1).1
      rw [Array.getElem?_append_left (by simpa using hlt)]; simpa using q1) e fz
  rw [List.length_append] at v1
  exact ⟨g', _, _, hrun, hE.trans e1, r1, v1⟩

theorem grow_at (A : AppT P esz bytes t0 t1 e i z) (hs : RelS B g w σ) {nn : Option Bool} {fz : Bool} {b o len cap off n capn : Nat} (ho : σ id = .arr ver esz nn es fz) (hl : g.hdr id = some (ver, .slice (some ⟨b, o, none⟩) len cap)) (hk0 : cap ≠ 0)
    (hwin : off + n ≤ es.length) (hfz : fz = true → off + n = es.length) (hroom : n + xs.length ≤ capn) (hcapn : off + capn ≤ cap) (hc0 : capn ≠ 0) (hx : SrcC P g w esz xs xv) (hxo : elemsOk esz xs) :
    ∃ g' w' val, (Builtin.append_ #[t0, t1] ty #[.slice (some ⟨b, o + off * esz, none⟩) n capn, xv]).run P w = .ok val w' ∧ Ext B g w g' w' ∧ RelS B g' w' (updF σ id (.arr (ver + 1) esz none ((es.drop off).take n ++ xs) fz)) ∧ Rel g' w' (.sall id (ver + 1)) val := by
  obtain ⟨hpx, vs, hrx, hsrc⟩ := hx
  have hS := hsrc hxo t1 A.htx
  obtain ⟨p1, p2, g', e1, r1, v1⟩ := grow_place hs ho hl hk0 hwin hfz hroom hcapn hc0 hrx.len hpx (fun c hc => (hxo c hc).1) hrx.rel
  have hpos : o + off * esz + n * esz = o + (off + n) * esz := by rw [Nat.add_mul]; omega
  have hrun := run_append_room_src (P := P) w t0 t1 ty e i A.ht A.hi b (o + off * esz) n capn xv xs.length vs (by rw [A.hsz]; exact hS) hroom (fun j hj => by rw [A.hsz, hpos]; exact p1 j hj) (fun j hj => p2 _)
  rw [A.hsz, hpos, setCells_wset w] at hrun
  exact ⟨g', _, _, hrun, e1, r1, v1⟩

theorem grow_none (A : AppT P esz bytes t0 t1 e i z) (hs : RelS B g w σ) (fz : Bool) (hloc : g.loc id = none) (hver : ∀ v h, g.hdr id = some (v, h) → v < ver) {nn : Option Bool} {a : Option Addr} (hn : a = none → nn ≠ some false) (hn' : ∀ x, a = some x → nn ≠ some true)
    (hx : SrcC P g w esz [] xv) :
    ∃ g' w' val, (Builtin.append_ #[t0, t1] ty #[.slice a 0 0, xv]).run P w = .ok val w' ∧ Ext B g w g' w' ∧ RelS B g' w' (updF σ id (.arr ver esz nn [] fz)) ∧ Rel g' w' (.sall id ver) val := by
  obtain ⟨hpx, vs, hrx, hsrc⟩ := hx
  have hS := hsrc (fun c h => by simp at h) t1 A.htx
  have hv : vs = [] := List.eq_nil_of_length_eq_zero (by rw [hrx.len]; simp)
  subst hv
  obtain ⟨g', e1, r1, v1⟩ := set_arr_nil hs hloc hver A.h0 hn hn' fz
  exact ⟨g', w, _, run_append_nothing w t0 t1 ty e i A.ht A.hi a 0 0 (Nat.le_refl _) xv (by rw [A.hsz]; exact hS), e1, r1, v1⟩

theorem firstCells_nil {a : Option Addr} {len cap : Nat} (hl : len = 0) : (Builtin.firstCells esz len (.slice a len cap)).run P w.drew = .ok ([] : List Value).toArray w.drew := by
  subst hl
  cases a with
  | none => exact run_firstCells_none w.drew esz 0 0 cap
  | some a => exact run_firstCells_some w.drew esz 0 _ _ _ [] (by simp) (by simp)

theorem firstCells_row {b o cap len : Nat} {l : List Value} (hl : l.length = len * esz) (h : ∀ j u, l[j]? = some u → w.cell? ⟨b, o + j, none⟩ = some u) : (Builtin.firstCells esz len (.slice (some ⟨b, o, none⟩) len cap)).run P w.drew = .ok l.toArray w.drew :=
  run_firstCells_some w.drew esz len _ _ _ l hl (fun j u hj => by rw [add_none]; exact h j u hj)

theorem rowC_nil : RowC g w esz [] [] := ⟨by simp, fun i c j x h => by simp at h⟩

/-- an append onto what is no object of the store -/
theorem app_sl (A : AppT P esz bytes t0 t1 e i z) (hs : RelS B g w σ) (hB : ∀ b, w.heap.size ≤ b → B b) (hg : σ id = .gone) {nn : Option Bool} {full : Bool} {v : Value} (hr : Rel g w (.sl nn full es) v) (hf : full = true ∨ nn = some true)
    (hue : ∀ c ∈ es, c.length = esz) (hx : SrcC P g w esz xs xv) (hxo : elemsOk esz xs) (hne : xs.length ≠ 0 ∨ es.length = 0) (hb : (es.length + xs.length) * bytes ≤ big) :
    ∃ g' w' val, (Builtin.append_ #[t0, t1] ty #[v, xv]).run P w = .ok val w' ∧ Ext B g w g' w' ∧ RelS B g' w' (updF σ id (.arr 0 esz none (es ++ xs) false)) ∧ Rel g' w' (.sall id 0) val := by
  have hobj := hs.obj id
  rw [hg] at hobj
  have hver : ∀ v h, g.hdr id = some (v, h) → v < 0 := fun v h hh => by rw [hobj.2] at hh; exact nomatch hh
  rcases inv_sl hr with ⟨rfl, ad, hn, hn2, rfl⟩ | ⟨b, o, cap, vs, k0, k1, k2, k3, k4, k5, rfl⟩
  · by_cases hz : xs = []
    · subst hz
      exact grow_none A hs false hobj.1 hver (nn := none) nofun nofun hx
    · have : xs.length ≠ 0 := fun h => hz (List.eq_nil_of_length_eq_zero h)
      exact grow_new A hs hB false hobj.1 hver (fun c h => by simp at h) (fun c h => by simp at h) hx hxo rfl rowC_nil (firstCells_nil rfl) (by simp; omega) hb
  · have hf' : full = true := hf.resolve_right k0
    have hcap := k2 hf'
    subst hcap
    by_cases hz : xs = []
    · subst hz
      have he : es = [] := List.eq_nil_of_length_eq_zero (hne.resolve_left (by simp))
      subst he
      exact grow_none A hs false hobj.1 hver (nn := none) nofun (fun x hx => nofun) hx
    · have : xs.length ≠ 0 := fun h => hz (List.eq_nil_of_length_eq_zero h)
      obtain ⟨l, r1, r2⟩ := row_of (w := w) (g := g) (b := b) (o := o) (vs := vs) A.h0 hue (fun i c j x hi hj => by
        have := k4 i c j x hi hj
        rwa [hue c (List.mem_of_getElem? hi)] at this)
      exact grow_new A hs hB false hobj.1 hver k3 hue hx hxo rfl r1 (firstCells_row r1.len r2) (by omega) hb

/-- an append onto an array object, or onto a window of it -/
theorem app_arr (A : AppT P esz bytes t0 t1 e i z) (hs : RelS B g w σ) (hB : ∀ b, w.heap.size ≤ b → B b) {nn : Option Bool} {fz : Bool} (ho : σ id = .arr ver esz nn es fz) {off n : Nat} {v : Value} (hwin : off + n ≤ es.length) (hfz : fz = true → off = 0 ∧ n = es.length)
    (hr : (Rel g w (.sall id ver) v ∧ off = 0 ∧ n = es.length) ∨ Rel g w (.sref id ver esz off n) v) (hx : SrcC P g w esz xs xv) (hxo : elemsOk esz xs) (hb : (n + xs.length) * bytes ≤ big) :
    ∃ g' w' val, (Builtin.append_ #[t0, t1] ty #[v, xv]).run P w = .ok val w' ∧ Ext B g w g' w' ∧ RelS B g' w' (updF σ id (.arr (ver + 1) esz none ((es.drop off).take n ++ xs) fz)) ∧ Rel g' w' (.sall id (ver + 1)) val := by
  have hobj := hs.obj id
  rw [ho] at hobj
  obtain ⟨h1, h2, h3, h4, hcase⟩ := hobj
  have hlw : ((es.drop off).take n).length = n := by simp; omega
  have hpw : pureL ((es.drop off).take n) := fun c hc => h2 c (List.mem_of_mem_drop (List.mem_of_mem_take hc))
  have huw : ∀ c ∈ (es.drop off).take n, c.length = esz := fun c hc => h3 c (List.mem_of_mem_drop (List.mem_of_mem_take hc))
  have hgw : ∀ i c, ((es.drop off).take n)[i]? = some c → i < n ∧ es[off + i]? = some c := fun i c h => by
    rw [drop_take_get'] at h
    split at h
    · exact ⟨by assumption, h⟩
    · exact nomatch h
  -- the value: empty, or a window
  have hval : (∃ a, v = .slice a 0 0 ∧ n = 0) ∨ ∃ (b o len cap capn : Nat) (vs : Nat → Nat → Value), g.hdr id = some (ver, .slice (some ⟨b, o, none⟩) len cap) ∧ cap ≠ 0 ∧ v = .slice (some ⟨b, o + off * esz, none⟩) n capn ∧ capn ≠ 0 ∧ off + capn ≤ cap ∧ n ≤ capn ∧
      (∀ (i : Nat) (c : List AV) (j : Nat) (x : AV), es[i]? = some c → c[j]? = some x → w.cell? ⟨b, o + i * esz + j, none⟩ = some (vs i j) ∧ Rel g w x (vs i j)) := by
    rcases hr with ⟨hr, rfl, rfl⟩ | hr
    · obtain ⟨ver0, hd, a, len, cap, r1, r2, r3, rfl⟩ := inv_sall hr
      rcases hcase with ⟨a', k1, rfl, k3, k4⟩ | ⟨b, o, cap', vs, k1, k0, k2, k3, k4, k5, k6, k7, k8, k9⟩
      · rw [k1] at r1; cases r1
        have r3 := r3 rfl; cases r3
        exact .inl ⟨a, rfl, rfl⟩
      · have k1' := k1
        rw [k1] at r1; cases r1
        have r3 := r3 rfl; cases r3
        exact .inr ⟨b, o, _, _, _, vs, k1', k0, by simp, k0, by omega, k3, k7⟩
    · obtain ⟨ver0, hd, a, cap, r1, r2, r3, rfl⟩ := inv_sref hr
      rcases hcase with ⟨a', k1, rfl, k3, k4⟩ | ⟨b, o, cap', vs, k1, k0, k2, k3, k4, k5, k6, k7, k8, k9⟩
      · rw [k1] at r1; cases r1
        have hn0 : n = 0 := by simp at hwin; omega
        subst hn0
        rcases r3 rfl with ⟨q1, q2, q3, q4⟩ | ⟨b, o, len0, cap0, o', q1, q2, q3, q4, q5⟩
        · subst q4; exact .inl ⟨_, rfl, rfl⟩
        · cases q1
          have hc0 : cap = 0 := by omega
          subst hc0; subst q2
          exact .inl ⟨_, rfl, rfl⟩
      · have k1' := k1
        rw [k1] at r1; cases r1
        rcases r3 rfl with ⟨q1, q2, q3, q4⟩ | ⟨b', o0, len0, cap0, o', q1, q2, q3, q4, q5⟩
        · injection q1 with _ _ hcc; exact (k0 hcc).elim
        · cases q1; subst q2
          by_cases hc0 : cap = 0
          · subst hc0
            have hn0 : n = 0 := by omega
            subst hn0
            exact .inl ⟨_, rfl, rfl⟩
          · rw [q3 hc0]
            exact .inr ⟨b, o, _, cap', cap, vs, k1', k0, rfl, hc0, q4, q5, k7⟩
  have hver : ∀ v h, g.hdr id = some (v, h) → v < ver + 1 := fun v h hh => by
    rcases hcase with ⟨a', k1, _⟩ | ⟨b, o, cap', vs, k1, _⟩ <;> (rw [k1] at hh; cases hh; omega)
  rcases hval with ⟨a, rfl, rfl⟩ | ⟨b, o, len, cap, capn, vs, q1, q2, rfl, q4, q5, q6, q7⟩
  · by_cases hz : xs = []
    · subst hz
      have := grow_none (id := id) (ver := ver + 1) (ty := ty) A hs fz h1 hver (nn := none) (a := a) nofun (fun x hx => nofun) hx
      simpa using this
    · have : xs.length ≠ 0 := fun h => hz (List.eq_nil_of_length_eq_zero h)
      have := grow_new (id := id) (ver := ver + 1) (ty := ty) (es := []) A hs hB fz h1 hver (fun c h => by simp at h) (fun c h => by simp at h) hx hxo rfl rowC_nil (firstCells_nil (a := a) (cap := 0) rfl) (by simp; omega) hb
      simpa using this
  · by_cases hroom : n + xs.length ≤ capn
    · exact grow_at A hs ho q1 q2 hwin (fun h => by have := hfz h; omega) hroom q5 q4 hx hxo
    · obtain ⟨l, r1, r2⟩ := row_of (w := w) (g := g) (es := (es.drop off).take n) (b := b) (o := o + off * esz) (vs := fun i j => vs (off + i) j) A.h0 huw (fun i c j x hi hj => by
        obtain ⟨hil, hie⟩ := hgw i c hi
        have := q7 _ c j x hie hj
        rw [Nat.add_mul] at this
        rw [show o + off * esz + i * esz + j = o + (off * esz + i * esz) + j by omega]
        exact this)
      exact grow_new (id := id) (ver := ver + 1) A hs hB fz h1 hver hpw huw hx hxo hlw.symm r1 (firstCells_row (by rw [r1.len, hlw]) r2) (by omega) hb
end

theorem seq_kind (hE : E.Fits P) {t1 : TypeId} (h : (E.ti t1).kind.isSeq = true) : (∃ e', P.underlying t1 = some (.slice e')) ∨ P.underlying t1 = some .string := by
  cases hk : (E.ti t1).kind with
  | sl e' =>
    obtain ⟨d, h1, h2⟩ := und_of hE hk (by simp)
    exact .inl ⟨e', by rw [h1, tk_slice h2.symm]⟩
  | str =>
    obtain ⟨d, h1, h2⟩ := und_of hE hk (by simp)
    exact .inr (by rw [h1, tk_str h2.symm])
  | _ => rw [hk] at h; exact nomatch h

theorem fzd_rd {rd : List Nat} {n : Nat} {σ : Nat → VObj} (h : ∀ id, id ∈ rd ∨ id ∈ [n] → σ id = getO s id) : (∀ id ∈ rd, σ id = getO s id) ∧ σ n = getO s n := ⟨fun id hid => h id (.inl hid), h n (.inr (by simp))⟩

theorem s_append (hE : E.Fits P) (hK : ∀ out, K out → OpHolds P out R) {args : Array Operand} {x y : AV} {t0 t1 e n by_ esz bytes : Nat} {k : TK} {z zero : List AV} (ha : args.toList.map (evV t) = [x, y])
    (e1 : E.ti t0 = ⟨.sl e, n, by_, z⟩) (hk : (E.ti t1).kind.isSeq = true) (e2 : E.ti e = ⟨k, esz, bytes, zero⟩) (h0 : 0 < esz) (hb0 : 0 < bytes) (h : vappend K s esz bytes x y) :
    ∃ v s2 fp, OpSem P ⟨dst, .call { callee := .builtin .append, args := args, argTypes := #[t0, t1] }, ty, pos, after, guard⟩ t s v s2 fp ∧ R v s2 fp := by
  have hF : ¬ K .fail := fun h => hK _ h
  obtain ⟨i, d, zv, h1, h2, h3, h4, h5, h6, h7, h8, h9⟩ := ti_at hE e1 (.inl (by simp))
  have hd := tk_slice h6.symm; subst hd
  obtain ⟨i2, d2, zv2, q1, q2, q3, q4, q5, q6, q7, q8, q9⟩ := ti_at hE e2 (.inr (.inl h0))
  have A : AppT P esz bytes t0 t1 e i2 zv2 := ⟨h2, q1, q3, q7, q8, q5, seq_kind hE hk, h0, hb0⟩
  obtain ⟨ox, oy, rfl, hox, hoy⟩ := args_two ha
  have hxy : ∀ (a : Act) (g : Gh) (w : World), (∀ x ∈ (Op.call { callee := .builtin .append, args := #[ox, oy], argTypes := #[t0, t1] }).operands, Rel g w (evV t x) (a.eval x)) → Rel g w x (a.eval ox) ∧ Rel g w y (a.eval oy) := fun a g w hh =>
    ⟨hox ▸ hh ox (by simp [Op.operands, Call.operands]), hoy ▸ hh oy (by simp [Op.operands, Call.operands])⟩
  have hrun : ∀ (a : Act) (w w' : World) (v : Value), (Builtin.append_ #[t0, t1] ty #[a.eval ox, a.eval oy]).run P w = .ok v w' →
      (execOp a.eval ⟨dst, .call { callee := .builtin .append, args := #[ox, oy], argTypes := #[t0, t1] }, ty, pos, after, guard⟩).run P w = .ok (.value v) w' := fun a w w' v hr => by
    refine run_builtin ?_
    simp only [builtin, Sem.run_bind, List.map_toArray, List.map_cons, List.map_nil, hr, Result.andThen_ok, Sem.run_pure]
  obtain ⟨p, xs, rd, hL, hsem⟩ := elems_ok (P := P) hF h0 h
  have hsl : ∀ {nn : Option Bool} {full : Bool} {es : List (List AV)}, x = .sl nn full es → (full = true ∨ nn = some true) → p → elemsOk esz xs → (∀ c ∈ es, c.length = esz) → (xs.length ≠ 0 ∨ es.length = 0) → (es.length + xs.length) * bytes ≤ big →
      OpSem P ⟨dst, .call { callee := .builtin .append, args := #[ox, oy], argTypes := #[t0, t1] }, ty, pos, after, guard⟩ t s (.sall s.length 0) (setO s s.length (.arr 0 esz none (es ++ xs) false)) ⟨rd, [s.length]⟩ := by
    intro nn full es hx hf hp hxo hue hne hb
    refine .val (fun id hid => getO_setO_out hid) fun B g w a σ hB hh hσ hs => ?_
    rw [over_one]
    obtain ⟨r1, r2⟩ := hxy a g w hh
    rw [hx] at r1
    obtain ⟨f1, f2⟩ := fzd_rd hσ
    obtain ⟨g', w', val, k1, k2, k3, k4⟩ := app_sl (ty := ty) A hs hB (id := s.length) (f2.trans (getO_len s)) r1 hf hue (hsem hp hxo B g w σ _ hs f1 r2) hxo hne hb
    exact ⟨g', w', val, hrun a w w' val k1, k2, k3, k4⟩
  cases x with
  | sl nn full es =>
    by_cases hc : nn = some true ∧ es = []
    · obtain ⟨rfl, rfl⟩ := hc
      simp only [lenK_eq, setOK_eq] at hL
      obtain ⟨⟨hp, hxo, hb⟩, hR⟩ := hK _ hL
      have := hsl rfl (.inr rfl) hp hxo (fun c h => by simp at h) (.inr rfl) (by simpa using hb)
      rw [Nat.zero_add] at hR
      exact ⟨_, _, _, this, hR⟩
    · cases full with
      | false =>
        have : K .fail := by
          revert hL hc
          rcases nn with _ | _ | _ <;> cases es <;> intro hc hL <;> first | exact hL | exact (hc ⟨rfl, rfl⟩).elim
        exact (hF this).elim
      | true =>
        have hL' : lenK s 0 fun n => setOK s n (.arr 0 esz none (es ++ xs) false) fun s' => K (.need (p ∧ elemsOk esz xs ∧ elemsOk esz es ∧ (xs.length ≠ 0 ∨ es.length = 0) ∧ (es.length + xs.length) * bytes ≤ big) (.sall n 0) s' ⟨rd, [n]⟩) := by
          revert hL hc
          rcases nn with _ | _ | _ <;> cases es <;> intro hc hL <;> first | exact hL | exact (hc ⟨rfl, rfl⟩).elim
        simp only [lenK_eq, setOK_eq] at hL'
        obtain ⟨⟨hp, hxo, heo, hne, hb⟩, hR⟩ := hK _ hL'
        have := hsl rfl (.inl rfl) hp hxo (fun c h => (heo c h).1) hne hb
        rw [Nat.zero_add] at hR
        exact ⟨_, _, _, this, hR⟩
  | sall id ver =>
    simp only [getOK_eq] at hL
    cases hob : getO s id with
    | arr ver' esz' nn es fz =>
      simp only [hob] at hL
      cases hbe : Nat.beq esz' esz with
      | false => simp only [hbe] at hL; exact (hF hL).elim
      | true =>
        simp only [hbe, setOK_eq] at hL
        have hbe := Nat.eq_of_beq_eq_true hbe
        subst hbe
        obtain ⟨⟨hp, hv, hxo, hb⟩, hR⟩ := hK _ hL
        subst hv
        refine ⟨_, _, _, .val (fun id hid => getO_setO_out hid) fun B g w a σ hB hh hσ hs => ?_, hR⟩
        rw [over_one]
        obtain ⟨r1, r2⟩ := hxy a g w hh
        obtain ⟨f1, f2⟩ := fzd_rd hσ
        obtain ⟨g', w', val, k1, k2, k3, k4⟩ := app_arr (ty := ty) A hs hB (f2.trans hob) (off := 0) (n := es.length) (by omega) (fun _ => ⟨rfl, rfl⟩) (.inl ⟨r1, rfl, rfl⟩) (hsem hp hxo B g w σ _ hs f1 r2) hxo hb
        rw [List.drop_zero, List.take_length] at k3
        exact ⟨g', w', val, hrun a w w' val k1, k2, k3, k4⟩
    | _ => simp only [hob] at hL; exact (hF hL).elim
  | sref id ver esz'' off len =>
    simp only [getOK_eq] at hL
    cases hob : getO s id with
    | arr ver' esz' nn es fz =>
      simp only [hob] at hL
      cases hbe : (Nat.beq esz' esz && Nat.beq esz'' esz && !fz) with
      | false => simp only [hbe] at hL; exact (hF hL).elim
      | true =>
        simp only [hbe, setOK_eq] at hL
        simp only [Bool.and_eq_true, Bool.not_eq_true'] at hbe
        obtain ⟨⟨b1, b2⟩, b3⟩ := hbe
        have b1 := Nat.eq_of_beq_eq_true b1
        have b2 := Nat.eq_of_beq_eq_true b2
        subst b1; subst b2; subst b3
        obtain ⟨⟨hp, hv, hxo, hwin, hb⟩, hR⟩ := hK _ hL
        subst hv
        refine ⟨_, _, _, .val (fun id hid => getO_setO_out hid) fun B g w a σ hB hh hσ hs => ?_, hR⟩
        rw [over_one]
        obtain ⟨r1, r2⟩ := hxy a g w hh
        obtain ⟨f1, f2⟩ := fzd_rd hσ
        obtain ⟨g', w', val, k1, k2, k3, k4⟩ := app_arr (ty := ty) A hs hB (f2.trans hob) (off := off) (n := len) hwin nofun (.inr r1) (hsem hp hxo B g w σ _ hs f1 r2) hxo hb
        exact ⟨g', w', val, hrun a w w' val k1, k2, k3, k4⟩
    | _ => simp only [hob] at hL; exact (hF hL).elim
  | _ => exact (hF hL).elim

end
end Go.Proofs.Ytmapiefbnjaikaa.Vm
/- Maps: made, read, written. -/
set_option linter.all false
namespace Go.Proofs.Ytmapiefbnjaikaa.Vm
open Go

section
variable {P : Program} {E : Env} {t : List AV} {s : List VObj} {dst : Option Tmp} {ty : TypeId} {pos : String} {after : Array Edge} {guard : Option (Nat × Bool)} {K : OpOut → Prop} {R : AV → List VObj → FP → Prop}

/-- what the table says of a key's type -/
theorem keyKs_plain (hE : E.Fits P) (hQ : E.EqOk P) {kt : TypeId} {agg : Bool} {ks : List LK} (h : keyKs E kt = some (agg, ks)) : plainB P 4 kt = some ks ∧ aggB P kt = agg ∧
    (agg = false → (∃ k, P.underlying kt = some (.int k) ∧ ks = [.int k]) ∨ (P.underlying kt = some .bool ∧ ks = [.bool]) ∨ (P.underlying kt = some .string ∧ ks = [.str])) := by
  unfold keyKs at h
  split at h
  · rename_i k hk
    cases h
    obtain ⟨d, hd, e⟩ := und_of hE hk (by simp)
    have := tk_int e.symm; subst this
    exact ⟨by simp [plainB, hd], by simp [aggB, hd], fun _ => .inl ⟨k, hd, rfl⟩⟩
  · rename_i hk
    cases h
    obtain ⟨d, hd, e⟩ := und_of hE hk (by simp)
    cases d <;> simp [tkOf] at e
    exact ⟨by simp [plainB, hd], by simp [aggB, hd], fun _ => .inr (.inl ⟨hd, rfl⟩)⟩
  · rename_i hk
    cases h
    obtain ⟨d, hd, e⟩ := und_of hE hk (by simp)
    have := tk_str e.symm; subst this
    exact ⟨by simp [plainB, hd], by simp [aggB, hd], fun _ => .inr (.inr ⟨hd, rfl⟩)⟩
  · split at h
    · split at h
      · rename_i ks' hks
        cases h
        obtain ⟨p1, p2, p3⟩ := hQ kt ks hks
        exact ⟨p1, p2, nofun⟩
      · exact nomatch h
    · exact nomatch h

theorem eqLeafs_refl {ks : List LK} {cs : List AV} {b : Bool} (h : eqLeafs ks cs cs = some b) : b = true := by
  induction ks generalizing cs b with
  | nil => cases cs with
    | nil => cases h; rfl
    | cons c cs => exact nomatch h
  | cons k ks ih =>
    cases cs with
    | nil => cases k <;> exact nomatch h
    | cons c cs =>
      unfold eqLeafs at h
      split at h
      · rename_i h' _ _; exact nomatch h'
      · rename_i e0 e1 e2; cases e0; cases e1; cases e2
        split at h
        · split at h
          · rename_i r hr; cases h; simp [ih hr]
          · exact nomatch h
        · exact nomatch h
      · rename_i e0 e1 e2; cases e0; cases e1; cases e2
        split at h
        · rename_i r hr; cases h; simp [ih hr]
        · exact nomatch h
      · rename_i e0 e1 e2; cases e0; cases e1; cases e2
        split at h
        · rename_i r hr; cases h; simp [ih hr]
        · exact nomatch h
      · exact nomatch h

theorem eqVs_eq : ∀ {ks : List LK} {us vs : List Value}, leafsV ks us = true → leafsV ks vs = true → eqVs us vs = true → us = vs
  | [], [], [], _, _, _ => rfl
  | [], [], _ :: _, _, h, _ => nomatch h
  | [], _ :: _, _, h, _, _ => nomatch h
  | _ :: _, [], _, h, _, _ => nomatch h
  | _ :: _, _ :: _, [], _, h, _ => nomatch h
  | k :: ks, u :: us, v :: vs, h1, h2, h3 => by
    simp only [leafsV, eqVs, Bool.and_eq_true] at h1 h2 h3
    have := eqVs_eq h1.2 h2.2 h3.2
    subst this
    congr 1
    obtain ⟨h1, _⟩ := h1
    obtain ⟨h2, _⟩ := h2
    obtain ⟨h3, _⟩ := h3
    cases k <;> cases u <;> simp [leafV] at h1 <;> cases v <;> simp [leafV] at h2 <;> simp [eqV] at h3
    · subst h1; subst h2; subst h3; rfl
    · subst h3; rfl
    · rename_i a b
      obtain ⟨a⟩ := a
      obtain ⟨b⟩ := b
      simp at h3
      subst h3; rfl

theorem sameBits_leafs : ∀ {ks : List LK} {us : List Value}, leafsV ks us = true → ∀ u ∈ us, ∀ n, Instr.sameBits n u u = true
  | [], [], _, u, hu, _ => nomatch hu
  | [], _ :: _, h, _, _, _ => nomatch h
  | _ :: _, [], _, u, hu, _ => nomatch hu
  | k :: ks, v :: vs, h, u, hu, n => by
    simp only [leafsV, Bool.and_eq_true] at h
    rcases List.mem_cons.1 hu with rfl | hu
    · obtain ⟨h, _⟩ := h
      cases k <;> cases u <;> simp [leafV] at h <;> simp [Instr.sameBits, MapKept.bytes_beq]
    · exact sameBits_leafs h.2 u hu n

/-- what a key's value is like -/
structure KeyV (P : Program) (kt : TypeId) (ks : List LK) (v : Value) (us : List Value) : Prop where
  val : v = valOf P kt us
  leafs : leafsV ks us = true

theorem eqKey_rel (hE : E.Fits P) (hQ : E.EqOk P) {kt : TypeId} {agg : Bool} {ks : List LK} (h : keyKs E kt = some (agg, ks)) {g : Gh} {w : World} {x y : AV} {u v : Value} {b : Bool} (hb : eqKey (agg, ks) x y = some b) (hx : Rel g w x u) (hy : Rel g w y v) :
    ∃ us vs, KeyV P kt ks u us ∧ KeyV P kt ks v vs ∧ eqVs us vs = b := by
  obtain ⟨p1, p2, p3⟩ := keyKs_plain hE hQ h
  cases agg with
  | true =>
    simp only [eqKey] at hb
    split at hb
    · obtain ⟨us, u1, u2, rfl⟩ := inv_agg hx
      obtain ⟨vs, v1, v2, rfl⟩ := inv_agg hy
      obtain ⟨l1, l2, l3⟩ := eqLeafs_rel hb (us := us.toList) (vs := vs.toList) (by simpa using u1) (by simpa using v1) (fun i c u a b => u2 i c u a (by simpa using b)) (fun i c u a b => v2 i c u a (by simpa using b))
      exact ⟨us.toList, vs.toList, ⟨by simp [valOf, p2], l1⟩, ⟨by simp [valOf, p2], l2⟩, l3⟩
    · exact nomatch hb
  | false =>
    simp only [eqKey] at hb
    split at hb
    · exact nomatch hb
    · exact nomatch hb
    · obtain ⟨l1, l2, l3⟩ := eqLeafs_rel hb (us := [u]) (vs := [v]) rfl rfl (fun i c q a b => by cases i <;> simp at a b; subst a; subst b; exact hx) (fun i c q a b => by cases i <;> simp at a b; subst a; subst b; exact hy)
      exact ⟨[u], [v], ⟨by simp [valOf, p2], l1⟩, ⟨by simp [valOf, p2], l2⟩, l3⟩

def findI (ks : Bool × List LK) (k : AV) : List (AV × AV) → Option Nat
  | [] => none
  | e :: es => match eqKey ks k e.1 with
    | some true => some 0
    | _ => (findI ks k es).map (· + 1)

theorem findI_K (ks : Bool × List LK) (k : AV) : ∀ es, findK ks k es = (findI ks k es).bind fun i => (es[i]?).map (·.2)
  | [] => rfl
  | e :: es => by
    have ih := findI_K ks k es
    cases he : eqKey ks k e.1 with
    | none => simp only [findK, findI, he, ih]; cases findI ks k es <;> simp
    | some b => cases b <;> simp only [findK, findI, he, ih]
                · cases findI ks k es <;> simp
                · rfl
theorem findI_put (ks : Bool × List LK) (k v : AV) : ∀ es, putM ks k v es = match findI ks k es with | some i => es.set i (k, v) | none => es ++ [(k, v)]
  | [] => rfl
  | e :: es => by
    have ih := findI_put ks k v es
    cases he : eqKey ks k e.1 with
    | none => simp only [putM, findI, he, ih]; cases findI ks k es <;> simp
    | some b => cases b <;> simp only [putM, findI, he, ih]
                · cases findI ks k es <;> simp
                · rfl
theorem findI_del (ks : Bool × List LK) (k : AV) : ∀ es, delM ks k es = match findI ks k es with | some i => es.eraseIdx i | none => es
  | [] => rfl
  | e :: es => by
    have ih := findI_del ks k es
    cases he : eqKey ks k e.1 with
    | none => simp only [delM, findI, he, ih]; cases findI ks k es <;> simp
    | some b => cases b <;> simp only [delM, findI, he, ih]
                · cases findI ks k es <;> simp
                · rfl
theorem findI_spec (ks : Bool × List LK) (k : AV) : ∀ es i, findI ks k es = some i → ∃ e, es[i]? = some e ∧ eqKey ks k e.1 = some true
  | [], i, h => nomatch h
  | e :: es, i, h => by
    simp only [findI] at h
    split at h
    · rename_i he; cases h; exact ⟨e, rfl, he⟩
    · cases hi : findI ks k es with
      | none => rw [hi] at h; exact nomatch h
      | some j => rw [hi] at h; cases h; obtain ⟨e', h1, h2⟩ := findI_spec ks k es j hi; exact ⟨e', by simpa using h1, h2⟩

/-- an entry found -/
theorem find_run (hE : E.Fits P) (hQ : E.EqOk P) {kt : TypeId} {agg : Bool} {ks : List LK} (h : keyKs E kt = some (agg, ks)) {g : Gh} {w : World} {x : AV} {u : Value} (hx : Rel g w x u) :
    ∀ (es : List (AV × AV)) (en : List MapEntry), es.length = en.length → (∀ (i : Nat) (x : AV × AV) (e : MapEntry), es[i]? = some x → en[i]? = some e → Rel g w x.1 e.key) → (∀ e ∈ es, (eqKey (agg, ks) x e.1).isSome = true) →
    (Instr.findKey kt u en).run P w = .ok (match findI (agg, ks) x es with | some i => (en[i]?).map fun e => (i, e.val) | none => none) w := by
  obtain ⟨p1, p2, p3⟩ := keyKs_plain hE hQ h
  obtain ⟨d, hd⟩ := plainB_und p1
  intro es en hl hr hk
  have now : agg = false → ∀ (es : List (AV × AV)) (en : List MapEntry) (j : Nat), es.length = en.length → (∀ (i : Nat) (x : AV × AV) (e : MapEntry), es[i]? = some x → en[i]? = some e → Rel g w x.1 e.key) → (∀ e ∈ es, (eqKey (agg, ks) x e.1).isSome = true) →
      Instr.findNow d u en j = some (match findI (agg, ks) x es with | some i => (en[i]?).map fun e => (i + j, e.val) | none => none) := by
    intro ha es
    induction es with
    | nil => intro en j hl _ _; rw [List.eq_nil_of_length_eq_zero hl.symm]; rfl
    | cons e es ih =>
      intro en j hl hr hk
      cases en with
      | nil => exact nomatch hl
      | cons m en =>
        obtain ⟨b, hb⟩ := Option.isSome_iff_exists.1 (hk e (by simp))
        obtain ⟨us, vs, ku, kv, heq⟩ := eqKey_rel hE hQ h hb hx (hr 0 e m rfl rfl)
        have hs : Instr.sameNow d u m.key = some b := by
          obtain ⟨a, rfl⟩ : ∃ a, us = [a] := List.length_eq_one_iff.1 ((leafsV_len ku.leafs).trans (plainB_leaf p1 (p2.trans ha)))
          obtain ⟨c, rfl⟩ : ∃ a, vs = [a] := List.length_eq_one_iff.1 ((leafsV_len kv.leafs).trans (plainB_leaf p1 (p2.trans ha)))
          have l1 := ku.leafs
          have l2 := kv.leafs
          rw [ku.val, kv.val]
          simp only [valOf, p2, ha, Bool.false_eq_true, if_false, List.headD_cons]
          rcases p3 ha with ⟨k, hd', rfl⟩ | ⟨hd', rfl⟩ | ⟨hd', rfl⟩ <;> (rw [hd] at hd'; cases hd') <;> cases a <;> simp [leafsV, leafV] at l1 <;> cases c <;> simp [leafsV, leafV] at l2
          · subst l1; subst l2; simp [Instr.sameNow]; rw [← heq]; simp [eqVs, eqV]; congr 1
          · simp [Instr.sameNow]; rw [← heq]; simp [eqVs, eqV]
          · simp [Instr.sameNow]; rw [← heq]; simp [eqVs, eqV]
            rename_i a c
            rw [Bool.eq_iff_iff, MapKept.bytes_beq]
            obtain ⟨⟨a⟩⟩ := a
            obtain ⟨⟨c⟩⟩ := c
            simp
        simp only [Instr.findNow, hs, findI, hb]
        cases b with
        | true => simp
        | false =>
          simp only []
          rw [ih en (j + 1) (by simpa using hl) (fun i x e a b => hr (i + 1) x e a b) (fun e he => hk e (by simp [he]))]
          cases findI (agg, ks) x es with
          | none => rfl
          | some i => simp; cases en[i]? <;> simp; omega
  unfold Instr.findKey
  simp only [Sem.run_bind, run_underlying' hd, Result.andThen_ok]
  cases ha : agg with
  | false =>
    have := now ha es en 0 hl hr hk
    rw [this, ← ha]
    simp
  | true =>
    subst ha
    cases es with
    | nil => rw [List.eq_nil_of_length_eq_zero hl.symm]; rfl
    | cons e0 es0 =>
      cases en with
      | nil => exact nomatch hl
      | cons m0 en0 =>
        obtain ⟨b0, hb0⟩ := Option.isSome_iff_exists.1 (hk e0 (by simp))
        obtain ⟨us0, vs0, ku0, kv0, _⟩ := eqKey_rel hE hQ h hb0 hx (hr 0 e0 m0 rfl rfl)
        have hnone : Instr.findNow d u (m0 :: en0) 0 = none := by
          have : Instr.sameNow d u m0.key = none := by
            rw [ku0.val]
            simp only [valOf, p2, if_true]
            cases d <;> rfl
          simp only [Instr.findNow, this]
        rw [hnone]
        simp only []
        have ask : ∀ (es : List (AV × AV)) (en : List MapEntry) (j : Nat), es.length = en.length → (∀ (i : Nat) (x : AV × AV) (e : MapEntry), es[i]? = some x → en[i]? = some e → Rel g w x.1 e.key) → (∀ e ∈ es, (eqKey (true, ks) x e.1).isSome = true) →
            (Instr.findAsking kt u en j).run P w = .ok (match findI (true, ks) x es with | some i => (en[i]?).map fun e => (i + j, e.val) | none => none) w := by
          intro es
          induction es with
          | nil => intro en j hl _ _; rw [List.eq_nil_of_length_eq_zero hl.symm]; rfl
          | cons e es ih =>
            intro en j hl hr hk
            cases en with
            | nil => exact nomatch hl
            | cons m en =>
              obtain ⟨b, hb⟩ := Option.isSome_iff_exists.1 (hk e (by simp))
              obtain ⟨us, vs, ku, kv, heq⟩ := eqKey_rel hE hQ h hb hx (hr 0 e m rfl rfl)
              have q := equalIn_plain 4 10000 (by decide) kt ks p1 us vs w ku.leafs kv.leafs
              rw [← ku.val, ← kv.val, heq] at q
              have q : (Op.equal kt u m.key).run P w = .ok b w := q
              simp only [Instr.findAsking, Sem.run_bind, q, Result.andThen_ok, findI, hb]
              cases b with
              | true => simp
              | false =>
                simp only [Bool.false_eq_true, if_false]
                rw [ih en (j + 1) (by simpa using hl) (fun i x e a b => hr (i + 1) x e a b) (fun e he => hk e (by simp [he]))]
                cases findI (true, ks) x es with
                | none => rfl
                | some i => simp; cases en[i]? <;> simp; omega
        rw [ask (e0 :: es0) (m0 :: en0) 0 hl hr hk]
        simp

theorem check_run (hE : E.Fits P) (hQ : E.EqOk P) {kt : TypeId} {agg : Bool} {ks : List LK} (h : keyKs E kt = some (agg, ks)) {g : Gh} {w : World} {x : AV} {u : Value} (hx : Rel g w x u) (hk : (eqKey (agg, ks) x x).isSome = true) (em : Bool) :
    (Instr.checkKey em 10000 kt u).run P w = .ok () w := by
  obtain ⟨p1, p2, p3⟩ := keyKs_plain hE hQ h
  obtain ⟨b, hb⟩ := Option.isSome_iff_exists.1 hk
  obtain ⟨us, vs, ku, kv, heq⟩ := eqKey_rel hE hQ h hb hx hx
  rw [ku.val]
  exact checkKey_plain em 4 10000 (by decide) kt ks p1 us w ku.leafs

/-- the key that stays -/
theorem stays_run (hE : E.Fits P) (hQ : E.EqOk P) {kt : TypeId} {agg : Bool} {ks : List LK} (h : keyKs E kt = some (agg, ks)) {g : Gh} {w : World} {x y : AV} {u v : Value} (hb : eqKey (agg, ks) x y = some true) (hx : Rel g w x u) (hy : Rel g w y v) :
    (Instr.keyThatStays v u).run P w = .ok u w := by
  obtain ⟨p1, p2, p3⟩ := keyKs_plain hE hQ h
  obtain ⟨us, vs, ku, kv, heq⟩ := eqKey_rel hE hQ h hb hx hy
  have := eqVs_eq ku.leafs kv.leafs heq
  subst this
  have huv : v = u := kv.val.trans ku.val.symm
  subst huv
  have hsb : Instr.sameBits 10000 v v = true := by
    rw [ku.val]
    unfold valOf
    split
    · show Instr.sameBits (9999 + 1) _ _ = true
      simp only [Instr.sameBits, beq_self_eq_true, Bool.true_and]
      have hz : ∀ (l : List Value) (a b : Value), (a, b) ∈ l.zip l → a = b ∧ a ∈ l := by
        intro l
        induction l with
        | nil => intro a b h; exact nomatch h
        | cons c l ih =>
          intro a b h
          rcases List.mem_cons.1 h with h | h
          · cases h; exact ⟨rfl, by simp⟩
          · exact ⟨(ih a b h).1, by simp [(ih a b h).2]⟩
      refine List.all_eq_true.2 fun p hp => ?_
      obtain ⟨a, b⟩ := p
      obtain ⟨h1, h2⟩ := hz _ a b hp
      subst h1
      exact sameBits_leafs ku.leafs a (by simpa using h2) 9999
    · rename_i ha
      obtain ⟨a, rfl⟩ : ∃ a, us = [a] := List.length_eq_one_iff.1 ((leafsV_len ku.leafs).trans (plainB_leaf p1 (by simpa using ha)))
      exact sameBits_leafs ku.leafs a (by simp) 10000
  simp [Instr.keyThatStays, hsb]

/-- a new map -/
theorem new_map {B : Nat → Prop} {g : Gh} {w : World} {σ : Nat → VObj} {id : Nat} (hs : RelS B g w σ) (hB : ∀ b, w.heap.size ≤ b → B b) (hg : σ id = .gone) (kt vt : TypeId) :
    ∃ g', Ext B g w g' (w.alloc (.map #[] 0)) ∧ RelS B g' (w.alloc (.map #[] 0)) (updF σ id (.map kt vt [])) ∧ Rel g' (w.alloc (.map #[] 0)) (.map id) (.map (some w.heap.size)) := by
  have hgone := hs.obj id
  rw [hg] at hgone
  let g' : Gh := { g with loc := updF g.loc id (some (w.heap.size, 0)) }
  have hl' : ∀ j, j ≠ id → g'.loc j = g.loc j ∧ g'.hdr j = g.hdr j := fun j h => ⟨updF_other _ _ h, rfl⟩
  have hloc : g'.loc id = some (w.heap.size, 0) := updF_same _ _ _
  have hE : Ext B g w g' (w.alloc (.map #[] 0)) := Ext.allocO (Low.allocM w _ _) hB (fun _ _ _ => Iff.rfl) hs.sb (fun j x h => by
      by_cases hj : j = id
      · subst hj; rw [hgone.1] at h; exact nomatch h
      · exact (hl' j hj).1.trans h) (fun j ver h e => ⟨ver, h, e, Nat.le_refl _, fun _ => rfl⟩)
  refine ⟨g', hE, ?_, .map hloc⟩
  refine hs.upd hE hl' (fun j b _ hk => ⟨heap_alloc_lt (hs.lt hk), fun _ => Iff.rfl⟩) ?_ ?_ (fun b x h => by
    have := hs.sb b x h
    simp; omega)
  · refine ⟨hgone.2, w.heap.size, 0, #[], hloc, by simp, ?_, rfl, fun i x e h => by simp at h, fun x h => (nomatch h), fun x h => ?_⟩
    · show (w.heap.push _)[w.heap.size]? = _; simp
    · exact absurd (hs.sb _ _ h) (Nat.lt_irrefl _)
  · rintro b (⟨o, h⟩ | ⟨v, o, l, c', h, _⟩)
    · rw [hloc] at h; cases h
      exact ⟨hB _ (Nat.le_refl _), fun j _ hk => absurd (hs.lt hk) (Nat.lt_irrefl _)⟩
    · have : g.hdr id = _ := h
      rw [hgone.2] at this; exact nomatch this

def setB (w : World) (b : Nat) (o : Obj) : World := { w with heap := w.heap.setIfInBounds b o }

/-- a map is written -/
theorem set_map {B : Nat → Prop} {g : Gh} {w : World} {σ : Nat → VObj} {id b clock : Nat} {kt vt : TypeId} {es es' : List (AV × AV)} {en en' : Array MapEntry} {clock' : Nat} (hs : RelS B g w σ) (ho : σ id = .map kt vt es)
    (hl : g.loc id = some (b, 0)) (hm : w.heap[b]? = some (.map en clock)) (h5 : es'.length = en'.size) (h6 : ∀ (i : Nat) (x : AV × AV) (e : MapEntry), es'[i]? = some x → en'[i]? = some e → Rel g w x.1 e.key ∧ Rel g w x.2 e.val)
    (h7 : ∀ x ∈ es', x.1.flat = true ∧ x.2.flat = true) : Ext B g w g (setB w b (.map en' clock')) ∧ RelS B g (setB w b (.map en' clock')) (updF σ id (.map kt vt es')) := by
  have hobj := hs.obj id
  rw [ho] at hobj
  obtain ⟨k1, b', c0, en0, k2, k3, k4, k5, k6, k7, k8⟩ := hobj
  rw [hl] at k2; cases k2
  have hset := MapKept.heap_set (o' := Obj.map en' clock') hm
  have hb : B b := hs.inB id b (.inl ⟨0, hl⟩)
  have hE : Ext B g w g (setB w b (.map en' clock')) :=
    { size := by simp [setB]
      stab := fun _ _ h => h
      same := fun b2 o h => by
        refine cell?_of_heap ?_
        have : b2 ≠ b := fun e => k8 o (e ▸ h)
        exact hset.2 b2 this
      keep := fun b2 hn => hset.2 b2 fun e => hn (e ▸ hb)
      keepS := fun _ _ _ h => h
      loc := fun _ _ h => h
      hdr := fun _ ver h e => ⟨ver, h, e, Nat.le_refl _, fun _ => rfl⟩
      low := ⟨rfl, rfl, rfl, fun a => by
        by_cases e : a.block = b
        · have e1 := hset.1
          rw [← e] at e1 hm
          simp only [World.frozen?, setB, e1, hm, ← e]
        · exact frozen?_of_heap (hset.2 _ e)⟩ }
  refine ⟨hE, hs.upd hE (fun _ _ => ⟨rfl, rfl⟩) (fun j b2 hj hk => ⟨hset.2 b2 fun e => hj (hs.apart j id b2 hk (.inl ⟨0, e ▸ hl⟩)), fun _ => Iff.rfl⟩) ?_ (fun b2 hk => ⟨hs.inB id b2 hk, fun j hj hk' => hj (hs.apart j id b2 hk' hk)⟩) (fun b2 x h => by
    have := hs.sb b2 x h
    simpa [setB] using this)⟩
  exact ⟨k1, b, clock', en', hl, by simpa [setB] using k3, hset.1, h5, fun i x e hx he => ⟨(h6 i x e hx he).1.mono hE, (h6 i x e hx he).2.mono hE⟩, h7, k8⟩

theorem ti_map (hE : E.Fits P) {ty' : TypeId} {kt vt n b : Nat} {z : List AV} (e : E.ti ty' = ⟨.map kt vt, n, b, z⟩) : P.underlying ty' = some (.map kt vt) := by
  obtain ⟨i, d, zv, h1, h2, _, _, _, h6, _⟩ := ti_at hE e (.inl (by simp))
  cases d <;> simp [tkOf] at h6
  rw [h2, h6.1, h6.2]

theorem s_makeMap (hE : E.Fits P) {ty' : TypeId} {kt vt n b : Nat} {z : List AV} (e : E.ti ty' = ⟨.map kt vt, n, b, z⟩) {r : Option Operand} (hr : r = none ∨ ∃ x k m, r = some x ∧ evV t x = .int k m) :
    OpSem P ⟨dst, .makeMap ty' r, ty, pos, after, guard⟩ t s (.map s.length) (setO s s.length (.map 0 0 [])) ⟨[], [s.length]⟩ := by
  refine .val (fun id hid => getO_setO_out hid) fun B g w a σ hB hx hσ hs => ?_
  obtain ⟨g', e1, r1, v1⟩ := new_map hs hB ((hσ s.length (by simp)).trans (getO_len s)) 0 0
  refine ⟨g', _, _, ?_, e1, by rw [over_one]; exact r1, v1⟩
  rcases hr with rfl | ⟨x, k, m, rfl, hxv⟩
  · simp only [execOp, Option.map_none, Instr.makeMap, Sem.run_bind, Sem.run_pure, Result.andThen_ok, run_alloc']
  · have hv := rel_int (hxv ▸ hx x (by simp [Op.operands]))
    simp only [execOp, Option.map_some, hv, Instr.makeMap, Sem.run_bind, run_underlying' (ti_map hE e), asInt, asIntOf, Sem.run_pure, Result.andThen_ok, run_alloc']

theorem zero_rel (hE : E.Fits P) {vt : TypeId} {vk : TK} {n2 b2 : Nat} {z : AV} {z2 : List AV} (e2 : E.ti vt = ⟨vk, n2, b2, z :: z2⟩) (hz1 : vk.isAgg = false → (z :: z2).length = 1) :
    ∃ zv, (∀ w, (zeroValue vt).run P w = .ok zv w) ∧ ∀ g w, Rel g w (mkv vk.isAgg (z :: z2)) zv := by
  obtain ⟨i, d, zv, h1, h2, h3, h4, h5, h6, h7, h8, h9⟩ := ti_at hE e2 (.inr (.inr (by simp)))
  have hsh := ti_shape hE (by rw [e2]; simp) h1 h2 h3
  rw [← h6] at hsh
  refine ⟨zv, fun w => run_zeroValue' h1 h3 w, fun g w => ?_⟩
  have hr : RelC g w (z :: z2) zv.cells := by rw [h9]; exact relC_lits _
  cases ha : vk.isAgg with
  | true =>
    rw [ha] at hsh
    cases zv <;> simp [isAggV] at hsh
    exact .agg hr.size hr.rel
  | false =>
    rw [ha] at hsh
    have hz1 := hz1 ha
    have : zv.cells = #[zv] := by cases zv <;> first | rfl | exact nomatch hsh
    rw [this] at hr
    have hz2 : z2 = [] := by simpa using hz1
    subst hz2
    exact hr.rel 0 z zv rfl rfl

theorem unkb_lookV {g : Gh} {w : World} {ok : Bool} {z : AV} {r : Option AV} {v : Value} (h : Rel g w (lookV ok z r) v) : Rel g w (unkb (lookV ok z r)) v := h.unkb

theorem s_lookup_nil (hE : E.Fits P) (hQ : E.EqOk P) {ty' : TypeId} {kt vt n b n2 b2 : Nat} {z : List AV} {z1 : AV} {z2 : List AV} {vk : TK} {agg : Bool} {ks : List LK} {x i : Operand} {ok : Bool} (e : E.ti ty' = ⟨.map kt vt, n, b, z⟩) (hks : keyKs E kt = some (agg, ks))
    (e2 : E.ti vt = ⟨vk, n2, b2, z1 :: z2⟩) (hz1 : vk.isAgg = false → (z1 :: z2).length = 1) (hx : evV t x = .nilmap) (hk : hasKs (agg, ks) (evV t i) []) :
    OpSem P ⟨dst, .lookup ty' x i ok, ty, pos, after, guard⟩ t s (lookV ok (mkv vk.isAgg (z1 :: z2)) none) s fp0 := by
  refine .same fun B g w a σ hB hh hσ hs => ?_
  obtain ⟨zv, hz, hzr⟩ := zero_rel hE e2 hz1
  have hm : a.eval x = .map none := by
    have := hx ▸ hh x (by simp [Op.operands])
    generalize a.eval x = q at this
    cases this; rfl
  have hi := hh i (by simp [Op.operands])
  have hc := check_run hE hQ hks hi hk.1
  have hf := find_run hE hQ hks hi [] [] rfl (fun i x e h => by simp at h) hk.2
  refine ⟨if ok = true then .tuple #[zv, .bool false] else zv, by simp only [execOp, Instr.lookup, Sem.run_bind, run_underlying' (ti_map hE e), Result.andThen_ok, hm, Sem.run_pure, hc]; erw [hf]; simp only [findI, Result.andThen_ok, Sem.run_bind, hz, Sem.run_pure], ?_⟩
  refine Rel.unkb ?_
  cases ok with
  | true =>
    refine .tuple rfl fun i x v hx hv => ?_
    match i with
    | 0 => cases hx; cases hv; exact hzr g w
    | 1 => cases hx; cases hv; exact .bool false
    | i + 2 => simp at hx
  | false => exact hzr g w

theorem s_lookup (hE : E.Fits P) (hQ : E.EqOk P) {ty' : TypeId} {kt vt n b n2 b2 id kt' vt' : Nat} {z : List AV} {z1 : AV} {z2 : List AV} {vk : TK} {agg : Bool} {ks : List LK} {x i : Operand} {ok : Bool} {es : List (AV × AV)} {q : Option AV} (e : E.ti ty' = ⟨.map kt vt, n, b, z⟩) (hks : keyKs E kt = some (agg, ks))
    (e2 : E.ti vt = ⟨vk, n2, b2, z1 :: z2⟩) (hz1 : vk.isAgg = false → (z1 :: z2).length = 1) (hx : evV t x = .map id) (ho : getO s id = .map kt' vt' es) (hk : hasKs (agg, ks) (evV t i) es) (hq : findK (agg, ks) (evV t i) es = q) :
    OpSem P ⟨dst, .lookup ty' x i ok, ty, pos, after, guard⟩ t s (lookV ok (mkv vk.isAgg (z1 :: z2)) q) s ⟨[id], []⟩ := by
  refine .same fun B g w a σ hB hh hσ hs => ?_
  obtain ⟨zv, hz, hzr⟩ := zero_rel hE e2 hz1
  obtain ⟨b', hl, hm⟩ := inv_map (hx ▸ hh x (by simp [Op.operands]))
  have hobj := hs.obj id
  rw [hσ id (by simp), ho] at hobj
  obtain ⟨_, b0, clock, en, k2, k3, k4, k5, k6, k7, k8⟩ := hobj
  rw [hl] at k2; cases k2
  have hi := hh i (by simp [Op.operands])
  have hc := fun em => check_run hE hQ hks hi hk.1 em
  have hf := find_run hE hQ hks hi es en.toList (by simpa using k5) (fun i x e h1 h2 => (k6 i x e h1 (by simpa using h2)).1) hk.2
  subst hq
  rw [findI_K]
  cases hfi : findI (agg, ks) (evV t i) es with
  | none =>
    rw [hfi] at hf
    refine ⟨if ok = true then .tuple #[zv, .bool false] else zv, by simp only [execOp, Instr.lookup, Sem.run_bind, run_underlying' (ti_map hE e), Result.andThen_ok, hm, Sem.run_pure, MapKept.run_getObj_map k4, hc]; erw [hf]; simp only [Result.andThen_ok, Sem.run_bind, hz, Sem.run_pure], ?_⟩
    refine Rel.unkb ?_
    cases ok with
    | true =>
      refine .tuple rfl fun i x v hx hv => ?_
      match i with
      | 0 => cases hx; cases hv; exact hzr g w
      | 1 => cases hx; cases hv; exact .bool false
      | i + 2 => simp at hx
    | false => exact hzr g w
  | some j =>
    rw [hfi] at hf
    obtain ⟨e1, he1, _⟩ := findI_spec _ _ _ _ hfi
    have hj : j < en.size := by have := (List.getElem?_eq_some_iff.1 he1).1; omega
    have hm2 : en[j]? = some en[j] := Array.getElem?_eq_getElem hj
    have hm3 : en.toList[j]? = some en[j] := by simpa using hm2
    simp only [hm3, Option.map_some] at hf
    have hv := (k6 j e1 _ he1 hm2).2
    refine ⟨if ok = true then .tuple #[en[j].val, .bool true] else en[j].val, by simp only [execOp, Instr.lookup, Sem.run_bind, run_underlying' (ti_map hE e), Result.andThen_ok, hm, Sem.run_pure, MapKept.run_getObj_map k4, hc]; erw [hf]; simp only [Result.andThen_ok, Sem.run_bind, hz, Sem.run_pure], ?_⟩
    refine Rel.unkb ?_
    simp only [Option.bind_some, he1, Option.map_some]
    cases ok with
    | true =>
      refine .tuple rfl fun i x v hx hv' => ?_
      match i with
      | 0 => cases hx; cases hv'; exact hv
      | 1 => cases hx; cases hv'; exact .bool true
      | i + 2 => simp at hx
    | false => exact hv

/-- keys that are compared are plain -/
theorem eqLeafs_pure {ks : List LK} {cs ds : List AV} {b : Bool} (h : eqLeafs ks cs ds = some b) : ∀ c ∈ cs, c.pure = true := by
  induction ks generalizing cs ds b with
  | nil => cases cs with
    | nil => intro c hc; exact nomatch hc
    | cons c cs => exact nomatch h
  | cons k ks ih =>
    cases cs with
    | nil => intro c hc; exact nomatch hc
    | cons c cs =>
      cases ds with
      | nil => cases k <;> cases c <;> exact nomatch h
      | cons d ds =>
      unfold eqLeafs at h
      split at h
      · rename_i h' _ _; exact nomatch h'
      · rename_i e0 e1 e2; cases e0; cases e1; cases e2
        split at h
        · split at h
          · rename_i r hr; exact List.forall_mem_cons.2 ⟨rfl, ih hr⟩
          · exact nomatch h
        · exact nomatch h
      · rename_i e0 e1 e2; cases e0; cases e1; cases e2
        split at h
        · rename_i r hr; exact List.forall_mem_cons.2 ⟨rfl, ih hr⟩
        · exact nomatch h
      · rename_i e0 e1 e2; cases e0; cases e1; cases e2
        split at h
        · rename_i r hr; exact List.forall_mem_cons.2 ⟨rfl, ih hr⟩
        · exact nomatch h
      · exact nomatch h

theorem eqKey_flat {ks : Bool × List LK} {x y : AV} (h : (eqKey ks x y).isSome = true) : x.flat = true := by
  obtain ⟨b, h⟩ := Option.isSome_iff_exists.1 h
  obtain ⟨agg, ks⟩ := ks
  cases agg with
  | true =>
    simp only [eqKey] at h
    split at h
    · exact List.all_eq_true.2 (eqLeafs_pure h)
    · exact nomatch h
  | false =>
    simp only [eqKey] at h
    split at h
    · exact nomatch h
    · exact nomatch h
    · rename_i h1 h2
      have := eqLeafs_pure h x (by simp)
      cases x <;> first | exact this | exact (h1 _ rfl).elim

theorem set_list {α : Type} {l : List α} {i j : Nat} {x y : α} (h : (l.set i x)[j]? = some y) : (j = i ∧ y = x) ∨ l[j]? = some y := by
  rw [List.getElem?_set] at h
  split at h
  · split at h
    · cases h; exact .inl ⟨by omega, rfl⟩
    · exact nomatch h
  · exact .inr h

theorem s_mapPut (hE : E.Fits P) (hQ : E.EqOk P) {ty' : TypeId} {kt vt n b id kt' vt' : Nat} {z : List AV} {agg : Bool} {ks : List LK} {m k v : Operand} {es : List (AV × AV)} {op : Op} (hop : op = .mapUpdate ty' m k v ∨ op = .insert ty' m k v) (e : E.ti ty' = ⟨.map kt vt, n, b, z⟩) (hks : keyKs E kt = some (agg, ks))
    (hx : evV t m = .map id) (ho : getO s id = .map kt' vt' es) (hk : hasKs (agg, ks) (evV t k) es) (h1 : (evV t v).cells.all AV.oneC = true) (h2 : id ∉ cellsRefs (evV t v).cells) :
    OpSem P ⟨dst, op, ty, pos, after, guard⟩ t s (.tuple []) (setO (freeze s (cellsRefs (evV t v).cells)) id (.map kt' vt' (putM (agg, ks) (evV t k) (recell (evV t v) ((evV t v).cells.map (nrm s))) es))) ⟨[], id :: cellsRefs (evV t v).cells⟩ := by
  refine .skip (fun j hj => ?_) fun B g w a σ hB hh hσ hs => ?_
  · simp only [List.mem_cons, not_or] at hj
    rw [getO_setO, if_neg hj.1, getO_freeze, if_neg hj.2]
  have hmem : ∀ o, o = m ∨ o = k ∨ o = v → o ∈ op.operands := fun o ho => by
    rcases hop with rfl | rfl <;> simpa [Op.operands] using ho
  obtain ⟨b', hl, hm⟩ := inv_map (hx ▸ hh m (hmem m (.inl rfl)))
  have hki := hh k (hmem k (.inr (.inl rfl)))
  have hvi := hh v (hmem v (.inr (.inr rfl)))
  have hd : evV t v ≠ .dead := fun h => by rw [h] at h1; exact nomatch h1
  obtain ⟨g1, e1, r1, c1, l1, k1⟩ := freeze_cells (s := s) hs (fun j hj => hσ j (by simp [hj])) (rel_cells hvi hd)
  have hσid : σ id = .map kt' vt' es := (hσ id (by simp)).trans ho
  have hid1 : over σ (getO (freeze s (cellsRefs (evV t v).cells))) (cellsRefs (evV t v).cells) id = .map kt' vt' es := by
    unfold over; rw [if_neg h2]; exact hσid
  have hobj := r1.obj id
  rw [hid1] at hobj
  obtain ⟨_, b0, clock, en, k2, k3, k4, k5, k6, k7, k8⟩ := hobj
  have hl1 : g1.loc id = some (b', 0) := by rw [l1]; exact hl
  rw [hl1] at k2; cases k2
  have hki := hki.mono e1
  have hvi := hvi.mono e1
  -- the value, once it is frozen
  have hnv : Rel g1 w (recell (evV t v) ((evV t v).cells.map (nrm s))) (a.eval v) := by
    by_cases ho1 : (evV t v).oneC = true
    · obtain ⟨q1, q2, _⟩ := cells_one hvi ho1
      have : recell (evV t v) ((evV t v).cells.map (nrm s)) = nrm s (evV t v) := by
        rw [q1]
        cases hev : evV t v <;> first | rfl | (rw [hev] at ho1; exact nomatch ho1)
      rw [this]
      rw [q1, q2] at c1
      exact c1.rel 0 _ _ rfl rfl
    · cases hev : evV t v with
      | agg cs =>
        rw [hev] at hvi c1
        obtain ⟨vs, v1, v2, v3⟩ := inv_agg hvi
        rw [v3] at c1 ⊢
        exact .agg c1.size c1.rel
      | _ => rw [hev] at h1 ho1; simp_all [AV.cells]
  have hflat : (recell (evV t v) ((evV t v).cells.map (nrm s))).flat = true := by
    by_cases ho1 : (evV t v).oneC = true
    · obtain ⟨q1, q2, _⟩ := cells_one hvi ho1
      have : recell (evV t v) ((evV t v).cells.map (nrm s)) = nrm s (evV t v) := by
        rw [q1]
        cases hev : evV t v <;> first | rfl | (rw [hev] at ho1; exact nomatch ho1)
      rw [this]
      have := nrm_pure s (evV t v)
      cases hn : nrm s (evV t v) <;> rw [hn] at this <;> first | exact this | exact nomatch this
    · cases hev : evV t v with
      | agg cs =>
        refine List.all_eq_true.2 fun x hx => ?_
        obtain ⟨y, _, rfl⟩ := List.mem_map.1 hx
        exact nrm_pure s y
      | _ => rw [hev] at h1 ho1; simp_all [AV.cells]
  have hkf : (evV t k).flat = true := eqKey_flat hk.1
  have hc := fun em => check_run hE hQ hks hki hk.1 em
  have hf := find_run hE hQ hks hki es en.toList (by simpa using k5) (fun i x e h1 h2 => (k6 i x e h1 (by simpa using h2)).1) hk.2
  have hset : ∀ o : Obj, (setObj b' o).run P w = .ok () (setB w b' o) := fun o => MapKept.run_setObj_map o k4
  have hover : ∀ o, over σ (getO (setO (freeze s (cellsRefs (evV t v).cells)) id o)) (id :: cellsRefs (evV t v).cells) = updF (over σ (getO (freeze s (cellsRefs (evV t v).cells))) (cellsRefs (evV t v).cells)) id o := fun o => by
    funext j
    unfold over updF
    rw [getO_setO]
    by_cases hj : j = id
    · simp [hj]
    · simp [hj]
  rw [hover]
  have hexec : ∀ w', (Instr.mapUpdate ty' (a.eval m) (a.eval k) (a.eval v)).run P w = .ok () w' → (execOp a.eval ⟨dst, op, ty, pos, after, guard⟩).run P w = .ok .skip w' := fun w' h => by
    rcases hop with rfl | rfl
    · simp only [execOp, Sem.run_bind, h, Result.andThen_ok, Sem.run_pure]
    · simp only [execOp, Sem.run_bind, h, Result.andThen_ok, Sem.run_pure]
  rw [findI_put]
  cases hfi : findI (agg, ks) (evV t k) es with
  | none =>
    rw [hfi] at hf
    obtain ⟨q1, q2⟩ := set_map (es' := es ++ [(evV t k, recell (evV t v) ((evV t v).cells.map (nrm s)))]) (en' := en.push { key := a.eval k, val := a.eval v, born := clock }) (clock' := clock + 1) r1 hid1 hl1 k4 (by simp [k5]) (fun i x e hx he => by
      rw [List.getElem?_append] at hx
      rw [Array.getElem?_push] at he
      by_cases hi : i < es.length
      · rw [if_pos hi] at hx
        rw [if_neg (by omega)] at he
        exact k6 i x e hx he
      · rw [if_neg hi] at hx
        have : i = es.length := by have := (List.getElem?_eq_some_iff.1 hx).1; simp at this; omega
        rw [if_pos (by omega)] at he
        subst this
        simp at hx
        cases hx; cases he
        exact ⟨hki, hnv⟩) (fun x hx => by
      rcases List.mem_append.1 hx with hx | hx
      · exact k7 x hx
      · simp at hx; subst hx; exact ⟨hkf, hflat⟩)
    refine ⟨g1, _, hexec _ ?_, e1.trans q1, q2⟩
    simp only [Instr.mapUpdate, Sem.run_bind, run_underlying' (ti_map hE e), Result.andThen_ok, hm, MapKept.run_getObj_map k4, hc]
    erw [hf]
    simp only [Result.andThen_ok, hset]
  | some j =>
    rw [hfi] at hf
    obtain ⟨e0, he0, heq⟩ := findI_spec _ _ _ _ hfi
    have hj : j < en.size := by have := (List.getElem?_eq_some_iff.1 he0).1; omega
    have hm2 : en[j]? = some en[j] := Array.getElem?_eq_getElem hj
    have hm3 : en.toList[j]? = some en[j] := by simpa using hm2
    simp only [hm3, Option.map_some] at hf
    have hst := stays_run hE hQ hks heq hki (k6 j e0 _ he0 hm2).1
    obtain ⟨q1, q2⟩ := set_map (es' := es.set j (evV t k, recell (evV t v) ((evV t v).cells.map (nrm s)))) (en' := en.modify j fun e => { e with key := a.eval k, val := a.eval v }) (clock' := clock) r1 hid1 hl1 k4 (by simp [k5]) (fun i x e hx he => by
      rw [Array.getElem?_modify] at he
      rw [List.getElem?_set] at hx
      by_cases hi : j = i
      · subst hi
        rw [if_pos rfl] at he hx
        rw [if_pos (by omega)] at hx
        rw [hm2] at he
        cases hx; cases he
        exact ⟨hki, hnv⟩
      · rw [if_neg hi] at he hx
        exact k6 i x e hx he) (fun x hx => by
      rcases List.mem_or_eq_of_mem_set hx with hx | hx
      · exact k7 x hx
      · subst hx; exact ⟨hkf, hflat⟩)
    refine ⟨g1, _, hexec _ ?_, e1.trans q1, q2⟩
    simp only [Instr.mapUpdate, Sem.run_bind, run_underlying' (ti_map hE e), Result.andThen_ok, hm, MapKept.run_getObj_map k4, hc]
    erw [hf]
    simp only [Result.andThen_ok, Sem.run_bind, hm2, Option.map_some, Option.getD_some, hst, hset]

theorem s_delete (hE : E.Fits P) (hQ : E.EqOk P) {args : Array Operand} {argTypes : Array TypeId} {ty' : TypeId} {rest : List TypeId} {kt vt n b id kt' vt' : Nat} {z : List AV} {agg : Bool} {ks : List LK} {k : AV} {es : List (AV × AV)} (ha : args.toList.map (evV t) = [.map id, k]) (hT : argTypes.toList = ty' :: rest)
    (e : E.ti ty' = ⟨.map kt vt, n, b, z⟩) (hks : keyKs E kt = some (agg, ks)) (ho : getO s id = .map kt' vt' es) (hk : hasKs (agg, ks) k es) :
    OpSem P ⟨dst, .call { callee := .builtin .delete, args := args, argTypes := argTypes }, ty, pos, after, guard⟩ t s (.tuple []) (setO s id (.map kt' vt' (delM (agg, ks) k es))) ⟨[], [id]⟩ := by
  refine .val (fun j hj => getO_setO_out hj) fun B g w a σ hB hh hσ hs => ?_
  rw [over_one]
  obtain ⟨o1, o2, rfl, hx, hx2⟩ := args_two ha
  have hT0 : argTypes[0]? = some ty' := by
    rw [← Array.getElem?_toList, hT]; rfl
  obtain ⟨b', hl, hm⟩ := inv_map (hx ▸ hh o1 (by simp [Op.operands, Call.operands]))
  have hki := hx2 ▸ hh o2 (by simp [Op.operands, Call.operands])
  have hσid : σ id = .map kt' vt' es := (hσ id (by simp)).trans ho
  have hobj := hs.obj id
  rw [hσid] at hobj
  obtain ⟨_, b0, clock, en, k2, k3, k4, k5, k6, k7, k8⟩ := hobj
  rw [hl] at k2; cases k2
  have hc := fun em => check_run hE hQ hks hki hk.1 em
  have hf := find_run hE hQ hks hki es en.toList (by simpa using k5) (fun i x e h1 h2 => (k6 i x e h1 (by simpa using h2)).1) hk.2
  have hset : ∀ o : Obj, (setObj b' o).run P w = .ok () (setB w b' o) := fun o => MapKept.run_setObj_map o k4
  rw [findI_del]
  have hpre : ∀ w', (setObj b' (.map (match findI (agg, ks) k es with | some j => en.eraseIdxIfInBounds j | none => en) clock)).run P w = .ok () w' →
      (builtin .delete argTypes ty (#[o1, o2].map fun | .const _ => true | _ => false) (#[o1, o2].map a.eval)).run P w = .ok (.value (.tuple #[])) w' := fun w' hw => by
    simp only [builtin, Builtin.delete_, List.map_toArray, List.map_cons, List.map_nil, hT0, List.getElem?_toArray, List.getElem?_cons_zero, List.getElem?_cons_succ, Sem.run_bind, run_underlying' (ti_map hE e), Result.andThen_ok, hm, MapKept.run_getObj_map k4, hc]
    erw [hf]
    cases hfi : findI (agg, ks) k es with
    | none => rw [hfi] at hw; simp only [Result.andThen_ok, hw, Sem.run_bind, Sem.run_pure]
    | some j =>
      rw [hfi] at hw
      obtain ⟨e0, he0, heq⟩ := findI_spec _ _ _ _ hfi
      have hj : j < en.size := by have := (List.getElem?_eq_some_iff.1 he0).1; omega
      have hm3 : en.toList[j]? = some en[j] := by simp [hj]
      simp only [hm3, Option.map_some, Result.andThen_ok, hw, Sem.run_bind, Sem.run_pure]
  cases hfi : findI (agg, ks) k es with
  | none =>
    obtain ⟨q1, q2⟩ := set_map (es' := es) (en' := en) (clock' := clock) hs hσid hl k4 k5 k6 k7
    refine ⟨g, _, _, run_builtin (v := .tuple #[]) (hpre _ (by rw [hfi]; exact hset _)), q1, q2, .tuple rfl fun i x v h => by simp at h⟩
  | some j =>
    obtain ⟨e0, he0, heq⟩ := findI_spec _ _ _ _ hfi
    have hj : j < en.size := by have := (List.getElem?_eq_some_iff.1 he0).1; omega
    obtain ⟨q1, q2⟩ := set_map (es' := es.eraseIdx j) (en' := en.eraseIdxIfInBounds j) (clock' := clock) hs hσid hl k4 (by
      rw [List.length_eraseIdx, if_pos (by omega)]
      simp [Array.eraseIdxIfInBounds, hj, k5]) (fun i x e hx he => by
      have he : (en.toList.eraseIdx j)[i]? = some e := by
        rw [← Array.getElem?_toList] at he
        simpa [Array.eraseIdxIfInBounds, hj] using he
      rw [List.getElem?_eraseIdx] at hx he
      by_cases hi : i < j
      · rw [if_pos hi] at hx he
        exact k6 i x e hx (by simpa using he)
      · rw [if_neg hi] at hx he
        exact k6 (i + 1) x e hx (by simpa using he)) (fun x hx => k7 x (List.mem_of_mem_eraseIdx hx))
    refine ⟨g, _, _, run_builtin (v := .tuple #[]) (hpre _ (by rw [hfi]; exact hset _)), q1, q2, .tuple rfl fun i x v h => by simp at h⟩

end
end Go.Proofs.Ytmapiefbnjaikaa.Vm
/- Soundness of the evaluator of operations. -/
set_option linter.all false
namespace Go.Proofs.Ytmapiefbnjaikaa.Vm
open Go

section
variable {P : Program} {E : Env} {t : List AV} {s : List VObj} {dst : Option Tmp} {ty : TypeId} {pos : String} {after : Array Edge} {guard : Option (Nat × Bool)}
variable {K : OpOut → Prop} {R : AV → List VObj → FP → Prop}

/-- what is to be shown of an operation -/
abbrev Goal (P : Program) (dst : Option Tmp) (op : Op) (ty : TypeId) (pos : String) (after : Array Edge) (guard : Option (Nat × Bool)) (t : List AV) (s : List VObj) (R : AV → List VObj → FP → Prop) : Prop :=
  ∃ v s2 fp, OpSem P ⟨dst, op, ty, pos, after, guard⟩ t s v s2 fp ∧ R v s2 fp

theorem v_pick (hK : ∀ out, K out → OpHolds P out R) {c a b : Operand} (h : vval E K dst (.pick c a b) t s) : Goal P dst (.pick c a b) ty pos after guard t s R := by
  simp only [vval, evG_eq] at h
  have hc := unkb_evGv t c
  split at h
  · rename_i q hq
    rw [hq] at hc
    have hs := s_pick (P := P) (s := s) (dst := dst) (ty := ty) (pos := pos) (after := after) (guard := guard) (a := a) (b := b) hc.symm
    split at h
    · exact ⟨_, _, _, hs, hK _ h⟩
    · exact ⟨_, _, _, hs, hK _ h⟩
  · rename_i q hq
    rw [hq] at hc
    have hs := s_pick' (P := P) (s := s) (dst := dst) (ty := ty) (pos := pos) (after := after) (guard := guard) (a := a) (b := b) hc.symm
    simp only [evK_eq] at h
    split at h
    · rename_i x y hx hy
      rw [hx, hy] at hs
      refine ⟨_, _, _, hs, ?_⟩
      have := hK _ h
      cases q <;> exact this
    · have h' := hK _ h
      cases q
      · exact ⟨_, _, _, hs, h'.2 rfl⟩
      · exact ⟨_, _, _, hs, h'.1 rfl⟩
  · exact (hK _ h).elim

theorem v_build (hE : E.Fits P) (hK : ∀ out, K out → OpHolds P out R) {ty' : TypeId} {parts : Array (Nat × Operand)} (h : vval E K dst (.build ty' parts) t s) : Goal P dst (.build ty' parts) ty pos after guard t s R := by
  have hF : ¬ K .fail := fun h => hK _ h
  simp only [vval] at h
  split at h
  · rename_i fs m b z e1
    split at h
    · exact (hF h).elim
    · rename_i hfs
      rw [evPK_eq] at h
      obtain ⟨cs, hL, hs⟩ := s_build_struct (P := P) (dst := dst) (ty := ty) (pos := pos) (after := after) (guard := guard) (s := s) hF hE e1 hfs h
      exact ⟨_, _, _, hs, hK _ hL⟩
  · rename_i e m b n z e1
    split at h
    · exact (hF h).elim
    · rename_i hfs
      rw [evPK_eq] at h
      obtain ⟨cs, hL, hs⟩ := s_build_arr (P := P) (dst := dst) (ty := ty) (pos := pos) (after := after) (guard := guard) (s := s) hF hE e1 hfs h
      exact ⟨_, _, _, hs, hK _ hL⟩
  · exact (hF h).elim

theorem v_buildSlice (hE : E.Fits P) (hK : ∀ out, K out → OpHolds P out R) {ty' : TypeId} {len : Nat} {parts : Array (Nat × Operand)} (h : vval E K dst (.buildSlice ty' len parts) t s) : Goal P dst (.buildSlice ty' len parts) ty pos after guard t s R := by
  have hF : ¬ K .fail := fun h => hK _ h
  simp only [vval] at h
  split at h
  · rename_i e m b z e1
    cases e2 : E.ti e with
    | mk kind n by2 zero =>
    simp only [e2, forceC_eq, evPK_eq, nrmLK_eq, chunkK_eq, lenK_eq, setOK_eq, freezeK_eq] at h
    cases hb : (Nat.blt 0 n && Nat.beq zero.length n && Nat.ble (len * n) 16777216) with
    | false =>
      simp only [hb] at h
      have : ∀ (parts : List (Nat × AV)) (z : List AV), fillAV K (fun i => some (i * n, n)) z parts (fun _ => K .fail) → K .fail := by
        intro parts
        induction parts with
        | nil => intro z h; exact h
        | cons p parts ih =>
          intro z h
          obtain ⟨i, v⟩ := p
          cases v <;> first
            | exact h
            | (simp only [fillAV, forceC_eq] at h
               split at h
               · exact ih _ h
               · exact h)
      exact (hF (this _ _ h)).elim
    | true =>
      simp only [hb] at h
      simp only [Bool.and_eq_true] at hb
      obtain ⟨⟨b1, b2⟩, b3⟩ := hb
      have b1 := Nat.le_of_ble_eq_true b1
      have b2 := Nat.eq_of_beq_eq_true b2
      have b3 := Nat.le_of_ble_eq_true b3
      obtain ⟨cs, hL, hl, hc⟩ := lit_cells (P := P) (dst := dst) (ty := ty) (pos := pos) (after := after) (guard := guard) hF hE e1 e2 b1 b2 b3 h
      split at hL
      · have := s_buildSlice_arr (s := s) b1 hl hc
        rw [Nat.zero_add] at hL
        exact ⟨_, _, _, this, hK _ hL⟩
      · exact ⟨_, _, _, s_buildSlice_row (s := s) hl hc, hK _ hL⟩
  · exact (hF h).elim

theorem v_makeSlice (hE : E.Fits P) (hK : ∀ out, K out → OpHolds P out R) {ty' : TypeId} {l c : Operand} (h : vval E K dst (.makeSlice ty' l c) t s) : Goal P dst (.makeSlice ty' l c) ty pos after guard t s R := by
  have hF : ¬ K .fail := fun h => hK _ h
  simp only [vval] at h
  split at h
  · rename_i e m b z e1
    cases e2 : E.ti e with
    | mk kind n by2 zero =>
    simp only [e2, evK_eq, lenK_eq, setOK_eq] at h
    split at h
    · rename_i kn nl km nc hl hc
      cases hb : (Nat.blt 0 n && Nat.beq zero.length n && Nat.blt 0 by2) with
      | false => simp only [hb] at h; exact (hF h).elim
      | true =>
        simp only [hb] at h
        simp only [Bool.and_eq_true] at hb
        obtain ⟨⟨b1, b2⟩, b3⟩ := hb
        obtain ⟨hn, hR⟩ := hK _ h
        rw [Nat.zero_add] at hR
        exact ⟨_, _, _, s_makeSlice hE e1 e2 (Nat.le_of_ble_eq_true b1) (Nat.eq_of_beq_eq_true b2) (Nat.le_of_ble_eq_true b3) hl hc hn, hR⟩
    · exact (hF h).elim
  · exact (hF h).elim

theorem v_slice (hE : E.Fits P) (hK : ∀ out, K out → OpHolds P out R) {ty' : TypeId} {x : Operand} {lo hi mx : Option Operand} (h : vval E K dst (.slice ty' x lo hi mx) t s) : Goal P dst (.slice ty' x lo hi mx) ty pos after guard t s R := by
  have hF : ¬ K .fail := fun h => hK _ h
  simp only [vval] at h
  split at h
  · rename_i m b z e1
    rw [evK_eq] at h
    split at h
    · rename_i bs hx
      rcases intOr_inv hF h with ⟨rfl, hA⟩ | ⟨ol, kl, nl, rfl, hl, hA⟩ <;> rcases intOr_inv hF hA with ⟨rfl, hB⟩ | ⟨oh, kh, nh, rfl, hh, hB⟩ <;> (clear h hA; have h := hB; clear hB)
      · have := s_slice_str (P := P) (dst := dst) (ty := ty) (pos := pos) (after := after) (guard := guard) (s := s) (lo := none) (hi := none) (kl := .i64) (kh := .i64) hE e1 hx (.inl ⟨rfl, rfl⟩) (.inl ⟨rfl, rfl⟩) (Nat.zero_le _) (Nat.le_refl _)
        rw [List.take_length, List.drop_zero] at this
        exact ⟨_, _, _, this, hK _ h⟩
      · obtain ⟨⟨h1, h2⟩, hR⟩ := hK _ h
        obtain ⟨H, rfl⟩ := Int.eq_ofNat_of_zero_le h1
        have := s_slice_str (P := P) (dst := dst) (ty := ty) (pos := pos) (after := after) (guard := guard) (s := s) (lo := none) (hi := some oh) (L := 0) (H := H) (kl := .i64) (kh := kh) hE e1 hx (.inl ⟨rfl, rfl⟩) (.inr ⟨oh, rfl, hh⟩) (Nat.zero_le _) (by omega)
        rw [List.drop_zero] at this
        exact ⟨_, _, _, this, hR⟩
      · obtain ⟨⟨h1, h2⟩, hR⟩ := hK _ h
        obtain ⟨L, rfl⟩ := Int.eq_ofNat_of_zero_le h1
        have := s_slice_str (P := P) (dst := dst) (ty := ty) (pos := pos) (after := after) (guard := guard) (s := s) (lo := some ol) (hi := none) (L := L) (H := bs.length) (kl := kl) (kh := .i64) hE e1 hx (.inr ⟨ol, rfl, hl⟩) (.inl ⟨rfl, rfl⟩) (by omega) (Nat.le_refl _)
        rw [List.take_length] at this
        exact ⟨_, _, _, this, hR⟩
      · obtain ⟨⟨h1, h2, h3⟩, hR⟩ := hK _ h
        obtain ⟨L, rfl⟩ := Int.eq_ofNat_of_zero_le h1
        obtain ⟨H, rfl⟩ := Int.eq_ofNat_of_zero_le (Int.le_trans h1 h2)
        have := s_slice_str (P := P) (dst := dst) (ty := ty) (pos := pos) (after := after) (guard := guard) (s := s) (lo := some ol) (hi := some oh) (L := L) (H := H) (kl := kl) (kh := kh) hE e1 hx (.inr ⟨ol, rfl, hl⟩) (.inr ⟨oh, rfl, hh⟩) (by omega) (by omega)
        exact ⟨_, _, _, this, hR⟩
    · exact (hF h).elim
  · rename_i e m b z e1
    cases e2 : E.ti e with
    | mk kind size by2 zero =>
    simp only [e2] at h
    split at h
    · rename_i h0
      rw [evK_eq] at h
      cases hx : evV t x with
      | sl nn full es =>
        rw [hx] at h
        rcases intOr_inv hF h with ⟨rfl, hA⟩ | ⟨ol, kl, nl, rfl, hl, hA⟩ <;> rcases intOr_inv hF hA with ⟨rfl, hB⟩ | ⟨oh, kh, nh, rfl, hh, hB⟩ <;> rcases intOr_inv hF hB with ⟨rfl, hC⟩ | ⟨om, km, nm, rfl, hm, hC⟩ <;> (clear h hA hB; have h := hC; clear hC) <;> simp only [vslice] at h
        · have := s_slice_sl (P := P) (dst := dst) (ty := ty) (pos := pos) (after := after) (guard := guard) (s := s) (lo := none) (hi := none) (L := 0) (H := es.length) (full' := full) (kl := .i64) (kh := .i64) hE e1 e2 h0 hx (.inl ⟨rfl, rfl⟩) (.inl ⟨rfl, rfl⟩) (Nat.zero_le _) (Nat.le_refl _) (fun h => (h rfl).elim) (fun h => ⟨h, rfl⟩)
          rw [List.take_length, List.drop_zero] at this
          exact ⟨_, _, _, this, hK _ h⟩
        · exact (hF h).elim
        · obtain ⟨⟨h1, h2⟩, hR⟩ := hK _ h
          obtain ⟨H, rfl⟩ := Int.eq_ofNat_of_zero_le h1
          have := s_slice_sl (P := P) (dst := dst) (ty := ty) (pos := pos) (after := after) (guard := guard) (s := s) (lo := none) (hi := some oh) (L := 0) (H := H) (full' := false) (kl := .i64) (kh := kh) hE e1 e2 h0 hx (.inl ⟨rfl, rfl⟩) (.inr ⟨oh, rfl, hh⟩) (Nat.zero_le _) (by omega) (fun h => (h rfl).elim) nofun
          rw [List.drop_zero] at this
          exact ⟨_, _, _, this, hR⟩
        · obtain ⟨⟨h1, rfl, h2⟩, hR⟩ := hK _ h
          exact ⟨_, _, _, s_slice_full hE e1 e2 h0 hx hh hm h1 h2, hR⟩
        · obtain ⟨⟨h0', h1, h2⟩, hR⟩ := hK _ h
          obtain ⟨L, rfl⟩ := Int.eq_ofNat_of_zero_le h1
          have := s_slice_sl (P := P) (dst := dst) (ty := ty) (pos := pos) (after := after) (guard := guard) (s := s) (lo := some ol) (hi := none) (L := L) (H := es.length) (full' := full) (kl := kl) (kh := .i64) hE e1 e2 h0 hx (.inr ⟨ol, rfl, hl⟩) (.inl ⟨rfl, rfl⟩) (by omega) (Nat.le_refl _) (fun _ => h0') (fun h => ⟨h, rfl⟩)
          rw [List.take_length] at this
          exact ⟨_, _, _, this, hR⟩
        · exact (hF h).elim
        · obtain ⟨⟨h0', h1, h2, h3⟩, hR⟩ := hK _ h
          obtain ⟨L, rfl⟩ := Int.eq_ofNat_of_zero_le h1
          obtain ⟨H, rfl⟩ := Int.eq_ofNat_of_zero_le (Int.le_trans h1 h2)
          have := s_slice_sl (P := P) (dst := dst) (ty := ty) (pos := pos) (after := after) (guard := guard) (s := s) (lo := some ol) (hi := some oh) (L := L) (H := H) (full' := false) (kl := kl) (kh := kh) hE e1 e2 h0 hx (.inr ⟨ol, rfl, hl⟩) (.inr ⟨oh, rfl, hh⟩) (by omega) (by omega) (fun _ => h0') nofun
          exact ⟨_, _, _, this, hR⟩
        · exact (hF h).elim
      | sall id ver =>
        rw [hx] at h
        have hW : ∀ {L H : Nat} {kl kh : IntKind} {lo hi : Option Operand} {ver' esz' : Nat} {nn : Option Bool} {fz : Bool} {es : List (List AV)}, getO s id = .arr ver' esz' nn es fz → esz' = size → ver = ver' → ((lo = none ∧ L = 0) ∨ ∃ o, lo = some o ∧ evV t o = .int kl L) → ((hi = none ∧ H = es.length) ∨ ∃ o, hi = some o ∧ evV t o = .int kh H) → L ≤ H → H ≤ es.length →
            OpSem P ⟨dst, .slice ty' x lo hi none, ty, pos, after, guard⟩ t s (.sref id ver esz' (0 + L) (H - L)) s ⟨[id], []⟩ := fun ho he hv hlo hhi h1 h2 => by
          exact s_slice_ref (P := P) hE e1 e2 h0 hx ho he hv (.inl ⟨rfl, rfl, rfl, rfl⟩) hlo hhi h1 h2
        rcases intOr_inv hF h with ⟨rfl, hA⟩ | ⟨ol, kl, nl, rfl, hl, hA⟩ <;> rcases intOr_inv hF hA with ⟨rfl, hB⟩ | ⟨oh, kh, nh, rfl, hh, hB⟩ <;> rcases intOr_inv hF hB with ⟨rfl, hC⟩ | ⟨om, km, nm, rfl, hm, hC⟩ <;> (clear h hA hB; have h := hC; clear hC) <;> simp only [vslice, getOK_eq] at h <;> (first | exact (hF h).elim | (split at h <;> first | exact (hF h).elim | (rename_i o mx' ver' esz' nn es fz ho hmx; split at h <;> first | exact (hF h).elim | rename_i hbe)))
        all_goals have hbe := Nat.eq_of_beq_eq_true hbe
        · obtain ⟨⟨hv, h1, h2⟩, hR⟩ := hK _ h
          obtain ⟨H, rfl⟩ := Int.eq_ofNat_of_zero_le h1
          have := hW (L := 0) (H := H) (kl := .i64) (kh := kh) (lo := none) (hi := some oh) ho hbe hv (.inl ⟨rfl, rfl⟩) (.inr ⟨oh, rfl, hh⟩) (Nat.zero_le _) (by omega)
          exact ⟨_, _, _, this, hR⟩
        · obtain ⟨⟨hv, h1, h2⟩, hR⟩ := hK _ h
          obtain ⟨L, rfl⟩ := Int.eq_ofNat_of_zero_le h1
          have := hW (L := L) (H := es.length) (kl := kl) (kh := .i64) (lo := some ol) (hi := none) ho hbe hv (.inr ⟨ol, rfl, hl⟩) (.inl ⟨rfl, rfl⟩) (by omega) (Nat.le_refl _)
          rw [Nat.zero_add] at this
          exact ⟨_, _, _, this, hR⟩
        · obtain ⟨⟨hv, h1, h2, h3⟩, hR⟩ := hK _ h
          obtain ⟨L, rfl⟩ := Int.eq_ofNat_of_zero_le h1
          obtain ⟨H, rfl⟩ := Int.eq_ofNat_of_zero_le (Int.le_trans h1 h2)
          have := hW (L := L) (H := H) (kl := kl) (kh := kh) (lo := some ol) (hi := some oh) ho hbe hv (.inr ⟨ol, rfl, hl⟩) (.inr ⟨oh, rfl, hh⟩) (by omega) (by omega)
          rw [Nat.zero_add] at this
          exact ⟨_, _, _, this, hR⟩
      | sref id ver esz off len =>
        rw [hx] at h
        have hW : ∀ {L H : Nat} {kl kh : IntKind} {lo hi : Option Operand} {ver' esz' : Nat} {nn : Option Bool} {fz : Bool} {es : List (List AV)}, getO s id = .arr ver' esz' nn es fz → esz = size → ver = ver' → ((lo = none ∧ L = 0) ∨ ∃ o, lo = some o ∧ evV t o = .int kl L) → ((hi = none ∧ H = len) ∨ ∃ o, hi = some o ∧ evV t o = .int kh H) → L ≤ H → H ≤ len →
            OpSem P ⟨dst, .slice ty' x lo hi none, ty, pos, after, guard⟩ t s (.sref id ver esz (off + L) (H - L)) s ⟨[id], []⟩ := fun ho he hv hlo hhi h1 h2 => by
          exact s_slice_ref (P := P) hE e1 e2 h0 hx ho he hv (.inr rfl) hlo hhi h1 h2
        rcases intOr_inv hF h with ⟨rfl, hA⟩ | ⟨ol, kl, nl, rfl, hl, hA⟩ <;> rcases intOr_inv hF hA with ⟨rfl, hB⟩ | ⟨oh, kh, nh, rfl, hh, hB⟩ <;> rcases intOr_inv hF hB with ⟨rfl, hC⟩ | ⟨om, km, nm, rfl, hm, hC⟩ <;> (clear h hA hB; have h := hC; clear hC) <;> simp only [vslice, getOK_eq] at h <;> (first | exact (hF h).elim | (split at h <;> first | exact (hF h).elim | (rename_i o mx' ver' esz' nn es fz ho hmx; split at h <;> first | exact (hF h).elim | rename_i hbe)))
        all_goals have hbe := Nat.eq_of_beq_eq_true hbe
        · obtain ⟨⟨hv, h1, h2⟩, hR⟩ := hK _ h
          obtain ⟨H, rfl⟩ := Int.eq_ofNat_of_zero_le h1
          have := hW (L := 0) (H := H) (kl := .i64) (kh := kh) (lo := none) (hi := some oh) ho hbe hv (.inl ⟨rfl, rfl⟩) (.inr ⟨oh, rfl, hh⟩) (Nat.zero_le _) (by omega)
          exact ⟨_, _, _, this, hR⟩
        · obtain ⟨⟨hv, h1, h2⟩, hR⟩ := hK _ h
          obtain ⟨L, rfl⟩ := Int.eq_ofNat_of_zero_le h1
          have := hW (L := L) (H := len) (kl := kl) (kh := .i64) (lo := some ol) (hi := none) ho hbe hv (.inr ⟨ol, rfl, hl⟩) (.inl ⟨rfl, rfl⟩) (by omega) (Nat.le_refl _)
          exact ⟨_, _, _, this, hR⟩
        · obtain ⟨⟨hv, h1, h2, h3⟩, hR⟩ := hK _ h
          obtain ⟨L, rfl⟩ := Int.eq_ofNat_of_zero_le h1
          obtain ⟨H, rfl⟩ := Int.eq_ofNat_of_zero_le (Int.le_trans h1 h2)
          have := hW (L := L) (H := H) (kl := kl) (kh := kh) (lo := some ol) (hi := some oh) ho hbe hv (.inr ⟨ol, rfl, hl⟩) (.inr ⟨oh, rfl, hh⟩) (by omega) (by omega)
          exact ⟨_, _, _, this, hR⟩
      | _ =>
        rw [hx] at h
        rcases intOr_inv hF h with ⟨rfl, hA⟩ | ⟨ol, kl, nl, rfl, hl, hA⟩ <;> rcases intOr_inv hF hA with ⟨rfl, hB⟩ | ⟨oh, kh, nh, rfl, hh, hB⟩ <;> rcases intOr_inv hF hB with ⟨rfl, hC⟩ | ⟨om, km, nm, rfl, hm, hC⟩ <;> (clear h hA hB; have h := hC; clear hC) <;> exact (hF h).elim
    · exact (hF h).elim
  · exact (hF h).elim

theorem v_fieldAddr (hE : E.Fits P) (hK : ∀ out, K out → OpHolds P out R) {ty' : TypeId} {x : Operand} {f : Nat} (h : vval E K dst (.fieldAddr ty' x f) t s) : Goal P dst (.fieldAddr ty' x f) ty pos after guard t s R := by
  have hF : ¬ K .fail := fun h => hK _ h
  simp only [vval] at h
  split at h
  · rename_i fs m b z e1
    split at h
    · rename_i o ft hf
      split at h
      · rename_i h0
        rw [evK_eq] at h
        split at h
        · rename_i id off hx
          exact ⟨_, _, _, s_fieldAddr hE e1 hf h0 hx (.inl ⟨_, _, rfl, rfl⟩), hK _ h⟩
        · rename_i id ver esz i off hx
          exact ⟨_, _, _, s_fieldAddr hE e1 hf h0 hx (.inr (.inl ⟨_, _, _, _, _, rfl, rfl⟩)), hK _ h⟩
        · rename_i cs off hx
          exact ⟨_, _, _, s_fieldAddr hE e1 hf h0 hx (.inr (.inr ⟨_, _, rfl, rfl⟩)), hK _ h⟩
        · exact (hF h).elim
      · exact (hF h).elim
    · exact (hF h).elim
  · exact (hF h).elim

theorem v_field (hE : E.Fits P) (hK : ∀ out, K out → OpHolds P out R) {ty' : TypeId} {x : Operand} {f : Nat} (h : vval E K dst (.field ty' x f) t s) : Goal P dst (.field ty' x f) ty pos after guard t s R := by
  have hF : ¬ K .fail := fun h => hK _ h
  simp only [vval] at h
  split at h
  · rename_i fs m b z e1
    split at h
    · rename_i o ft hf
      cases e2 : E.ti ft with
      | mk kind size b2 z2 =>
      simp only [e2, evK_eq] at h
      split at h
      · rename_i cs hx
        split at h
        · rename_i hle
          rw [forceC_eq] at h
          rcases mkvK_ok (K := K) (agg := kind.isAgg) (cs := (cs.drop o).take size) (L := fun v => K (.ok v s fp0)) with ⟨h1, h2⟩ | h2
          · rw [h2] at h
            exact ⟨_, _, _, s_field hE e1 hf e2 hx hle h1, hK _ h⟩
          · rw [h2] at h; exact (hF h).elim
        · exact (hF h).elim
      · exact (hF h).elim
    · exact (hF h).elim
  · exact (hF h).elim

theorem v_indexAddr (hE : E.Fits P) (hK : ∀ out, K out → OpHolds P out R) {ty' : TypeId} {x ix : Operand} (h : vval E K dst (.indexAddr ty' x ix) t s) : Goal P dst (.indexAddr ty' x ix) ty pos after guard t s R := by
  have hF : ¬ K .fail := fun h => hK _ h
  simp only [vval, evK_eq] at h
  split at h
  · rename_i k i hi
    split at h
    · rename_i n e m b z e1
      cases e2 : E.ti e with
      | mk kind size b2 z2 =>
      simp only [e2] at h
      split at h
      · exact (hF h).elim
      · rename_i h0
        split at h
        · rename_i id off hx
          obtain ⟨j, hj, hjn, hR⟩ := hK _ h
          exact ⟨_, _, _, s_index_arrPtr hE e1 e2 h0 hi hj hjn hx (.inl ⟨_, _, rfl, rfl⟩), hR⟩
        · rename_i cs off hx
          obtain ⟨j, hj, hjn, hR⟩ := hK _ h
          exact ⟨_, _, _, s_index_arrPtr hE e1 e2 h0 hi hj hjn hx (.inr (.inr ⟨_, _, rfl, rfl⟩)), hR⟩
        · rename_i id ver esz q off hx
          obtain ⟨j, hj, hjn, hR⟩ := hK _ h
          exact ⟨_, _, _, s_index_arrPtr hE e1 e2 h0 hi hj hjn hx (.inr (.inl ⟨_, _, _, _, _, rfl, rfl⟩)), hR⟩
        · exact (hF h).elim
    · rename_i e m b z e1
      cases e2 : E.ti e with
      | mk kind size b2 z2 =>
      simp only [e2] at h
      split at h
      · exact (hF h).elim
      · rename_i h0
        split at h
        · rename_i nn full es hx
          obtain ⟨_, hi0, c, hc, hcl, hR⟩ := hK _ h
          exact ⟨_, _, _, s_index_sl hE e1 e2 h0 hi hx hi0 hc hcl, hR⟩
        · rename_i id ver hx
          rw [getOK_eq] at h
          split at h
          · rename_i ver' esz nn es fz ho
            split at h
            · rename_i he
              obtain ⟨⟨hv, h1, h2⟩, hR⟩ := hK _ h
              exact ⟨_, _, _, s_index_sall hE e1 e2 h0 hi hx ho he hv h1 h2, hR⟩
            · exact (hF h).elim
          · exact (hF h).elim
        · rename_i id ver esz off len hx
          rw [getOK_eq] at h
          split at h
          · rename_i ver' esz' nn es fz ho
            split at h
            · rename_i he
              obtain ⟨⟨hv, h1, h2⟩, hR⟩ := hK _ h
              exact ⟨_, _, _, s_index_sref hE e1 e2 h0 hi hx ho he hv h1 h2, hR⟩
            · exact (hF h).elim
          · exact (hF h).elim
        · exact (hF h).elim
    · exact (hF h).elim
  · exact (hF h).elim

theorem v_index (hE : E.Fits P) (hK : ∀ out, K out → OpHolds P out R) {ty' : TypeId} {x ix : Operand} (h : vval E K dst (.index ty' x ix) t s) : Goal P dst (.index ty' x ix) ty pos after guard t s R := by
  have hF : ¬ K .fail := fun h => hK _ h
  simp only [vval, evK_eq] at h
  split at h
  · rename_i k i hi
    split at h
    · rename_i m b z e1
      split at h
      · rename_i bs hx
        obtain ⟨h1, c, hc, hR⟩ := hK _ h
        exact ⟨_, _, _, s_index_str hE e1 hi hx h1 hc, hR⟩
      · exact (hF h).elim
    · rename_i n e m b z e1
      split at h
      · rename_i cs hx
        cases e2 : E.ti e with
        | mk kind size b2 z2 =>
        simp only [e2] at h
        split at h
        · rename_i hc
          obtain ⟨j, hj, hjn, hR⟩ := hK _ h
          exact ⟨_, _, _, s_index_arr hE e1 e2 hc hi hx hj hjn, hR⟩
        · exact (hF h).elim
      · exact (hF h).elim
    · exact (hF h).elim
  · exact (hF h).elim

theorem list_one {α : Type} {a : Array α} {x : α} (h : a.toList = [x]) : a = #[x] := by obtain ⟨l⟩ := a; simp at h; rw [h]
theorem list_two {α : Type} {a : Array α} {x y : α} (h : a.toList = [x, y]) : a = #[x, y] := by obtain ⟨l⟩ := a; simp at h; rw [h]

theorem v_call (hE : E.Fits P) (hQ : E.EqOk P) (hK : ∀ out, K out → OpHolds P out R) {c : Call} (h : vval E K dst (.call c) t s) : Goal P dst (.call c) ty pos after guard t s R := by
  have hF : ¬ K .fail := fun h => hK _ h
  obtain ⟨callee, args, argTypes⟩ := c
  simp only [vval, evLK_eq] at h
  unfold vcall at h
  split at h
  · split at h
    · rename_i x ha
      split at h
      · rename_i t0 ht
        have := list_one ht; subst this
        exact s_len hE hK ha (by simp) h
      · exact (hF h).elim
    · exact (hF h).elim
  · split at h
    · rename_i x y t0 t1 ha ht
      have := list_two ht; subst this
      split at h
      · rename_i e m b z e1 hk
        cases e2 : E.ti e with
        | mk kind size b2 z2 =>
        simp only [e2] at h
        split at h
        · rename_i hb
          simp only [Bool.and_eq_true] at hb
          exact s_append hE hK ha e1 hk e2 (Nat.le_of_ble_eq_true hb.1.1.1) (Nat.le_of_ble_eq_true hb.1.1.2) h
        · exact (hF h).elim
      · exact (hF h).elim
    · exact (hF h).elim
  · split at h
    · rename_i k a k' b ha
      split at h
      · rename_i hk; subst hk
        exact ⟨_, _, _, s_min ha, hK _ h⟩
      · exact (hF h).elim
    · exact (hF h).elim
  · split at h
    · rename_i k a k' b ha
      split at h
      · rename_i hk; subst hk
        exact ⟨_, _, _, s_max ha, hK _ h⟩
      · exact (hF h).elim
    · exact (hF h).elim
  · split at h
    · rename_i m k t0 rest ha ht
      split at h
      · rename_i kt vt n b z e1
        split at h
        · rename_i ks hks
          obtain ⟨agg, ks⟩ := ks
          split at h
          · rename_i id
            rw [getOK_eq] at h
            split at h
            · rename_i kt' vt' es ho
              rw [setOK_eq] at h
              obtain ⟨hk, hR⟩ := hK _ h
              exact ⟨_, _, _, s_delete hE hQ ha ht e1 hks ho hk, hR⟩
            · exact (hF h).elim
          · exact (hF h).elim
        · exact (hF h).elim
      · exact (hF h).elim
    · exact (hF h).elim
  · rename_i f
    rw [evK_eq] at h
    split at h
    · rename_i fid first cap hf
      rw [forceC_eq] at h
      exact s_call hK hf h
    · exact (hF h).elim
  · exact (hF h).elim

theorem recellK_eq {A : Type} (v : AV) (d : List AV) (L : AV → A) : recellK v d L = L (recell v d) := by
  rcases d with _ | ⟨x, _ | ⟨y, r⟩⟩ <;> cases v <;> rfl

theorem v_mapPut (hE : E.Fits P) (hQ : E.EqOk P) (hK : ∀ out, K out → OpHolds P out R) {op : Op} {ty' : TypeId} {m k v : Operand} (hop : op = .mapUpdate ty' m k v ∨ op = .insert ty' m k v) (h : vmapPut E K t s ty' m k v) : Goal P dst op ty pos after guard t s R := by
  have hF : ¬ K .fail := fun h => hK _ h
  unfold vmapPut at h
  split at h
  · rename_i kt vt n b z e1
    split at h
    · rename_i ks hks
      obtain ⟨agg, ks⟩ := ks
      simp only [evK_eq] at h
      split at h
      · rename_i id hm
        rw [getOK_eq] at h
        split at h
        · rename_i kt' vt' es ho
          split at h
          · rename_i hc
            simp only [Bool.and_eq_true, Bool.not_eq_true'] at hc
            rw [nrmLK_eq, freezeK_eq, recellK_eq, setOK_eq] at h
            obtain ⟨hk, hR⟩ := hK _ h
            exact ⟨_, _, _, s_mapPut hE hQ hop e1 hks hm ho hk hc.1 (fun hmem => by rw [List.contains_iff_mem.2 hmem] at hc; exact nomatch hc.2), hR⟩
          · exact (hF h).elim
        · exact (hF h).elim
      · exact (hF h).elim
    · exact (hF h).elim
  · exact (hF h).elim

theorem vval_sound (hE : E.Fits P) (hQ : E.EqOk P) (hK : ∀ out, K out → OpHolds P out R) {op : Op} (h : vval E K dst op t s) : Goal P dst op ty pos after guard t s R := by
  have hF : ¬ K .fail := fun h => hK _ h
  cases op with
  | move x => simp only [vval, evG_eq] at h; exact ⟨_, _, _, s_move (.inl rfl), hK _ h⟩
  | assign x => simp only [vval, evG_eq] at h; exact ⟨_, _, _, s_move (.inr rfl), hK _ h⟩
  | pick c a b => exact v_pick hK h
  | alloc e =>
    simp only [vval] at h
    split at h
    · exact (hF h).elim
    · rename_i k n b z zero e1
      rw [lenK_eq, setOK_eq, Nat.zero_add] at h
      exact ⟨_, _, _, s_alloc hE e1, hK _ h⟩
  | box e x =>
    simp only [vval, evK_eq] at h
    split at h
    · exact (hF h).elim
    · rename_i hd
      rw [forceC_eq, lenK_eq, setOK_eq, Nat.zero_add] at h
      exact ⟨_, _, _, s_box hd, hK _ h⟩
  | build ty' parts => exact v_build hE hK h
  | buildSlice ty' len parts => exact v_buildSlice hE hK h
  | load ty' a =>
    simp only [vval] at h
    cases e1 : E.ti ty' with
    | mk kind size b z =>
    simp only [e1, evK_eq] at h
    exact s_load hE hK e1 h
  | store ty' a v =>
    simp only [vval] at h
    cases e1 : E.ti ty' with
    | mk kind size b z =>
    simp only [e1, evK_eq] at h
    exact s_store hE hK e1 h
  | nilCheck x =>
    simp only [vval, evK_eq] at h
    split at h
    · rename_i id off hx; exact ⟨_, _, _, s_nilCheck hx (.inl ⟨_, _, rfl⟩), hK _ h⟩
    · rename_i id ver esz i off hx; exact ⟨_, _, _, s_nilCheck hx (.inr (.inl ⟨_, _, _, _, _, rfl⟩)), hK _ h⟩
    · rename_i cs off hx; exact ⟨_, _, _, s_nilCheck hx (.inr (.inr ⟨_, _, rfl⟩)), hK _ h⟩
    · exact (hF h).elim
  | binOp op ty' x y _ => simp only [vval, evK_eq] at h; exact s_binOp hE hQ hK h
  | unOp op _ x => simp only [vval, evK_eq] at h; exact s_unOp hK h
  | convert src d x => simp only [vval, evK_eq] at h; exact s_convert hE hK h
  | makeInterface ty' x =>
    simp only [vval] at h
    split at h
    · exact (hF h).elim
    · exact (hF h).elim
    · rename_i n1 n2
      rw [evK_eq] at h
      cases e1 : E.ti ty' with
      | mk kind size b z =>
      have k1 : kind ≠ .other := by rintro rfl; exact n1 _ _ _ e1
      have k2 : kind ≠ .iface := by rintro rfl; exact n2 _ _ _ e1
      obtain ⟨i, d, zv, h1, h2, h3, h4, h5, h6, h7, h8, h9⟩ := ti_at hE e1 (.inl k1)
      exact ⟨_, _, _, s_makeInterface h2 (h6 ▸ k2), hK _ h⟩
  | makeFunc fn first cap => simp only [vval, evLK_eq] at h; exact ⟨_, _, _, s_makeFunc, hK _ h⟩
  | makeSlice ty' l c => exact v_makeSlice hE hK h
  | slice ty' x lo hi mx => exact v_slice hE hK h
  | fieldAddr ty' x f => exact v_fieldAddr hE hK h
  | field ty' x f => exact v_field hE hK h
  | indexAddr ty' x i => exact v_indexAddr hE hK h
  | index ty' x i => exact v_index hE hK h
  | extract x i =>
    simp only [vval, evK_eq] at h
    split at h
    · rename_i vs hx
      rcases nthK_some (K := K) (vs := vs) (i := i) (L := fun v => K (.ok v s fp0)) with ⟨v, h1, h2⟩ | h2
      · rw [h2] at h; exact ⟨_, _, _, s_extract hx h1, hK _ h⟩
      · rw [h2] at h; exact (hF h).elim
    · exact (hF h).elim
  | call c => exact v_call hE hQ hK h
  | mapUpdate ty' m k v => exact v_mapPut hE hQ hK (.inl rfl) h
  | insert ty' m k v => exact v_mapPut hE hQ hK (.inr rfl) h
  | makeMap ty' r =>
    simp only [vval] at h
    split at h
    · rename_i kt vt n b z e1
      rw [lenK_eq, setOK_eq, Nat.zero_add] at h
      cases r with
      | none => exact ⟨_, _, _, s_makeMap hE e1 (.inl rfl), hK _ h⟩
      | some x =>
        simp only [evK_eq] at h
        split at h
        · rename_i k m hx; exact ⟨_, _, _, s_makeMap hE e1 (.inr ⟨x, k, m, rfl, hx⟩), hK _ h⟩
        · exact (hF h).elim
    · exact (hF h).elim
  | lookup ty' x i ok =>
    simp only [vval] at h
    split at h
    · rename_i kt vt n b z e1
      split at h
      · rename_i ks vk n2 b2 z1 z2 hks e2
        obtain ⟨agg, ks⟩ := ks
        simp only [evK_eq] at h
        rcases mkvK_ok (K := K) (agg := vk.isAgg) (cs := z1 :: z2) (L := fun z => match evV t x with
          | .nilmap => K (.need (hasKs (agg, ks) (evV t i) []) (lookV ok z none) s fp0)
          | .map id => getOK s id fun o => match o with
            | .map _ _ es => K (.look (hasKs (agg, ks) (evV t i) es) (findK (agg, ks) (evV t i) es) (lookV ok z) s ⟨[id], []⟩)
            | _ => K .fail
          | _ => K .fail) with ⟨hz1, hz⟩ | hz
        · erw [hz] at h
          split at h
          · rename_i hx
            obtain ⟨hk, hR⟩ := hK _ h
            exact ⟨_, _, _, s_lookup_nil hE hQ e1 hks e2 hz1 hx hk, hR⟩
          · rename_i id hx
            rw [getOK_eq] at h
            split at h
            · rename_i kt' vt' es ho
              obtain ⟨hk, q, hq, hR⟩ := hK _ h
              exact ⟨_, _, _, s_lookup hE hQ e1 hks e2 hz1 hx ho hk hq, hR⟩
            · exact (hF h).elim
          · exact (hF h).elim
        · erw [hz] at h; exact (hF h).elim
      · exact (hF h).elim
    · exact (hF h).elim
  | _ => exact (hF h).elim

end
end Go.Proofs.Ytmapiefbnjaikaa.Vm
/- Regions: operations in the order of the text, or in any order that is open. -/
set_option linter.all false
namespace Go.Proofs.Ytmapiefbnjaikaa.Vm
open Go

theorem Rel.of_unkb {g : Gh} {w : World} {x : AV} {v : Value} (h : Rel g w (Vm.unkb x) v) : Rel g w x v := by
  cases x <;> first | exact h | (have := rel_bool h; subst this; exact .kb _)

theorem Rel.sameU {g : Gh} {w : World} {x y : AV} {v : Value} (h : Rel g w x v) (e : Vm.unkb x = Vm.unkb y) : Rel g w y v := .of_unkb (e ▸ h.unkb)

structure SameU (t t' : List AV) : Prop where
  len : t.length = t'.length
  at_ : ∀ i, unkb (t.getD i .dead) = unkb (t'.getD i .dead)

theorem SameU.refl (t : List AV) : SameU t t := ⟨rfl, fun _ => rfl⟩
theorem SameU.trans {t t' t'' : List AV} (h : SameU t t') (h' : SameU t' t'') : SameU t t'' := ⟨h.len.trans h'.len, fun i => (h.at_ i).trans (h'.at_ i)⟩

def GuardYes (all : Array Oper) (o : Oper) (t : List AV) : Prop :=
  match o.guard with
  | none => True
  | some (j, want) => ∃ d, (all[j]?).bind (·.dst) = some d ∧ unkb (t.getD d .dead) = .bool want
def GuardNo (all : Array Oper) (o : Oper) (t : List AV) : Prop :=
  match o.guard with
  | none => False
  | some (j, want) => ∃ d, (all[j]?).bind (·.dst) = some d ∧ (unkb (t.getD d .dead) = .bool (!want) ∨ unkb (t.getD d .dead) = .tuple [])

/-- an operation's part in a region -/
def Done (P : Program) (all : Array Oper) (o : Oper) (t : List AV) (s : List VObj) (v : AV) (s2 : List VObj) (fp : FP) : Prop :=
  (GuardYes all o t ∧ OpSem P o t s v s2 fp) ∨ (GuardNo all o t ∧ v = .tuple [] ∧ s2 = s ∧ fp = fp0)

/-- what a region's first operations have come to, taken in the order of the text -/
structure Hist (P : Program) (all : Array Oper) (n : Nat) (ts : Nat → List AV) (ss : Nat → List VObj) (fp : Nat → FP) : Prop where
  le : n ≤ all.size
  step : ∀ k o, k < n → all[k]? = some o → ∃ v, Done P all o (ts k) (ss k) v (ss (k + 1)) (fp k) ∧ SameU (putT (ts k) o.dst v) (ts (k + 1))

def dstIs (all : Array Oper) (k x : Nat) : Bool := match all[k]? with
  | some o => (match o.dst with | some d => Nat.beq d x | none => false)
  | none => false

theorem putT_len (t : List AV) (d : Option Tmp) (v : AV) : (putT t d v).length = t.length := by cases d <;> simp [putT]
theorem putT_other (t : List AV) (d : Option Tmp) (v : AV) (x : Nat) (h : d ≠ some x) : (putT t d v).getD x .dead = t.getD x .dead := by
  cases d with
  | none => rfl
  | some d =>
    have : d ≠ x := fun e => h (by rw [e])
    simp [putT, List.getElem?_set, this]
theorem putT_same (t : List AV) (v : AV) (x : Nat) (h : x < t.length) : (putT t (some x) v).getD x .dead = v := by simp [putT, h]

section
variable {P : Program} {all : Array Oper} {n : Nat} {ts : Nat → List AV} {ss : Nat → List VObj} {fp : Nat → FP}

theorem Hist.oper (H : Hist P all n ts ss fp) {k : Nat} (hk : k < n) : ∃ o, all[k]? = some o := ⟨_, Array.getElem?_eq_getElem (Nat.lt_of_lt_of_le hk H.le)⟩

theorem Hist.len (H : Hist P all n ts ss fp) : ∀ k, k ≤ n → (ts k).length = (ts 0).length := by
  intro k
  induction k with
  | zero => intro _; rfl
  | succ k ih =>
    intro hk
    obtain ⟨o, ho⟩ := H.oper (show k < n by omega)
    obtain ⟨v, _, h⟩ := H.step k o (by omega) ho
    rw [← h.len, putT_len, ih (by omega)]

theorem Hist.slot (H : Hist P all n ts ss fp) {k x : Nat} (hk : k < n) (h : dstIs all k x = false) : unkb ((ts (k + 1)).getD x .dead) = unkb ((ts k).getD x .dead) := by
  obtain ⟨o, ho⟩ := H.oper hk
  obtain ⟨v, _, hs⟩ := H.step k o hk ho
  rw [← hs.at_, putT_other]
  intro e
  simp [dstIs, ho, e] at h

theorem Hist.obj (H : Hist P all n ts ss fp) {k id : Nat} (hk : k < n) (h : (fp k).wr.contains id = false) : getO (ss (k + 1)) id = getO (ss k) id := by
  obtain ⟨o, ho⟩ := H.oper hk
  obtain ⟨v, hd, _⟩ := H.step k o hk ho
  rcases hd with ⟨_, h1, _⟩ | ⟨_, _, h1, _⟩
  · exact h1 id (by simpa using h)
  · rw [h1]
end

/-- a thing's state behind some of the writes, taken in their order -/
def Vat {α : Type} (val : Nat → α) (p D : Nat → Bool) : Nat → α
  | 0 => val 0
  | n + 1 => if D n && p n then val (n + 1) else Vat val p D n

theorem Vat_at {α : Type} {val : Nat → α} {p D : Nat → Bool} : ∀ {n j : Nat}, (∀ k, k < n → p k = false → val (k + 1) = val k) → j ≤ n → (∀ i, i < j → p i = true → D i = true) → (∀ i, j ≤ i → i < n → D i = true → p i = false) → Vat val p D n = val j := by
  intro n
  induction n with
  | zero => intro j _ hj _ _; have : j = 0 := by omega
            rw [this]; rfl
  | succ n ih =>
    intro j h hj h1 h2
    have h' : ∀ k, k < n → p k = false → val (k + 1) = val k := fun k hk => h k (by omega)
    simp only [Vat]
    by_cases hjn : j = n + 1
    · subst hjn
      cases hp : p n with
      | true => rw [h1 n (by omega) hp]; rfl
      | false =>
        rw [Bool.and_false, h n (by omega) hp]
        exact ih h' (Nat.le_refl _) (fun i hi => h1 i (by omega)) (fun i hi hi' => absurd hi' (by omega))
    · have hd : (D n && p n) = false := by
        cases hD : D n with
        | false => rfl
        | true => rw [h2 n (by omega) (by omega) hD]; rfl
      rw [hd]
      exact ih h' (by omega) h1 (fun i hi hi' => h2 i hi (by omega))

theorem Vat_put {α : Type} {val : Nat → α} {p D : Nat → Bool} {j : Nat} : ∀ {n : Nat}, j < n → (p j = true → (∀ k, j < k → k < n → D k = true → p k = false) → Vat val p (fun i => D i || Nat.beq i j) n = val (j + 1)) ∧ (p j = false → Vat val p (fun i => D i || Nat.beq i j) n = Vat val p D n) := by
  have low : ∀ m, m ≤ j → Vat val p (fun i => D i || Nat.beq i j) m = Vat val p D m := by
    intro m
    induction m with
    | zero => intro _; rfl
    | succ m ih =>
      intro hm
      have : Nat.beq m j = false := by
        cases h : Nat.beq m j with
        | false => rfl
        | true => have := Nat.eq_of_beq_eq_true h; omega
      simp only [Vat, this, Bool.or_false, ih (by omega)]
  intro n
  induction n with
  | zero => intro h; omega
  | succ n ih =>
    intro hj
    by_cases hn : j = n
    · subst hn
      have hb : Nat.beq j j = true := Nat.beq_refl j
      refine ⟨fun hp _ => ?_, fun hp => ?_⟩
      · simp only [Vat, hb, hp, Bool.or_true, Bool.and_true, if_true]
      · simp only [Vat, hp, Bool.and_false, Bool.false_eq_true, if_false, low j (Nat.le_refl _)]
    · have hb : Nat.beq n j = false := by
        cases h : Nat.beq n j with
        | false => rfl
        | true => have := Nat.eq_of_beq_eq_true h; omega
      obtain ⟨i1, i2⟩ := ih (by omega)
      refine ⟨fun hp hl => ?_, fun hp => ?_⟩
      · have : (D n && p n) = false := by
          cases hD : D n with
          | false => rfl
          | true => rw [hl n (by omega) (by omega) hD]; rfl
        simp only [Vat, hb, Bool.or_false, this, Bool.false_eq_true, if_false]
        exact i1 hp fun k h1 h2 => hl k h1 (by omega)
      · simp only [Vat, hb, Bool.or_false, i2 hp]

/-- where a region stands when the operations of D are done -/
structure Inv (B : Nat → Prop) (g0 : Gh) (w0 : World) (all : Array Oper) (n : Nat) (ts : Nat → List AV) (ss : Nat → List VObj) (fp : Nat → FP) (D : Nat → Bool) (a : Act) (w : World) : Prop where
  ex : ∃ g, Ext B g0 w0 g w ∧ RelS B g w (fun id => Vat (fun k => getO (ss k) id) (fun k => (fp k).wr.contains id) D n) ∧
    ∀ x v, a.tmps[x]? = some v → Rel g w (Vat (fun k => unkb ((ts k).getD x .dead)) (fun k => dstIs all k x) D n) v
  size : a.tmps.size = (ts 0).length
  defers : a.defers = []

section
variable {P : Program} {all : Array Oper} {n : Nat} {ts : Nat → List AV} {ss : Nat → List VObj} {fp : Nat → FP} {B : Nat → Prop} {g0 : Gh} {w0 : World} {D : Nat → Bool} {Q : Exit → Act → World → Prop}

theorem eval_rel {g : Gh} {w : World} {t : List AV} {a : Act} {x : Operand} (h : ∀ i, x = .tmp i → ∀ v, a.tmps[i]? = some v → Rel g w (unkb (t.getD i .dead)) v) (hs : a.tmps.size = t.length) : Rel g w (evV t x) (a.eval x) := by
  cases x with
  | tmp i =>
    show Rel g w (unkb (t.getD i .dead)) (a.tmps.getD i undef)
    cases hi : a.tmps[i]? with
    | none =>
      have : t.length ≤ i := by rw [← hs]; exact Array.getElem?_eq_none_iff.1 hi
      rw [show t.getD i .dead = .dead by simp [this]]
      exact .dead _
    | some v =>
      have := h i rfl v hi
      rw [Array.getD_eq_getD_getElem?, hi]; exact this
  | const v => exact (rel_lit v).unkb
  | global g => exact .dead _
  | func f => exact .func (fv := #[]) (cv := #[]) rfl rfl (fun i x v h => by simp at h) (fun i x v h => by simp at h)

theorem put_at (a : Act) (d : Option Tmp) (v : Value) (x : Nat) : (a.put d v).tmps[x]? = if d = some x ∧ x < a.tmps.size then some v else a.tmps[x]? := by
  cases d with
  | none => simp [Act.put]
  | some d =>
    simp only [Act.put, Array.getElem?_setIfInBounds]
    by_cases h : d = x
    · subst h
      by_cases hs : d < a.tmps.size
      · simp [hs]
      · simp [hs]
    · simp [h]
theorem put_size (a : Act) (d : Option Tmp) (v : Value) : (a.put d v).tmps.size = a.tmps.size := by cases d <;> simp [Act.put]
theorem put_defers (a : Act) (d : Option Tmp) (v : Value) : (a.put d v).defers = a.defers := by cases d <;> rfl

/-- D, and one more -/
def and1 (D : Nat → Bool) (j : Nat) : Nat → Bool := fun i => D i || Nat.beq i j

theorem op_step (H : Hist P all n ts ss fp) (hB : ∀ b, w0.heap.size ≤ b → B b) {j : Nat} {o : Oper} (hj : j < n) (ho : all[j]? = some o) 
    (hread : ∀ x, (x ∈ looks all o ∨ o.dst = some x) → ∀ i, i < n → dstIs all i x = true → (i < j → D i = true) ∧ (j ≤ i → D i = false))
    (hobj : ∀ id, (id ∈ (fp j).rd ∨ id ∈ (fp j).wr) → ∀ i, i < n → (fp i).wr.contains id = true → (i < j → D i = true) ∧ (j ≤ i → D i = false))
    {a : Act} {w : World} {K : Act → World → Prop} (hI : Inv B g0 w0 all n ts ss fp D a w) (hK : ∀ a w, Inv B g0 w0 all n ts ss fp (and1 D j) a w → K a w) : wpOp P all Q j K a w := by
  obtain ⟨⟨g, hE, hS, hT⟩, hsz, hdf⟩ := hI
  obtain ⟨v, hdone, hsame⟩ := H.step j o hj ho
  -- a slot that the operation looks at
  have hslot : ∀ x, (x ∈ looks all o ∨ o.dst = some x) → Vat (fun k => unkb ((ts k).getD x .dead)) (fun k => dstIs all k x) D n = unkb ((ts j).getD x .dead) := fun x hx =>
    Vat_at (fun k hk hp => H.slot hk hp) (Nat.le_of_lt hj) (fun i hi hp => (hread x hx i (by omega) hp).1 hi) (fun i hi hin hD => by
      cases hp : dstIs all i x with
      | false => rfl
      | true => have := (hread x hx i hin hp).2 hi; rw [hD] at this; exact nomatch this)
  have hσ : ∀ id, (id ∈ (fp j).rd ∨ id ∈ (fp j).wr) → Vat (fun k => getO (ss k) id) (fun k => (fp k).wr.contains id) D n = getO (ss j) id := fun id hx =>
    Vat_at (fun k hk hp => H.obj hk hp) (Nat.le_of_lt hj) (fun i hi hp => (hobj id hx i (by omega) hp).1 hi) (fun i hi hin hD => by
      cases hp : (fp i).wr.contains id with
      | false => rfl
      | true => have := (hobj id hx i hin hp).2 hi; rw [hD] at this; exact nomatch this)
  -- what is so behind the operation
  have hnext : ∀ (g' : Gh) (w' : World) (val : Value), Ext B g w g' w' → RelS B g' w' (over (fun id => Vat (fun k => getO (ss k) id) (fun k => (fp k).wr.contains id) D n) (getO (ss (j + 1))) (fp j).wr) → Rel g' w' (unkb v) val →
      Inv B g0 w0 all n ts ss fp (and1 D j) (a.put o.dst val) w' := fun g' w' val e1 r1 v1 => by
    refine ⟨⟨g', hE.trans e1, ?_, fun x u hu => ?_⟩, (put_size _ _ _).trans hsz, (put_defers _ _ _).trans hdf⟩
    · have : (fun id => Vat (fun k => getO (ss k) id) (fun k => (fp k).wr.contains id) (and1 D j) n) = over (fun id => Vat (fun k => getO (ss k) id) (fun k => (fp k).wr.contains id) D n) (getO (ss (j + 1))) (fp j).wr := by
        funext id
        obtain ⟨q1, q2⟩ := Vat_put (val := fun k => getO (ss k) id) (p := fun k => (fp k).wr.contains id) (D := D) hj
        simp only [over]
        by_cases hm : id ∈ (fp j).wr
        · rw [if_pos hm]
          refine q1 (List.contains_iff_mem.2 hm) fun k hk hkn hD => ?_
          cases hp : (fp k).wr.contains id with
          | false => rfl
          | true => have := (hobj id (.inr hm) k hkn hp).2 (by omega); rw [hD] at this; exact nomatch this
        · rw [if_neg hm]
          exact q2 (by simpa using hm)
      rw [this]; exact r1
    · obtain ⟨q1, q2⟩ := Vat_put (val := fun k => unkb ((ts k).getD x .dead)) (p := fun k => dstIs all k x) (D := D) hj
      rw [put_at] at hu
      by_cases hd : o.dst = some x
      · by_cases hlt : x < a.tmps.size
        · rw [if_pos ⟨hd, hlt⟩] at hu
          cases hu
          have hp : dstIs all j x = true := by simp [dstIs, ho, hd]
          have hv : Vat (fun k => unkb ((ts k).getD x .dead)) (fun k => dstIs all k x) (and1 D j) n = unkb ((ts (j + 1)).getD x .dead) := q1 hp fun k hk hkn hD => by
            cases hp : dstIs all k x with
            | false => rfl
            | true => have := (hread x (.inr hd) k hkn hp).2 (by omega); rw [hD] at this; exact nomatch this
          rw [hv, ← hsame.at_, hd, putT_same _ _ _ (by rw [H.len j (Nat.le_of_lt hj), ← hsz]; exact hlt)]
          exact v1
        · rw [if_neg (fun h => hlt h.2)] at hu
          rw [Array.getElem?_eq_none (by omega)] at hu; exact nomatch hu
      · rw [if_neg (fun h => hd h.1)] at hu
        have hp : dstIs all j x = false := by
          cases h : dstIs all j x with
          | false => rfl
          | true =>
            simp only [dstIs, ho] at h
            split at h
            · rename_i d hd'; rw [Nat.eq_of_beq_eq_true h] at hd'; exact (hd hd').elim
            · exact nomatch h
        have := q2 hp
        show Rel g' w' (Vat (fun k => unkb ((ts k).getD x .dead)) (fun k => dstIs all k x) (fun i => D i || Nat.beq i j) n) u
        rw [this]
        exact (hT x u hu).mono e1
  have hlooks : ∀ i, Operand.tmp i ∈ o.op.operands → i ∈ looks all o := fun i hi => by
    unfold looks
    exact List.mem_append_left _ (List.mem_filterMap.2 ⟨.tmp i, Array.mem_toList_iff.2 hi, rfl⟩)
  have hguard : ∀ jg want d, o.guard = some (jg, want) → (all[jg]?).bind (·.dst) = some d → d ∈ looks all o := fun jg want d h1 h2 => by
    unfold looks
    rw [h1]
    exact List.mem_append_right _ (by simp [h2])
  have hglen : ∀ d, unkb ((ts j).getD d .dead) ≠ .dead → ∃ u, a.tmps[d]? = some u := fun d hne => by
    have : d < (ts j).length := by
      rcases Nat.lt_or_ge d (ts j).length with h | h
      · exact h
      · refine (hne ?_).elim; simp [h]; rfl
    rw [H.len j (Nat.le_of_lt hj), ← hsz] at this
    exact ⟨_, Array.getElem?_eq_getElem this⟩
  unfold wpOp
  rw [ho]
  dsimp only
  rcases hdone with ⟨hg, hop⟩ | ⟨hg, hv, hs2, hfp⟩
  · have hw : Region.wanted o (yielded all a.tmps) = true := by
      unfold Region.wanted
      unfold GuardYes at hg
      split at hg
      · rename_i h; rw [h]
      · rename_i jg want h
        obtain ⟨d, hd, hb⟩ := hg
        rw [h]
        obtain ⟨u, hu⟩ := hglen d (by rw [hb]; nofun)
        have := hT d u hu
        rw [hslot d (.inl (hguard jg want d h hd)), hb] at this
        have := rel_bool this
        subst this
        simp [yielded, hd, hu]
    rw [if_pos hw]
    left
    refine hop.2 B g w a _ K Q (fun b hb => hB b (Nat.le_trans hE.size hb)) (fun x hx => ?_) (fun id hid => hσ id hid) hS (fun g' w' val e1 r1 v1 => hK _ _ (hnext g' w' val e1 r1 v1))
    refine eval_rel (fun i hi v hv => ?_) (by rw [hsz, H.len j (Nat.le_of_lt hj)])
    subst hi
    rw [← hslot i (.inl (hlooks i hx))]
    exact hT i v hv
  · have hw : Region.wanted o (yielded all a.tmps) = false := by
      unfold Region.wanted
      unfold GuardNo at hg
      split at hg
      · exact hg.elim
      · rename_i jg want h
        obtain ⟨d, hd, hb⟩ := hg
        rw [h]
        obtain ⟨u, hu⟩ := hglen d (by rcases hb with h | h <;> rw [h] <;> nofun)
        have := hT d u hu
        rw [hslot d (.inl (hguard jg want d h hd))] at this
        rcases hb with hb | hb
        · rw [hb] at this
          have := rel_bool this
          subst this
          cases want <;> simp [yielded, hd, hu]
        · rw [hb] at this
          obtain ⟨vs, _, _, rfl⟩ := inv_tuple this
          simp [yielded, hd, hu]
    rw [hw]
    simp only [Bool.false_eq_true, if_false]
    refine hK _ _ (hnext g w undef (Ext.refl B g w) ?_ (by rw [hv]; exact .tuple rfl fun i x v hi => by simp at hi))
    rw [hfp]
    simp only [fp0, over_nil]
    exact hS

theorem Inv.congr {D' : Nat → Bool} {a : Act} {w : World} (h : Inv B g0 w0 all n ts ss fp D a w) (e : ∀ i, D i = D' i) : Inv B g0 w0 all n ts ss fp D' a w := by
  have : D = D' := funext e
  rw [← this]; exact h

/-- in the order of the text -/
theorem plain_ops (H : Hist P all all.size ts ss fp) (hB : ∀ b, w0.heap.size ≤ b → B b) (hQ : ∀ a w, Inv B g0 w0 all all.size ts ss fp (fun i => Nat.blt i all.size) a w → Q .normal a w) :
    ∀ (m k : Nat) (a : Act) (w : World), k + m = all.size → Inv B g0 w0 all all.size ts ss fp (fun i => Nat.blt i k) a w → wpOps P all Q (List.range' k m) a w := by
  intro m
  induction m with
  | zero => intro k a w hk hI; have : k = all.size := by omega
            subst this; exact hQ a w hI
  | succ m ih =>
    intro k a w hk hI
    rw [List.range'_succ, wpOps_cons]
    have hkn : k < all.size := by omega
    refine op_step H hB hkn (Array.getElem?_eq_getElem hkn) (fun x _ i hi _ => ⟨fun h => Nat.ble_eq_true_of_le h, fun h => ?_⟩) (fun id _ i hi _ => ⟨fun h => Nat.ble_eq_true_of_le h, fun h => ?_⟩) hI (fun a w hI' => ih (k + 1) a w (by omega) (hI'.congr fun i => ?_))
    · cases h' : Nat.blt i k with
      | false => exact h'
      | true => have := Nat.le_of_ble_eq_true h'; omega
    · cases h' : Nat.blt i k with
      | false => exact h'
      | true => have := Nat.le_of_ble_eq_true h'; omega
    · show (Nat.blt i k || Nat.beq i k) = Nat.blt i (k + 1)
      rw [Bool.eq_iff_iff, Bool.or_eq_true]
      constructor
      · rintro (h | h)
        · have := Nat.le_of_ble_eq_true h; exact Nat.ble_eq_true_of_le (by omega)
        · have := Nat.eq_of_beq_eq_true h; exact Nat.ble_eq_true_of_le (by omega)
      · intro h
        have := Nat.le_of_ble_eq_true h
        by_cases e : i = k
        · right; subst e; exact Nat.beq_refl i
        · left; exact Nat.ble_eq_true_of_le (by omega)

/- In an open order. -/
theorem allPairs_of {α : Type} {p : Nat → Nat → α → α → Bool} {l : List α} (h : allPairs p l = true) {i j : Nat} {a b : α} (hij : i < j) (ha : l[i]? = some a) (hb : l[j]? = some b) : p i j a b = true := by
  unfold allPairs at h
  rw [List.all_eq_true] at h
  have h1 := h (b, j) (List.mem_zipIdx_iff_getElem?.2 hb)
  rw [List.all_eq_true] at h1
  refine h1 (a, i) (List.mem_zipIdx_iff_getElem?.2 ?_)
  rw [List.getElem?_take, if_pos hij]; exact ha

theorem masks_pre : ∀ (os : List Oper) (acc : List Nat) (k : Nat), k < acc.length → (masks os acc).getD k 0 = acc.getD k 0 := by
  intro os
  induction os with
  | nil => intro acc k _; rfl
  | cons o os ih =>
    intro acc k hk
    simp only [masks]
    rw [ih _ _ (by simp; omega)]
    simp [List.getElem?_append, hk]

theorem masks_at : ∀ (os : List Oper) (acc : List Nat) (k : Nat) (o : Oper), os[k]? = some o → ∃ acc' : List Nat, acc'.length = acc.length + k ∧ (masks os acc).getD (acc.length + k) 0 = maskOf acc' o ∧ ∀ i, i < acc'.length → (masks os acc).getD i 0 = acc'.getD i 0 := by
  intro os
  induction os with
  | nil => intro acc k o h; simp at h
  | cons o' os ih =>
    intro acc k o h
    simp only [masks]
    cases k with
    | zero =>
      simp at h; subst h
      refine ⟨acc, rfl, ?_, fun i hi => ?_⟩
      · rw [masks_pre _ _ _ (by simp)]; simp
      · rw [masks_pre _ _ _ (by simp; omega)]; simp [List.getElem?_append, hi]
    | succ k =>
      obtain ⟨acc', h1, h2, h3⟩ := ih (acc ++ [maskOf acc o']) k o (by simpa using h)
      simp only [List.length_append, List.length_cons, List.length_nil] at h1 h2
      exact ⟨acc', by omega, by rw [show acc.length + (k + 1) = acc.length + (0 + 1) + k by omega]; exact h2, h3⟩

theorem fold_bits (acc : List Nat) (i : Nat) : ∀ (es : List Edge) (s0 : Nat), (es.foldl (fun s e => s ||| 2 ^ e.on ||| acc.getD e.on 0) s0).testBit i = true → s0.testBit i = true ∨ ∃ e ∈ es, e.on = i ∨ (acc.getD e.on 0).testBit i = true := by
  intro es
  induction es with
  | nil => intro s0 h; exact .inl h
  | cons e es ih =>
    intro s0 h
    rcases ih _ h with h | ⟨e', he', h⟩
    · simp only [Nat.testBit_or, Bool.or_eq_true, Nat.testBit_two_pow, decide_eq_true_eq] at h
      rcases h with (h | h) | h
      · exact .inl h
      · exact .inr ⟨e, by simp, .inl h⟩
      · exact .inr ⟨e, by simp, .inr h⟩
    · exact .inr ⟨e', by simp [he'], h⟩

theorem okEdges_of (h : okEdges all = true) {j : Nat} {o : Oper} (ho : all[j]? = some o) : ∀ e ∈ o.after.toList, isGc e = true ∨ e.on < j := by
  intro e he
  unfold okEdges at h
  rw [Bool.and_eq_true, List.all_eq_true] at h
  have h1 := h.1 (o, j) (List.mem_zipIdx_iff_getElem?.2 (by simpa using ho))
  rw [List.all_eq_true] at h1
  have h2 := h1 e he
  simp only [Bool.or_eq_true] at h2
  rcases h2 with h2 | h2
  · exact .inl h2
  · exact .inr (Nat.le_of_ble_eq_true h2)
theorem okEdges_any (h : okEdges all = true) {j : Nat} {o : Oper} (ho : all[j]? = some o) {e : Edge} (he : e ∈ o.after.toList) (ha : anyE e = true) : e.on < j := by
  rcases okEdges_of h ho e he with h | h
  · unfold isGc at h; unfold anyE at ha; revert h ha; cases e.ground <;> simp
  · exact h

theorem befores_bit {i j : Nat} {o : Oper} (ho : all[j]? = some o) (hE : okEdges all = true) (h : ((befores all).getD j 0).testBit i = true) : ∃ e ∈ o.after.toList, anyE e = true ∧ (e.on = i ∨ ((befores all).getD e.on 0).testBit i = true) := by
  obtain ⟨acc', h1, h2, h3⟩ := masks_at all.toList [] j o (by simpa using ho)
  simp only [List.length_nil, Nat.zero_add] at h1 h2
  unfold befores at h ⊢
  rw [h2] at h
  rcases fold_bits acc' i _ _ h with h | ⟨e, q1, q2⟩
  · simp at h
  · obtain ⟨q1, q0⟩ := List.mem_filter.1 q1
    refine ⟨e, q1, q0, q2.imp id fun q => ?_⟩
    rw [h3 e.on (by have := okEdges_any hE ho q1 q0; omega)]; exact q

/-- in each of the orders' modes, some rank rises along the edges that bind -/
theorem okEdges_rank (h : okEdges all = true) (md : Region.Mode) : ∃ r : Nat → Nat, ∀ (j : Nat) (o : Oper), all[j]? = some o → ∀ e ∈ o.after.toList, Region.binds md e = true → r e.on < r j ∧ e.on < all.size := by
  have plain : (∀ (j : Nat) (o : Oper), all[j]? = some o → ∀ e ∈ o.after.toList, Region.binds md e = true → isGc e = false) → ∃ r : Nat → Nat, ∀ (j : Nat) (o : Oper), all[j]? = some o → ∀ e ∈ o.after.toList, Region.binds md e = true → r e.on < r j ∧ e.on < all.size := fun hb => by
    refine ⟨id, fun j o ho e he hbe => ?_⟩
    have hj := (Array.getElem?_eq_some_iff.1 ho).1
    rcases okEdges_of h ho e he with h | h
    · rw [hb j o ho e he hbe] at h; exact nomatch h
    · exact ⟨h, by omega⟩
  cases md with
  | text => exact plain fun j o ho e he hbe => by unfold Region.binds at hbe; unfold isGc; revert hbe; cases e.ground <;> simp <;> decide
  | any => exact plain fun j o ho e he hbe => by unfold Region.binds at hbe; unfold isGc; revert hbe; cases e.ground <;> simp <;> decide
  | gc =>
    have h' := h
    unfold okEdges at h'
    rw [Bool.and_eq_true] at h'
    obtain ⟨_, h2⟩ := h'
    split at h2
    · generalize gcRanks all.toList 60 [] = rk at h2
      refine ⟨fun k => rk.getD k 0, fun j o ho e he hbe => ?_⟩
      unfold gcOk at h2
      rw [List.all_eq_true] at h2
      have h3 := h2 (o, j) (List.mem_zipIdx_iff_getElem?.2 (by simpa using ho))
      rw [List.all_eq_true] at h3
      have h4 := h3 e he
      simp only [Bool.or_eq_true, Bool.and_eq_true] at h4
      rcases h4 with h4 | h4
      · unfold Region.binds at hbe; unfold isText at h4; revert hbe h4; cases e.ground <;> simp <;> decide
      · exact ⟨Nat.le_of_ble_eq_true h4.1, Nat.le_of_ble_eq_true h4.2⟩
    · rename_i hg
      refine plain fun j o ho e he _ => ?_
      cases hi : isGc e with
      | false => rfl
      | true =>
        have : hasGc all = true := by
          unfold hasGc
          refine List.any_eq_true.2 ⟨o, ?_, List.any_eq_true.2 ⟨e, he, hi⟩⟩
          have := List.mem_of_getElem? (l := all.toList) (i := j) (a := o) (by simpa using ho)
          exact this
        rw [this] at hg; exact nomatch hg

/-- whoever is done has all done that stands before it -/
def Closed (all : Array Oper) (D : Nat → Bool) : Prop := ∀ k o, D k = true → all[k]? = some o → ∀ e ∈ o.after.toList, anyE e = true → D e.on = true

theorem closed_bit (hE : okEdges all = true) (hC : Closed all D) : ∀ (j : Nat) (o : Oper) (i : Nat), all[j]? = some o → (∀ e ∈ o.after.toList, anyE e = true → D e.on = true) → ((befores all).getD j 0).testBit i = true → D i = true := by
  intro j
  induction j using Nat.strongRecOn with
  | _ j ih =>
    intro o i ho hd h
    obtain ⟨e, he, hany, h⟩ := befores_bit ho hE h
    have hlt := okEdges_any hE ho he hany
    rcases h with rfl | h
    · exact hd e he hany
    · have hj : j < all.size := (Array.getElem?_eq_some_iff.1 ho).1
      have ho' := Array.getElem?_eq_getElem (show e.on < all.size by omega)
      exact ih e.on hlt _ i ho' (hC e.on _ (hd e he hany) ho') h

theorem apart_of {o o' : Oper} (h : apart all o o' = true) {x : Nat} (hx : o.dst = some x) : x ∉ looks all o' ∧ o'.dst ≠ some x := by
  unfold apart at h
  rw [hx] at h
  simp only [Bool.and_eq_true, Bool.not_eq_true'] at h
  refine ⟨by simpa using h.1, fun e => ?_⟩
  rw [e] at h
  simp at h

theorem meets_not {a b : FP} (h : meets a b = false) {id : Nat} : (a.wr.contains id = true → id ∉ b.rd ∧ id ∉ b.wr) ∧ (b.wr.contains id = true → id ∉ a.rd ∧ id ∉ a.wr) := by
  unfold meets at h
  simp only [Bool.or_eq_false_iff, List.any_eq_false] at h
  obtain ⟨h1, h2⟩ := h
  refine ⟨fun hm => ?_, fun hm => ?_⟩
  · have := h1 id (List.contains_iff_mem.1 hm)
    simp only [Bool.or_eq_true, not_or, List.contains_iff_mem] at this
    exact this
  · have h3 := h2 id (List.contains_iff_mem.1 hm)
    refine ⟨by simpa using h3, fun hw => ?_⟩
    have := h1 id hw
    simp only [Bool.or_eq_true, not_or] at this
    exact this.2 hm

/-- operations that are listed, as they are taken -/
def listedD (listed : Array Bool) : Nat → Bool := fun i => listed.getD i false

theorem drawn_step (H : Hist P all all.size ts ss fp) (hB : ∀ b, w0.heap.size ≤ b → B b) (hok : okDraw all = true) (hp : okPairs (befores all) ((List.range all.size).map fp) = true)
    (hC : Closed all D) {j : Nat} {o : Oper} (ho : all[j]? = some o) (hj : D j = false) (hr : ∀ e ∈ o.after.toList, anyE e = true → D e.on = true)
    {a : Act} {w : World} {K : Act → World → Prop} (hI : Inv B g0 w0 all all.size ts ss fp D a w) (hK : ∀ a w, Inv B g0 w0 all all.size ts ss fp (and1 D j) a w → K a w) : wpOp P all Q j K a w := by
  unfold okDraw at hok
  rw [Bool.and_eq_true] at hok
  obtain ⟨hE, hT⟩ := hok
  have hjn : j < all.size := (Array.getElem?_eq_some_iff.1 ho).1
  have hlow : ∀ i, ((befores all).getD j 0).testBit i = true → D i = true := fun i h => closed_bit hE hC j o i ho hr h
  have hhigh : ∀ i oi, all[i]? = some oi → ((befores all).getD i 0).testBit j = true → D i = false := fun i oi hoi h => by
    cases hD : D i with
    | false => rfl
    | true => rw [closed_bit hE hC i oi j hoi (hC i oi hD hoi) h] at hj; exact nomatch hj
  have hslots : ∀ x, (x ∈ looks all o ∨ o.dst = some x) → ∀ i, i < all.size → dstIs all i x = true → (i < j → D i = true) ∧ (j ≤ i → D i = false) := by
    intro x hx i hi hd
    have hoi := Array.getElem?_eq_getElem hi
    have hdi : all[i].dst = some x := by
      simp only [dstIs, hoi] at hd
      split at hd
      · rename_i d h; rw [Nat.eq_of_beq_eq_true hd] at h; exact h
      · exact nomatch hd
    refine ⟨fun hij => ?_, fun hij => ?_⟩
    · have := allPairs_of hT hij ((Array.getElem?_toList).trans hoi) ((Array.getElem?_toList).trans ho)
      simp only [Bool.or_eq_true, Bool.and_eq_true] at this
      rcases this with h | h
      · exact hlow i h
      · obtain ⟨q1, q2⟩ := apart_of h.1 hdi
        rcases hx with hx | hx
        · exact (q1 hx).elim
        · exact (q2 hx).elim
    · by_cases he : i = j
      · rw [he]; exact hj
      · have := allPairs_of hT (show j < i by omega) ((Array.getElem?_toList).trans ho) ((Array.getElem?_toList).trans hoi)
        simp only [Bool.or_eq_true, Bool.and_eq_true] at this
        rcases this with h | h
        · exact hhigh i _ hoi h
        · obtain ⟨q1, q2⟩ := apart_of h.2 hdi
          rcases hx with hx | hx
          · exact (q1 hx).elim
          · exact (q2 hx).elim
  have hfp : ∀ i, i < all.size → ((List.range all.size).map fp)[i]? = some (fp i) := fun i hi => by simp [hi]
  have hobjs : ∀ id, (id ∈ (fp j).rd ∨ id ∈ (fp j).wr) → ∀ i, i < all.size → (fp i).wr.contains id = true → (i < j → D i = true) ∧ (j ≤ i → D i = false) := by
    intro id hid i hi hw
    refine ⟨fun hij => ?_, fun hij => ?_⟩
    · have := allPairs_of hp hij (hfp i hi) (hfp j hjn)
      simp only [Bool.or_eq_true, Bool.not_eq_true'] at this
      rcases this with h | h
      · exact hlow i h
      · obtain ⟨q1, q2⟩ := (meets_not h (id := id)).1 hw
        rcases hid with h | h
        · exact (q1 h).elim
        · exact (q2 h).elim
    · by_cases he : i = j
      · rw [he]; exact hj
      · have := allPairs_of hp (show j < i by omega) (hfp j hjn) (hfp i hi)
        simp only [Bool.or_eq_true, Bool.not_eq_true'] at this
        rcases this with h | h
        · exact hhigh i _ (Array.getElem?_eq_getElem hi) h
        · obtain ⟨q1, q2⟩ := (meets_not h (id := id)).2 hw
          rcases hid with h | h
          · exact (q1 h).elim
          · exact (q2 h).elim
  exact op_step H hB hjn ho hslots hobjs hI hK

theorem listed_put {listed : Array Bool} {i : Nat} (hi : i < listed.size) : ∀ k, and1 (listedD listed) i k = listedD (listed.setIfInBounds i true) k := by
  intro k
  simp only [and1, listedD, Array.getD_eq_getD_getElem?, Array.getElem?_setIfInBounds]
  by_cases h : i = k
  · subst h; simp [hi]
  · have : Nat.beq k i = false := by
      cases h' : Nat.beq k i with
      | false => rfl
      | true => exact (h (Nat.eq_of_beq_eq_true h').symm).elim
    simp [h, this]

theorem drawn_any (H : Hist P all all.size ts ss fp) (hB : ∀ b, w0.heap.size ≤ b → B b) (hok : okDraw all = true) (hp : okPairs (befores all) ((List.range all.size).map fp) = true) (md : Region.Mode)
    (hQ : ∀ D a w, (∀ i, i < all.size → D i = true) → Inv B g0 w0 all all.size ts ss fp D a w → Q .normal a w) :
    ∀ (fuel : Nat) (listed : Array Bool) (a : Act) (w : World), listed.size = all.size → ((List.range all.size).filter fun i => !listedD listed i).length ≤ fuel → Closed all (listedD listed) → Inv B g0 w0 all all.size ts ss fp (listedD listed) a w → wpAny P md all Q fuel listed a w := by
  have hE : okEdges all = true := by unfold okDraw at hok; rw [Bool.and_eq_true] at hok; exact hok.1
  have hready : ∀ (listed : Array Bool), listed.size = all.size → Region.ready md all listed = [] → ∀ i, i < all.size → listedD listed i = true := by
    intro listed hsz hr i
    obtain ⟨r, hrk⟩ := okEdges_rank hE md
    induction hri : r i using Nat.strongRecOn generalizing i with
    | _ ri ih =>
      intro hi
      cases hD : listedD listed i with
      | true => rfl
      | false =>
        have ho := Array.getElem?_eq_getElem hi
        have : i ∈ Region.ready md all listed := by
          unfold Region.ready
          refine List.mem_filter.2 ⟨List.mem_range.2 hi, ?_⟩
          have h1 : listed.getD i true = false := by
            unfold listedD at hD
            simp only [Array.getD_eq_getD_getElem?, Array.getElem?_eq_getElem (show i < listed.size by omega)] at hD ⊢
            exact hD
          rw [h1, ho]
          simp only [Bool.not_false, Bool.true_and, Option.map_some, Option.getD_some]
          rw [← Array.all_toList, List.all_eq_true]
          intro e he
          cases hb : Region.binds md e with
          | false => rfl
          | true =>
            have := hrk i _ ho e he hb
            have hl : listed.getD e.on false = true := ih (r e.on) (hri ▸ this.1) e.on rfl this.2
            rw [hl]; rfl
        rw [hr] at this; simp at this
  intro fuel
  induction fuel with
  | zero =>
    intro listed a w hsz hc hC hI
    have hall : ∀ i, i < all.size → listedD listed i = true := fun i hi => by
      cases hD : listedD listed i with
      | true => rfl
      | false =>
        have : i ∈ (List.range all.size).filter fun i => !listedD listed i := List.mem_filter.2 ⟨List.mem_range.2 hi, by rw [hD]; rfl⟩
        rw [List.eq_nil_of_length_eq_zero (Nat.le_zero.1 hc)] at this; simp at this
    refine ⟨?_, hQ _ a w hall hI⟩
    unfold Region.ready
    refine List.filter_eq_nil_iff.2 fun i hi => ?_
    have h := hall i (List.mem_range.1 hi)
    have h1 : listed.getD i true = true := by
      unfold listedD at h
      simp only [Array.getD_eq_getD_getElem?, Array.getElem?_eq_getElem (show i < listed.size by have := List.mem_range.1 hi; omega)] at h ⊢
      exact h
    rw [h1]; simp
  | succ fuel ih =>
    intro listed a w hsz hc hC hI
    refine ⟨fun hr => hQ _ a w (hready listed hsz hr) hI, fun i hi => ?_⟩
    unfold Region.ready at hi
    obtain ⟨h1, h2⟩ := List.mem_filter.1 hi
    have hin := List.mem_range.1 h1
    have ho := Array.getElem?_eq_getElem hin
    rw [ho] at h2
    simp only [Option.map_some, Option.getD_some, Bool.and_eq_true, Bool.not_eq_true'] at h2
    obtain ⟨h2, h3⟩ := h2
    rw [← Array.all_toList, List.all_eq_true] at h3
    have hDi : listedD listed i = false := by
      unfold listedD
      simp only [Array.getD_eq_getD_getElem?, Array.getElem?_eq_getElem (show i < listed.size by omega)] at h2 ⊢
      exact h2
    have hrd : ∀ e ∈ all[i].after.toList, anyE e = true → listedD listed e.on = true := fun e he ha => by
      have := h3 e he
      have hb : Region.binds md e = true := by unfold anyE at ha; unfold Region.binds; revert ha; cases e.ground <;> simp
      rw [hb] at this
      exact this
    have hput := listed_put (listed := listed) (i := i) (by omega)
    refine drawn_step H hB hok hp hC ho hDi hrd hI fun a w hI' => ih _ a w (by simp [hsz]) ?_ ?_ (hI'.congr hput)
    · have hlt : ((List.range all.size).filter fun k => !listedD (listed.setIfInBounds i true) k).length < ((List.range all.size).filter fun k => !listedD listed k).length := by
        have hsub : ((List.range all.size).filter fun k => !listedD (listed.setIfInBounds i true) k) = ((List.range all.size).filter fun k => !listedD listed k).filter fun k => !Nat.beq k i := by
          rw [List.filter_filter]
          refine List.filter_congr fun k _ => ?_
          rw [← hput k]
          simp only [and1]
          cases listedD listed k <;> cases Nat.beq k i <;> rfl
        rw [hsub]
        refine List.length_filter_lt_length_iff_exists.2 ⟨i, List.mem_filter.2 ⟨h1, by rw [hDi]; rfl⟩, ?_⟩
        rw [show Nat.beq i i = true from Nat.beq_refl i]; simp
      omega
    · intro k o hk hok' e he ha
      rw [← hput k] at hk
      rw [← hput e.on]
      simp only [and1, Bool.or_eq_true] at hk ⊢
      rcases hk with hk | hk
      · exact .inl (hC k o hk hok' e he ha)
      · have := Nat.eq_of_beq_eq_true hk
        subst this
        rw [ho] at hok'
        cases hok'
        exact .inl (hrd e he ha)

end
end Go.Proofs.Ytmapiefbnjaikaa.Vm
/- Code: what a function's body comes to on abstract states. -/
set_option linter.all false
namespace Go.Proofs.Ytmapiefbnjaikaa.Vm
open Go

/-- an abstract state, in the machine -/
structure StRel (B : Nat → Prop) (g0 : Gh) (w0 : World) (g : Gh) (w : World) (t : List AV) (s : List VObj) (a : Act) : Prop where
  ext : Ext B g0 w0 g w
  rs : RelS B g w (getO s)
  rt : RelT g w t a.tmps
  defers : a.defers = []

section
variable {P : Program} {all : Array Oper} {ts : Nat → List AV} {ss : Nat → List VObj} {fp : Nat → FP} {B : Nat → Prop} {g0 : Gh} {w0 : World} {Q : Exit → Act → World → Prop}

theorem inv_start (H : Hist P all all.size ts ss fp) {D : Nat → Bool} (hD : ∀ i, D i = false) {g : Gh} {a : Act} {w : World} (h : StRel B g0 w0 g w (ts 0) (ss 0) a) : Inv B g0 w0 all all.size ts ss fp D a w := by
  refine ⟨⟨g, h.ext, ?_, fun x v hv => ?_⟩, h.rt.size.symm, h.defers⟩
  · have : (fun id => Vat (fun k => getO (ss k) id) (fun k => (fp k).wr.contains id) D all.size) = getO (ss 0) := by
      funext id
      exact Vat_at (j := 0) (fun k hk hp => H.obj hk hp) (Nat.zero_le _) (fun i hi => by omega) (fun i _ _ hd => by rw [hD i] at hd; exact nomatch hd)
    rw [this]; exact h.rs
  · rw [Vat_at (val := fun k => unkb ((ts k).getD x .dead)) (j := 0) (fun k hk hp => H.slot hk hp) (Nat.zero_le _) (fun i hi => by omega) (fun i _ _ hd => by rw [hD i] at hd; exact nomatch hd)]
    have hlt : x < (ts 0).length := by rw [h.rt.size]; exact (Array.getElem?_eq_some_iff.1 hv).1
    have := h.rt.rel x _ v (List.getElem?_eq_getElem hlt) hv
    rw [show (ts 0).getD x .dead = (ts 0)[x] by simp [hlt]]
    exact this.unkb

theorem inv_end (H : Hist P all all.size ts ss fp) {D : Nat → Bool} (hD : ∀ i, i < all.size → D i = true) {a : Act} {w : World} (h : Inv B g0 w0 all all.size ts ss fp D a w) : ∃ g, StRel B g0 w0 g w (ts all.size) (ss all.size) a := by
  obtain ⟨⟨g, hE, hS, hT⟩, hsz, hd⟩ := h
  refine ⟨g, hE, ?_, ⟨(H.len _ (Nat.le_refl _)).trans hsz.symm, fun i x v hx hv => ?_⟩, hd⟩
  · have : (fun id => Vat (fun k => getO (ss k) id) (fun k => (fp k).wr.contains id) D all.size) = getO (ss all.size) := by
      funext id
      exact Vat_at (j := all.size) (fun k hk hp => H.obj hk hp) (Nat.le_refl _) (fun i hi _ => hD i hi) (fun i h1 h2 => by omega)
    rw [← this]; exact hS
  · have := hT i v hv
    rw [Vat_at (val := fun k => unkb ((ts k).getD i .dead)) (j := all.size) (fun k hk hp => H.slot hk hp) (Nat.le_refl _) (fun i hi _ => hD i hi) (fun i h1 h2 => by omega)] at this
    rw [show (ts all.size).getD i .dead = x by simp [hx]] at this
    exact this.of_unkb

theorem StRel.heap {g : Gh} {a : Act} {w w' : World} {t : List AV} {s : List VObj} (h : StRel B g0 w0 g w t s a) (e : w'.heap = w.heap) (l : Low w w') : StRel B g0 w0 g w' t s a :=
  ⟨h.ext.trans (Ext.ofHeap e l), h.rs.heap e l, h.rt.mono (Ext.ofHeap (B := B) e l), h.defers⟩

theorem region_sound {id : Nat} {draw : Bool} (H : Hist P all all.size ts ss fp) (hB : ∀ b, w0.heap.size ≤ b → B b) (hok : draw = true → okDraw all = true ∧ okPairs (befores all) ((List.range all.size).map fp) = true)
    {g : Gh} {a : Act} {w : World} (hS : StRel B g0 w0 g w (ts 0) (ss 0) a) (hQ : ∀ g a w, StRel B g0 w0 g w (ts all.size) (ss all.size) a → Q .normal a w) : (Code.region id all draw).wp P Q a w := by
  cases draw with
  | false =>
    refine wp_region ?_
    rw [List.range_eq_range']
    refine plain_ops H hB (fun a w hI => ?_) all.size 0 a w (by omega) (inv_start H (fun i => ?_) hS)
    · obtain ⟨g, h⟩ := inv_end H (fun i hi => Nat.ble_eq_true_of_le hi) hI
      exact hQ g a w h
    · cases h : Nat.blt i 0 with
      | false => exact h
      | true => have := Nat.le_of_ble_eq_true h; omega
  | true =>
    obtain ⟨h1, h2⟩ := hok rfl
    refine wp_region_draw fun t => ?_
    have key : ∀ md t', wpOps P all Q (Region.linearise md all t') a { w with drawn := w.drawn + 1 } := fun md t' => by
      have hf : ∀ i, listedD (Array.replicate all.size false) i = false := fun i => by
        unfold listedD
        rw [Array.getD_eq_getD_getElem?, Array.getElem?_replicate]
        split <;> rfl
      refine wpAny_sound (md := md) all.size t' _ a _ (drawn_any H hB h1 h2 md (fun D a w hD hI => ?_) all.size (Array.replicate all.size false) a _ (by simp) ?_ (fun k o hk => by rw [hf k] at hk; exact nomatch hk) (inv_start H hf (hS.heap rfl ⟨rfl, rfl, rfl, fun _ => rfl⟩)))
      · obtain ⟨g, h⟩ := inv_end H hD hI
        exact hQ g a w h
      · exact Nat.le_trans (List.length_filter_le _ _) (by simp)
    unfold Region.schedule
    split
    · exact key _ _
    · exact key _ _
end

/-- what is still to be done, behind what a piece of code ends in -/
def after (P : Program) (Q : Exit → Act → World → Prop) : List VItem → Exit → Act → World → Prop
  | [] => Q
  | .code c :: r => Exit.then (c.wp P (after P Q r)) (after P Q r)
  | .inBlock id :: r => Exit.inBlock id (after P Q r)
  | .ops .. :: r => after P Q r

def isOps : VItem → Bool
  | .ops .. => true
  | _ => false

theorem after_ret {P : Program} {Q : Exit → Act → World → Prop} {a : Act} {w : World} (h : Q .ret a w) : ∀ todo, after P Q todo .ret a w := by
  intro todo
  induction todo with
  | nil => exact h
  | cons x r ih => cases x <;> exact ih

theorem after_exit {P : Program} {Q : Exit → Act → World → Prop} {a : Act} {w : World} {id : Nat} : ∀ todo, (match popTo id todo with
    | some r => after P Q r .normal a w
    | none => Q (.exit id) a w) → after P Q todo (.exit id) a w := by
  intro todo
  induction todo with
  | nil => intro h; exact h
  | cons x r ih =>
    intro h
    cases x with
    | code c => exact ih h
    | ops all draw left fps => exact ih h
    | inBlock id' =>
      show if id = id' then after P Q r .normal a w else after P Q r (.exit id) a w
      simp only [popTo] at h
      by_cases e : id = id'
      · subst e
        rw [if_pos rfl]
        rw [show Nat.beq id id = true from Nat.beq_refl id] at h
        exact h
      · rw [if_neg e]
        have : Nat.beq id' id = false := by
          cases h' : Nat.beq id' id with
          | false => rfl
          | true => exact (e (Nat.eq_of_beq_eq_true h').symm).elim
        rw [this] at h
        exact ih h

/-- the machine's side of what is asked of an abstract end -/
def conc (B : Nat → Prop) (g0 : Gh) (w0 : World) (R : Exit → List AV → List VObj → Prop) (e : Exit) (a : Act) (w : World) : Prop := ∃ t s g, StRel B g0 w0 g w t s a ∧ R e t s

/-- which objects are the function's own: from v on their versions, from l on their places -/
structure NN where
  v : Nat
  l : Nat

/-- where a run may start -/
structure Frm (n : NN) (B : Nat → Prop) (g0 : Gh) (w0 : World) : Prop where
  above : ∀ b, w0.heap.size ≤ b → B b
  ownl : ∀ id, n.l ≤ id → g0.loc id = none
  ownh : ∀ id, n.v ≤ id → g0.hdr id = none

/-- a region that is under way -/
def Under (P : Program) (all : Array Oper) (left : List Oper) (fps : List FP) (t : List AV) (s : List VObj) (ts : Nat → List AV) (ss : Nat → List VObj) : Prop :=
  ∃ (n : Nat) (fp : Nat → FP), Hist P all n ts ss fp ∧ left = all.toList.drop n ∧ fps.reverse = (List.range n).map fp ∧ ts n = t ∧ ss n = s

/-- all runs from an abstract state on end as R says -/
@[irreducible] def Run (P : Program) (n : NN) (c : Cfg) (R : Exit → List AV → List VObj → Prop) : Prop :=
  c.todo.tail.any isOps = false → ∀ (B : Nat → Prop) (g0 : Gh) (w0 : World), Frm n B g0 w0 →
    match c.todo with
    | .ops all draw left fps :: r => ∀ ts ss, Under P all left fps c.t c.s ts ss → ∀ g a w, StRel B g0 w0 g w (ts 0) (ss 0) a → ∀ id, (Code.region id all draw).wp P (after P (conc B g0 w0 R) r) a w
    | todo => ∀ g a w, StRel B g0 w0 g w c.t c.s a → after P (conc B g0 w0 R) todo .normal a w

/-- a run that stands before a loop -/
@[irreducible] def LoopRun (P : Program) (n : NN) (body : Code) (c : Cfg) (R : Exit → List AV → List VObj → Prop) : Prop := Run P n ⟨c.t, c.s, .code (.loop body) :: c.todo⟩ R

def OutHolds (P : Program) (n : NN) (R : Exit → List AV → List VObj → Prop) : Out → Prop
  | .fail => False
  | .more c => Run P n c R
  | .br b c c' => (b = true → Run P n c R) ∧ (b = false → Run P n c' R)
  | .op o f => OpHolds P o fun v s fp => Run P n (f v s fp) R
  | .loop body c => LoopRun P n body c R
  | .done e t s => R e t s

section
variable {P : Program} {E : Env} {N : NN} {R : Exit → List AV → List VObj → Prop}

theorem any_tail {x : VItem} {r : List VItem} (h : (x :: r).any isOps = false) : r.any isOps = false := by rw [List.any_cons, Bool.or_eq_false_iff] at h; exact h.2
theorem any_cons {x : VItem} {r : List VItem} (hx : isOps x = false) (h : r.any isOps = false) : (x :: r).any isOps = false := by rw [List.any_cons, hx, h]; rfl
theorem any_sub {r : List VItem} (h : r.any isOps = false) : r.tail.any isOps = false := by
  cases r with
  | nil => rfl
  | cons x r => rw [List.any_cons, Bool.or_eq_false_iff] at h; exact h.2

/-- a run whose next item is no region under way -/
theorem run_intro {t : List AV} {s : List VObj} {todo : List VItem} (h : todo.any isOps = false → ∀ (B : Nat → Prop) (g0 : Gh) (w0 : World), Frm N B g0 w0 → ∀ g a w, StRel B g0 w0 g w t s a → after P (conc B g0 w0 R) todo .normal a w)
    (hh : ∀ x r, todo = x :: r → isOps x = false) : Run P N ⟨t, s, todo⟩ R := by
  unfold Run
  intro ht B g0 w0 hf
  cases todo with
  | nil => exact h rfl B g0 w0 hf
  | cons x r =>
    have := any_cons (hh x r rfl) ht
    cases x with
    | ops => exact nomatch hh _ _ rfl
    | code c => exact h this B g0 w0 hf
    | inBlock id => exact h this B g0 w0 hf

theorem run_elim {t : List AV} {s : List VObj} {todo : List VItem} (h : Run P N ⟨t, s, todo⟩ R) (ht : todo.any isOps = false) {B : Nat → Prop} {g0 : Gh} {w0 : World} (hf : Frm N B g0 w0) {g : Gh} {a : Act} {w : World} (hS : StRel B g0 w0 g w t s a) :
    after P (conc B g0 w0 R) todo .normal a w := by
  unfold Run at h
  have h := h (any_sub ht) B g0 w0 hf
  cases todo with
  | nil => exact h g a w hS
  | cons x r =>
    cases x with
    | ops => exact nomatch ht
    | code c => exact h g a w hS
    | inBlock id => exact h g a w hS

/-- one more operation of a region is done -/
theorem Under.more {all : Array Oper} {o : Oper} {os : List Oper} {fps : List FP} {t : List AV} {s s2 : List VObj} {ts : Nat → List AV} {ss : Nat → List VObj} {v : AV} {fp : FP} (h : Under P all (o :: os) fps t s ts ss) (hd : Done P all o t s v s2 fp) :
    ∃ ts' ss', ts' 0 = ts 0 ∧ ss' 0 = ss 0 ∧ Under P all os (fp :: fps) (putT t o.dst v) s2 ts' ss' := by
  obtain ⟨n, fpf, H, hl, hf, rfl, rfl⟩ := h
  have hn : n < all.size := by
    rcases Nat.lt_or_ge n all.size with h | h
    · exact h
    · rw [List.drop_eq_nil_of_le (by simpa using h)] at hl; exact nomatch hl
  have hdrop := List.drop_eq_getElem_cons (l := all.toList) (i := n) (by simpa using hn)
  rw [hdrop] at hl
  injection hl with ho hos
  have hoo : all[n]? = some o := by rw [Array.getElem?_eq_getElem hn, ho]; simp
  refine ⟨fun k => if k = n + 1 then putT (ts n) o.dst v else ts k, fun k => if k = n + 1 then s2 else ss k, if_neg (by omega), if_neg (by omega), n + 1, fun k => if k = n then fp else fpf k, ⟨hn, fun k o' hk hok => ?_⟩, hos, ?_, if_pos rfl, if_pos rfl⟩
  · by_cases hkn : k = n
    · subst hkn
      rw [hoo] at hok
      cases hok
      refine ⟨v, ?_, ?_⟩
      · rw [if_neg (by omega), if_neg (by omega), if_pos rfl, if_pos rfl]; exact hd
      · rw [if_neg (by omega), if_pos rfl]; exact .refl _
    · obtain ⟨v', q1, q2⟩ := H.step k o' (by omega) hok
      refine ⟨v', ?_, ?_⟩
      · rw [if_neg (by omega), if_neg (by omega), if_neg (by omega), if_neg hkn]; exact q1
      · rw [if_neg (by omega), if_neg (by omega)]; exact q2
  · rw [List.reverse_cons, hf, List.range_succ, List.map_append]
    congr 1
    · refine List.map_congr_left fun k hk => ?_
      have := List.mem_range.1 hk
      rw [if_neg (by omega)]
    · simp

/-- a guard's value is told -/
theorem Under.told {all : Array Oper} {left : List Oper} {fps : List FP} {t t' : List AV} {s : List VObj} {ts : Nat → List AV} {ss : Nat → List VObj} (h : Under P all left fps t s ts ss) (e : SameU t t') :
    ∃ ts', SameU (ts 0) (ts' 0) ∧ Under P all left fps t' s ts' ss := by
  obtain ⟨n, fpf, H, hl, hf, rfl, rfl⟩ := h
  refine ⟨fun k => if k = n then t' else ts k, ?_, n, fpf, ⟨H.le, fun k o hk ho => ?_⟩, hl, hf, if_pos rfl, rfl⟩
  · by_cases hn : 0 = n
    · subst hn; dsimp only; rw [if_pos rfl]; exact e
    · dsimp only; rw [if_neg hn]; exact .refl _
  · obtain ⟨v, q1, q2⟩ := H.step k o hk ho
    refine ⟨v, by rw [if_neg (by omega)]; exact q1, ?_⟩
    rw [if_neg (by omega)]
    by_cases hk1 : k + 1 = n
    · subst hk1; rw [if_pos rfl]; exact q2.trans e
    · rw [if_neg hk1]; exact q2

theorem StRel.same {B : Nat → Prop} {g0 : Gh} {w0 : World} {g : Gh} {w : World} {t t' : List AV} {s : List VObj} {a : Act} (h : StRel B g0 w0 g w t s a) (e : SameU t t') : StRel B g0 w0 g w t' s a :=
  ⟨h.ext, h.rs, ⟨e.len.symm.trans h.rt.size, fun i x v hx hv => by
    have hlt : i < t.length := by rw [h.rt.size]; exact (Array.getElem?_eq_some_iff.1 hv).1
    have hr := h.rt.rel i _ v (List.getElem?_eq_getElem hlt) hv
    refine hr.sameU ?_
    have := e.at_ i
    simpa [hlt, hx] using this⟩, h.defers⟩

theorem sameU_set {t : List AV} {d : Nat} {b b' : Bool} (h : t.getD d .dead = .bool b) (e : b = b') : SameU t (t.set d (.kb b')) := by
  subst e
  refine ⟨by simp, fun i => ?_⟩
  by_cases hi : d = i
  · subst hi
    have hlt : d < t.length := by
      rcases Nat.lt_or_ge d t.length with h' | h'
      · exact h'
      · simp [h'] at h
    rw [h]; simp [hlt, unkb]
  · simp [List.getElem?_set, hi]

theorem run_done_op {all : Array Oper} {draw : Bool} {o : Oper} {os : List Oper} {fps : List FP} {t : List AV} {s s2 : List VObj} {r : List VItem} {v : AV} {fp : FP} (hd : Done P all o t s v s2 fp)
    (h : Run P N ⟨putT t o.dst v, s2, .ops all draw os (fp :: fps) :: r⟩ R) : Run P N ⟨t, s, .ops all draw (o :: os) fps :: r⟩ R := by
  unfold Run at h ⊢
  intro ht B g0 w0 hf ts ss hU g a w hS id
  obtain ⟨ts', ss', e1, e2, hU'⟩ := hU.more hd
  exact h ht B g0 w0 hf ts' ss' hU' g a w (by rw [e1, e2]; exact hS) id

theorem run_told {all : Array Oper} {draw : Bool} {left : List Oper} {fps : List FP} {t t' : List AV} {s : List VObj} {r : List VItem} (e : SameU t t')
    (h : Run P N ⟨t', s, .ops all draw left fps :: r⟩ R) : Run P N ⟨t, s, .ops all draw left fps :: r⟩ R := by
  unfold Run at h ⊢
  intro ht B g0 w0 hf ts ss hU g a w hS id
  obtain ⟨ts', e1, hU'⟩ := hU.told e
  exact h ht B g0 w0 hf ts' ss hU' g a w (hS.same e1) id

theorem run_ops_end {all : Array Oper} {draw : Bool} {fps : List FP} {t : List AV} {s : List VObj} {r : List VItem} (hok : draw = true → okDraw all = true ∧ okPairs (befores all) fps.reverse = true)
    (h : Run P N ⟨t, s, r⟩ R) : Run P N ⟨t, s, .ops all draw [] fps :: r⟩ R := by
  unfold Run
  intro ht B g0 w0 hf ts ss hU g a w hS id
  obtain ⟨n, fpf, H, hl, hfp, rfl, rfl⟩ := hU
  have hn : n = all.size := by
    have h1 := H.le
    have := congrArg List.length hl
    simp at this; omega
  subst hn
  exact region_sound H hf.above (fun hd => by rw [← hfp]; exact hok hd) hS fun g a w hS' => run_elim h ht hf hS'

theorem run_ops_start {all : Array Oper} {draw : Bool} {id : Nat} {t : List AV} {s : List VObj} {r : List VItem} (h : Run P N ⟨t, s, .ops all draw all.toList [] :: r⟩ R) : Run P N ⟨t, s, .code (.region id all draw) :: r⟩ R := by
  refine run_intro (fun ht B g0 w0 hf g a w hS => ?_) (fun x r' e => by cases e; rfl)
  unfold Run at h
  have := h (any_sub (r := .code (.region id all draw) :: r) ht) B g0 w0 hf (fun _ => t) (fun _ => s) ⟨0, fun _ => fp0, ⟨Nat.zero_le _, fun k o hk => by omega⟩, by simp, rfl, rfl, rfl⟩ g a w hS id
  exact wp_mono this fun e a w he => by cases e <;> exact he

theorem evGv_rel {g : Gh} {w : World} {t : List AV} {a : Act} {x : Operand} (h : RelT g w t a.tmps) : Rel g w (evV t x) (a.eval x) :=
  eval_rel (fun i _ v hv => by
    have hlt : i < t.length := by rw [h.size]; exact (Array.getElem?_eq_some_iff.1 hv).1
    have := h.rel i _ v (List.getElem?_eq_getElem hlt) hv
    rw [show t.getD i .dead = t[i] by simp [hlt]]
    exact this.unkb) h.size.symm

theorem guard_of {all : Array Oper} {o : Oper} {j d : Nat} {want b : Bool} {t : List AV} (hg : o.guard = some (j, want)) (hd : (all[j]?).bind (·.dst) = some d) (h : t.getD d .dead = .kb b) :
    (Bool.xor b want = false → GuardYes all o t) ∧ (Bool.xor b want = true → GuardNo all o t) := by
  unfold GuardYes GuardNo
  rw [hg]
  refine ⟨fun h' => ⟨d, hd, ?_⟩, fun h' => ⟨d, hd, .inl ?_⟩⟩
  · rw [h]; cases b <;> cases want <;> first | rfl | exact nomatch h'
  · rw [h]; cases b <;> cases want <;> first | rfl | exact nomatch h'

theorem putK_eq {A : Type} (t : List AV) (d : Option Tmp) (v : AV) (K : List AV → A) : putK t d v K = K (putT t d v) := by
  cases d with
  | none => rfl
  | some i => simp only [putK, putT, setS_eq]

/-- the evaluator of code is sound -/
theorem vrun_sound (hE : E.Fits P) (hQ : E.EqOk P) : ∀ (n : Nat) (t : List AV) (s : List VObj) (todo : List VItem), vrun E n t s todo (OutHolds P N R) → Run P N ⟨t, s, todo⟩ R := by
  intro n
  induction n with
  | zero => intro t s todo h; exact h
  | succ n ih =>
    intro t s todo h
    have hops : ∀ (all : Array Oper) (draw : Bool) (o : Oper) (os : List Oper) (fps : List FP) (todo : List VItem), GuardYes all o t →
        vval E (fun out => match out with
          | .ok v s' fp => putK t o.dst v fun t' => vrun E n t' s' (.ops all draw os (fp :: fps) :: todo) (OutHolds P N R)
          | .fail => OutHolds P N R .fail
          | out => OutHolds P N R (.op out fun v s' fp => ⟨putT t o.dst v, s', .ops all draw os (fp :: fps) :: todo⟩)) o.dst o.op t s → Run P N ⟨t, s, .ops all draw (o :: os) fps :: todo⟩ R := by
      intro all draw o os fps todo hg h
      obtain ⟨v, s2, fp, hop, hR⟩ := vval_sound (ty := o.type) (pos := o.pos) (after := o.after) (guard := o.guard) (R := fun v s' fp => Run P N ⟨putT t o.dst v, s', .ops all draw os (fp :: fps) :: todo⟩ R) hE hQ (fun out hout => by
        cases out with
        | ok v s' fp =>
          dsimp only at hout
          rw [putK_eq] at hout
          exact ih _ _ _ hout
        | fail => exact hout
        | need p v s fp => exact hout
        | look p r f s fp => exact hout
        | br b v v' s => exact hout
        | idx p es i m f fp => exact hout
        | sidx b i s => exact hout
        | cas m i f s => exact hout
        | call fid args s => exact hout) h
      exact run_done_op (.inl ⟨hg, hop⟩) hR
    cases todo with
    | nil =>
      refine run_intro (fun _ B g0 w0 hf g a w hS => ⟨t, s, g, hS, h⟩) (fun x r e => nomatch e)
    | cons x todo =>
      cases x with
      | inBlock id =>
        refine run_intro (fun ht B g0 w0 hf g a w hS => ?_) (fun x r' e => by cases e; rfl)
        exact run_elim (ih t s todo h) (any_tail ht) hf hS
      | ops all draw left fps =>
        cases left with
        | nil =>
          cases draw with
          | false => exact run_ops_end (fun h => nomatch h) (ih t s todo h)
          | true =>
            simp only [vrun] at h
            split at h
            · rename_i hok
              rw [Bool.and_eq_true] at hok
              exact run_ops_end (fun _ => hok) (ih t s todo h)
            · exact h.elim
        | cons o os =>
          simp only [vrun] at h
          split at h
          · rename_i hg
            exact hops all draw o os fps todo (by unfold GuardYes; rw [hg]; trivial) h
          · rename_i j want hg
            split at h
            · exact h.elim
            · rename_i d hd
              rw [getS_eq] at h
              split at h
              · rename_i b hb
                obtain ⟨g1, g2⟩ := guard_of hg hd hb
                split at h
                · rename_i hx; exact hops all draw o os fps todo (g1 hx) h
                · rename_i hx
                  rw [putK_eq] at h
                  exact run_done_op (.inr ⟨g2 hx, rfl, rfl, rfl⟩) (ih _ _ _ h)
              · rename_i b hb
                obtain ⟨h1, h2⟩ := h
                cases b with
                | true => exact run_told (sameU_set hb rfl) (h1 rfl)
                | false => exact run_told (sameU_set hb rfl) (h2 rfl)
              · rename_i hb
                rw [putK_eq] at h
                refine run_done_op (.inr ⟨?_, rfl, rfl, rfl⟩) (ih _ _ _ h)
                unfold GuardNo
                rw [hg]
                exact ⟨d, hd, .inr (by rw [hb]; rfl)⟩
              · exact h.elim
      | code c =>
        cases c with
        | skip =>
          refine run_intro (fun ht B g0 w0 hf g a w hS => wp_skip ?_) (fun x r' e => by cases e; rfl)
          exact run_elim (ih t s todo h) (any_tail ht) hf hS
        | region id all draw => exact run_ops_start (ih t s _ h)
        | seq x y =>
          refine run_intro (fun ht B g0 w0 hf g a w hS => ?_) (fun x r' e => by cases e; rfl)
          have := run_elim (ih t s _ h) (todo := .code x :: .code y :: todo) (any_cons rfl (any_cons rfl (any_tail ht))) hf hS
          refine wp_seq (wp_mono this fun e a w he => ?_)
          cases e <;> first | exact he | exact wp_mono he fun e a w he => by cases e <;> exact he
        | cond c x y =>
          simp only [vrun, evG_eq] at h
          have hc := unkb_evGv t c
          have hc2 : ∀ (g : Gh) (w : World) (a : Act), RelT g w t a.tmps → Rel g w (evV t c) (a.eval c) := fun g w a hr => evGv_rel hr
          split at h
          · rename_i b hb
            rw [hb] at hc
            split at h
            · refine run_intro (fun ht B g0 w0 hf g a w hS => ?_) (fun x r' e => by cases e; rfl)
              have hv := hc2 g w a hS.rt
              rw [← hc] at hv
              have := run_elim (ih t s _ h) (todo := .code x :: todo) (any_cons rfl (any_tail ht)) hf hS
              exact wp_mono (wp_cond_true (rel_bool hv) this) fun e a w he => by cases e <;> exact he
            · refine run_intro (fun ht B g0 w0 hf g a w hS => ?_) (fun x r' e => by cases e; rfl)
              have hv := hc2 g w a hS.rt
              rw [← hc] at hv
              have := run_elim (ih t s _ h) (todo := .code y :: todo) (any_cons rfl (any_tail ht)) hf hS
              exact wp_mono (wp_cond_false (rel_bool hv) this) fun e a w he => by cases e <;> exact he
          · rename_i b hb
            rw [hb] at hc
            obtain ⟨h1, h2⟩ := h
            refine run_intro (fun ht B g0 w0 hf g a w hS => ?_) (fun x r' e => by cases e; rfl)
            have hv := hc2 g w a hS.rt
            rw [← hc] at hv
            cases b with
            | true =>
              have := run_elim (h1 rfl) (todo := .code x :: todo) (any_cons rfl (any_tail ht)) hf hS
              exact wp_mono (wp_cond_true (rel_bool hv) this) fun e a w he => by cases e <;> exact he
            | false =>
              have := run_elim (h2 rfl) (todo := .code y :: todo) (any_cons rfl (any_tail ht)) hf hS
              exact wp_mono (wp_cond_false (rel_bool hv) this) fun e a w he => by cases e <;> exact he
          · exact h.elim
        | block id b =>
          refine run_intro (fun ht B g0 w0 hf g a w hS => ?_) (fun x r' e => by cases e; rfl)
          have := run_elim (ih t s _ h) (todo := .code b :: .inBlock id :: todo) (any_cons rfl (any_cons rfl (any_tail ht))) hf hS
          have hb : (Code.block id b).wp P (after P (conc B g0 w0 R) todo) a w := wp_block (wp_mono this fun e a w he => by cases e <;> exact he)
          exact wp_mono hb fun e a w he => by cases e <;> exact he
        | loop b =>
          have h : LoopRun P N b ⟨t, s, todo⟩ R := h
          unfold LoopRun at h
          exact h
        | exit id =>
          refine run_intro (fun ht B g0 w0 hf g a w hS => wp_exit ?_) (fun x r' e => by cases e; rfl)
          simp only [vrun] at h
          show after P (conc B g0 w0 R) todo (.exit id) a w
          refine after_exit todo ?_
          have hp : ∀ (todo r : List VItem), popTo id todo = some r → todo.any isOps = false → r.any isOps = false := by
            intro todo
            induction todo with
            | nil => intro r h; exact nomatch h
            | cons x todo ih2 =>
              intro r h hh
              rw [List.any_cons, Bool.or_eq_false_iff] at hh
              cases x with
              | inBlock id' =>
                simp only [popTo] at h
                split at h
                · cases h; exact hh.2
                · exact ih2 r h hh.2
              | _ => exact ih2 r h hh.2
          split at h
          · rename_i r hr
            rw [hr]
            exact run_elim (ih t s r h) (hp todo r hr (any_tail ht)) hf hS
          · rename_i hr
            rw [hr]
            exact ⟨t, s, g, hS, h⟩
        | ret =>
          refine run_intro (fun ht B g0 w0 hf g a w hS => wp_ret ?_) (fun x r' e => by cases e; rfl)
          exact after_ret ⟨t, s, g, hS, h⟩ todo
        | _ => exact h.elim

end
end Go.Proofs.Ytmapiefbnjaikaa.Vm
/- Steps of a run, weaker states, loops. -/
set_option linter.all false
namespace Go.Proofs.Ytmapiefbnjaikaa.Vm
open Go

theorem forceS_eq {A : Type} (s : List VObj) (k : List VObj → A) : forceS s k = k s := by
  induction s generalizing k with
  | nil => rfl
  | cons o os ih => cases o <;> simp only [forceS, forceC_eq, ih]

section
variable {P : Program} {E : Env} {N : NN} {R : Exit → List AV → List VObj → Prop}

theorem run_step (hE : E.Fits P) (hQ : E.EqOk P) (fuel : Nat) {c : Cfg} (h : vrunC E fuel c (OutHolds P N R)) : Run P N c R := by
  obtain ⟨t, s, todo⟩ := c
  simp only [vrunC, forceC_eq, forceS_eq] at h
  exact vrun_sound hE hQ fuel t s todo h

/-- a state says no more than another one -/
def Weak (N : NN) (t : List AV) (s : List VObj) (t' : List AV) (s' : List VObj) : Prop :=
  ∀ (B : Nat → Prop) (g0 : Gh) (w0 : World), Frm N B g0 w0 → ∀ g a w, StRel B g0 w0 g w t s a → ∃ g', StRel B g0 w0 g' w t' s' a

theorem Weak.refl (t : List AV) (s : List VObj) : Weak N t s t s := fun _ _ _ _ g _ _ h => ⟨g, h⟩
theorem Weak.trans {t t' t'' : List AV} {s s' s'' : List VObj} (h : Weak N t s t' s') (h' : Weak N t' s' t'' s'') : Weak N t s t'' s'' := fun B g0 w0 hf g a w hS =>
  let ⟨g', hS'⟩ := h B g0 w0 hf g a w hS
  h' B g0 w0 hf g' a w hS'

theorem run_weak {t t' : List AV} {s s' : List VObj} {todo : List VItem} (hw : Weak N t s t' s') (hh : ∀ x r, todo = x :: r → isOps x = false) (h : Run P N ⟨t', s', todo⟩ R) : Run P N ⟨t, s, todo⟩ R :=
  run_intro (fun ht B g0 w0 hf g a w hS => let ⟨_, hS'⟩ := hw B g0 w0 hf g a w hS; run_elim h ht hf hS') hh

theorem run_mono {c : Cfg} {R' : Exit → List AV → List VObj → Prop} (h : Run P N c R) (hR : ∀ e t s, R e t s → R' e t s) : Run P N c R' := by
  have hc : ∀ B g0 w0 e a w, conc B g0 w0 R e a w → conc B g0 w0 R' e a w := fun B g0 w0 e a w ⟨t, s, g, h1, h2⟩ => ⟨t, s, g, h1, hR e t s h2⟩
  have ha : ∀ B g0 w0 todo e a w, after P (conc B g0 w0 R) todo e a w → after P (conc B g0 w0 R') todo e a w := by
    intro B g0 w0 todo
    induction todo with
    | nil => exact hc B g0 w0
    | cons x r ih =>
      intro e a w h
      cases x with
      | ops => exact ih e a w h
      | code c => cases e <;> first | exact ih _ a w h | exact wp_mono h ih
      | inBlock id =>
        cases e with
        | exit id' =>
          simp only [after, Exit.inBlock] at h ⊢
          split
          · rename_i hh; rw [if_pos hh] at h; exact ih _ a w h
          · rename_i hh; rw [if_neg hh] at h; exact ih _ a w h
        | _ => exact ih _ a w h
  unfold Run at h ⊢
  intro ht B g0 w0 hf
  have h := h ht B g0 w0 hf
  obtain ⟨t, s, todo⟩ := c
  cases todo with
  | nil => exact fun g a w hS => ha B g0 w0 _ _ _ _ (h g a w hS)
  | cons x r =>
    cases x with
    | ops => exact fun ts ss hU g a w hS id => wp_mono (h ts ss hU g a w hS id) (ha B g0 w0 r)
    | code c => exact fun g a w hS => ha B g0 w0 _ _ _ _ (h g a w hS)
    | inBlock id => exact fun g a w hS => ha B g0 w0 _ _ _ _ (h g a w hS)

/-- what a loop's body may end in -/
def LoopR (P : Program) (N : NN) (todo : List VItem) (R : Exit → List AV → List VObj → Prop) (again : List AV → List VObj → Prop) : Exit → List AV → List VObj → Prop
  | .normal, t, s => again t s
  | .exit id, t, s => match popTo id todo with
    | some r => Run P N ⟨t, s, r⟩ R
    | none => R (.exit id) t s
  | .ret, t, s => R .ret t s
  | _, _, _ => False

theorem run_loop {ι : Type} (T : ι → List AV) (S : ι → List VObj) (μ : ι → Nat) (i0 : ι) {t : List AV} {s : List VObj} {body : Code} {todo : List VItem} (h0 : Weak N t s (T i0) (S i0))
    (round : ∀ i, Run P N ⟨T i, S i, [.code body]⟩ (LoopR P N todo R fun t' s' => ∃ j, μ j < μ i ∧ Weak N t' s' (T j) (S j))) : Run P N ⟨t, s, .code (.loop body) :: todo⟩ R := by
  refine run_intro (fun ht B g0 w0 hf g a w hS => ?_) (fun x r' e => by cases e; rfl)
  have htl : todo.any isOps = false := any_tail ht
  have hp : ∀ (id : Nat) (todo r : List VItem), popTo id todo = some r → todo.any isOps = false → r.any isOps = false := by
    intro id todo
    induction todo with
    | nil => intro r h; exact nomatch h
    | cons x todo ih2 =>
      intro r h hh
      rw [List.any_cons, Bool.or_eq_false_iff] at hh
      cases x with
      | inBlock id' =>
        simp only [popTo] at h
        split at h
        · cases h; exact hh.2
        · exact ih2 r h hh.2
      | _ => exact ih2 r h hh.2
  show (Code.loop body).wp P (after P (conc B g0 w0 R) todo) a w
  obtain ⟨g1, hS1⟩ := h0 B g0 w0 hf g a w hS
  intro b k cs
  have key : ∀ n i g a w, μ i = n → StRel B g0 w0 g w (T i) (S i) a →
      ∃ e a' w', after P (conc B g0 w0 R) todo e a' w' ∧ Arrives P (lone (b.at a (.code body :: .inLoop body :: k)) cs w) b k cs e a' w' := by
    intro n
    induction n using Nat.strongRecOn with
    | _ n ih =>
      intro i g a w hn hSi
      have hb : body.wp P (conc B g0 w0 _) a w := wp_mono (run_elim (round i) (by rfl) hf hSi) fun e a w he => by cases e <;> exact he
      obtain ⟨e, a₁, w₁, ⟨t1, s1, g2, hS2, hq⟩, harr⟩ := hb b (.inLoop body :: k) cs
      cases e with
      | normal =>
        obtain ⟨j, hlt, hw⟩ := hq
        obtain ⟨g3, hS3⟩ := hw B g0 w0 hf g2 a₁ w₁ hS2
        obtain ⟨e₂, a₂, w₂, hq₂, harr₂⟩ := ih (μ j) (hn ▸ hlt) j g3 a₁ w₁ rfl hS3
        exact ⟨e₂, a₂, w₂, hq₂, .of_steps (Steps.trans harr (.one step_inLoop)) harr₂⟩
      | exit id =>
        refine ⟨_, a₁, w₁, ?_, .pass (x := .inLoop body) rfl (fun _ _ => .inl (by simp)) harr⟩
        show after P (conc B g0 w0 R) todo (.exit id) a₁ w₁
        refine after_exit todo ?_
        simp only [LoopR] at hq
        split at hq
        · rename_i r hr
          try rw [hr]
          exact run_elim hq (hp id todo r hr htl) hf hS2
        · rename_i hr
          try rw [hr]
          exact ⟨t1, s1, g2, hS2, hq⟩
      | ret => exact ⟨_, a₁, w₁, after_ret ⟨t1, s1, g2, hS2, hq⟩ todo, .pass (x := .inLoop body) rfl (fun _ _ => .inl (by simp)) harr⟩
      | _ => exact hq.elim
  obtain ⟨e, a', w', hq, harr⟩ := key _ i0 g1 a w rfl hS1
  exact ⟨e, a', w', hq, .of_steps (.one step_loop) harr⟩

theorem loop_rule {ι : Type} (T : ι → List AV) (S : ι → List VObj) (μ : ι → Nat) (i0 : ι) {t : List AV} {s : List VObj} {body : Code} {todo : List VItem} (h0 : Weak N t s (T i0) (S i0))
    (round : ∀ i, Run P N ⟨T i, S i, [.code body]⟩ (LoopR P N todo R fun t' s' => ∃ j, μ j < μ i ∧ Weak N t' s' (T j) (S j))) : LoopRun P N body ⟨t, s, todo⟩ R := by
  unfold LoopRun
  exact run_loop T S μ i0 h0 round

/-- slots that are let go -/
theorem weak_drop {t t' : List AV} {s : List VObj} (hl : t.length = t'.length) (h : ∀ (i : Nat) (x : AV), t'[i]? = some x → x = AV.dead ∨ t[i]? = some x) : Weak N t s t' s := fun B g0 w0 hf g a w hS =>
  ⟨g, hS.ext, hS.rs, ⟨hl.symm.trans hS.rt.size, fun i x v hx hv => by
    rcases h i x hx with rfl | h
    · exact .dead v
    · exact hS.rt.rel i x v h hv⟩, hS.defers⟩

def maskT (keep : List Nat) : Nat → List AV → List AV
  | _, [] => []
  | i, x :: t => (match keep.contains i with | true => x | false => .dead) :: maskT keep (i + 1) t

theorem maskT_len (keep : List Nat) : ∀ (t : List AV) (i : Nat), (maskT keep i t).length = t.length := by
  intro t; induction t with
  | nil => intro i; rfl
  | cons x t ih => intro i; simp [maskT, ih]
theorem maskT_get (keep : List Nat) : ∀ (t : List AV) (i k : Nat) (x : AV), (maskT keep i t)[k]? = some x → x = .dead ∨ t[k]? = some x := by
  intro t; induction t with
  | nil => intro i k x h; simp [maskT] at h
  | cons y t ih =>
    intro i k x h
    cases k with
    | zero =>
      simp only [maskT, List.getElem?_cons_zero, Option.some.injEq] at h
      split at h
      · right; rw [← h]; rfl
      · left; exact h.symm
    | succ k => exact ih (i + 1) k x (by simpa [maskT] using h)

theorem weak_mask (keep : List Nat) (t : List AV) (s : List VObj) : Weak N t s (maskT keep 0 t) s := weak_drop (maskT_len keep t 0).symm (maskT_get keep t 0)

end

section
variable {N : Nat}
/-- a leaf, when the objects from n on are let go and the versions of the function's own ones start anew -/
def revL (N n : Nat) (s : List VObj) : AV → AV
  | .sall id ver => match Nat.blt id N with
    | true => .sall id ver
    | false => match Nat.blt id n, getO s id with
      | true, .arr ver' _ _ _ _ => match Nat.beq ver ver' with
        | true => .sall id 0
        | false => .dead
      | _, _ => .dead
  | .sref id ver esz off len => match Nat.blt id N with
    | true => .sref id ver esz off len
    | false => match Nat.blt id n, getO s id with
      | true, .arr ver' _ _ _ _ => match Nat.beq ver ver' with
        | true => .sref id 0 esz off len
        | false => .dead
      | _, _ => .dead
  | .eptr id ver esz i off => match Nat.blt id N with
    | true => .eptr id ver esz i off
    | false => match Nat.blt id n, getO s id with
      | true, .arr ver' _ _ _ _ => match Nat.beq ver ver' with
        | true => .eptr id 0 esz i off
        | false => .dead
      | _, _ => .dead
  | .ptr id off => match Nat.blt id n with
    | true => .ptr id off
    | false => .dead
  | .map id => match Nat.blt id n with
    | true => .map id
    | false => .dead
  | .vptr .. => .dead
  | .func .. => .dead
  | .iface .. => .dead
  | .agg _ => .dead
  | .tuple _ => .dead
  | v => v

/-- .. and what is made of leaves -/
def rev1 (N n : Nat) (s : List VObj) : AV → AV
  | .agg cs => .agg (cs.map (revL N n s))
  | .tuple cs => .tuple (cs.map (revL N n s))
  | .func fn first cap => .func fn (first.map (revL N n s)) (cap.map (revL N n s))
  | .iface t x => .iface t (revL N n s x)
  | .vptr cs off => .vptr (cs.map (revL N n s)) off
  | v => revL N n s v

def revO (N n : Nat) (s : List VObj) (id : Nat) : VObj → VObj
  | .box cs fz => .box (cs.map (rev1 N n s)) fz
  | .arr ver esz nn es fz => .arr (match Nat.blt id N with | true => ver | false => 0) esz nn es fz
  | o => o

def revS (N n : Nat) (s : List VObj) : Nat → Nat → List VObj → List VObj
  | 0, _, _ => []
  | _, _, [] => []
  | m + 1, i, o :: os => revO N n s i o :: revS N n s m (i + 1) os

def revG (N n : Nat) (g : Gh) : Gh :=
  { loc := fun id => if id < n then g.loc id else none
    hdr := fun id => if id < n then (if id < N then g.hdr id else (g.hdr id).map fun p => (0, p.2)) else none
    stab := g.stab }

/-- a cell that leads into no object needs the stable cells alone -/
theorem Rel.pureG {g g' : Gh} {w : World} (hs : ∀ b o, g.stab b o → g'.stab b o) {x : AV} {v : Value} (h : Rel g w x v) (hp : x.pure = true) : Rel g' w x v := by
  induction h with
  | dead v => exact .dead v
  | bool b => exact .bool b
  | kb b => exact .kb b
  | int k n => exact .int k n
  | str s => exact .str s
  | nilptr => exact .nilptr
  | slnil h h' => exact .slnil h h'
  | sl vs h0 h1 h2 h3 h4 h5 h6 ih => exact .sl vs h0 h1 h2 h3 h4 (fun i c j x hi hj => ih i c j x hi hj (h3 c (List.mem_of_getElem? hi) x (List.mem_of_getElem? hj))) (fun i c j hi hj => hs _ _ (h6 i c j hi hj))
  | nilmap => exact .nilmap
  | nilfunc => exact .nilfunc
  | nilif => exact .nilif
  | _ => exact nomatch hp

theorem Rel.flatG {g g' : Gh} {w : World} (hs : ∀ b o, g.stab b o → g'.stab b o) {x : AV} {v : Value} (h : Rel g w x v) (hp : x.flat = true) : Rel g' w x v := by
  cases x with
  | agg cs =>
    obtain ⟨vs, h1, h2, rfl⟩ := inv_agg h
    exact .agg h1 fun i x v hx hv => (h2 i x v hx hv).pureG hs (List.all_eq_true.1 hp x (List.mem_of_getElem? hx))
  | _ => exact h.pureG hs hp

theorem getO_revS (n : Nat) (s : List VObj) : ∀ (m i : Nat) (os : List VObj) (k : Nat), getO (revS N n s m i os) k = if k < m then revO N n s (i + k) (getO os k) else .gone := by
  intro m
  induction m with
  | zero => intro i os k; simp [revS, getO]
  | succ m ih =>
    intro i os k
    cases os with
    | nil => simp [revS, getO, revO]
    | cons o os =>
      cases k with
      | zero => simp [revS, getO]
      | succ k =>
        have := ih (i + 1) os k
        simp only [getO] at this ⊢
        simp only [revS, List.getD_cons_succ, this]
        rw [show i + 1 + k = i + (k + 1) by omega]
        by_cases hk : k < m
        · rw [if_pos hk, if_pos (by omega)]
        · rw [if_neg hk, if_neg (by omega)]

section
variable {B : Nat → Prop} {g0 g : Gh} {w0 w : World} {n : Nat} {s : List VObj}

theorem revG_ext {M : NN} (hl : M.l ≤ n) (hn : M.v ≤ n) (hf : Frm M B g0 w0) (h : Ext B g0 w0 g w) : Ext B g0 w0 (revG M.v n g) w :=
  { h with
    stab := h.stab
    keepS := h.keepS
    loc := fun id x e => by
      have hid : id < M.l := by
        rcases Nat.lt_or_ge id M.l with h' | h'
        · exact h'
        · rw [hf.ownl id h'] at e; exact nomatch e
      simp only [revG, if_pos (show id < n by omega)]
      exact h.loc id x e
    hdr := fun id ver v e => by
      have hid : id < M.v := by
        rcases Nat.lt_or_ge id M.v with h' | h'
        · exact h'
        · rw [hf.ownh id h'] at e; exact nomatch e
      simp only [revG, if_pos (show id < n by omega), if_pos hid]
      exact h.hdr id ver v e }

theorem hdr_ver (hs : RelS B g w (getO s)) {id ver esz : Nat} {nn : Option Bool} {es : List (List AV)} {fz : Bool} (ho : getO s id = .arr ver esz nn es fz) {v : Nat} {h : Value} (hh : g.hdr id = some (v, h)) : v = ver := by
  have := hs.obj id
  rw [ho] at this
  obtain ⟨_, _, _, _, hc⟩ := this
  rcases hc with ⟨a, k, _⟩ | ⟨b, o, cap, vs, k, _⟩ <;> (rw [hh] at k; cases k; rfl)

theorem revG_hdr {id ver : Nat} {h : Value} (h1 : id < n) (hh : g.hdr id = some (ver, h)) : (revG N n g).hdr id = some (if id < N then ver else 0, h) := by
  simp only [revG, if_pos h1, hh]
  by_cases h2 : id < N
  · rw [if_pos h2, if_pos h2]
  · rw [if_neg h2, if_neg h2]; rfl

theorem revL_rel (hn : N ≤ n) (hs : RelS B g w (getO s)) {x : AV} {v : Value} (h : Rel g w x v) : Rel (revG N n g) w (revL N n s x) v := by
  have hst : ∀ b o, g.stab b o → (revG N n g).stab b o := fun _ _ h => h
  cases x with
  | sall id ver =>
    obtain ⟨ver0, hd, a, len, cap, r1, r2, r3, rfl⟩ := inv_sall h
    simp only [revL]
    split
    · rename_i h1
      have h1 := Nat.le_of_ble_eq_true h1
      have := revG_hdr (N := N) (n := n) (show id < n by omega) r1
      rw [if_pos (show id < N by omega)] at this
      exact .sall this r2 r3
    · rename_i h1
      have h1 : ¬ id < N := fun h => by rw [show Nat.blt id N = true from Nat.ble_eq_true_of_le h] at h1; exact nomatch h1
      split
      · rename_i ver' _ _ _ _ h2 ho
        have h2 := Nat.le_of_ble_eq_true h2
        split
        · rename_i h3
          have h3 := Nat.eq_of_beq_eq_true h3
          have hv := hdr_ver hs ho r1
          have := revG_hdr (N := N) (n := n) (show id < n by omega) r1
          rw [if_neg h1] at this
          exact .sall this (Nat.le_refl _) fun _ => r3 (by omega)
        · exact .dead _
      · exact .dead _
  | sref id ver esz off len =>
    obtain ⟨ver0, hd, a, cap, r1, r2, r3, rfl⟩ := inv_sref h
    simp only [revL]
    split
    · rename_i h1
      have h1 := Nat.le_of_ble_eq_true h1
      have := revG_hdr (N := N) (n := n) (show id < n by omega) r1
      rw [if_pos (show id < N by omega)] at this
      exact .sref this r2 r3
    · rename_i h1
      have h1 : ¬ id < N := fun h => by rw [show Nat.blt id N = true from Nat.ble_eq_true_of_le h] at h1; exact nomatch h1
      split
      · rename_i ver' _ _ _ _ h2 ho
        have h2 := Nat.le_of_ble_eq_true h2
        split
        · rename_i h3
          have h3 := Nat.eq_of_beq_eq_true h3
          have hv := hdr_ver hs ho r1
          have := revG_hdr (N := N) (n := n) (show id < n by omega) r1
          rw [if_neg h1] at this
          exact .sref this (Nat.le_refl _) fun _ => r3 (by omega)
        · exact .dead _
      · exact .dead _
  | eptr id ver esz i off =>
    obtain ⟨ver0, hd, a, r1, r2, r3, rfl⟩ := inv_eptr h
    simp only [revL]
    split
    · rename_i h1
      have h1 := Nat.le_of_ble_eq_true h1
      have := revG_hdr (N := N) (n := n) (show id < n by omega) r1
      rw [if_pos (show id < N by omega)] at this
      exact .eptr this r2 r3
    · rename_i h1
      have h1 : ¬ id < N := fun h => by rw [show Nat.blt id N = true from Nat.ble_eq_true_of_le h] at h1; exact nomatch h1
      split
      · rename_i ver' _ _ _ _ h2 ho
        have h2 := Nat.le_of_ble_eq_true h2
        split
        · rename_i h3
          have h3 := Nat.eq_of_beq_eq_true h3
          have hv := hdr_ver hs ho r1
          have := revG_hdr (N := N) (n := n) (show id < n by omega) r1
          rw [if_neg h1] at this
          exact .eptr this (Nat.le_refl _) fun _ => r3 (by omega)
        · exact .dead _
      · exact .dead _
  | ptr id off =>
    obtain ⟨b, o, hl, rfl⟩ := inv_ptr h
    simp only [revL]
    split
    · rename_i h2
      have h2 := Nat.le_of_ble_eq_true h2
      exact .ptr (by simp only [revG, if_pos (show id < n by omega)]; exact hl)
    · exact .dead _
  | map id =>
    cases h with
    | map hl =>
      simp only [revL]
      split
      · rename_i h2
        have h2 := Nat.le_of_ble_eq_true h2
        exact .map (by simp only [revG, if_pos (show id < n by omega)]; exact hl)
      · exact .dead _
  | kb b => have := rel_bool (h.unkb); subst this; exact .kb b
  | vptr cs off => exact .dead _
  | func fn a b => exact .dead _
  | iface t x => exact .dead _
  | agg cs => exact .dead _
  | tuple cs => exact .dead _
  | _ => exact h.pureG hst rfl

theorem rev1_rel (hn : N ≤ n) (hs : RelS B g w (getO s)) {x : AV} {v : Value} (h : Rel g w x v) : Rel (revG N n g) w (rev1 N n s x) v := by
  have hm : ∀ (cs : List AV) (f : Nat → Value → Prop), (∀ (i : Nat) (x : AV) (v : Value), cs[i]? = some x → f i v → Rel g w x v) → ∀ (i : Nat) (x : AV) (v : Value), (cs.map (revL N n s))[i]? = some x → f i v → Rel (revG N n g) w x v := by
    intro cs f hc i x v hx hv
    rw [List.getElem?_map] at hx
    cases hi : cs[i]? with
    | none => rw [hi] at hx; exact nomatch hx
    | some y => rw [hi] at hx; cases hx; exact revL_rel hn hs (hc i y v hi hv)
  cases x with
  | agg cs =>
    obtain ⟨vs, h1, h2, rfl⟩ := inv_agg h
    exact .agg (by simpa using h1) (hm cs (fun i v => vs[i]? = some v) h2)
  | tuple cs =>
    obtain ⟨vs, h1, h2, rfl⟩ := inv_tuple h
    exact .tuple (by simpa using h1) (hm cs (fun i v => vs[i]? = some v) h2)
  | func fn first cap =>
    obtain ⟨fv, cv, h1, h2, h3, h4, rfl⟩ := inv_func h
    exact .func (by simpa using h1) (by simpa using h2) (hm first (fun i v => fv[i]? = some v) h3) (hm cap (fun i v => cv[i]? = some v) h4)
  | iface t x =>
    cases h with
    | iface h => exact .iface (revL_rel hn hs h)
  | vptr cs off =>
    obtain ⟨b, o, vs, h1, h2, rfl⟩ := inv_vptr h
    refine .vptr vs (fun j c hc => ?_) (fun j c hc => ?_) (fun j hj => h2 j (by simpa using hj))
    · rw [List.getElem?_map] at hc
      cases hj : cs[j]? with
      | none => rw [hj] at hc; exact nomatch hc
      | some y => exact (h1 j y hj).1
    · exact hm cs (fun i v => v = vs i) (fun i x v hx hv => hv ▸ (h1 i x hx).2) j c _ hc rfl
  | _ => exact revL_rel hn hs h

theorem revS_rel (hn : N ≤ n) (hs : RelS B g w (getO s)) : RelS B (revG N n g) w (getO (revS N n s n 0 s)) := by
  have hblk : ∀ id b, blk (revG N n g) id b → blk g id b := by
    rintro id b (⟨o, h⟩ | ⟨ver, o, len, cap, h, hc⟩)
    · simp only [revG] at h
      split at h
      · exact .inl ⟨o, h⟩
      · exact nomatch h
    · simp only [revG] at h
      split at h
      · split at h
        · exact .inr ⟨ver, o, len, cap, h, hc⟩
        · cases hh : g.hdr id with
          | none => rw [hh] at h; exact nomatch h
          | some p =>
            obtain ⟨v, x⟩ := p
            rw [hh] at h
            cases h
            exact .inr ⟨v, o, len, cap, hh, hc⟩
      · exact nomatch h
  refine ⟨fun id => ?_, fun id id' b h h' => hs.apart id id' b (hblk _ _ h) (hblk _ _ h'), fun id b h => hs.inB id b (hblk _ _ h), hs.sb⟩
  rw [getO_revS, Nat.zero_add]
  by_cases hid : id < n
  · rw [if_pos hid]
    have hobj := hs.obj id
    have hloc : (revG N n g).loc id = g.loc id := by simp only [revG, if_pos hid]
    cases ho : getO s id with
    | gone =>
      rw [ho] at hobj
      refine ⟨hloc.trans hobj.1, ?_⟩
      simp only [revG, if_pos hid, hobj.2]
      split <;> rfl
    | map kt vt es =>
      rw [ho] at hobj
      obtain ⟨h1, b, clock, en, h2, h3, h4, h5, h6, h7, h8⟩ := hobj
      refine ⟨?_, b, clock, en, hloc.trans h2, h3, h4, h5, fun i x e hx he => ?_, h7, h8⟩
      · simp only [revG, if_pos hid, h1]; split <;> rfl
      · have hm := h7 x (List.mem_of_getElem? hx)
        exact ⟨(h6 i x e hx he).1.flatG (g := g) (g' := revG N n g) (fun _ _ h => h) hm.1, (h6 i x e hx he).2.flatG (g := g) (g' := revG N n g) (fun _ _ h => h) hm.2⟩
    | box cs fz =>
      rw [ho] at hobj
      obtain ⟨h1, b, o, vs, h2, h3, h4, h5, h6, h7⟩ := hobj
      refine ⟨?_, b, o, vs, hloc.trans h2, h3, h4, fun j c hj => ?_, fun hf j hj => h6 hf j (by simpa using hj), h7⟩
      · simp only [revG, if_pos hid, h1]; split <;> rfl
      · rw [List.getElem?_map] at hj
        cases hy : cs[j]? with
        | none => rw [hy] at hj; exact nomatch hj
        | some y =>
          rw [hy] at hj; cases hj
          exact ⟨(h5 j y hy).1, rev1_rel hn hs (h5 j y hy).2⟩
    | arr ver esz nn es fz =>
      rw [ho] at hobj
      obtain ⟨h1, h2, h3, h4, hcase⟩ := hobj
      have hv : (match Nat.blt id N with | true => ver | false => 0) = if id < N then ver else 0 := by
        by_cases h : id < N
        · rw [if_pos h, show Nat.blt id N = true from Nat.ble_eq_true_of_le h]
        · rw [if_neg h]
          cases h' : Nat.blt id N with
          | true => exact (h (Nat.le_of_ble_eq_true h')).elim
          | false => rfl
      refine ⟨hloc.trans h1, h2, h3, h4, ?_⟩
      rw [hv]
      rcases hcase with ⟨a, k1, k2, k3⟩ | ⟨b, o, cap, vs, k1, k0, k2, k3, k4, k5, k6, k7, k8, k9⟩
      · exact .inl ⟨a, revG_hdr hid k1, k2, k3⟩
      · exact .inr ⟨b, o, cap, vs, revG_hdr hid k1, k0, k2, k3, k4, k5, k6, fun i c j x hi hj => ⟨(k7 i c j x hi hj).1, (k7 i c j x hi hj).2.pureG (g := g) (g' := revG N n g) (fun _ _ h => h) (h2 c (List.mem_of_getElem? hi) x (List.mem_of_getElem? hj))⟩, k8, k9⟩
  · rw [if_neg hid]
    exact ⟨by simp only [revG, if_neg hid], by simp only [revG, if_neg hid]⟩
end

end

section
variable {P : Program} {E : Env} {N : NN} {R : Exit → List AV → List VObj → Prop}

theorem weak_rev {n : Nat} (hl : N.l ≤ n) (hn : N.v ≤ n) (t : List AV) (s : List VObj) : Weak N t s (t.map (rev1 N.v n s)) (revS N.v n s n 0 s) := fun B g0 w0 hf g a w hS =>
  ⟨revG N.v n g, revG_ext hl hn hf hS.ext, revS_rel hn hS.rs, ⟨by rw [List.length_map]; exact hS.rt.size, fun i x v hx hv => by
    rw [List.getElem?_map] at hx
    cases hi : t[i]? with
    | none => rw [hi] at hx; exact nomatch hx
    | some y => rw [hi] at hx; cases hx; exact rev1_rel hn hS.rs (hS.rt.rel i y v hi hv)⟩, hS.defers⟩

/-- the slots that are kept, the objects below n, versions anew -/
def canonT (N : Nat) (keep : List Nat) (n : Nat) (s : List VObj) (t : List AV) : List AV := (maskT keep 0 t).map (rev1 N n s)
def canonS (N : Nat) (n : Nat) (s : List VObj) : List VObj := revS N n s n 0 s

theorem weak_canon {n : Nat} (keep : List Nat) (hl : N.l ≤ n) (hn : N.v ≤ n) {t t' : List AV} {s s' : List VObj} (ht : canonT N.v keep n s t = t') (hs : canonS N.v n s = s') : Weak N t s t' s' := by
  subst ht; subst hs
  exact (weak_mask keep t s).trans (weak_rev hl hn _ s)

def updT (t : List AV) : List (Nat × AV) → List AV
  | [] => t
  | (i, v) :: u => updT (t.set i v) u
def updS (s : List VObj) : List (Nat × VObj) → List VObj
  | [] => s
  | (i, o) :: u => updS (setO s i o) u

/-- a loop: the slots 'keep' and the objects below n are as they were before it, but for what U and V say -/
theorem loop_upd {ι : Type} (keep : List Nat) (n : Nat) (U : ι → List (Nat × AV)) (V : ι → List (Nat × VObj)) (μ : ι → Nat) (i0 : ι) {t : List AV} {s : List VObj} {body : Code} {todo : List VItem} (hl : N.l ≤ n) (hn : N.v ≤ n)
    (h0 : updT (canonT N.v keep n s t) (U i0) = canonT N.v keep n s t) (h1 : updS (canonS N.v n s) (V i0) = canonS N.v n s)
    (round : ∀ i, Run P N ⟨updT (canonT N.v keep n s t) (U i), updS (canonS N.v n s) (V i), [.code body]⟩
      (LoopR P N todo R fun t' s' => ∃ j, μ j < μ i ∧ canonT N.v keep n s' t' = updT (canonT N.v keep n s t) (U j) ∧ canonS N.v n s' = updS (canonS N.v n s) (V j))) : LoopRun P N body ⟨t, s, todo⟩ R := by
  refine loop_rule (fun i => updT (canonT N.v keep n s t) (U i)) (fun i => updS (canonS N.v n s) (V i)) μ i0 (weak_canon keep hl hn h0.symm h1.symm) fun i => run_mono (round i) fun e t' s' h => ?_
  cases e with
  | normal =>
    obtain ⟨j, q1, q2, q3⟩ := h
    exact ⟨j, q1, weak_canon keep hl hn q2 q3⟩
  | _ => exact h

/-- .. under an invariant -/
theorem loop_inv {ι : Type} (I : ι → Prop) (keep : List Nat) (n : Nat) (U : ι → List (Nat × AV)) (V : ι → List (Nat × VObj)) (μ : ι → Nat) (i0 : ι) {t : List AV} {s : List VObj} {body : Code} {todo : List VItem} (hl : N.l ≤ n) (hn : N.v ≤ n)
    (h0 : updT (canonT N.v keep n s t) (U i0) = canonT N.v keep n s t) (h1 : updS (canonS N.v n s) (V i0) = canonS N.v n s) (hI : I i0)
    (round : ∀ i, I i → Run P N ⟨updT (canonT N.v keep n s t) (U i), updS (canonS N.v n s) (V i), [.code body]⟩
      (LoopR P N todo R fun t' s' => ∃ j, I j ∧ μ j < μ i ∧ canonT N.v keep n s' t' = updT (canonT N.v keep n s t) (U j) ∧ canonS N.v n s' = updS (canonS N.v n s) (V j))) : LoopRun P N body ⟨t, s, todo⟩ R := by
  refine loop_upd (ι := { i : ι // I i }) keep n (fun i => U i.1) (fun i => V i.1) (fun i => μ i.1) ⟨i0, hI⟩ hl hn h0 h1 fun i => run_mono (round i.1 i.2) fun e t' s' h => ?_
  cases e with
  | normal =>
    obtain ⟨j, q0, q1, q2, q3⟩ := h
    exact ⟨⟨j, q0⟩, q1, q2, q3⟩
  | _ => exact h

/-- a slice variable that is still nil becomes an array object of the store -/
theorem weak_promote {k esz : Nat} {full : Bool} {t : List AV} {s : List VObj} (hk : t[k]? = some (.sl (some true) full [])) (h0 : 0 < esz) : Weak N t s (t.set k (.sall s.length 0)) (setO s s.length (.arr 0 esz none [] false)) := by
  intro B g0 w0 hf g a w hS
  have hobj := hS.rs.obj s.length
  rw [getO_len] at hobj
  obtain ⟨g', e1, r1, v1⟩ := set_arr_nil (id := s.length) (ver := 0) (esz := esz) (nn := none) (a := none) hS.rs hobj.1 (fun v h e => by rw [hobj.2] at e; exact nomatch e) h0 nofun nofun false
  refine ⟨g', hS.ext.trans e1, ?_, ⟨by rw [List.length_set]; exact hS.rt.size, fun i x v hx hv => ?_⟩, hS.defers⟩
  · have : getO (setO s s.length (.arr 0 esz none [] false)) = updF (getO s) s.length (.arr 0 esz none [] false) := by
      funext j; rw [getO_setO]; rfl
    rw [this]; exact r1
  · rw [List.getElem?_set] at hx
    split at hx
    · rename_i hki
      subst hki
      split at hx
      · cases hx
        have hr := hS.rt.rel k _ v hk hv
        cases hr with
        | slnil h h' =>
          rename_i ad
          cases ad with
          | none => exact v1
          | some ad => exact (h' ad rfl rfl).elim
        | sl vs h => exact (h rfl).elim
      · exact nomatch hx
    · exact (hS.rt.rel i x v hx hv).mono e1

theorem loop_promote {k esz : Nat} {full : Bool} {t : List AV} {s : List VObj} {body : Code} {todo : List VItem} (hk : t[k]? = some (.sl (some true) full [])) (h0 : 0 < esz) (h : LoopRun P N body ⟨t.set k (.sall s.length 0), setO s s.length (.arr 0 esz none [] false), todo⟩ R) :
    LoopRun P N body ⟨t, s, todo⟩ R := by
  unfold LoopRun at h ⊢
  exact run_weak (weak_promote hk h0) (fun x r e => by cases e; rfl) h

/-- a loop's rounds, one by one: n at the most -/
def LoopF (P : Program) (N : NN) (body : Code) (todo : List VItem) (R : Exit → List AV → List VObj → Prop) : Nat → List AV → List VObj → Prop
  | 0, _, _ => False
  | n + 1, t, s => Run P N ⟨t, s, [.code body]⟩ (LoopR P N todo R (LoopF P N body todo R n))

theorem loop_fuel (n : Nat) {t : List AV} {s : List VObj} {body : Code} {todo : List VItem} (h : LoopF P N body todo R n t s) : LoopRun P N body ⟨t, s, todo⟩ R := by
  refine loop_rule (ι := { x : Nat × List AV × List VObj // LoopF P N body todo R x.1 x.2.1 x.2.2 }) (fun x => x.1.2.1) (fun x => x.1.2.2) (fun x => x.1.1) ⟨(n, t, s), h⟩ (Weak.refl t s) fun x => ?_
  obtain ⟨⟨m, t1, s1⟩, hx⟩ := x
  cases m with
  | zero => exact hx.elim
  | succ m =>
    refine run_mono (show Run P N ⟨t1, s1, [.code body]⟩ (LoopR P N todo R (LoopF P N body todo R m)) from hx) fun e t' s' he => ?_
    cases e with
    | normal => exact ⟨⟨(m, t', s'), he⟩, Nat.lt_succ_self m, Weak.refl t' s'⟩
    | _ => exact he

end
end Go.Proofs.Ytmapiefbnjaikaa.Vm
