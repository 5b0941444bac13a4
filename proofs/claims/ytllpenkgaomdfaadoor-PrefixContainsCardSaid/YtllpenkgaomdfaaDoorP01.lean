/- Soundness: lengths, least and greatest, slices of slices and strings. -/
import Derived.Test.YtllpenkgaomdfaaDoorP00
import Derived.Lib.Builder
import Derived.Lib.UnsafeStr
import Derived.Laws.MakeOwn
import Derived.Deep.AppendSrc
import Derived.Deep.Upon
import Derived.Lib.AppendZeros
set_option linter.all false
namespace Go.Proofs.YtllpenkgaomdfaaDoor.Vm
open Go
variable [Tabs]

section
variable {P : Program} {E : Env} {t : List AV} {s : List VObj} {dst : Option Tmp} {ty : TypeId} {pos : String} {after : Array Edge} {guard : Option (Nat × Bool)}
variable {K : OpOut → Prop} {R : AV → List VObj → FP → Prop}

theorem und_of (hE : E.Fits P) {q : TypeId} {k : TK} (hq : (E.ti q).kind = k) (hk : k ≠ .other) : ∃ d, P.underlying q = some d ∧ k = tkOf d := by
  obtain ⟨i, d, _, _, h2, _, _, _, h6, _⟩ := ti_at hE (t := q) (k := (E.ti q).kind) (n := (E.ti q).size) (b := (E.ti q).bytes) (z := (E.ti q).zero) rfl (.inl (by rw [hq]; exact hk))
  exact ⟨d, h2, hq ▸ h6⟩

theorem run_builtin {b : Builtin} {args : Array Operand} {argTypes : Array TypeId} {a : Act} {w w' : World} {v : Value} (h : (builtin b argTypes ty (args.map fun | .const _ => true | _ => false) (args.map a.eval)).run P w = .ok (.value v) w') :
    (execOp a.eval ⟨dst, .call { callee := .builtin b, args := args, argTypes := argTypes }, ty, pos, after, guard⟩).run P w = .ok (.value v) w' := by
  simp only [execOp, resolve, Sem.run_bind, Sem.run_pure, Result.andThen_ok, invoke]
  exact h

theorem args_one {args : Array Operand} {x : AV} (h : args.toList.map (evV t) = [x]) : ∃ o, args = #[o] ∧ evV t o = x := by
  obtain ⟨l⟩ := args
  match l, h with
  | [o], h => simp at h; exact ⟨o, rfl, h⟩
theorem args_two {args : Array Operand} {x y : AV} (h : args.toList.map (evV t) = [x, y]) : ∃ o p, args = #[o, p] ∧ evV t o = x ∧ evV t p = y := by
  obtain ⟨l⟩ := args
  match l, h with
  | [o, p], h => simp at h; exact ⟨o, p, rfl, h.1, h.2⟩

theorem size_mk (l : List UInt8) : (⟨l.toArray⟩ : ByteArray).size = l.length := by simp [ByteArray.size]

theorem argT (argTypes : Array TypeId) (i : Nat) : argTypes[i]? = some (argTypes.getD i 0) ∨ argTypes[i]? = none := by
  cases h : argTypes[i]? with
  | none => exact .inr rfl
  | some t => left; simp [h]

theorem s_len (hE : E.Fits P) (hK : ∀ out, K out → OpHolds P out R) {args : Array Operand} {argTypes : Array TypeId} {x : AV} (ha : args.toList.map (evV t) = [x]) (hn : argTypes.size ≠ 0) (h : vlen K s (E.ti (argTypes.getD 0 0)).kind x) :
    ∃ v s2 fp, OpSem P ⟨dst, .call { callee := .builtin .len, args := args, argTypes := argTypes }, ty, pos, after, guard⟩ t s v s2 fp ∧ R v s2 fp := by
  obtain ⟨o, rfl, ho⟩ := args_one ha
  have hT : argTypes[0]? = some (argTypes.getD 0 0) := by
    rcases argT argTypes 0 with h | h
    · exact h
    · simp at h; exact (hn (by simp [h])).elim
  generalize argTypes.getD 0 0 = T0 at h hT
  generalize hk : (E.ti T0).kind = kind at h
  unfold vlen at h
  split at h
  · rename_i b
    obtain ⟨d, hd, e⟩ := und_of hE hk (by simp)
    have e := tk_str e.symm; subst e
    refine ⟨_, _, _, .same fun B g w a σ hB hh hσ hs => ?_, hK _ h⟩
    have hr := rel_str (ho ▸ hh o (by simp [Op.operands, Call.operands]))
    exact ⟨_, run_builtin (by simp [builtin, Builtin.len_, hT, hr, run_underlying' hd, goInt, size_mk]), .int _ _⟩
  · rename_i id
    rw [getOK_eq] at h
    split at h
    · rename_i kt vt es hob
      obtain ⟨d, hd, e⟩ := und_of hE hk (by simp)
      refine ⟨_, _, _, .same fun B g w a σ hB hh hσ hs => ?_, hK _ h⟩
      have := hs.obj id
      rw [hσ id (by simp), hob] at this
      obtain ⟨_, b, clock, en, h2, h3, h4, h5, _⟩ := this
      obtain ⟨b', g1, hr⟩ := inv_map (ho ▸ hh o (by simp [Op.operands, Call.operands]))
      rw [h2] at g1; cases g1
      cases d <;> simp [tkOf] at e
      exact ⟨_, run_builtin (by simp [builtin, Builtin.len_, hT, hr, run_underlying' hd, goInt, MapKept.run_getObj_map h4, h5]), .int _ _⟩
    · exact (hK _ h).elim
  · obtain ⟨d, hd, e⟩ := und_of hE hk (by simp)
    refine ⟨_, _, _, .same fun B g w a σ hB hh hσ hs => ?_, hK _ h⟩
    have hr : a.eval o = .map none := by
      have := (ho ▸ hh o (by simp [Op.operands, Call.operands]))
      generalize a.eval o = q at this
      cases this; rfl
    cases d <;> simp [tkOf] at e
    exact ⟨_, run_builtin (by simp [builtin, Builtin.len_, hT, hr, run_underlying' hd, goInt]), .int _ _⟩
  · obtain ⟨d, hd, e⟩ := und_of hE hk (by simp)
    have e := tk_slice e.symm; subst e
    refine ⟨_, _, _, .same fun B g w a σ hB hh hσ hs => ?_, hK _ h⟩
    obtain ⟨_, _, _, _, _, _, _, hr⟩ := inv_sref (ho ▸ hh o (by simp [Op.operands, Call.operands]))
    exact ⟨_, run_builtin (by simp [builtin, Builtin.len_, hT, hr, run_underlying' hd, goInt]), .int _ _⟩
  · obtain ⟨d, hd, e⟩ := und_of hE hk (by simp)
    have e := tk_slice e.symm; subst e
    refine ⟨_, _, _, .same fun B g w a σ hB hh hσ hs => ?_, hK _ h⟩
    rcases inv_sl (ho ▸ hh o (by simp [Op.operands, Call.operands])) with ⟨rfl, ad, _, _, hr⟩ | ⟨_, _, _, _, _, _, _, _, _, _, hr⟩
    · exact ⟨_, run_builtin (by simp [builtin, Builtin.len_, hT, hr, run_underlying' hd, goInt]), .int _ _⟩
    · exact ⟨_, run_builtin (by simp [builtin, Builtin.len_, hT, hr, run_underlying' hd, goInt]), .int _ _⟩
  · rename_i id ver
    rw [getOK_eq] at h
    split at h
    · rename_i ver' esz nn es fz hob
      obtain ⟨hver, hR⟩ := hK _ h
      obtain ⟨d, hd, e⟩ := und_of hE hk (by simp)
      have e := tk_slice e.symm; subst e
      refine ⟨_, _, _, .same fun B g w a σ hB hh hσ hs => ?_, hR⟩
      obtain ⟨ver0, hd0, ad, len, cap, g1, g2, g3, hr⟩ := inv_sall (ho ▸ hh o (by simp [Op.operands, Call.operands]))
      have hobj := hs.obj id
      rw [hσ id (by simp), hob] at hobj
      have hlen : len = es.length := by
        obtain ⟨_, _, _, _, ⟨_, k1, k2, _⟩ | ⟨_, _, _, _, k1, _⟩⟩ := hobj
        · rw [k1] at g1; injection g1 with g1; injection g1 with g1 g1'
          have := g3 (by omega); rw [← g1'] at this; injection this with _ e2 _; rw [e2, k2]; rfl
        · rw [k1] at g1; injection g1 with g1; injection g1 with g1 g1'
          have := g3 (by omega); rw [← g1'] at this; injection this
      exact ⟨_, run_builtin (by simp [builtin, Builtin.len_, hT, hr, run_underlying' hd, goInt, hlen]), .int _ _⟩
    · rename_i TB ver' bs hob
      obtain ⟨hver, hR⟩ := hK _ h
      obtain ⟨d, hd, e⟩ := und_of hE hk (by simp)
      have e := tk_slice e.symm; subst e
      refine ⟨_, _, _, .same fun B g w a σ hB hh hσ hs => ?_, hR⟩
      obtain ⟨ver0, hd0, ad, len, cap, g1, g2, g3, hr⟩ := inv_sall (ho ▸ hh o (by simp [Op.operands, Call.operands]))
      have hobj := hs.obj id
      rw [hσ id (by simp), hob] at hobj
      have hlen : len = bs.length := by
        obtain ⟨_, _, _, k1, _⟩ := hobj
        rw [k1] at g1; injection g1 with g1; injection g1 with g1 g1'
        have := g3 (by omega); rw [← g1'] at this; injection this
      exact ⟨_, run_builtin (by simp [builtin, Builtin.len_, hT, hr, run_underlying' hd, goInt, hlen]), .int _ _⟩
    · exact (hK _ h).elim
  · exact (hK _ h).elim

theorem s_cap (hE : E.Fits P) {args : Array Operand} {t0 e : TypeId} {nn : Option Bool} {full : Bool} {es : List (List AV)} (ha : args.toList.map (evV t) = [.sl nn full es]) (hk : (E.ti t0).kind = .sl e) (hf : full = true ∨ (nn = some true ∧ es = [])) :
    OpSem P ⟨dst, .call { callee := .builtin .cap, args := args, argTypes := #[t0] }, ty, pos, after, guard⟩ t s (.int .i64 es.length) s fp0 := by
  obtain ⟨o, rfl, ho⟩ := args_one ha
  obtain ⟨d, hd, e⟩ := und_of hE hk (by simp)
  have e := tk_slice e.symm; subst e
  refine .same fun B g w a σ hB hh hσ hs => ?_
  rcases inv_sl (ho ▸ hh o (by simp [Op.operands, Call.operands])) with ⟨rfl, ad, _, _, hr⟩ | ⟨_, _, cap, _, h0, _, h2, _, _, _, hr⟩
  · exact ⟨_, run_builtin (by simp [builtin, Builtin.cap_, hr, run_underlying' hd, goInt]), .int _ _⟩
  · have hc : cap = es.length := by
      rcases hf with h | ⟨h, _⟩
      · exact h2 h
      · exact (h0 h).elim
    subst hc
    exact ⟨_, run_builtin (by simp [builtin, Builtin.cap_, hr, run_underlying' hd, goInt]), .int _ _⟩

theorem s_min {args : Array Operand} {argTypes : Array TypeId} {k : IntKind} {a b : Int} (ha : args.toList.map (evV t) = [.int k a, .int k b]) :
    OpSem P ⟨dst, .call { callee := .builtin .min, args := args, argTypes := argTypes }, ty, pos, after, guard⟩ t s (.int k (min a b)) s fp0 := by
  obtain ⟨o, p, rfl, ho, hp⟩ := args_two ha
  refine .same fun B g w ac σ hB hh hσ hs => ?_
  have h1 := rel_int (ho ▸ hh o (by simp [Op.operands, Call.operands]))
  have h2 := rel_int (hp ▸ hh p (by simp [Op.operands, Call.operands]))
  refine ⟨_, run_builtin (v := .int k (min a b)) ?_, .int _ _⟩
  have : (if b < a then b else a) = min a b := by rw [Int.min_def]; split <;> split <;> omega
  simp [builtin, Builtin.min_, Builtin.min2, h1, h2, this]

theorem s_max {args : Array Operand} {argTypes : Array TypeId} {k : IntKind} {a b : Int} (ha : args.toList.map (evV t) = [.int k a, .int k b]) :
    OpSem P ⟨dst, .call { callee := .builtin .max, args := args, argTypes := argTypes }, ty, pos, after, guard⟩ t s (.int k (max a b)) s fp0 := by
  obtain ⟨o, p, rfl, ho, hp⟩ := args_two ha
  refine .same fun B g w ac σ hB hh hσ hs => ?_
  have h1 := rel_int (ho ▸ hh o (by simp [Op.operands, Call.operands]))
  have h2 := rel_int (hp ▸ hh p (by simp [Op.operands, Call.operands]))
  refine ⟨_, run_builtin (v := .int k (max a b)) ?_, .int _ _⟩
  have : (if a < b then b else a) = max a b := by rw [Int.max_def]; split <;> split <;> omega
  simp [builtin, Builtin.max_, Builtin.max2, h1, h2, this]

/- Slices. -/
theorem intOr_inv {x : Option Operand} {L : Option Int → Prop} (hF : ¬ K .fail) (h : intOr K t x L) : (x = none ∧ L none) ∨ ∃ o k n, x = some o ∧ evV t o = .int k n ∧ L (some n) := by
  cases x with
  | none => exact .inl ⟨rfl, h⟩
  | some o =>
    simp only [intOr, evK_eq] at h
    split at h
    · rename_i k n hv; exact .inr ⟨o, k, n, rfl, hv, h⟩
    · exact (hF h).elim

theorem run_sliceBound {k : IntKind} {n : Nat} {y : Nat} {code : BoundsCode} (h : n ≤ y) (w : World) : (Instr.sliceBound (.int k n) y code).run P w = .ok n w := by
  have : (0 : Int) ≤ (n : Int) ∧ (n : Int) ≤ (y : Int) := ⟨by omega, by omega⟩
  simp [Instr.sliceBound, asIntOf, this]

theorem run_slice_sl {ty' e : TypeId} {inf : TypeInfo} (hd : P.underlying ty' = some (.slice e)) (hinf : P.info? e = some inf) {a : Option Addr} {len cap L H : Nat} {lo hi : Option Value}
    (hlo : (lo = none ∧ L = 0) ∨ ∃ k, lo = some (.int k L)) (hhi : (hi = none ∧ H = len) ∨ ∃ k, hi = some (.int k H)) (h1 : L ≤ H) (h2 : H ≤ cap) (w : World) :
    (Instr.sliceAt ty' (.slice a len cap) lo hi none).run P w = .ok (.slice (if cap = L then a else a.map (·.add (L * inf.size))) (H - L) (cap - L)) w := by
  have e1 : (Instr.sliceBounds true len cap lo hi none).run P w = .ok (L, H, cap) w := by
    rcases hlo with ⟨rfl, rfl⟩ | ⟨k, rfl⟩ <;> rcases hhi with ⟨rfl, rfl⟩ | ⟨k', rfl⟩
    · simp [Instr.sliceBounds]
    · simp [Instr.sliceBounds, run_sliceBound h2]
    · simp [Instr.sliceBounds, run_sliceBound h1]
    · simp [Instr.sliceBounds, run_sliceBound h1, run_sliceBound h2]
  simp only [Instr.sliceAt, Sem.run_bind, run_underlying' hd, Result.andThen_ok, Instr.slice, e1, run_sizeOf' hinf, Sem.run_pure]

theorem bounds_of {g : Gh} {w : World} {a : Act} {x : Option Operand} {k : IntKind} {o : Operand} {n : Int} (ho : x = some o) (hv : Rel g w (.int k n) (a.eval o)) (h0 : 0 ≤ n) : x.map a.eval = some (.int k (n.toNat : Nat)) := by
  subst ho; simp [rel_int hv]; omega

/-- a window on a slice that never changes -/
theorem sl_window {g : Gh} {w : World} {nn : Option Bool} {full full' : Bool} {es : List (List AV)} {v : Value} {size L H : Nat} (h : Rel g w (.sl nn full es) v) (h1 : L ≤ H) (h2 : H ≤ es.length) (hs : L ≠ 0 → ∀ c ∈ es, c.length = size)
    (hf : full' = true → full = true ∧ H = es.length) : ∃ a cap, v = .slice a es.length cap ∧ es.length ≤ cap ∧ Rel g w (.sl nn full' ((es.take H).drop L)) (.slice (if cap = L then a else a.map (·.add (L * size))) (H - L) (cap - L)) := by
  rcases inv_sl h with ⟨rfl, ad, hn, hn2, rfl⟩ | ⟨b, o, cap, vs, k0, k1, k2, k3, k4, k5, rfl⟩
  · have : L = 0 := by simp at h2; omega
    subst this
    simp at h2; subst h2
    exact ⟨ad, 0, rfl, Nat.le_refl _, by simp; exact .slnil hn hn2⟩
  · have hlen : ((es.take H).drop L).length = H - L := by simp; omega
    have hget : ∀ i c, ((es.take H).drop L)[i]? = some c → es[L + i]? = some c ∧ L + i < H := fun i c hc => by
      rw [List.getElem?_drop, List.getElem?_take] at hc
      split at hc
      · exact ⟨hc, by assumption⟩
      · exact nomatch hc
    refine ⟨_, cap, rfl, k1, ?_⟩
    rw [← hlen]
    have mk : ∀ o', (∀ i c, ((es.take H).drop L)[i]? = some c → ∀ j, o' + i * c.length + j = o + (L + i) * c.length + j) → Rel g w (.sl nn full' ((es.take H).drop L)) (.slice (some ⟨b, o', none⟩) ((es.take H).drop L).length (cap - L)) := fun o' ho' => by
      refine .sl (fun i j => vs (L + i) j) k0 (by rw [hlen]; omega) (fun hf' => by have := k2 (hf hf').1; have := (hf hf').2; rw [hlen]; omega) (fun c hc => k3 c (List.mem_of_mem_take (List.mem_of_mem_drop hc))) (fun i c j x hi hj => ?_) (fun i c j x hi hj => ?_) (fun i c j hi hj => ?_)
      · rw [ho' i c hi j]; exact (k4 _ _ _ _ (hget i c hi).1 hj).1
      · exact (k4 _ _ _ _ (hget i c hi).1 hj).2
      · rw [ho' i c hi j]; exact k5 _ _ _ (hget i c hi).1 hj
    by_cases hc : cap = L
    · rw [if_pos hc]
      refine mk o fun i c hi j => ?_
      have := (hget i c hi).2; omega
    · rw [if_neg hc]
      simp only [Option.map_some, add_none]
      refine mk _ fun i c hi j => ?_
      by_cases hL : L = 0
      · subst hL; simp
      · rw [hs hL c (List.mem_of_getElem? (hget i c hi).1), Nat.add_mul]; omega

theorem s_slice_sl (hE : E.Fits P) {ty' e m by_ size b2 : Nat} {z z2 : List AV} {kind : TK} {x : Operand} {lo hi : Option Operand} {nn : Option Bool} {full full' : Bool} {es : List (List AV)} {L H : Nat} {kl kh : IntKind}
    (e1 : E.ti ty' = ⟨.sl e, m, by_, z⟩) (e2 : E.ti e = ⟨kind, size, b2, z2⟩) (h0 : Nat.blt 0 size = true) (hx : evV t x = .sl nn full es)
    (hlo : (lo = none ∧ L = 0) ∨ ∃ o, lo = some o ∧ evV t o = .int kl L) (hhi : (hi = none ∧ H = es.length) ∨ ∃ o, hi = some o ∧ evV t o = .int kh H) (h1 : L ≤ H) (h2 : H ≤ es.length) (hs : L ≠ 0 → ∀ c ∈ es, c.length = size) (hf : full' = true → full = true ∧ H = es.length) :
    OpSem P ⟨dst, .slice ty' x lo hi none, ty, pos, after, guard⟩ t s (.sl nn full' ((es.take H).drop L)) s fp0 := by
  obtain ⟨_, d, _, _, q2, _, _, _, q6, _⟩ := ti_at hE e1 (.inl (by simp))
  have q6 := tk_slice q6.symm
  subst q6
  have h0' : 0 < size := by simpa [Nat.blt_eq] using h0
  obtain ⟨jn, d2, _, r1, _, _, _, _, _, r7, _⟩ := ti_at hE e2 (.inr (.inl h0'))
  refine .same fun B g w a σ hB hh hσ hs' => ?_
  obtain ⟨ad, cap, hev, hcap, hrel⟩ := sl_window (hx ▸ hh x (by simp [Op.operands])) h1 h2 hs hf
  refine ⟨_, ?_, hrel⟩
  have l1 : (lo.map a.eval = none ∧ L = 0) ∨ ∃ k, lo.map a.eval = some (.int k L) := by
    rcases hlo with ⟨rfl, rfl⟩ | ⟨o, rfl, ho⟩
    · exact .inl ⟨rfl, rfl⟩
    · exact .inr ⟨kl, by simp [rel_int (ho ▸ hh o (by simp [Op.operands]))]⟩
  have l2 : (hi.map a.eval = none ∧ H = es.length) ∨ ∃ k, hi.map a.eval = some (.int k H) := by
    rcases hhi with ⟨rfl, rfl⟩ | ⟨o, rfl, ho⟩
    · exact .inl ⟨rfl, rfl⟩
    · exact .inr ⟨kh, by simp [rel_int (ho ▸ hh o (by simp [Op.operands]))]⟩
  have hrun := run_slice_sl (a := ad) (len := es.length) (cap := cap) q2 r1 l1 l2 h1 (by omega) w
  simp only [execOp, hev, Option.map_none, Sem.run_bind, hrun, Result.andThen_ok, Sem.run_pure, r7]

/-- a full slice: xs[:h:h] -/
theorem s_slice_full (hE : E.Fits P) {ty' e m by_ size b2 : Nat} {z z2 : List AV} {kind : TK} {x oh om : Operand} {nn : Option Bool} {full : Bool} {es : List (List AV)} {h : Int} {kh km : IntKind}
    (e1 : E.ti ty' = ⟨.sl e, m, by_, z⟩) (e2 : E.ti e = ⟨kind, size, b2, z2⟩) (h0 : Nat.blt 0 size = true) (hx : evV t x = .sl nn full es)
    (hh1 : evV t oh = .int kh h) (hm1 : evV t om = .int km h) (h1 : 0 ≤ h) (h2 : h ≤ es.length) :
    OpSem P ⟨dst, .slice ty' x none (some oh) (some om), ty, pos, after, guard⟩ t s (.sl nn true (es.take h.toNat)) s fp0 := by
  obtain ⟨_, d, _, _, q2, _, _, _, q6, _⟩ := ti_at hE e1 (.inl (by simp))
  have q6 := tk_slice q6.symm
  subst q6
  have h0' : 0 < size := by simpa [Nat.blt_eq] using h0
  obtain ⟨jn, d2, _, r1, _, _, _, _, _, r7, _⟩ := ti_at hE e2 (.inr (.inl h0'))
  obtain ⟨n, rfl⟩ : ∃ n : Nat, h = n := ⟨h.toNat, by omega⟩
  have hn : n ≤ es.length := by omega
  refine .same fun B g w a σ hB hh hσ hs' => ?_
  have v1 := rel_int (hh1 ▸ hh oh (by simp [Op.operands]))
  have v2 := rel_int (hm1 ▸ hh om (by simp [Op.operands]))
  have hr := hx ▸ hh x (by simp [Op.operands])
  have run : ∀ (ad : Option Addr) (cap : Nat), n ≤ cap → (Instr.sliceAt ty' (.slice ad es.length cap) none (some (.int kh (n : Int))) (some (.int km (n : Int)))).run P w = .ok (.slice (if n = 0 then ad else ad.map (·.add 0)) n n) w := fun ad cap hc => by
    have e3 : (Instr.sliceBounds true es.length cap none (some (.int kh (n : Int))) (some (.int km (n : Int)))).run P w = .ok (0, n, n) w := by
      simp [Instr.sliceBounds, run_sliceBound hc, run_sliceBound (Nat.le_refl n)]
    simp only [Instr.sliceAt, Sem.run_bind, run_underlying' q2, Result.andThen_ok, Instr.slice, e3, run_sizeOf' r1, Sem.run_pure, Nat.zero_mul, Nat.sub_zero]
  have hlen : (es.take n).length = n := by simp; omega
  rcases inv_sl hr with ⟨rfl, ad, hn', hn2, hev⟩ | ⟨b, o, cap, vs, k0, k1, k2, k3, k4, k5, hev⟩
  · have : n = 0 := by simp at hn; exact hn
    subst this
    refine ⟨.slice ad 0 0, ?_, by simp; exact .slnil hn' hn2⟩
    have := run ad 0 (Nat.le_refl _)
    simp only [List.length_nil] at this
    simp only [execOp, hev, Option.map_none, Option.map_some, v1, v2, Sem.run_bind, this, Result.andThen_ok, Sem.run_pure]
    rfl
  · refine ⟨.slice (some ⟨b, o, none⟩) n n, ?_, ?_⟩
    · have hq : (if n = 0 then some (⟨b, o, none⟩ : Addr) else (some (⟨b, o, none⟩ : Addr)).map (·.add 0)) = some ⟨b, o, none⟩ := by split <;> simp [add_none]
      have hr2 := run (some ⟨b, o, none⟩) cap (by omega)
      rw [hq] at hr2
      simp only [execOp, hev, Option.map_none, Option.map_some, v1, v2, Sem.run_bind, hr2, Result.andThen_ok, Sem.run_pure]
    · have hg : ∀ (i : Nat) (c : List AV), (es.take n)[i]? = some c → es[i]? = some c := fun i c hc => by
        rw [List.getElem?_take] at hc
        split at hc
        · exact hc
        · exact nomatch hc
      have := Rel.sl (g := g) (w := w) (nn := nn) (full := true) (es := es.take n) (b := b) (o := o) (cap := n) vs k0 (by rw [hlen]; exact Nat.le_refl _) (fun _ => hlen.symm) (fun c hc => k3 c (List.mem_of_mem_take hc))
        (fun i c j x hi hj => (k4 i c j x (hg i c hi) hj).1) (fun i c j x hi hj => (k4 i c j x (hg i c hi) hj).2) (fun i c j hi hj => k5 i c j (hg i c hi) hj)
      rw [hlen] at this
      simpa [unkb] using this

/-- a window on an array object -/
theorem s_slice_ref (hE : E.Fits P) {ty' e m by_ size b2 : Nat} {z z2 : List AV} {kind : TK} {x : Operand} {lo hi : Option Operand} {id ver ver' esz esz' : Nat} {nn : Option Bool} {fz : Bool} {es : List (List AV)} {L H off len : Nat} {kl kh : IntKind} {v : AV}
    (e1 : E.ti ty' = ⟨.sl e, m, by_, z⟩) (e2 : E.ti e = ⟨kind, size, b2, z2⟩) (h0 : Nat.blt 0 size = true) (hx : evV t x = v) (ho : getO s id = .arr ver' esz' nn es fz) (hez : esz = size) (hver : ver = ver')
    (hv : (v = .sall id ver ∧ off = 0 ∧ len = es.length ∧ esz = esz') ∨ v = .sref id ver esz off len)
    (hlo : (lo = none ∧ L = 0) ∨ ∃ o, lo = some o ∧ evV t o = .int kl L) (hhi : (hi = none ∧ H = len) ∨ ∃ o, hi = some o ∧ evV t o = .int kh H) (h1 : L ≤ H) (h2 : H ≤ len) :
    OpSem P ⟨dst, .slice ty' x lo hi none, ty, pos, after, guard⟩ t s (.sref id ver esz (off + L) (H - L)) s ⟨[id], []⟩ := by
  obtain ⟨_, d, _, _, q2, _, _, _, q6, _⟩ := ti_at hE e1 (.inl (by simp))
  have q6 := tk_slice q6.symm
  subst q6
  have h0' : 0 < size := by simpa [Nat.blt_eq] using h0
  obtain ⟨jn, d2, _, r1, _, _, _, _, _, r7, _⟩ := ti_at hE e2 (.inr (.inl h0'))
  refine .same fun B g w a σ hB hh hσ hs' => ?_
  have hr := hx ▸ hh x (by simp [Op.operands])
  have hobj := hs'.obj id
  rw [hσ id (by simp), ho] at hobj
  obtain ⟨_, _, _, _, hcase⟩ := hobj
  have l1 : (lo.map a.eval = none ∧ L = 0) ∨ ∃ k, lo.map a.eval = some (.int k L) := by
    rcases hlo with ⟨rfl, rfl⟩ | ⟨o, rfl, ho⟩
    · exact .inl ⟨rfl, rfl⟩
    · exact .inr ⟨kl, by simp [rel_int (ho ▸ hh o (by simp [Op.operands]))]⟩
  have l2 : (hi.map a.eval = none ∧ H = len) ∨ ∃ k, hi.map a.eval = some (.int k H) := by
    rcases hhi with ⟨rfl, rfl⟩ | ⟨o, rfl, ho⟩
    · exact .inl ⟨rfl, rfl⟩
    · exact .inr ⟨kh, by simp [rel_int (ho ▸ hh o (by simp [Op.operands]))]⟩
  -- the header as it is, and what the value is
  have hhdr : ∃ hd, g.hdr id = some (ver', hd) := by
    rcases hcase with ⟨_, k1, _⟩ | ⟨_, _, _, _, k1, _⟩ <;> exact ⟨_, k1⟩
  obtain ⟨hd, hhd⟩ := hhdr
  have hform : (∃ ad, hd = .slice ad 0 0 ∧ a.eval x = .slice ad 0 0 ∧ off = 0 ∧ len = 0) ∨
      ∃ b o len0 cap0 o' cap, hd = .slice (some ⟨b, o, none⟩) len0 cap0 ∧ a.eval x = .slice (some ⟨b, o', none⟩) len cap ∧ (cap ≠ 0 → o' = o + off * esz) ∧ off + cap ≤ cap0 ∧ len ≤ cap := by
    rcases hv with ⟨rfl, rfl, rfl, rfl⟩ | rfl
    · obtain ⟨ver0, hd0, ad, ln, cap, g1, g2, g3, hev⟩ := inv_sall hr
      rw [hhd] at g1; cases g1
      have g3 := g3 hver
      rcases hcase with ⟨a', k1, k2, k3, k4⟩ | ⟨b, o, cap', vs, k1, _, _, k3, _⟩
      · rw [k1] at hhd; cases hhd
        exact .inl ⟨a', rfl, by rw [hev, g3], rfl, by rw [k2]; rfl⟩
      · rw [k1] at hhd; cases hhd
        exact .inr ⟨b, o, _, cap', o, cap', rfl, by rw [hev, g3], fun _ => by simp, by simp, k3⟩
    · obtain ⟨ver0, hd0, ad, cap, g1, g2, g3, hev⟩ := inv_sref hr
      rw [hhd] at g1; cases g1
      rcases g3 hver with ⟨rfl, rfl, rfl, rfl⟩ | ⟨b, o, l0, c0, o', rfl, rfl, ho', hc, hl⟩
      · exact .inl ⟨ad, rfl, hev, rfl, rfl⟩
      · exact .inr ⟨b, o, l0, c0, o', cap, rfl, hev, ho', hc, hl⟩
  rcases hform with ⟨ad, rfl, hev, rfl, rfl⟩ | ⟨b, o, l0, c0, o', cap, rfl, hev, ho', hc, hl⟩
  · have hL : L = 0 := by omega
    have hH : H = 0 := by omega
    subst hL; subst hH
    have hrun := run_slice_sl (a := ad) (len := 0) (cap := 0) q2 r1 l1 l2 h1 (Nat.le_refl _) w
    refine ⟨.slice ad 0 0, ?_, .sref hhd (by omega) fun _ => .inl ⟨rfl, rfl, rfl, rfl⟩⟩
    simp only [execOp, hev, Option.map_none, Sem.run_bind, hrun, Result.andThen_ok, Sem.run_pure]
    rfl
  · have hrun := run_slice_sl (a := some ⟨b, o', none⟩) (len := len) (cap := cap) q2 r1 l1 l2 h1 (by omega) w
    refine ⟨.slice (if cap = L then some ⟨b, o', none⟩ else (some (⟨b, o', none⟩ : Addr)).map (·.add (L * jn.size))) (H - L) (cap - L), by simp only [execOp, hev, Option.map_none, Sem.run_bind, hrun, Result.andThen_ok, Sem.run_pure], ?_⟩
    by_cases hcl : cap = L
    · rw [if_pos hcl]
      exact .sref hhd (by omega) fun _ => .inr ⟨b, o, l0, c0, o', rfl, rfl, fun h => by omega, by omega, by omega⟩
    · rw [if_neg hcl]
      simp only [Option.map_some, add_none]
      refine .sref hhd (by omega) fun _ => .inr ⟨b, o, l0, c0, _, rfl, rfl, fun h => ?_, by omega, by omega⟩
      rw [ho' (by omega), r7, hez, Nat.add_mul]; omega

theorem s_slice_str (hE : E.Fits P) {ty' m by_ : Nat} {z : List AV} {x : Operand} {lo hi : Option Operand} {bs : List UInt8} {L H : Nat} {kl kh : IntKind} (e1 : E.ti ty' = ⟨.str, m, by_, z⟩) (hx : evV t x = .str bs)
    (hlo : (lo = none ∧ L = 0) ∨ ∃ o, lo = some o ∧ evV t o = .int kl L) (hhi : (hi = none ∧ H = bs.length) ∨ ∃ o, hi = some o ∧ evV t o = .int kh H) (h1 : L ≤ H) (h2 : H ≤ bs.length) :
    OpSem P ⟨dst, .slice ty' x lo hi none, ty, pos, after, guard⟩ t s (.str ((bs.take H).drop L)) s fp0 := by
  obtain ⟨_, d, _, _, q2, _, _, _, q6, _⟩ := ti_at hE e1 (.inl (by simp))
  have q6 := tk_str q6.symm
  subst q6
  refine .same fun B g w a σ hB hh hσ hs' => ?_
  have hev := rel_str (hx ▸ hh x (by simp [Op.operands]))
  have l1 : (lo.map a.eval = none ∧ L = 0) ∨ ∃ k, lo.map a.eval = some (.int k L) := by
    rcases hlo with ⟨rfl, rfl⟩ | ⟨o, rfl, ho⟩
    · exact .inl ⟨rfl, rfl⟩
    · exact .inr ⟨kl, by simp [rel_int (ho ▸ hh o (by simp [Op.operands]))]⟩
  have l2 : (hi.map a.eval = none ∧ H = bs.length) ∨ ∃ k, hi.map a.eval = some (.int k H) := by
    rcases hhi with ⟨rfl, rfl⟩ | ⟨o, rfl, ho⟩
    · exact .inl ⟨rfl, rfl⟩
    · exact .inr ⟨kh, by simp [rel_int (ho ▸ hh o (by simp [Op.operands]))]⟩
  have e3 : ∃ m', (Instr.sliceBounds false (⟨bs.toArray⟩ : ByteArray).size (⟨bs.toArray⟩ : ByteArray).size (lo.map a.eval) (hi.map a.eval) none).run P w = .ok (L, H, m') w := by
    rw [size_mk]
    rcases l1 with ⟨q1, rfl⟩ | ⟨k, q1⟩ <;> rcases l2 with ⟨q2, rfl⟩ | ⟨k', q2⟩ <;> rw [q1, q2]
    · exact ⟨_, by simp [Instr.sliceBounds]; rfl⟩
    · exact ⟨_, by simp [Instr.sliceBounds, run_sliceBound h2]; rfl⟩
    · exact ⟨_, by simp [Instr.sliceBounds, run_sliceBound h1]; rfl⟩
    · exact ⟨_, by simp [Instr.sliceBounds, run_sliceBound h1, run_sliceBound h2]; rfl⟩
  obtain ⟨m', e3⟩ := e3
  have e4 : (⟨bs.toArray⟩ : ByteArray).extract L H = ⟨((bs.take H).drop L).toArray⟩ := by
    apply ByteArray.ext
    simp [List.extract_eq_drop_take, List.drop_take]
  refine ⟨_, ?_, .str _⟩
  simp only [execOp, hev, Option.map_none, Sem.run_bind, Instr.sliceAt, run_underlying' q2, Result.andThen_ok, Instr.slice, Option.isSome_none, Bool.false_eq_true, if_false, e3, e4, Sem.run_pure]
end
end Go.Proofs.YtllpenkgaomdfaaDoor.Vm
/- How the store's objects come to be and change: boxes, array objects, frozen ones; in memory. -/
set_option linter.all false
namespace Go.Proofs.YtllpenkgaomdfaaDoor.Vm
open Go
variable [Tabs]

section
variable {B : Nat → Prop} {g : Gh} {w : World} {σ : Nat → VObj} {id : Nat}

theorem owned_new (w : World) (c : Array Value) (e : TypeId) : Owned (w.alloc (.cells c e)) w.heap.size := fun x => World.frozen?_alloc_new w c e x

/-- a new box in a block of its own -/
theorem new_box (hs : RelS B g w σ) (hB : ∀ b, w.heap.size ≤ b → B b) (hg : σ id = .gone) {cs : List AV} {c : Array Value} (hl : cs.length = c.size)
    (hc : ∀ (j : Nat) (x : AV) (v : Value), cs[j]? = some x → c[j]? = some v → Rel g w x v) (e : TypeId) :
    ∃ g', Ext B g w g' (w.alloc (.cells c e)) ∧ RelS B g' (w.alloc (.cells c e)) (updF σ id (.box cs false)) ∧ Rel g' (w.alloc (.cells c e)) (.ptr id 0) (.pointer (some ⟨w.heap.size, 0, none⟩)) := by
  have hgone := hs.obj id
  rw [hg] at hgone
  let g' : Gh := { g with loc := updF g.loc id (some (w.heap.size, 0)) }
  have hl' : ∀ j, j ≠ id → g'.loc j = g.loc j ∧ g'.hdr j = g.hdr j := fun j h => ⟨updF_other _ _ h, rfl⟩
  have hloc : g'.loc id = some (w.heap.size, 0) := updF_same _ _ _
  have hE : Ext B g w g' (w.alloc (.cells c e)) := Ext.alloc hB (fun _ _ _ => Iff.rfl) hs.sb (fun j x h => by
      by_cases hj : j = id
      · subst hj; rw [hgone.1] at h; exact nomatch h
      · exact (hl' j hj).1.trans h) (fun j ver h e => ⟨ver, h, e, Nat.le_refl _, fun _ => rfl⟩)
  refine ⟨g', hE, ?_, .ptr hloc⟩
  refine hs.upd hE hl' (fun j b _ hk => ⟨heap_alloc_lt (hs.lt hk), fun _ => Iff.rfl⟩) ?_ ?_ (fun b x h => by
    have := hs.sb b x h
    simp; omega)
  · refine ⟨hgone.2, w.heap.size, 0, fun j => c.getD j undef, hloc, by simp, owned_new w c e, fun j x hj => ?_, nofun, fun _ x h => ?_⟩
    · have hlt : j < c.size := by have := (List.getElem?_eq_some_iff.1 hj).1; omega
      have hcj : c[j]? = some c[j] := Array.getElem?_eq_getElem hlt
      refine ⟨by rw [World.cell?_alloc_new]; simp [hcj], ?_⟩
      have := (hc j x _ hj hcj).mono hE
      simpa [hcj] using this
    · exact absurd (hs.sb _ _ h) (Nat.lt_irrefl _)
  · rintro b (⟨o, h⟩ | ⟨v, o, l, c', h, _⟩)
    · rw [hloc] at h; cases h
      exact ⟨hB _ (Nat.le_refl _), fun j _ hk => absurd (hs.lt hk) (Nat.lt_irrefl _)⟩
    · have : g.hdr id = _ := h
      rw [hgone.2] at this; exact nomatch this

/-- an array object is laid into a new block: a new one, or one that has grown -/
theorem set_arr (hs : RelS B g w σ) (hB : ∀ b, w.heap.size ≤ b → B b) {ver esz cap : Nat} {nn : Option Bool} {es : List (List AV)} {c : Array Value} (hloc : g.loc id = none) (hver : ∀ v h, g.hdr id = some (v, h) → v < ver)
    (hp : pureL es) (hu : ∀ c ∈ es, c.length = esz) (h0 : 0 < esz) (hn : nn ≠ some true) (hcap : es.length ≤ cap) (hsz : cap * esz ≤ c.size)
    (hc : ∀ (i : Nat) (ci : List AV) (j : Nat) (x : AV), es[i]? = some ci → ci[j]? = some x → ∃ v, c[i * esz + j]? = some v ∧ Rel g w x v) (e : TypeId) (fz : Bool) :
    ∃ g', Ext B g w g' (w.alloc (.cells c e)) ∧ RelS B g' (w.alloc (.cells c e)) (updF σ id (.arr ver esz nn es fz)) ∧ Rel g' (w.alloc (.cells c e)) (.sall id ver) (.slice (some ⟨w.heap.size, 0, none⟩) es.length cap) := by
  let g' : Gh := { g with hdr := updF g.hdr id (some (ver, .slice (some ⟨w.heap.size, 0, none⟩) es.length cap)), stab := fun b x => g.stab b x ∨ (fz = true ∧ b = w.heap.size ∧ x < es.length * esz) }
  have hl' : ∀ j, j ≠ id → g'.loc j = g.loc j ∧ g'.hdr j = g.hdr j := fun j h => ⟨rfl, updF_other _ _ h⟩
  have hhdr : g'.hdr id = some (ver, .slice (some ⟨w.heap.size, 0, none⟩) es.length cap) := updF_same _ _ _
  have hst : ∀ b x, b < w.heap.size → (g'.stab b x ↔ g.stab b x) := fun b x hb => ⟨fun h => h.elim (fun h => h) fun h => by omega, .inl⟩
  have hE : Ext B g w g' (w.alloc (.cells c e)) := Ext.alloc hB hst hs.sb (fun j x h => h) (fun j v h hj => by
      by_cases hji : j = id
      · subst hji
        have := hver v h hj
        exact ⟨ver, _, hhdr, by omega, fun h => by omega⟩
      · exact ⟨v, h, (hl' j hji).2.trans hj, Nat.le_refl _, fun _ => rfl⟩)
  refine ⟨g', hE, ?_, .sall hhdr (Nat.le_refl _) fun _ => rfl⟩
  refine hs.upd hE hl' (fun j b _ hk => ⟨heap_alloc_lt (hs.lt hk), fun x => hst b x (hs.lt hk)⟩) ?_ ?_ (fun b x h => by
    rcases h with h | ⟨_, rfl, _⟩
    · have := hs.sb b x h; simp; omega
    · simp)
  · refine ⟨hloc, hp, hu, h0, ?_⟩
    by_cases hc0 : cap = 0
    · have hz : es.length = 0 := by omega
      refine .inl ⟨some ⟨w.heap.size, 0, none⟩, ?_, List.length_eq_zero_iff.1 hz, nofun, fun x hx => hn⟩
      rw [hhdr, hc0, hz]
    · refine .inr ⟨w.heap.size, 0, cap, fun i j => c.getD (i * esz + j) undef, hhdr, hc0, hn, hcap, by simp, owned_new w c e, fun x hx => ?_, fun i ci j x hi hj => ?_, fun hf => ⟨fun i j hi hj => .inr ⟨hf, rfl, ?_⟩, fun x hx hx' => ?_⟩, fun hf x hx => ?_⟩
      · rw [Nat.zero_add, World.cell?_alloc_new]
        simp; omega
      · obtain ⟨v, h1, h2⟩ := hc i ci j x hi hj
        refine ⟨by rw [Nat.zero_add, World.cell?_alloc_new]; simp [h1], ?_⟩
        have := h2.mono hE
        simpa [h1] using this
      · have : (i + 1) * esz ≤ es.length * esz := Nat.mul_le_mul_right _ hi
        rw [Nat.add_mul] at this; omega
      · rcases hx' with h | ⟨_, _, h⟩
        · exact absurd (hs.sb _ _ h) (Nat.lt_irrefl _)
        · omega
      · rcases hx with h | ⟨h, _, _⟩
        · exact absurd (hs.sb _ _ h) (Nat.lt_irrefl _)
        · rw [hf] at h; exact nomatch h
  · rintro b (⟨o, h⟩ | ⟨v, o, l, c', h, _⟩)
    · have : g.loc id = _ := h
      rw [hloc] at this; exact nomatch this
    · rw [hhdr] at h; cases h
      exact ⟨hB _ (Nat.le_refl _), fun j _ hk => absurd (hs.lt hk) (Nat.lt_irrefl _)⟩

/-- an array object without cells: memory stays as it is -/
theorem set_arr_nil (hs : RelS B g w σ) {ver esz : Nat} {nn : Option Bool} {a : Option Addr} (hloc : g.loc id = none) (hver : ∀ v h, g.hdr id = some (v, h) → v < ver) (h0 : 0 < esz) (hn : a = none → nn ≠ some false) (hn' : ∀ x, a = some x → nn ≠ some true) (fz : Bool) :
    ∃ g', Ext B g w g' w ∧ RelS B g' w (updF σ id (.arr ver esz nn [] fz)) ∧ Rel g' w (.sall id ver) (.slice a 0 0) := by
  let g' : Gh := { g with hdr := updF g.hdr id (some (ver, .slice a 0 0)) }
  have hl' : ∀ j, j ≠ id → g'.loc j = g.loc j ∧ g'.hdr j = g.hdr j := fun j h => ⟨rfl, updF_other _ _ h⟩
  have hhdr : g'.hdr id = some (ver, .slice a 0 0) := updF_same _ _ _
  have hE : Ext B g w g' w :=
    { Ext.refl B g w with
      loc := fun _ _ h => h
      hdr := fun j v h hj => by
        by_cases hji : j = id
        · subst hji
          have := hver v h hj
          exact ⟨ver, _, hhdr, by omega, fun h => by omega⟩
        · exact ⟨v, h, (hl' j hji).2.trans hj, Nat.le_refl _, fun _ => rfl⟩ }
  refine ⟨g', hE, ?_, .sall hhdr (Nat.le_refl _) fun _ => rfl⟩
  refine hs.upd hE hl' (fun j b _ hk => ⟨rfl, fun _ => Iff.rfl⟩) ⟨hloc, fun c h => by simp at h, fun c h => by simp at h, h0, .inl ⟨a, hhdr, rfl, hn, hn'⟩⟩ ?_ hs.sb
  rintro b (⟨o, h⟩ | ⟨v, o, l, c', h, hc⟩)
  · have : g.loc id = _ := h
    rw [hloc] at this; exact nomatch this
  · rw [hhdr] at h; cases h; exact (hc rfl).elim

/-- a row of cells that never changes again -/
theorem new_row (hs : RelS B g w σ) (hB : ∀ b, w.heap.size ≤ b → B b) {esz : Nat} {es : List (List AV)} {c : Array Value} (hp : pureL es) (hu : ∀ c ∈ es, c.length = esz) (hsz : es.length * esz = c.size)
    (hc : ∀ (i : Nat) (ci : List AV) (j : Nat) (x : AV), es[i]? = some ci → ci[j]? = some x → ∃ v, c[i * esz + j]? = some v ∧ Rel g w x v) (e : TypeId) :
    ∃ g', Ext B g w g' (w.alloc (.cells c e)) ∧ RelS B g' (w.alloc (.cells c e)) σ ∧ Rel g' (w.alloc (.cells c e)) (.sl (some false) true es) (.slice (some ⟨w.heap.size, 0, none⟩) es.length es.length) := by
  let g' : Gh := { g with stab := fun b x => g.stab b x ∨ b = w.heap.size }
  have hst : ∀ b x, b < w.heap.size → (g'.stab b x ↔ g.stab b x) := fun b x hb => ⟨fun h => h.elim (fun h => h) fun h => by omega, .inl⟩
  have hE : Ext B g w g' (w.alloc (.cells c e)) := Ext.alloc hB hst hs.sb (fun j x h => h) (fun j v h hj => ⟨v, h, hj, Nat.le_refl _, fun _ => rfl⟩)
  refine ⟨g', hE, ?_, ?_⟩
  · refine ⟨fun j => (hs.obj j).keep hE rfl rfl fun b hk => ⟨heap_alloc_lt (hs.lt hk), fun x => hst b x (hs.lt hk)⟩, hs.apart, hs.inB, fun b x h => ?_⟩
    rcases h with h | h
    · have := hs.sb b x h; simp; omega
    · subst h; simp
  · refine .sl (fun i j => c.getD (i * esz + j) undef) nofun (Nat.le_refl _) (fun _ => rfl) hp (fun i ci j x hi hj => ?_) (fun i ci j x hi hj => ?_) (fun i ci j hi hj => .inr rfl)
    · obtain ⟨v, h1, h2⟩ := hc i ci j x hi hj
      rw [hu ci (List.mem_of_getElem? hi), Nat.zero_add, World.cell?_alloc_new]; simp [h1]
    · obtain ⟨v, h1, h2⟩ := hc i ci j x hi hj
      have := h2.mono hE
      simpa [h1] using this

/-- an object is frozen -/
theorem freeze_one (hs : RelS B g w σ) : ∃ g', Ext B g w g' w ∧ RelS B g' w (updF σ id (σ id).fzd) ∧ g'.loc = g.loc ∧ g'.hdr = g.hdr := by
  have hobj := hs.obj id
  cases ho : σ id with
  | gone =>
    refine ⟨g, Ext.refl B g w, ?_, rfl, rfl⟩
    have : updF σ id VObj.gone.fzd = σ := by funext j; unfold updF; split <;> simp_all [VObj.fzd]
    rw [this]; exact hs
  | map kt vt es =>
    refine ⟨g, Ext.refl B g w, ?_, rfl, rfl⟩
    have : updF σ id (VObj.map kt vt es).fzd = σ := by funext j; unfold updF; split <;> simp_all [VObj.fzd]
    rw [this]; exact hs
  | tbox T cs =>
    refine ⟨g, Ext.refl B g w, ?_, rfl, rfl⟩
    have : updF σ id (VObj.tbox T cs).fzd = σ := by funext j; unfold updF; split <;> simp_all [VObj.fzd]
    rw [this]; exact hs
  | buf T ver bs =>
    refine ⟨g, Ext.refl B g w, ?_, rfl, rfl⟩
    have : updF σ id (VObj.buf T ver bs).fzd = σ := by funext j; unfold updF; split <;> simp_all [VObj.fzd]
    rw [this]; exact hs
  | spent ver =>
    refine ⟨g, Ext.refl B g w, ?_, rfl, rfl⟩
    have : updF σ id (VObj.spent ver).fzd = σ := by funext j; unfold updF; split <;> simp_all [VObj.fzd]
    rw [this]; exact hs
  | box cs fz =>
    rw [ho] at hobj
    obtain ⟨h1, b, o, vs, h2, h3, h4, h5, h6, h7⟩ := hobj
    let g' : Gh := { g with stab := fun b' x => g.stab b' x ∨ (b' = b ∧ o ≤ x ∧ x < o + cs.length) }
    have hE : Ext B g w g' w :=
      { Ext.refl B g w with
        stab := fun _ _ h => .inl h
        same := fun _ _ _ => rfl
        keepS := fun b' x hb h => h.elim (fun h => h) fun h => (hb (h.1 ▸ hs.inB id b (.inl ⟨o, h2⟩))).elim
        loc := fun _ _ h => h
        hdr := fun _ v h e => ⟨v, h, e, Nat.le_refl _, fun _ => rfl⟩ }
    refine ⟨g', hE, ?_, rfl, rfl⟩
    refine hs.upd hE (fun _ _ => ⟨rfl, rfl⟩) (fun j b' hj hk => ⟨rfl, fun x => ⟨fun h => h.elim (fun h => h) fun h => ?_, .inl⟩⟩) ?_ ?_ ?_
    · exact (hj (hs.apart j id b' hk (.inl ⟨o, h.1 ▸ h2⟩))).elim
    · exact ⟨h1, b, o, vs, h2, h3, h4, fun j c hj => ⟨(h5 j c hj).1, (h5 j c hj).2.mono hE⟩, fun _ j hj => .inr ⟨rfl, by omega, by omega⟩, nofun⟩
    · rintro b' hk
      have hk' : blk g id b' := hk
      exact ⟨hs.inB id b' hk', fun j hj hk2 => hj (hs.apart j id b' hk2 hk')⟩
    · rintro b' x (h | ⟨rfl, _⟩)
      · exact hs.sb b' x h
      · exact h3
  | arr ver esz nn es fz =>
    rw [ho] at hobj
    obtain ⟨h1, h2, h3, h4, hcase⟩ := hobj
    rcases hcase with ⟨a, k1, k2, k3, k4⟩ | ⟨b, o, cap, vs, k1, k0, k2, k3, k4, k5, k6, k7, k8, k9⟩
    · refine ⟨g, Ext.refl B g w, ?_, rfl, rfl⟩
      refine hs.upd (Ext.refl B g w) (fun _ _ => ⟨rfl, rfl⟩) (fun j b' hj hk => ⟨rfl, fun _ => Iff.rfl⟩) ⟨h1, h2, h3, h4, .inl ⟨a, k1, k2, k3, k4⟩⟩ ?_ hs.sb
      rintro b' hk
      exact ⟨hs.inB id b' hk, fun j hj hk2 => hj (hs.apart j id b' hk2 hk)⟩
    · cases fz with
      | true =>
        refine ⟨g, Ext.refl B g w, ?_, rfl, rfl⟩
        have : updF σ id (VObj.arr ver esz nn es true).fzd = σ := by funext j; unfold updF; split <;> simp_all [VObj.fzd]
        rw [this]; exact hs
      | false =>
        let g' : Gh := { g with stab := fun b' x => g.stab b' x ∨ (b' = b ∧ o ≤ x ∧ x < o + es.length * esz) }
        have hE : Ext B g w g' w :=
          { Ext.refl B g w with
            stab := fun _ _ h => .inl h
            same := fun _ _ _ => rfl
            keepS := fun b' x hb h => h.elim (fun h => h) fun h => (hb (h.1 ▸ hs.inB id b (.inr ⟨ver, o, _, cap, k1, k0⟩))).elim
            loc := fun _ _ h => h
            hdr := fun _ v h e => ⟨v, h, e, Nat.le_refl _, fun _ => rfl⟩ }
        refine ⟨g', hE, ?_, rfl, rfl⟩
        refine hs.upd hE (fun _ _ => ⟨rfl, rfl⟩) (fun j b' hj hk => ⟨rfl, fun x => ⟨fun h => h.elim (fun h => h) fun h => ?_, .inl⟩⟩) ?_ ?_ ?_
        · exact (hj (hs.apart j id b' hk (.inr ⟨ver, o, _, cap, by rw [h.1]; exact k1, k0⟩))).elim
        · refine ⟨h1, h2, h3, h4, .inr ⟨b, o, cap, vs, k1, k0, k2, k3, k4, k5, k6, fun i c j x hi hj => ⟨(k7 i c j x hi hj).1, (k7 i c j x hi hj).2.mono hE⟩, fun _ => ⟨fun i j hi hj => .inr ⟨rfl, by omega, ?_⟩, fun x hx hx' => ?_⟩, nofun⟩⟩
          · have : (i + 1) * esz ≤ es.length * esz := Nat.mul_le_mul_right _ hi
            rw [Nat.add_mul] at this; omega
          · rcases hx' with h | ⟨_, _, h⟩
            · exact k9 rfl x h
            · omega
        · rintro b' hk
          have hk' : blk g id b' := hk
          exact ⟨hs.inB id b' hk', fun j hj hk2 => hj (hs.apart j id b' hk2 hk')⟩
        · rintro b' x (h | ⟨rfl, _⟩)
          · exact hs.sb b' x h
          · exact k4

theorem splice_get {α : Type} (cs : List α) (off : Nat) (xs : List α) (h : off + xs.length ≤ cs.length) (j : Nat) : (splice cs off xs)[j]? = if off ≤ j ∧ j < off + xs.length then xs[j - off]? else cs[j]? := by
  induction cs generalizing off xs j with
  | nil =>
    cases xs with
    | nil => simp [splice]
    | cons x xs => simp at h
  | cons c cs ih =>
    cases xs with
    | nil => rw [if_neg (by simp)]; cases off <;> rfl
    | cons x xs =>
      cases off with
      | zero =>
        cases j with
        | zero => simp [splice]
        | succ j =>
          simp only [splice, List.getElem?_cons_succ]
          rw [ih 0 xs (by simp at h ⊢; omega) j]
          simp only [List.length_cons]
          by_cases hj : j < xs.length
          · rw [if_pos ⟨by omega, by omega⟩, if_pos ⟨by omega, by omega⟩]; simp
          · rw [if_neg (by omega), if_neg (by omega)]
      | succ off =>
        cases j with
        | zero => simp only [splice]; rw [if_neg (by omega)]; rfl
        | succ j =>
          simp only [splice, List.getElem?_cons_succ]
          rw [ih off (x :: xs) (by simp at h ⊢; omega) j]
          simp only [List.length_cons, Nat.succ_sub_succ]
          by_cases hj : off ≤ j ∧ j < off + (xs.length + 1)
          · rw [if_pos hj, if_pos ⟨by omega, by omega⟩]
          · rw [if_neg hj, if_neg (by omega)]

theorem splice_length {α : Type} (cs : List α) (off : Nat) (xs : List α) (h : off + xs.length ≤ cs.length) : (splice cs off xs).length = cs.length := by
  induction cs generalizing off xs with
  | nil => cases xs <;> simp [splice]
  | cons c cs ih => cases xs with
    | nil => cases off <;> rfl
    | cons x xs => cases off with
      | zero => simp only [splice, List.length_cons]; rw [ih 0 xs (by simp at h ⊢; omega)]
      | succ off => simp only [splice, List.length_cons]; rw [ih off (x :: xs) (by simp at h ⊢; omega)]

theorem wset_low (w : World) (b o : Nat) (vs : List Value) : Low w (wset w b o vs) := by
  induction vs generalizing w o with
  | nil => exact Low.refl w
  | cons v vs ih => exact Low.trans (w' := w.setCell ⟨b, o, none⟩ v) ⟨rfl, rfl, rfl⟩ (ih _ _)

theorem Ext.wset {b o : Nat} {vs : List Value} (hb : B b) (hns : ∀ x, o ≤ x → x < o + vs.length → ¬ g.stab b x) : Ext B g w g (wset w b o vs) where
  size := by rw [wset_size]; exact Nat.le_refl _
  stab _ _ h := h
  same b' x h := by
    by_cases e : b' = b
    · subst e
      refine wset_cell_out _ _ _ _ _ ?_
      by_cases h1 : o ≤ x
      · by_cases h2 : x < o + vs.length
        · exact (hns x h1 h2 h).elim
        · omega
      · omega
    · exact cell?_of_heap (a := ⟨b', x, none⟩) (wset_heap w b o vs e)
  keep b' h := wset_heap w b o vs fun e => h (e ▸ hb)
  keepS _ _ _ h := h
  loc _ _ h := h
  hdr _ v h e := ⟨v, h, e, Nat.le_refl _, fun _ => rfl⟩
  low := wset_low w b o vs

/-- cells of a box are stored -/
theorem put_box (hs : RelS B g w σ) {cs xs : List AV} {b o off : Nat} {vals : List Value} (ho : σ id = .box cs false) (hl : g.loc id = some (b, o)) (hx : xs.length = vals.length) (hn : off + xs.length ≤ cs.length)
    (hc : ∀ (j : Nat) (x : AV) (v : Value), xs[j]? = some x → vals[j]? = some v → Rel g w x v) :
    (∀ j, j < vals.length → (w.cell? ⟨b, o + off + j, none⟩).isSome = true) ∧ Owned w b ∧ Ext B g w g (wset w b (o + off) vals) ∧ RelS B g (wset w b (o + off) vals) (updF σ id (.box (splice cs off xs) false)) := by
  have hobj := hs.obj id
  rw [ho] at hobj
  obtain ⟨h1, b', o', vs, h2, h3, h4, h5, h6, h7⟩ := hobj
  rw [hl] at h2; cases h2
  have hsome : ∀ j, j < vals.length → (w.cell? ⟨b, o + off + j, none⟩).isSome = true := fun j hj => by
    have := (h5 (off + j) _ (List.getElem?_eq_getElem (show off + j < cs.length by omega))).1
    rw [Nat.add_assoc, this]; rfl
  have hE : Ext B g w g (wset w b (o + off) vals) := Ext.wset (hs.inB id b (.inl ⟨o, hl⟩)) fun x _ _ => h7 rfl x
  refine ⟨hsome, h4, hE, ?_⟩
  refine hs.upd hE (fun _ _ => ⟨rfl, rfl⟩) (fun j b' hj hk => ⟨wset_heap w b _ vals fun e => hj (hs.apart j id b' hk (.inl ⟨o, e ▸ hl⟩)), fun _ => Iff.rfl⟩) ?_ (fun b' hk => ⟨hs.inB id b' hk, fun j hj hk2 => hj (hs.apart j id b' hk2 hk)⟩) (fun b' x h => by rw [wset_size]; exact hs.sb b' x h)
  refine ⟨h1, b, o, fun j => if off ≤ j ∧ j < off + vals.length then vals.getD (j - off) undef else vs j, hl, by rw [wset_size]; exact h3, fun x => by rw [wset_frozen]; exact h4 x, fun j c hj => ?_, nofun, fun _ => h7 rfl⟩
  rw [splice_get _ _ _ hn] at hj
  dsimp only
  by_cases hin : off ≤ j ∧ j < off + xs.length
  · rw [if_pos hin] at hj
    rw [if_pos (by omega)]
    have hlt : j - off < vals.length := by omega
    have hv : vals[j - off]? = some vals[j - off] := List.getElem?_eq_getElem hlt
    refine ⟨?_, ?_⟩
    · have := wset_cell_in w b (o + off) vals (j - off) hlt hsome
      rw [show o + off + (j - off) = o + j by omega] at this
      rw [this, hv]; simp [hv]
    · have := (hc _ _ _ hj hv).mono hE
      simpa [hv] using this
  · rw [if_neg hin] at hj
    rw [if_neg (by omega), wset_cell_out _ _ _ _ _ (by omega)]
    exact ⟨(h5 j c hj).1, (h5 j c hj).2.mono hE⟩

/-- cells of one element are stored -/
theorem put_elem (hs : RelS B g w σ) {ver esz : Nat} {nn : Option Bool} {es : List (List AV)} {c xs : List AV} {b o len cap i off : Nat} {vals : List Value} (ho : σ id = .arr ver esz nn es false) (hl : g.hdr id = some (ver, .slice (some ⟨b, o, none⟩) len cap)) (hi : es[i]? = some c)
    (hx : xs.length = vals.length) (hn : off + xs.length ≤ esz) (hp : ∀ x ∈ xs, x.pure = true) (hc : ∀ (j : Nat) (x : AV) (v : Value), xs[j]? = some x → vals[j]? = some v → Rel g w x v) :
    (∀ j, j < vals.length → (w.cell? ⟨b, o + i * esz + off + j, none⟩).isSome = true) ∧ Owned w b ∧ Ext B g w g (wset w b (o + i * esz + off) vals) ∧ RelS B g (wset w b (o + i * esz + off) vals) (updF σ id (.arr ver esz nn (es.set i (splice c off xs)) false)) := by
  have hobj := hs.obj id
  rw [ho] at hobj
  obtain ⟨h1, h2, h3, h4, hcase⟩ := hobj
  have hilt : i < es.length := (List.getElem?_eq_some_iff.1 hi).1
  rcases hcase with ⟨a, k1, k2, _⟩ | ⟨b', o', cap', vs, k1, k0, k2, k3, k4, k5, k6, k7, k8, k9⟩
  · subst k2; simp at hilt
  · rw [hl] at k1
    injection k1 with k1; injection k1 with _ k1; injection k1 with ka kl kc
    injection ka with ka; injection ka with ka1 ka2
    subst ka1; subst ka2; subst kl; subst kc
    have hcl : c.length = esz := h3 c (List.mem_of_getElem? hi)
    have hsome : ∀ j, j < vals.length → (w.cell? ⟨b, o + i * esz + off + j, none⟩).isSome = true := fun j hj => by
      have := (k7 i c (off + j) _ hi (List.getElem?_eq_getElem (show off + j < c.length by omega))).1
      rw [Nat.add_assoc (o + i * esz), this]; rfl
    have hblk : blk g id b := .inr ⟨ver, o, _, cap, hl, k0⟩
    have hE : Ext B g w g (wset w b (o + i * esz + off) vals) := Ext.wset (hs.inB id b hblk) fun x _ _ => k9 rfl x
    refine ⟨hsome, k5, hE, ?_⟩
    have hlen : (es.set i (splice c off xs)).length = es.length := by simp
    refine hs.upd hE (fun _ _ => ⟨rfl, rfl⟩) (fun j b' hj hk => ⟨wset_heap w b _ vals fun e => hj (hs.apart j id b' hk (e ▸ hblk)), fun _ => Iff.rfl⟩) ?_ (fun b' hk => ⟨hs.inB id b' hk, fun j hj hk2 => hj (hs.apart j id b' hk2 hk)⟩) (fun b' x h => by rw [wset_size]; exact hs.sb b' x h)
    refine ⟨h1, fun d hd x hxd => ?_, fun d hd => ?_, h4, .inr ⟨b, o, cap, fun i' j => if i' = i ∧ off ≤ j ∧ j < off + vals.length then vals.getD (j - off) undef else vs i' j, by rw [hlen]; exact hl, k0, k2, by rw [hlen]; exact k3, by rw [wset_size]; exact k4, fun x => by rw [wset_frozen]; exact k5 x, fun x hx => ?_, fun i' d j x hi' hj => ?_, nofun, fun _ => k9 rfl⟩⟩
    · rcases List.mem_or_eq_of_mem_set hd with hd | rfl
      · exact h2 d hd x hxd
      · obtain ⟨j, hj⟩ := List.getElem?_of_mem hxd
        rw [splice_get _ _ _ (by omega)] at hj
        split at hj
        · exact hp x (List.mem_of_getElem? hj)
        · exact h2 c (List.mem_of_getElem? hi) x (List.mem_of_getElem? hj)
    · rcases List.mem_or_eq_of_mem_set hd with hd | rfl
      · exact h3 d hd
      · rw [splice_length _ _ _ (by omega), hcl]
    · by_cases hin : o + i * esz + off ≤ o + x ∧ o + x < o + i * esz + off + vals.length
      · have := hsome (x - (i * esz + off)) (by omega)
        have h' := wset_cell_in w b (o + i * esz + off) vals (x - (i * esz + off)) (by omega) hsome
        rw [show o + i * esz + off + (x - (i * esz + off)) = o + x by omega] at h'
        rw [h', List.getElem?_eq_getElem (show x - (i * esz + off) < vals.length by omega)]; rfl
      · rw [wset_cell_out _ _ _ _ _ (by omega)]; exact k6 x hx
    · rw [List.getElem?_set] at hi'
      dsimp only
      by_cases hii : i = i'
      · subst hii
        rw [if_pos rfl, if_pos hilt] at hi'
        cases hi'
        rw [splice_get _ _ _ (by omega)] at hj
        by_cases hin : off ≤ j ∧ j < off + xs.length
        · rw [if_pos hin] at hj
          rw [if_pos ⟨rfl, by omega, by omega⟩]
          have hlt : j - off < vals.length := by omega
          have hv : vals[j - off]? = some vals[j - off] := List.getElem?_eq_getElem hlt
          refine ⟨?_, ?_⟩
          · have := wset_cell_in w b (o + i * esz + off) vals (j - off) hlt hsome
            rw [show o + i * esz + off + (j - off) = o + i * esz + j by omega] at this
            rw [this, hv]; simp [hv]
          · have := (hc _ _ _ hj hv).mono hE
            simpa [hv] using this
        · rw [if_neg hin] at hj
          rw [if_neg (by omega), wset_cell_out _ _ _ _ _ (by omega)]
          exact ⟨(k7 i c j x hi hj).1, (k7 i c j x hi hj).2.mono hE⟩
      · rw [if_neg hii] at hi'
        rw [if_neg (by omega)]
        have hjl : j < d.length := (List.getElem?_eq_some_iff.1 hj).1
        have hdl : d.length = esz := h3 d (List.mem_of_getElem? hi')
        refine ⟨?_, (k7 i' d j x hi' hj).2.mono hE⟩
        rw [wset_cell_out]
        · exact (k7 i' d j x hi' hj).1
        · have hm : (i' + 1) * esz ≤ i * esz ∨ (i + 1) * esz ≤ i' * esz := by
            rcases Nat.lt_or_gt_of_ne hii with h | h
            · exact .inr (Nat.mul_le_mul_right _ h)
            · exact .inl (Nat.mul_le_mul_right _ h)
          rw [Nat.add_mul, Nat.add_mul] at hm
          omega

/-- an array object grows where it lies -/
theorem grow_place (hs : RelS B g w σ) {ver esz : Nat} {nn : Option Bool} {es xs : List (List AV)} {fz : Bool} {b o len cap off n capn : Nat} {vals : List Value} (ho : σ id = .arr ver esz nn es fz) (hl : g.hdr id = some (ver, .slice (some ⟨b, o, none⟩) len cap)) (hk0 : cap ≠ 0)
    (hwin : off + n ≤ es.length) (hfz : fz = true → off + n = es.length) (hroom : n + xs.length ≤ capn) (hcapn : off + capn ≤ cap) (hc0 : capn ≠ 0)
    (hx : vals.length = xs.length * esz) (hp : pureL xs) (hu : ∀ c ∈ xs, c.length = esz)
    (hc : ∀ (i : Nat) (c : List AV) (j : Nat) (x : AV), xs[i]? = some c → c[j]? = some x → ∃ v, vals[i * esz + j]? = some v ∧ Rel g w x v) :
    (∀ j, j < vals.length → (w.cell? ⟨b, o + (off + n) * esz + j, none⟩).isSome = true) ∧ Owned w b ∧
    ∃ g', Ext B g w g' (wset w b (o + (off + n) * esz) vals) ∧ RelS B g' (wset w b (o + (off + n) * esz) vals) (updF σ id (.arr (ver + 1) esz none ((es.drop off).take n ++ xs) fz)) ∧
      Rel g' (wset w b (o + (off + n) * esz) vals) (.sall id (ver + 1)) (.slice (some ⟨b, o + off * esz, none⟩) (n + xs.length) capn) := by
  have hobj := hs.obj id
  rw [ho] at hobj
  obtain ⟨h1, h2, h3, h4, hcase⟩ := hobj
  rcases hcase with ⟨a, k1, k2, _⟩ | ⟨b', o', cap', vs, k1, k0, k2, k3, k4, k5, k6, k7, k8, k9⟩
  · rw [hl] at k1
    injection k1 with k1; injection k1 with _ k1; injection k1 with ka kl kc
    exact (hk0 kc).elim
  · rw [hl] at k1
    injection k1 with k1; injection k1 with _ k1; injection k1 with ka kl kc
    injection ka with ka; injection ka with ka1 ka2
    subst ka1; subst ka2; subst kl; subst kc
    have hblk : blk g id b := .inr ⟨ver, o, _, cap, hl, k0⟩
    have hend : (off + n + xs.length) * esz ≤ cap * esz := Nat.mul_le_mul_right _ (by omega)
    rw [Nat.add_mul (off + n)] at hend
    have hsome : ∀ j, j < vals.length → (w.cell? ⟨b, o + (off + n) * esz + j, none⟩).isSome = true := fun j hj => by
      rw [Nat.add_assoc]; exact k6 _ (by omega)
    let hd' : Value := .slice (some ⟨b, o + off * esz, none⟩) (n + xs.length) capn
    let g' : Gh := { g with hdr := updF g.hdr id (some (ver + 1, hd')), stab := fun b' x => g.stab b' x ∨ (fz = true ∧ b' = b ∧ o + off * esz ≤ x ∧ x < o + (off + n + xs.length) * esz) }
    have hhdr : g'.hdr id = some (ver + 1, hd') := updF_same _ _ _
    have hl' : ∀ j, j ≠ id → g'.loc j = g.loc j ∧ g'.hdr j = g.hdr j := fun j h => ⟨rfl, updF_other _ _ h⟩
    have hB := hs.inB id b hblk
    have hns : ∀ x, o + (off + n) * esz ≤ x → ¬ g.stab b x := fun x h1 => by
      cases fz with
      | false => exact k9 rfl x
      | true => exact (k8 rfl).2 x (by have := hfz rfl; rw [← this]; exact h1)
    have hE0 : Ext B g w g (wset w b (o + (off + n) * esz) vals) := Ext.wset hB fun x h1 _ => hns x h1
    have hE : Ext B g w g' (wset w b (o + (off + n) * esz) vals) :=
      { hE0 with
        stab := fun _ _ h => .inl h
        keepS := fun b' x hb h => h.elim (fun h => h) fun h => (hb (h.2.1 ▸ hB)).elim
        loc := fun _ _ h => h
        hdr := fun j v h hj => by
          by_cases hji : j = id
          · subst hji
            rw [hl] at hj; cases hj
            exact ⟨_, _, hhdr, by omega, fun h => by omega⟩
          · exact ⟨v, h, (hl' j hji).2.trans hj, Nat.le_refl _, fun _ => rfl⟩ }
    have hwl : ((es.drop off).take n).length = n := by simp; omega
    have hlen : ((es.drop off).take n ++ xs).length = n + xs.length := by simp; omega
    have hget : ∀ i c, ((es.drop off).take n ++ xs)[i]? = some c → (i < n ∧ es[off + i]? = some c) ∨ (n ≤ i ∧ xs[i - n]? = some c) := fun i c h => by
      rw [List.getElem?_append] at h
      split at h
      · rename_i hi
        rw [hwl] at hi
        rw [List.getElem?_take, if_pos hi, List.getElem?_drop] at h
        exact .inl ⟨hi, h⟩
      · rename_i hi
        rw [hwl] at hi h
        exact .inr ⟨by omega, h⟩
    refine ⟨hsome, k5, g', hE, ?_, .sall hhdr (Nat.le_refl _) fun _ => rfl⟩
    refine hs.upd hE hl' (fun j b' hj hk => ⟨wset_heap w b _ vals fun e => hj (hs.apart j id b' hk (e ▸ hblk)), fun x => ⟨fun h => h.elim (fun h => h) fun h => (hj (hs.apart j id b' hk (h.2.1 ▸ hblk))).elim, .inl⟩⟩) ?_ ?_ ?_
    · refine ⟨h1, fun c hc => ?_, fun c hc => ?_, h4, .inr ⟨b, o + off * esz, capn, fun i j => if i < n then vs (off + i) j else vals.getD ((i - n) * esz + j) undef, by rw [hlen]; exact hhdr, hc0, nofun, by rw [hlen]; exact hroom, by rw [wset_size]; exact k4, fun x => by rw [wset_frozen]; exact k5 x, fun x hx' => ?_, fun i c j x hi hj => ?_, fun hf => ⟨fun i j hi hj => .inr ⟨hf, rfl, ?_, ?_⟩, fun x hx1 hx2 => ?_⟩, fun hf x hx' => ?_⟩⟩
      · rcases List.mem_append.1 hc with hc | hc
        · exact h2 c (List.mem_of_mem_drop (List.mem_of_mem_take hc))
        · exact hp c hc
      · rcases List.mem_append.1 hc with hc | hc
        · exact h3 c (List.mem_of_mem_drop (List.mem_of_mem_take hc))
        · exact hu c hc
      · have hm : (off + capn) * esz ≤ cap * esz := Nat.mul_le_mul_right _ hcapn
        rw [Nat.add_mul] at hm
        by_cases hin : o + (off + n) * esz ≤ o + off * esz + x ∧ o + off * esz + x < o + (off + n) * esz + vals.length
        · obtain ⟨d, hd⟩ : ∃ d, o + off * esz + x = o + (off + n) * esz + d := ⟨_, (Nat.add_sub_cancel' hin.1).symm⟩
          rw [hd, wset_cell_in w b _ vals d (by omega) hsome, List.getElem?_eq_getElem (show d < vals.length by omega)]; rfl
        · rw [wset_cell_out _ _ _ _ _ (by omega), Nat.add_assoc]; exact k6 _ (by omega)
      · dsimp only
        rcases hget i c hi with ⟨hin, hi'⟩ | ⟨hin, hi'⟩
        · rw [if_pos hin]
          have hjl : j < c.length := (List.getElem?_eq_some_iff.1 hj).1
          have hcl : c.length = esz := h3 c (List.mem_of_getElem? hi')
          have hm : (off + i + 1) * esz ≤ (off + n) * esz := Nat.mul_le_mul_right _ (by omega)
          rw [Nat.add_mul (off + i), Nat.add_mul off i] at hm
          have := k7 (off + i) c j x hi' hj
          rw [Nat.add_mul] at this
          refine ⟨?_, this.2.mono hE⟩
          rw [wset_cell_out _ _ _ _ _ (by omega), show o + off * esz + i * esz + j = o + (off * esz + i * esz) + j by omega]
          exact this.1
        · rw [if_neg (by omega)]
          obtain ⟨v, hv, hr⟩ := hc (i - n) c j x hi' hj
          have hlt : (i - n) * esz + j < vals.length := (List.getElem?_eq_some_iff.1 hv).1
          have hm : off * esz + i * esz = (off + n) * esz + (i - n) * esz := by rw [← Nat.add_mul, ← Nat.add_mul]; congr 1; omega
          refine ⟨?_, ?_⟩
          · rw [show o + off * esz + i * esz + j = o + (off + n) * esz + ((i - n) * esz + j) by omega, wset_cell_in w b _ vals _ hlt hsome, hv]
            simp [hv]
          · have := hr.mono hE
            simpa [hv] using this
      · omega
      · rw [hlen] at hi
        have hm : (off + i + 1) * esz ≤ (off + n + xs.length) * esz := Nat.mul_le_mul_right _ (by omega)
        rw [Nat.add_mul (off + i), Nat.add_mul off i] at hm
        omega
      · rw [hlen] at hx1
        have hm : off * esz + (n + xs.length) * esz = (off + n + xs.length) * esz := by rw [← Nat.add_mul]; congr 1; omega
        rcases hx2 with h | ⟨_, _, _, h⟩
        · have hm2 : (off + n) * esz ≤ (off + n + xs.length) * esz := Nat.mul_le_mul_right _ (by omega)
          exact hns x (by omega) h
        · omega
      · rcases hx' with h | ⟨h, _⟩
        · exact k9 hf x h
        · rw [hf] at h; exact nomatch h
    · rintro b' (⟨q, h⟩ | ⟨v, q, l, c', h, _⟩)
      · have : g.loc id = _ := h
        rw [h1] at this; exact nomatch this
      · rw [hhdr] at h
        injection h with h; injection h with _ h; injection h with h _ _; injection h with h; injection h with h _
        subst h
        exact ⟨hB, fun j hj hk2 => hj (hs.apart j id _ hk2 hblk)⟩
    · rintro b' x (h | ⟨_, rfl, _⟩)
      · rw [wset_size]; exact hs.sb b' x h
      · rw [wset_size]; exact k4
end
end Go.Proofs.YtllpenkgaomdfaaDoor.Vm
/- Typed boxes and rows of bytes: how memory carries them. -/
set_option linter.all false
namespace Go.Proofs.YtllpenkgaomdfaaDoor.Vm
open Go
variable [Tabs]
section
variable {B : Nat → Prop} {g : Gh} {w : World} {σ : Nat → VObj} {id : Nat}

theorem shape_alloc (w : World) (c : Array Value) (e : TypeId) : (w.alloc (.cells c e)).shape? w.heap.size = some (e, c.size) := by
  have : (w.alloc (.cells c e)).heap[w.heap.size]? = some (.cells c e) := by show (w.heap.push _)[w.heap.size]? = _; simp
  unfold World.shape?; rw [this]
theorem shape_setCell (w : World) (a : Addr) (v : Value) (b : Nat) : (w.setCell a v).shape? b = w.shape? b := by
  unfold World.shape?
  by_cases h : b = a.block
  · simp only [World.setCell, Array.getElem?_modify, if_pos h.symm]
    cases w.heap[b]? with
    | none => rfl
    | some o =>
      cases o <;> first | rfl | skip
      simp only [Option.map_some]
      split
      · rfl
      · simp
  · rw [setCell_heap_other w a v h]
theorem shape_wset (w : World) (b o : Nat) (vs : List Value) (k : Nat) : (wset w b o vs).shape? k = w.shape? k := by
  induction vs generalizing w o with
  | nil => rfl
  | cons v vs ih => simp only [wset, ih, shape_setCell]

theorem new_tbox (hs : RelS B g w σ) (hB : ∀ b, w.heap.size ≤ b → B b) (hg : σ id = .gone) {cs : List AV} {c : Array Value} (hl : cs.length = c.size)
    (hc : ∀ (j : Nat) (x : AV) (v : Value), cs[j]? = some x → c[j]? = some v → Rel g w x v) (e : TypeId) :
    ∃ g', Ext B g w g' (w.alloc (.cells c e)) ∧ RelS B g' (w.alloc (.cells c e)) (updF σ id (.tbox e cs)) ∧ Rel g' (w.alloc (.cells c e)) (.ptr id 0) (.pointer (some ⟨w.heap.size, 0, none⟩)) := by
  have hgone := hs.obj id
  rw [hg] at hgone
  let g' : Gh := { g with loc := updF g.loc id (some (w.heap.size, 0)) }
  have hl' : ∀ j, j ≠ id → g'.loc j = g.loc j ∧ g'.hdr j = g.hdr j := fun j h => ⟨updF_other _ _ h, rfl⟩
  have hloc : g'.loc id = some (w.heap.size, 0) := updF_same _ _ _
  have hE : Ext B g w g' (w.alloc (.cells c e)) := Ext.alloc hB (fun _ _ _ => Iff.rfl) hs.sb (fun j x h => by
      by_cases hj : j = id
      · subst hj; rw [hgone.1] at h; exact nomatch h
      · exact (hl' j hj).1.trans h) (fun j ver h e => ⟨ver, h, e, Nat.le_refl _, fun _ => rfl⟩)
  refine ⟨g', hE, ?_, .ptr hloc⟩
  refine hs.upd hE hl' (fun j b _ hk => ⟨heap_alloc_lt (hs.lt hk), fun _ => Iff.rfl⟩) ?_ ?_ (fun b x h => by
    have := hs.sb b x h
    simp; omega)
  · refine ⟨hgone.2, w.heap.size, fun j => c.getD j undef, hloc, by simp, owned_new w c e, by rw [shape_alloc, hl], fun j x hj => ?_, fun x h => ?_⟩
    · have hlt : j < c.size := by have := (List.getElem?_eq_some_iff.1 hj).1; omega
      have hcj : c[j]? = some c[j] := Array.getElem?_eq_getElem hlt
      refine ⟨by rw [World.cell?_alloc_new]; simp [hcj], ?_⟩
      have := (hc j x _ hj hcj).mono hE
      simpa [hcj] using this
    · exact absurd (hs.sb _ _ h) (Nat.lt_irrefl _)
  · rintro b (⟨o, h⟩ | ⟨v, o, l, c', h, _⟩)
    · rw [hloc] at h; cases h
      exact ⟨hB _ (Nat.le_refl _), fun j _ hk => absurd (hs.lt hk) (Nat.lt_irrefl _)⟩
    · have : g.hdr id = _ := h
      rw [hgone.2] at this; exact nomatch this

/-- cells of a typed box are stored -/
theorem put_tbox (hs : RelS B g w σ) {T : TypeId} {cs xs : List AV} {b o off : Nat} {vals : List Value} (ho : σ id = .tbox T cs) (hl : g.loc id = some (b, o)) (hx : xs.length = vals.length) (hn : off + xs.length ≤ cs.length)
    (hc : ∀ (j : Nat) (x : AV) (v : Value), xs[j]? = some x → vals[j]? = some v → Rel g w x v) :
    (∀ j, j < vals.length → (w.cell? ⟨b, o + off + j, none⟩).isSome = true) ∧ Owned w b ∧ Ext B g w g (wset w b (o + off) vals) ∧ RelS B g (wset w b (o + off) vals) (updF σ id (.tbox T (splice cs off xs))) := by
  have hobj := hs.obj id
  rw [ho] at hobj
  obtain ⟨h1, b', vs, h2, h3, h4, h5, h6, h7⟩ := hobj
  rw [hl] at h2; cases h2
  have hsome : ∀ j, j < vals.length → (w.cell? ⟨b, 0 + off + j, none⟩).isSome = true := fun j hj => by
    have := (h6 (off + j) _ (List.getElem?_eq_getElem (show off + j < cs.length by omega))).1
    rw [Nat.zero_add, this]; rfl
  have hE : Ext B g w g (wset w b (0 + off) vals) := Ext.wset (hs.inB id b (.inl ⟨0, hl⟩)) fun x _ _ => h7 x
  refine ⟨hsome, h4, hE, ?_⟩
  refine hs.upd hE (fun _ _ => ⟨rfl, rfl⟩) (fun j b' hj hk => ⟨wset_heap w b _ vals fun e => hj (hs.apart j id b' hk (.inl ⟨0, e ▸ hl⟩)), fun _ => Iff.rfl⟩) ?_ (fun b' hk => ⟨hs.inB id b' hk, fun j hj hk2 => hj (hs.apart j id b' hk2 hk)⟩) (fun b' x h => by rw [wset_size]; exact hs.sb b' x h)
  refine ⟨h1, b, fun j => if off ≤ j ∧ j < off + vals.length then vals.getD (j - off) undef else vs j, hl, by rw [wset_size]; exact h3, fun x => by rw [wset_frozen]; exact h4 x, by rw [shape_wset, splice_length _ _ _ hn]; exact h5, fun j c hj => ?_, h7⟩
  rw [splice_get _ _ _ hn] at hj
  dsimp only
  by_cases hin : off ≤ j ∧ j < off + xs.length
  · rw [if_pos hin] at hj
    rw [if_pos (by omega)]
    have hlt : j - off < vals.length := by omega
    have hv : vals[j - off]? = some vals[j - off] := List.getElem?_eq_getElem hlt
    refine ⟨?_, ?_⟩
    · have := wset_cell_in w b (0 + off) vals (j - off) hlt hsome
      rw [show 0 + off + (j - off) = j by omega] at this
      rw [this, hv]; simp [hv]
    · have := (hc _ _ _ hj hv).mono hE
      simpa [hv] using this
  · rw [if_neg hin] at hj
    rw [if_neg (by omega), wset_cell_out _ _ _ _ _ (by omega)]
    exact ⟨(h6 j c hj).1, (h6 j c hj).2.mono hE⟩

/-- bytes, as cells -/
def bCells (bs : List UInt8) : List Value := bs.map fun x => .int .u8 x.toNat
/-- a row of bytes is laid into a new block: a new one, or one that has grown -/
theorem set_buf (hs : RelS B g w σ) (hB : ∀ b, w.heap.size ≤ b → B b) {ver cap : Nat} {bs : List UInt8} {c : Array Value} (hloc : g.loc id = none) (hver : ∀ v h, g.hdr id = some (v, h) → v < ver)
    (h0 : cap ≠ 0) (hcap : bs.length ≤ cap) (hsz : c.size = cap) (hc : ∀ (j : Nat) (x : UInt8), bs[j]? = some x → c[j]? = some (.int .u8 x.toNat)) (e : TypeId) :
    ∃ g', Ext B g w g' (w.alloc (.cells c e)) ∧ RelS B g' (w.alloc (.cells c e)) (updF σ id (.buf e ver bs)) ∧ Rel g' (w.alloc (.cells c e)) (.sall id ver) (.slice (some ⟨w.heap.size, 0, none⟩) bs.length cap) := by
  let g' : Gh := { g with hdr := updF g.hdr id (some (ver, .slice (some ⟨w.heap.size, 0, none⟩) bs.length cap)) }
  have hl' : ∀ j, j ≠ id → g'.loc j = g.loc j ∧ g'.hdr j = g.hdr j := fun j h => ⟨rfl, updF_other _ _ h⟩
  have hhdr : g'.hdr id = some (ver, .slice (some ⟨w.heap.size, 0, none⟩) bs.length cap) := updF_same _ _ _
  have hE : Ext B g w g' (w.alloc (.cells c e)) := Ext.alloc hB (fun _ _ _ => Iff.rfl) hs.sb (fun _ _ h => h) (fun j v h hj => by
      by_cases e : j = id
      · subst e; exact ⟨ver, _, hhdr, Nat.le_of_lt (hver v h hj), fun q => by have := hver v h hj; omega⟩
      · exact ⟨v, h, (hl' j e).2.trans hj, Nat.le_refl _, fun _ => rfl⟩)
  refine ⟨g', hE, ?_, .sall hhdr (Nat.le_refl _) fun _ => rfl⟩
  refine hs.upd hE hl' (fun j b _ hk => ⟨heap_alloc_lt (hs.lt hk), fun _ => Iff.rfl⟩) ?_ ?_ (fun b x h => by
    have := hs.sb b x h
    simp; omega)
  · refine ⟨hloc, w.heap.size, cap, hhdr, h0, hcap, by simp, owned_new w c e, by rw [shape_alloc, hsz], fun x hx => ?_, fun j x hj => ?_, fun x h => ?_⟩
    · rw [World.cell?_alloc_new]; simp [hsz, hx]
    · rw [World.cell?_alloc_new]; simpa using hc j x hj
    · exact absurd (hs.sb _ _ h) (Nat.lt_irrefl _)
  · rintro b (⟨o, h⟩ | ⟨v, o, l, c', h, _⟩)
    · have h : g.loc id = _ := h
      rw [hloc] at h; exact nomatch h
    · rw [hhdr] at h; cases h
      exact ⟨hB _ (Nat.le_refl _), fun j _ hk => absurd (hs.lt hk) (Nat.lt_irrefl _)⟩
end
end Go.Proofs.YtllpenkgaomdfaaDoor.Vm
/- Soundness: what is made: variables, boxes, structs, slices. -/
set_option linter.all false
namespace Go.Proofs.YtllpenkgaomdfaaDoor.Vm
open Go
variable [Tabs]

/-- cells that say what cells are -/
structure RelC (g : Gh) (w : World) (cs : List AV) (c : Array Value) : Prop where
  size : cs.length = c.size
  rel : ∀ (j : Nat) (x : AV) (v : Value), cs[j]? = some x → c[j]? = some v → Rel g w x v

theorem RelC.mono {B : Nat → Prop} {g g' : Gh} {w w' : World} (h : Ext B g w g' w') {cs : List AV} {c : Array Value} (r : RelC g w cs c) : RelC g' w' cs c :=
  ⟨r.size, fun j x v a b => (r.rel j x v a b).mono h⟩

theorem cells_one {g : Gh} {w : World} {v : AV} {u : Value} (h : Rel g w v u) (h1 : v.oneC = true) : v.cells = [v] ∧ u.cells = #[u] ∧ u.oneCell' = true := by
  cases h <;> first | exact ⟨rfl, rfl, rfl⟩ | exact nomatch h1

theorem rel_cells {g : Gh} {w : World} {v : AV} {u : Value} (h : Rel g w v u) (hd : v ≠ .dead) : RelC g w v.cells u.cells := by
  by_cases h1 : v.oneC = true
  · obtain ⟨e1, e2, _⟩ := cells_one h h1
    rw [e1, e2]
    refine ⟨rfl, fun j x y hx hy => ?_⟩
    cases j with
    | zero => cases hx; cases hy; exact h
    | succ j => simp at hx
  · cases v with
    | dead => exact (hd rfl).elim
    | agg cs =>
      obtain ⟨vs, e1, e2, rfl⟩ := inv_agg h
      exact ⟨e1, e2⟩
    | tuple cs =>
      obtain ⟨vs, e1, e2, rfl⟩ := inv_tuple h
      refine ⟨rfl, fun j x y hx hy => ?_⟩
      cases j with
      | zero => cases hx; cases hy; exact h
      | succ j => simp [AV.cells] at hx
    | _ => exact (h1 rfl).elim

theorem fold_set (xs : List Value) (off : Nat) : ∀ (k : Nat) (cells : Array Value), ((xs.zipIdx k).foldl (fun (cs : Array Value) (p : Value × Nat) => cs.setIfInBounds (off + p.2) p.1) cells).size = cells.size ∧
    ∀ j : Nat, ((xs.zipIdx k).foldl (fun (cs : Array Value) (p : Value × Nat) => cs.setIfInBounds (off + p.2) p.1) cells)[j]? = if off + k ≤ j ∧ j < off + k + xs.length ∧ j < cells.size then xs[j - (off + k)]? else cells[j]? := by
  induction xs with
  | nil => intro k cells; refine ⟨rfl, fun j => ?_⟩; rw [if_neg (by simp; omega)]; rfl
  | cons x xs ih =>
    intro k cells
    obtain ⟨h1, h2⟩ := ih (k + 1) (cells.setIfInBounds (off + k) x)
    refine ⟨by simpa [List.zipIdx_cons] using h1, fun j => ?_⟩
    rw [List.zipIdx_cons, List.foldl_cons, h2 j]
    simp only [Array.size_setIfInBounds, List.length_cons, Array.getElem?_setIfInBounds]
    by_cases c1 : off + (k + 1) ≤ j ∧ j < off + (k + 1) + xs.length ∧ j < cells.size
    · rw [if_pos c1, if_pos (by omega), show j - (off + k) = (j - (off + (k + 1))) + 1 by omega]; rfl
    · rw [if_neg c1]
      by_cases c2 : off + k = j
      · subst c2
        by_cases c3 : off + k < cells.size
        · rw [if_pos rfl, if_pos c3, if_pos (by omega)]; simp
        · rw [if_pos rfl, if_neg c3, if_neg (by omega)]; simp; omega
      · rw [if_neg c2, if_neg (by omega)]

section
variable {P : Program} {E : Env} {t : List AV} {s : List VObj} {dst : Option Tmp} {ty : TypeId} {pos : String} {after : Array Edge} {guard : Option (Nat × Bool)}
variable {K : OpOut → Prop} {R : AV → List VObj → FP → Prop}

theorem fill_rel (hF : ¬ K .fail) {place placeV : Nat → Option (Nat × Nat)} (hp : ∀ i x, place i = some x → placeV i = some x) {L : List AV → Prop} : ∀ (parts : List (Nat × Operand)) (cs : List AV),
    fillAV K place cs (parts.map fun p => (p.1, evV t p.2)) L →
    ∃ cs', L cs' ∧ cs'.length = cs.length ∧ ∀ (g : Gh) (w : World) (ρ : Operand → Value) (cells : Array Value), (∀ p ∈ parts, Rel g w (evV t p.2) (ρ p.2)) → RelC g w cs cells →
      ∃ cells', Instr.fill placeV cells (parts.map fun p => (p.1, ρ p.2)) = some cells' ∧ RelC g w cs' cells' := by
  intro parts
  induction parts with
  | nil => intro cs h; exact ⟨cs, h, rfl, fun g w ρ cells _ hc => ⟨cells, rfl, hc⟩⟩
  | cons p parts ih =>
    obtain ⟨i, x⟩ := p
    intro cs h
    simp only [List.map_cons] at h
    by_cases hd : evV t x = .dead
    · rw [hd] at h; exact (hF (by simpa [fillAV] using h)).elim
    · have h' : (match place i with
        | none => K .fail
        | some (off, size) => match Nat.beq (evV t x).cells.length size && Nat.ble (off + size) cs.length with
          | true => forceC (splice cs off (evV t x).cells) fun c => fillAV K place c (parts.map fun p => (p.1, evV t p.2)) L
          | false => K .fail) := by
        revert hd h
        generalize evV t x = v
        intro h hd
        cases v <;> first | exact (hd rfl).elim | exact h
      split at h'
      · exact (hF h').elim
      · rename_i off size hpl
        split at h'
        · rename_i hb
          simp only [Bool.and_eq_true] at hb
          have b1 := Nat.eq_of_beq_eq_true hb.1
          have b2 := Nat.le_of_ble_eq_true hb.2
          rw [forceC_eq] at h'
          obtain ⟨cs', hL, hlen, hrest⟩ := ih _ h'
          refine ⟨cs', hL, by rw [hlen, splice_length _ _ _ (by omega)], fun g w ρ cells hparts hc => ?_⟩
          have hr : RelC g w (evV t x).cells (ρ x).cells := rel_cells (hparts (i, x) (by simp)) hd
          have hpv := hp _ _ hpl
          simp only [List.map_cons, Instr.fill, hpv]
          rw [if_neg (by have := hr.size; have := hc.size; simp; omega)]
          refine hrest g w ρ _ (fun p hp => hparts p (by simp [hp])) ?_
          have hf := fold_set (ρ x).cells.toList off 0 cells
          rw [← Array.foldl_toList]
          simp only [Array.toList_zipIdx]
          have hrs := hr.size
          have hcsz := hc.size
          refine ⟨by rw [splice_length _ _ _ (by omega)]; exact hc.size.trans hf.1.symm, fun j y v hy hv => ?_⟩
          have hv' := (hf.2 j).symm.trans hv
          rw [splice_get _ _ _ (by omega)] at hy
          simp only [Nat.add_zero, Array.length_toList] at hv'
          by_cases c1 : off ≤ j ∧ j < off + (evV t x).cells.length
          · rw [if_pos c1] at hy
            rw [if_pos (by omega)] at hv'
            exact hr.rel _ _ _ hy (by simpa using hv')
          · rw [if_neg c1] at hy
            rw [if_neg (by omega)] at hv'
            exact hc.rel _ _ _ hy hv'
        · exact (hF h').elim

theorem relC_lits {g : Gh} {w : World} (z : Array Value) : RelC g w (z.toList.map avLit) z :=
  ⟨by simp, fun j x v hx hv => by
    simp [hv] at hx
    rw [← hx]; exact rel_lit v⟩

theorem over_one {σ : Nat → VObj} {n : Nat} {o : VObj} : over σ (getO (setO s n o)) [n] = updF σ n o := by
  funext j
  simp only [over, updF, getO_setO, List.mem_singleton]
  by_cases h : j = n
  · rw [if_pos h, if_pos h, if_pos h]
  · rw [if_neg h, if_neg h]

theorem getO_setO_out {n j : Nat} {o : VObj} (h : j ∉ [n]) : getO (setO s n o) j = getO s j := by
  rw [getO_setO, if_neg (by simpa using h)]

theorem run_alloc' (o : Obj) (w : World) : (newObj o).run P w = .ok w.heap.size (w.alloc o) := rfl

theorem drop_take_get' {α : Type} {cs : List α} {off n j : Nat} : ((cs.drop off).take n)[j]? = if j < n then cs[off + j]? else none := by
  rw [List.getElem?_take]; split
  · rw [List.getElem?_drop]
  · rfl

theorem s_alloc (hE : E.Fits P) {e n by_ : Nat} {k : TK} {z : AV} {zero : List AV} (h : E.ti e = ⟨k, n, by_, z :: zero⟩) :
    OpSem P ⟨dst, .alloc e, ty, pos, after, guard⟩ t s (.ptr s.length 0) (setO s s.length (.box (z :: zero) false)) ⟨[], [s.length]⟩ := by
  obtain ⟨i, d, zv, h1, h2, h3, h4, h5, h6, h7, h8, h9⟩ := ti_at hE h (.inr (.inr (by simp)))
  refine .val (fun id hid => getO_setO_out hid) fun B g w a σ hB hx hσ hs => ?_
  rw [over_one]
  have hg : σ s.length = .gone := (hσ _ (by simp)).trans (getO_len s)
  have hc := relC_lits (g := g) (w := w) zv.cells
  rw [h9]
  obtain ⟨g', e1, e2, e3⟩ := new_box hs hB hg hc.size hc.rel e
  refine ⟨g', _, _, ?_, e1, e2, e3⟩
  simp only [execOp, Instr.alloc, newVar, newRow, Sem.run_bind, run_zeroValue' h1 h3, Result.andThen_ok, Sem.run_pure, run_alloc']

theorem s_allocT (hE : E.Fits P) {e n by_ : Nat} {k : TK} {z : AV} {zero : List AV} (h : E.ti e = ⟨k, n, by_, z :: zero⟩) :
    OpSem P ⟨dst, .alloc e, ty, pos, after, guard⟩ t s (.ptr s.length 0) (setO s s.length (.tbox e (z :: zero))) ⟨[], [s.length]⟩ := by
  obtain ⟨i, d, zv, h1, h2, h3, h4, h5, h6, h7, h8, h9⟩ := ti_at hE h (.inr (.inr (by simp)))
  refine .val (fun id hid => getO_setO_out hid) fun B g w a σ hB hx hσ hs => ?_
  rw [over_one]
  have hg : σ s.length = .gone := (hσ _ (by simp)).trans (getO_len s)
  have hc := relC_lits (g := g) (w := w) zv.cells
  rw [h9]
  obtain ⟨g', e1, e2, e3⟩ := new_tbox hs hB hg hc.size hc.rel e
  refine ⟨g', _, _, ?_, e1, e2, e3⟩
  simp only [execOp, Instr.alloc, newVar, newRow, Sem.run_bind, run_zeroValue' h1 h3, Result.andThen_ok, Sem.run_pure, run_alloc']

theorem s_box {e : TypeId} {x : Operand} (hd : evV t x ≠ .dead) :
    OpSem P ⟨dst, .box e x, ty, pos, after, guard⟩ t s (.ptr s.length 0) (setO s s.length (.box (evV t x).cells false)) ⟨[], [s.length]⟩ := by
  refine .val (fun id hid => getO_setO_out hid) fun B g w a σ hB hx hσ hs => ?_
  rw [over_one]
  have hg : σ s.length = .gone := (hσ _ (by simp)).trans (getO_len s)
  have hc := rel_cells (hx x (by simp [Op.operands])) hd
  obtain ⟨g', e1, e2, e3⟩ := new_box hs hB hg hc.size hc.rel e
  refine ⟨g', _, _, ?_, e1, e2, e3⟩
  simp only [execOp, Instr.box, newVar, newRow, Sem.run_bind, Result.andThen_ok, Sem.run_pure, run_alloc']


theorem mapM_sizes (sz : TypeId → Nat) {fs : List Field} (h : ∀ f ∈ fs, ∃ i, P.info? f.type = some i ∧ i.size = sz f.type) (w : World) :
    (fs.mapM fun (f : Field) => (do pure (f.offset, ← sizeOf f.type) : Sem (Nat × Nat))).run P w = .ok (fs.map fun f => (f.offset, sz f.type)) w := by
  induction fs with
  | nil => rfl
  | cons f fs ih =>
    obtain ⟨i0, hi0, he⟩ := h f (by simp)
    have := ih fun f hf => h f (by simp [hf])
    simp only [List.mapM_cons, Sem.run_bind, run_sizeOf' hi0, Result.andThen_ok, Sem.run_pure, this, he, List.map_cons]
theorem mapM_sizes' (sz : TypeId → Nat) {fs : Array Field} (h : ∀ f ∈ fs.toList, ∃ i, P.info? f.type = some i ∧ i.size = sz f.type) (w : World) :
    (fs.mapM fun (f : Field) => (do pure (f.offset, ← sizeOf f.type) : Sem (Nat × Nat))).run P w = .ok (fs.toList.map fun f => (f.offset, sz f.type)).toArray w := by
  rw [Array.mapM_eq_mapM_toList]
  simp only [map_eq_pure_bind, Sem.run_bind, mapM_sizes sz h w, Result.andThen_ok, Sem.run_pure]

theorem operands_build {ty' : TypeId} {parts : Array (Nat × Operand)} {p : Nat × Operand} (h : p ∈ parts.toList) : p.2 ∈ (Op.build ty' parts).operands := by
  simp only [Op.operands]; exact List.mem_toArray.2 (List.mem_map.2 ⟨p, h, rfl⟩)
theorem operands_buildSlice {ty' : TypeId} {n : Nat} {parts : Array (Nat × Operand)} {p : Nat × Operand} (h : p ∈ parts.toList) : p.2 ∈ (Op.buildSlice ty' n parts).operands := by
  simp only [Op.operands]; exact List.mem_toArray.2 (List.mem_map.2 ⟨p, h, rfl⟩)

theorem info_of {E : Env} {P : Program} (hE : E.Fits P) {t : TypeId} (h : 0 < (E.ti t).size) : ∃ i, P.info? t = some i ∧ i.size = (E.ti t).size := by
  obtain ⟨i, d, zv, h1, h2, h3, h4, h5, h6, h7, _⟩ := ti_at hE (t := t) rfl (.inr (.inl h))
  exact ⟨i, h1, h7⟩

theorem s_build_struct (hF : ¬ K .fail) (hE : E.Fits P) {ty' n by_ : Nat} {zero : List AV} {fs : List (Nat × TypeId)} {parts : Array (Nat × Operand)} (e1 : E.ti ty' = ⟨.struct fs, n, by_, zero⟩)
    (hfs : (fs.all fun f => Nat.blt 0 (E.ti f.2).size) = true) {L : List AV → Prop}
    (h : fillAV K (fun i => (fs[i]?).map fun f => (f.1, (E.ti f.2).size)) zero (parts.toList.map fun p => (p.1, evV t p.2)) L) :
    ∃ cs, L cs ∧ OpSem P ⟨dst, .build ty' parts, ty, pos, after, guard⟩ t s (.agg cs) s fp0 := by
  obtain ⟨i, d, zv, h1, h2, h3, h4, h5, h6, h7, h8, h9⟩ := ti_at hE e1 (.inl (by simp))
  obtain ⟨f, rfl, hf⟩ := tk_struct h6.symm
  have hinfo : ∀ x ∈ f.toList, ∃ i, P.info? x.type = some i ∧ i.size = (E.ti x.type).size := fun x hx => by
    rw [List.all_eq_true] at hfs
    have := hfs (x.offset, x.type) (by rw [hf]; exact List.mem_map.2 ⟨x, hx, rfl⟩)
    exact info_of hE (Nat.le_of_ble_eq_true this)
  have hp : ∀ (i : Nat) (x : Nat × Nat), ((fs[i]?).map fun (f : Nat × TypeId) => (f.1, (E.ti f.2).size)) = some x → ((f.toList.map fun f => (f.offset, (E.ti f.type).size)).toArray[i]?) = some x := fun i x hx => by
    rw [hf, List.getElem?_map] at hx
    rw [List.getElem?_toArray, List.getElem?_map, ← hx]
    cases f.toList[i]? <;> rfl
  obtain ⟨cs, hL, hlen, hrel⟩ := fill_rel hF hp _ _ h
  refine ⟨cs, hL, .same fun B g w a σ hB hx hσ hs => ?_⟩
  obtain ⟨cells, hc1, hc2⟩ := hrel g w a.eval zv.cells (fun p hp => hx p.2 (operands_build hp)) (h9 ▸ relC_lits zv.cells)
  refine ⟨.agg cells, ?_, .agg hc2.size hc2.rel⟩
  have hm := mapM_sizes' (P := P) (fun t => (E.ti t).size) hinfo w
  simp only [execOp, Instr.build, Sem.run_bind, run_zeroValue' h1 h3, Result.andThen_ok, Sem.run_pure, run_underlying' h2, hm, Array.toList_map, hc1]

theorem s_build_arr (hF : ¬ K .fail) (hE : E.Fits P) {ty' e m n by_ : Nat} {zero : List AV} {parts : Array (Nat × Operand)} (e1 : E.ti ty' = ⟨.arr m e, n, by_, zero⟩)
    (h0 : Nat.blt 0 (E.ti e).size = true) {L : List AV → Prop}
    (h : fillAV K (fun i => some (i * (E.ti e).size, (E.ti e).size)) zero (parts.toList.map fun p => (p.1, evV t p.2)) L) :
    ∃ cs, L cs ∧ OpSem P ⟨dst, .build ty' parts, ty, pos, after, guard⟩ t s (.agg cs) s fp0 := by
  obtain ⟨i, d, zv, h1, h2, h3, h4, h5, h6, h7, h8, h9⟩ := ti_at hE e1 (.inl (by simp))
  have hd := tk_arr h6.symm; subst hd
  obtain ⟨inf, q1, q2⟩ := info_of hE (Nat.le_of_ble_eq_true h0)
  obtain ⟨cs, hL, hlen, hrel⟩ := fill_rel hF (placeV := fun i => some (i * (E.ti e).size, (E.ti e).size)) (fun _ _ h => h) _ _ h
  refine ⟨cs, hL, .same fun B g w a σ hB hx hσ hs => ?_⟩
  obtain ⟨cells, hc1, hc2⟩ := hrel g w a.eval zv.cells (fun p hp => hx p.2 (operands_build hp)) (h9 ▸ relC_lits zv.cells)
  refine ⟨.agg cells, ?_, .agg hc2.size hc2.rel⟩
  simp only [execOp, Instr.build, Sem.run_bind, run_zeroValue' h1 h3, Result.andThen_ok, Sem.run_pure, run_underlying' h2, run_sizeOf' q1, q2, Array.toList_map, hc1]

/- Slices that are written out. -/
theorem rep_get {α : Type} (z : List α) (n : Nat) (hz : z.length = n) (h0 : 0 < n) : ∀ len j, j < len * n → ((List.replicate len z).flatten)[j]? = z[j % n]? := by
  intro len
  induction len with
  | zero => intro j h; simp at h
  | succ len ih =>
    intro j h
    rw [List.replicate_succ, List.flatten_cons, List.getElem?_append]
    by_cases hj : j < z.length
    · rw [if_pos hj, Nat.mod_eq_of_lt (by omega)]
    · rw [if_neg hj, ih _ (by rw [Nat.add_mul] at h; omega), hz]
      congr 1
      rw [Nat.mod_eq_sub_mod (show j ≥ n by omega)]

theorem chunk_len (n : Nat) : ∀ m cs, (chunk n m cs).length = m := by
  intro m; induction m with
  | zero => intro cs; rfl
  | succ m ih => intro cs; simp [chunk, ih]
theorem chunk_get (n : Nat) : ∀ (m : Nat) (cs : List AV) (i : Nat) (c : List AV), (chunk n m cs)[i]? = some c → i < m ∧ c = (cs.drop (i * n)).take n := by
  intro m; induction m with
  | zero => intro cs i c h; simp [chunk] at h
  | succ m ih =>
    intro cs i c h
    cases i with
    | zero => simp [chunk] at h; exact ⟨by omega, by rw [← h]; simp⟩
    | succ i =>
      simp only [chunk, List.getElem?_cons_succ] at h
      obtain ⟨h1, h2⟩ := ih _ _ _ h
      refine ⟨by omega, ?_⟩
      rw [h2, List.drop_drop, Nat.add_mul]
      congr 2; omega

theorem fzd_fzd (o : VObj) : o.fzd.fzd = o.fzd := by cases o <;> rfl
theorem getO_freeze (l : List Nat) : ∀ (s : List VObj) (id : Nat), getO (freeze s l) id = if id ∈ l then (getO s id).fzd else getO s id := by
  induction l with
  | nil => intro s id; rfl
  | cons i l ih =>
    intro s id
    simp only [freeze, ih, getO_setO, List.mem_cons]
    by_cases h : id = i
    · subst h; simp [fzd_fzd]
    · simp [h]

theorem freeze_list {B : Nat → Prop} {g : Gh} {w : World} (l : List Nat) : ∀ {σ : Nat → VObj} {s : List VObj} {g : Gh}, RelS B g w σ → (∀ id ∈ l, σ id = getO s id) →
    ∃ g', Ext B g w g' w ∧ RelS B g' w (over σ (getO (freeze s l)) l) ∧ g'.loc = g.loc ∧ g'.hdr = g.hdr := by
  induction l with
  | nil => intro σ s g hs _; exact ⟨g, Ext.refl B g w, by rw [over_nil]; exact hs, rfl, rfl⟩
  | cons i l ih =>
    intro σ s g hs hag
    obtain ⟨g1, e1, r1, l1, k1⟩ := freeze_one (id := i) hs
    obtain ⟨g2, e2, r2, l2, k2⟩ := ih (s := setO s i (getO s i).fzd) r1 (fun j hj => by
      rw [getO_setO]
      by_cases h : j = i
      · subst h; rw [updF_same, if_pos rfl, hag j (by simp)]
      · rw [updF_other _ _ h, if_neg h, hag j (by simp [hj])])
    refine ⟨g2, e1.trans e2, ?_, l2.trans l1, k2.trans k1⟩
    have : over σ (getO (freeze s (i :: l))) (i :: l) = over (updF σ i (σ i).fzd) (getO (freeze (setO s i (getO s i).fzd) l)) l := by
      funext j
      simp only [over, List.mem_cons, freeze]
      by_cases h : j ∈ l
      · simp [h]
      · by_cases h' : j = i
        · subst h'; simp [h, getO_freeze, getO_setO, hag j (by simp)]
        · simp [h, h', updF_other]
    rw [this]; exact r2

theorem nrm_pure (s : List VObj) (x : AV) : (nrm s x).pure = true := by
  cases x <;> simp only [nrm] <;> (repeat' split) <;> rfl

/-- what a leaf is once its object is frozen -/
theorem nrm_rel {B : Nat → Prop} {g : Gh} {w : World} {σ : Nat → VObj} (hs : RelS B g w σ) {x : AV} {v : Value} (hr : Rel g w x v) (hag : ∀ id ∈ refsOf x, σ id = (getO s id).fzd) : Rel g w (nrm s x) v := by
  cases x with
  | dead => exact hr
  | bool b => exact hr
  | kb b => exact hr.unkb
  | int k n => exact hr
  | str b => exact hr
  | nilptr => exact hr
  | nilmap => exact hr
  | nilfunc => exact hr
  | nilif => exact hr
  | sl nn full es =>
    cases hr with
    | slnil h h' => exact .slnil nofun nofun
    | sl vs h0 h1 h2 h3 h4 h5 h6 => exact .sl vs nofun h1 nofun h3 h4 h5 h6
  | sall id ver =>
    have hobj := hs.obj id
    rw [hag id (by simp [refsOf])] at hobj
    cases ho : getO s id with
    | arr ver' esz nn es fz =>
      cases hv : Nat.beq ver ver' with
      | false => simp only [nrm, ho, hv]; exact .dead _
      | true =>
        simp only [nrm, ho, hv]
        have hv := Nat.eq_of_beq_eq_true hv
        subst hv
        rw [ho] at hobj
        obtain ⟨_, h2, h3, h4, hcase⟩ := hobj
        obtain ⟨ver0, hd, a, len, cap, r1, r2, r3, rfl⟩ := inv_sall hr
        rcases hcase with ⟨a', k1, k2, k3, k4⟩ | ⟨b, o, cap', vs, k1, k0, k2, k3, k4, k5, k6, k7, k8, k9⟩
        · rw [k1] at r1; cases r1
          have r3 := r3 rfl
          cases r3
          subst k2
          exact .slnil nofun nofun
        · rw [k1] at r1; cases r1
          have r3 := r3 rfl
          cases r3
          refine .sl vs nofun k3 nofun h2 (fun i c j x hi hj => ?_) (fun i c j x hi hj => (k7 i c j x hi hj).2) (fun i c j hi hj => ?_)
          · rw [h3 c (List.mem_of_getElem? hi)]; exact (k7 i c j x hi hj).1
          · have hl := h3 c (List.mem_of_getElem? hi)
            rw [hl]
            exact (k8 rfl).1 i j (List.getElem?_eq_some_iff.1 hi).1 (hl ▸ hj)
    | _ => simp only [nrm, ho]; exact .dead _
  | sref id ver esz' off len =>
    have hobj := hs.obj id
    rw [hag id (by simp [refsOf])] at hobj
    cases ho : getO s id with
    | arr ver' esz nn es fz =>
      cases hv : (Nat.beq ver ver' && Nat.beq esz' esz && Nat.ble (off + len) es.length) with
      | false => simp only [nrm, ho, hv]; exact .dead _
      | true =>
        simp only [nrm, ho, hv]
        simp only [Bool.and_eq_true] at hv
        obtain ⟨⟨hv, hv2⟩, hv3⟩ := hv
        have hv := Nat.eq_of_beq_eq_true hv
        have hv2 := Nat.eq_of_beq_eq_true hv2
        have hv3 := Nat.le_of_ble_eq_true hv3
        subst hv; subst hv2
        rw [ho] at hobj
        obtain ⟨_, h2, h3, h4, hcase⟩ := hobj
        obtain ⟨ver0, hd, a, cap, r1, r2, r3, rfl⟩ := inv_sref hr
        have hlw : ((es.drop off).take len).length = len := by simp; omega
        have hpw : pureL ((es.drop off).take len) := fun c hc => h2 c (List.mem_of_mem_drop (List.mem_of_mem_take hc))
        have hgw : ∀ i c, ((es.drop off).take len)[i]? = some c → i < len ∧ es[off + i]? = some c := fun i c h => by
          rw [drop_take_get'] at h
          split at h
          · exact ⟨by assumption, h⟩
          · exact nomatch h
        rcases hcase with ⟨a', k1, k2, k3, k4⟩ | ⟨b, o, cap', vs, k1, k0, k2, k3, k4, k5, k6, k7, k8, k9⟩
        · rw [k1] at r1; cases r1
          subst k2
          have hl0 : len = 0 := by simp at hv3; omega
          subst hl0
          rcases r3 rfl with ⟨q1, q2, q3, q4⟩ | ⟨b, o, len0, cap0, o', q1, q2, q3, q4, q5⟩
          · subst q4; simp; exact .slnil nofun nofun
          · cases q2
            have := Rel.sl (g := g) (w := w) (nn := none) (full := false) (es := []) (b := b) (o := o') (cap := cap) (fun _ _ => undef) nofun (Nat.zero_le _) nofun (fun c h => by simp at h) (fun i c j x h => by simp at h) (fun i c j x h => by simp at h) (fun i c j h => by simp at h)
            simpa using this
        · rw [k1] at r1; cases r1
          rcases r3 rfl with ⟨q1, q2, q3, q4⟩ | ⟨b', o0, len0, cap0, o', q1, q2, q3, q4, q5⟩
          · injection q1 with _ _ hcc; exact (k0 hcc).elim
          · cases q1; subst q2
            have := Rel.sl (g := g) (w := w) (nn := none) (full := false) (es := (es.drop off).take len) (b := b) (o := o') (cap := cap) (fun i j => vs (off + i) j) nofun (by omega) nofun hpw (fun i c j x hi hj => ?_) (fun i c j x hi hj => (k7 _ c j x (hgw i c hi).2 hj).2) (fun i c j hi hj => ?_)
            · rw [hlw] at this; exact this
            · obtain ⟨hil, hie⟩ := hgw i c hi
              have hcl := h3 c (List.mem_of_getElem? hie)
              have := (k7 _ c j x hie hj).1
              rw [q3 (by omega), hcl]
              rw [Nat.add_mul] at this
              rw [show o + off * esz' + i * esz' + j = o + (off * esz' + i * esz') + j by omega]
              exact this
            · obtain ⟨hil, hie⟩ := hgw i c hi
              have hcl := h3 c (List.mem_of_getElem? hie)
              have := (k8 rfl).1 (off + i) j (List.getElem?_eq_some_iff.1 hie).1 (hcl ▸ hj)
              rw [q3 (by omega), hcl]
              rw [Nat.add_mul] at this
              rw [show o + off * esz' + i * esz' + j = o + (off * esz' + i * esz') + j by omega]
              exact this
    | _ => simp only [nrm, ho]; exact .dead _
  | _ => exact .dead _


theorem refs_mem {cs : List AV} {x : AV} {id : Nat} (hx : x ∈ cs) (h : id ∈ refsOf x) : id ∈ cellsRefs cs := List.mem_flatMap.2 ⟨x, hx, h⟩

/-- a literal slice's cells, in memory -/
theorem lit_cells (hF : ¬ K .fail) (hE : E.Fits P) {ty' e len n by2 m by_ : Nat} {k : TK} {z zero : List AV} {parts : Array (Nat × Operand)} (e1 : E.ti ty' = ⟨.sl e, m, by_, z⟩) (e2 : E.ti e = ⟨k, n, by2, zero⟩) (h0 : 0 < n) (hz : zero.length = n) (hlim : len * n ≤ 16777216) {L : List AV → Prop}
    (h : fillAV K (fun i => some (i * n, n)) ((List.replicate len zero).flatten) (parts.toList.map fun p => (p.1, evV t p.2)) L) :
    ∃ cs, L cs ∧ cs.length = len * n ∧ ∀ (g : Gh) (w : World) (a : Act), (∀ x ∈ (Op.buildSlice ty' len parts).operands, Rel g w (evV t x) (a.eval x)) → ∃ cells, RelC g w cs cells ∧
      (execOp a.eval ⟨dst, .buildSlice ty' len parts, ty, pos, after, guard⟩).run P w = .ok (.value (.slice (some ⟨w.heap.size, 0, none⟩) len len)) (w.alloc (.cells cells e)) := by
  obtain ⟨i, d, zv, h1, h2, h3, h4, h5, h6, h7, h8, h9⟩ := ti_at hE e1 (.inl (by simp))
  have hd := tk_slice h6.symm; subst hd
  obtain ⟨i2, d2, zv2, q1, q2, q3, q4, q5, q6, q7, q8, q9⟩ := ti_at hE e2 (.inr (.inl h0))
  obtain ⟨cs, hL, hlen, hrel⟩ := fill_rel hF (placeV := fun i => some (i * n, n)) (fun _ _ h => h) _ _ h
  have hl : ((List.replicate len zero).flatten).length = len * n := by simp [hz]
  refine ⟨cs, hL, hlen.trans hl, fun g w a hx => ?_⟩
  have hzc : RelC g w ((List.replicate len zero).flatten) ((Array.range (len * n)).map (zv2.cells[· % zv2.cells.size]!)) := by
    refine ⟨by simp [hz], fun j x v hx hv => ?_⟩
    have hj : j < len * n := by rw [← hl]; exact (List.getElem?_eq_some_iff.1 hx).1
    rw [rep_get zero n hz h0 len j hj, q9] at hx
    simp only [Array.getElem?_map, Array.getElem?_range, hj, if_true, Option.map_some] at hv
    have hm : j % n < zv2.cells.size := by rw [q5]; exact Nat.mod_lt _ h0
    rw [q5, getElem!_pos zv2.cells (j % n) hm] at hv
    simp only [List.getElem?_map, Array.getElem?_toList, Array.getElem?_eq_getElem hm, Option.map_some] at hx
    cases hx; cases hv
    exact rel_lit _
  obtain ⟨cells, hc1, hc2⟩ := hrel g w a.eval _ (fun p hp => hx p.2 (operands_buildSlice hp)) hzc
  refine ⟨cells, hc2, ?_⟩
  have hlim' : ¬ (len * n > 2 ^ 24) := by omega
  by_cases hz0 : len * n = 0
  · have hcells : ((Array.range (len * n)).map ((#[] : Array Value)[· % (#[] : Array Value).size]!)) = ((Array.range (len * n)).map (zv2.cells[· % zv2.cells.size]!)) := by
      rw [hz0]; simp
    simp only [execOp, Instr.buildSlice, Sem.run_bind, run_underlying' h2, Result.andThen_ok, Sem.run_pure, run_sizeOf' q1, q7, hlim', if_false, if_pos hz0, hcells, Array.toList_map, hc1, newRow, run_alloc']
  · simp only [execOp, Instr.buildSlice, Sem.run_bind, run_underlying' h2, Result.andThen_ok, Sem.run_pure, run_sizeOf' q1, q7, hlim', if_false, if_neg hz0, run_zeroValue' q1 q3, Array.toList_map, hc1, newRow, run_alloc']

theorem chunk_cells {g : Gh} {w : World} {ds : List AV} {cells : Array Value} {len n : Nat} (hc : RelC g w ds cells) (hl : ds.length = len * n) (hp : ∀ x ∈ ds, x.pure = true) :
    pureL (chunk n len ds) ∧ (∀ c ∈ chunk n len ds, c.length = n) ∧ ∀ (i : Nat) (ci : List AV) (j : Nat) (x : AV), (chunk n len ds)[i]? = some ci → ci[j]? = some x → ∃ v, cells[i * n + j]? = some v ∧ Rel g w x v := by
  have hlen : ∀ i c, (chunk n len ds)[i]? = some c → c.length = n ∧ c = (ds.drop (i * n)).take n := fun i c h => by
    obtain ⟨h1, h2⟩ := chunk_get n len ds i c h
    refine ⟨?_, h2⟩
    have : (i + 1) * n ≤ len * n := Nat.mul_le_mul_right _ h1
    rw [Nat.add_mul] at this
    rw [h2]; simp; omega
  refine ⟨fun c h x hx => ?_, fun c h => ?_, fun i c j x hi hj => ?_⟩
  · obtain ⟨i, hi⟩ := List.getElem?_of_mem h
    rw [(hlen i c hi).2] at hx
    exact hp x (List.mem_of_mem_drop (List.mem_of_mem_take hx))
  · obtain ⟨i, hi⟩ := List.getElem?_of_mem h
    exact (hlen i c hi).1
  · rw [(hlen i c hi).2, drop_take_get] at hj
    split at hj
    · have hlt := (List.getElem?_eq_some_iff.1 hj).1
      rw [hc.size] at hlt
      exact ⟨cells[i * n + j], Array.getElem?_eq_getElem hlt, hc.rel _ _ _ hj (Array.getElem?_eq_getElem hlt)⟩
    · exact nomatch hj

theorem freeze_cells {B : Nat → Prop} {g : Gh} {w : World} {σ : Nat → VObj} {cs : List AV} {cells : Array Value} (hs : RelS B g w σ) (hag : ∀ id ∈ cellsRefs cs, σ id = getO s id) (hc : RelC g w cs cells) :
    ∃ g', Ext B g w g' w ∧ RelS B g' w (over σ (getO (freeze s (cellsRefs cs))) (cellsRefs cs)) ∧ RelC g' w (cs.map (nrm s)) cells ∧ g'.loc = g.loc ∧ g'.hdr = g.hdr := by
  obtain ⟨g', e1, r1, l1, k1⟩ := freeze_list (w := w) (g := g) (cellsRefs cs) hs hag
  refine ⟨g', e1, r1, ⟨by rw [List.length_map]; exact hc.size, fun j x v hx hv => ?_⟩, l1, k1⟩
  rw [List.getElem?_map] at hx
  cases hj : cs[j]? with
  | none => rw [hj] at hx; exact nomatch hx
  | some y =>
    rw [hj] at hx
    cases hx
    exact nrm_rel r1 ((hc.rel j y v hj hv).mono e1) fun id hid => by
      have hm := refs_mem (List.mem_of_getElem? hj) hid
      simp only [over, if_pos hm, getO_freeze]

theorem s_buildSlice_row {ty' len e n : Nat} {parts : Array (Nat × Operand)} {cs : List AV} (hl : cs.length = len * n)
    (hc : ∀ (g : Gh) (w : World) (a : Act), (∀ x ∈ (Op.buildSlice ty' len parts).operands, Rel g w (evV t x) (a.eval x)) → ∃ cells, RelC g w cs cells ∧
      (execOp a.eval ⟨dst, .buildSlice ty' len parts, ty, pos, after, guard⟩).run P w = .ok (.value (.slice (some ⟨w.heap.size, 0, none⟩) len len)) (w.alloc (.cells cells e))) :
    OpSem P ⟨dst, .buildSlice ty' len parts, ty, pos, after, guard⟩ t s (.sl (some false) true (chunk n len (cs.map (nrm s)))) (freeze s (cellsRefs cs)) ⟨[], cellsRefs cs⟩ := by
  refine .val (fun id hid => by rw [getO_freeze, if_neg hid]) fun B g w a σ hB hx hσ hs => ?_
  obtain ⟨cells, h1, h2⟩ := hc g w a hx
  obtain ⟨g1, e1, r1, c1, l1, k1⟩ := freeze_cells (s := s) hs (fun id hid => hσ id (.inr hid)) h1
  obtain ⟨q1, q2, q3⟩ := chunk_cells (len := len) (n := n) c1 (by simpa using hl) (fun x hx => by obtain ⟨y, _, rfl⟩ := List.mem_map.1 hx; exact nrm_pure s y)
  obtain ⟨g2, e2, r2, v2⟩ := new_row r1 hB q1 q2 (by rw [chunk_len, ← c1.size, List.length_map]; exact hl.symm) q3 e
  rw [chunk_len] at v2
  exact ⟨g2, _, _, h2, e1.trans e2, r2, v2⟩

theorem s_buildSlice_arr {ty' len e n : Nat} {parts : Array (Nat × Operand)} {cs : List AV} (h0 : 0 < n) (hl : cs.length = len * n)
    (hc : ∀ (g : Gh) (w : World) (a : Act), (∀ x ∈ (Op.buildSlice ty' len parts).operands, Rel g w (evV t x) (a.eval x)) → ∃ cells, RelC g w cs cells ∧
      (execOp a.eval ⟨dst, .buildSlice ty' len parts, ty, pos, after, guard⟩).run P w = .ok (.value (.slice (some ⟨w.heap.size, 0, none⟩) len len)) (w.alloc (.cells cells e))) :
    OpSem P ⟨dst, .buildSlice ty' len parts, ty, pos, after, guard⟩ t s (.sall (freeze s (cellsRefs cs)).length 0)
      (setO (freeze s (cellsRefs cs)) (freeze s (cellsRefs cs)).length (.arr 0 n (some false) (chunk n len (cs.map (nrm s))) false)) ⟨[], (freeze s (cellsRefs cs)).length :: cellsRefs cs⟩ := by
  refine .val (fun id hid => ?_) fun B g w a σ hB hx hσ hs => ?_
  · simp only [List.mem_cons, not_or] at hid
    rw [getO_setO, if_neg hid.1, getO_freeze, if_neg hid.2]
  obtain ⟨cells, h1, h2⟩ := hc g w a hx
  obtain ⟨g1, e1, r1, c1, l1, k1⟩ := freeze_cells (s := s) hs (fun id hid => hσ id (.inr (List.mem_cons_of_mem _ hid))) h1
  obtain ⟨q1, q2, q3⟩ := chunk_cells (len := len) (n := n) c1 (by simpa using hl) (fun x hx => by obtain ⟨y, _, rfl⟩ := List.mem_map.1 hx; exact nrm_pure s y)
  have hgone : over σ (getO (freeze s (cellsRefs cs))) (cellsRefs cs) (freeze s (cellsRefs cs)).length = .gone := by
    simp only [over]
    split
    · exact getO_len _
    · rename_i hn
      rw [hσ _ (.inr (by simp))]
      have := getO_len (freeze s (cellsRefs cs))
      rwa [getO_freeze, if_neg hn] at this
  have hob := r1.obj (freeze s (cellsRefs cs)).length
  rw [hgone] at hob
  obtain ⟨g2, e2, r2, v2⟩ := set_arr r1 hB (id := (freeze s (cellsRefs cs)).length) (ver := 0) (cap := len) (nn := some false) hob.1 (fun v h e => by rw [hob.2] at e; exact nomatch e) q1 q2 h0 nofun (by rw [chunk_len]; exact Nat.le_refl _)
    (by rw [← c1.size, List.length_map, hl]; exact Nat.le_refl _) q3 e false
  rw [chunk_len] at v2
  refine ⟨g2, _, _, h2, e1.trans e2, ?_, v2⟩
  have : over σ (getO (setO (freeze s (cellsRefs cs)) (freeze s (cellsRefs cs)).length (.arr 0 n (some false) (chunk n len (cs.map (nrm s))) false))) ((freeze s (cellsRefs cs)).length :: cellsRefs cs) =
      updF (over σ (getO (freeze s (cellsRefs cs))) (cellsRefs cs)) (freeze s (cellsRefs cs)).length (.arr 0 n (some false) (chunk n len (cs.map (nrm s))) false) := by
    funext j
    simp only [over, updF, List.mem_cons, getO_setO]
    by_cases h : j = (freeze s (cellsRefs cs)).length
    · simp only [h, true_or, if_true]
    · simp only [h, false_or, if_false]
  rw [this]; exact r2

theorem s_makeSlice (hE : E.Fits P) {ty' e n by2 m by_ : Nat} {k : TK} {kn km : IntKind} {z zero : List AV} {l c : Operand} {nl nc : Int} (e1 : E.ti ty' = ⟨.sl e, m, by_, z⟩) (e2 : E.ti e = ⟨k, n, by2, zero⟩) (h0 : 0 < n) (hz : zero.length = n) (hb : 0 < by2)
    (hl : evV t l = .int kn nl) (hc : evV t c = .int km nc) (hn : 0 ≤ nl ∧ nl ≤ nc ∧ nc * by2 ≤ big) :
    OpSem P ⟨dst, .makeSlice ty' l c, ty, pos, after, guard⟩ t s (.sall s.length 0) (setO s s.length (.arr 0 n (some false) (List.replicate nl.toNat zero) false)) ⟨[], [s.length]⟩ := by
  obtain ⟨i, d, zv, h1, h2, h3, h4, h5, h6, h7, h8, h9⟩ := ti_at hE e1 (.inl (by simp))
  have hd := tk_slice h6.symm; subst hd
  obtain ⟨i2, d2, zv2, q1, q2, q3, q4, q5, q6, q7, q8, q9⟩ := ti_at hE e2 (.inr (.inl h0))
  obtain ⟨n1, n2, n3⟩ := hn
  obtain ⟨L, rfl⟩ := Int.eq_ofNat_of_zero_le n1
  obtain ⟨C, rfl⟩ := Int.eq_ofNat_of_zero_le (Int.le_trans n1 n2)
  have n2 : L ≤ C := by omega
  have n3 : C * by2 ≤ 70368744177664 := by have : ((C * by2 : Nat) : Int) ≤ (big : Nat) := by push_cast; exact n3
                                           simpa [big] using Int.ofNat_le.1 this
  have hC : C ≤ 70368744177664 := Nat.le_trans (Nat.le_mul_of_pos_right _ hb) n3
  refine .val (fun id hid => getO_setO_out hid) fun B g w a σ hB hx hσ hs => ?_
  rw [over_one]
  have hg : σ s.length = .gone := (hσ _ (by simp)).trans (getO_len s)
  have hob := hs.obj s.length
  rw [hg] at hob
  have hrl := rel_int (hl ▸ hx l (by simp [Op.operands]))
  have hrc := rel_int (hc ▸ hx c (by simp [Op.operands]))
  have hcell : ∀ j, j < C * n → ((Array.range (C * n)).map (zv2.cells[· % zv2.cells.size]!))[j]? = zv2.cells[j % n]? := fun j hj => by
    have hm : j % n < zv2.cells.size := by rw [q5]; exact Nat.mod_lt _ h0
    simp only [Array.getElem?_map, Array.getElem?_range, hj, if_true, Option.map_some]
    rw [q5, getElem!_pos zv2.cells (j % n) hm, Array.getElem?_eq_getElem hm]
  obtain ⟨g2, e2, r2, v2⟩ := set_arr (c := (Array.range (C * n)).map (zv2.cells[· % zv2.cells.size]!)) hs hB (id := s.length) (ver := 0) (cap := C) (nn := some false) (es := List.replicate L zero) (esz := n) hob.1 (fun v h e => by rw [hob.2] at e; exact nomatch e)
    (fun c hc x hx => by
      rw [(List.mem_replicate.1 hc).2, q9] at hx
      obtain ⟨v, hv, rfl⟩ := List.mem_map.1 hx
      have := q4 v hv
      cases v <;> first | rfl | (simp [litOk] at this; done) | skip
      · rename_i p; cases p <;> first | rfl | simp [litOk] at this
      · rename_i a l c; cases a <;> cases l <;> cases c <;> first | rfl | simp [litOk] at this
      · rename_i r; cases r <;> first | rfl | simp [litOk] at this)
    (fun c hc => by rw [(List.mem_replicate.1 hc).2]; exact hz) h0 nofun (by simpa using n2) (by simp) (fun i ci j x hi hj => by
      obtain ⟨hil, rfl⟩ : i < L ∧ ci = zero := by
        rw [List.getElem?_replicate] at hi
        split at hi
        · cases hi; exact ⟨by assumption, rfl⟩
        · exact nomatch hi
      have hjl : j < n := hz ▸ (List.getElem?_eq_some_iff.1 hj).1
      have : (i + 1) * n ≤ C * n := Nat.mul_le_mul_right _ (by omega)
      rw [Nat.add_mul] at this
      rw [hcell _ (by omega), Nat.mul_add_mod_self_right, Nat.mod_eq_of_lt hjl]
      have hjz : j < zv2.cells.size := by omega
      refine ⟨zv2.cells[j], Array.getElem?_eq_getElem hjz, ?_⟩
      rw [q9] at hj
      simp only [List.getElem?_map, Array.getElem?_toList, Array.getElem?_eq_getElem hjz, Option.map_some] at hj
      cases hj
      exact rel_lit _) e false
  rw [List.length_replicate] at v2
  refine ⟨g2, _, _, ?_, e2, r2, v2⟩
  have hr := run_make (P := P) w ty' e i2 zv2 h2 q1 q3 kn km L C (by omega) (by omega) (by
    rw [q8, Int.mul_comm]
    have : ((C * by2 : Nat) : Int) ≤ 70368744177664 := by omega
    push_cast at this
    omega) (by omega)
  simp only [execOp, hrl, hrc, Sem.run_bind, hr, Result.andThen_ok, Sem.run_pure, madeCells, q7, Int.toNat_natCast]

end
end Go.Proofs.YtllpenkgaomdfaaDoor.Vm
/- Soundness: stores, appends, calls; an operation as a whole. -/
set_option linter.all false
namespace Go.Proofs.YtllpenkgaomdfaaDoor.Vm
open Go
variable [Tabs]

section
variable {P : Program} {E : Env} {t : List AV} {s : List VObj} {dst : Option Tmp} {ty : TypeId} {pos : String} {after : Array Edge} {guard : Option (Nat × Bool)}
variable {K : OpOut → Prop} {R : AV → List VObj → FP → Prop}

theorem cells_all {g : Gh} {w : World} {v : AV} {u : Value} (h : Rel g w v u) (h1 : v.cells.all AV.oneC = true) : RelC g w v.cells u.cells ∧ ∀ x ∈ u.cells.toList, x.oneCell' = true := by
  have hd : v ≠ .dead := by rintro rfl; simp [AV.cells, AV.oneC] at h1
  have hc := rel_cells h hd
  refine ⟨hc, fun x hx => ?_⟩
  obtain ⟨j, hj⟩ := List.getElem?_of_mem hx
  have hj' : u.cells[j]? = some x := by simpa using hj
  have hl : j < v.cells.length := by rw [hc.size]; exact (Array.getElem?_eq_some_iff.1 hj').1
  have := hc.rel j _ _ (List.getElem?_eq_getElem hl) hj'
  rw [List.all_eq_true] at h1
  exact (cells_one this (h1 _ (List.getElem_mem hl))).2.2

theorem run_storeAt {ty' : TypeId} {i : TypeInfo} {b o : Nat} {u : Value} {w : World} (hi : P.info? ty' = some i) (hs : u.cells.size = i.size) (h1 : ∀ x ∈ u.cells.toList, x.oneCell' = true) (ho : Owned w b)
    (hc : ∀ j, j < u.cells.toList.length → (w.cell? ⟨b, o + j, none⟩).isSome = true) : (Instr.storeAt ty' (.pointer (some ⟨b, o, none⟩)) u).run P w = .ok () (wset w b o u.cells.toList) := by
  have hr := run_storeCells (P := P) (w := w) (b := b) (o := o) u.cells.toList w 0 h1 ho (fun j hj => by rw [Nat.zero_add]; exact hc j hj)
  rw [Nat.add_zero] at hr
  simp only [Instr.storeAt, Instr.sureAddr, storeVar, Sem.run_bind, Sem.run_pure, Result.andThen_ok, run_sizeOf' hi, hs, ne_eq, not_true_eq_false, if_false, hr]

theorem s_store (hE : E.Fits P) (hK : ∀ out, K out → OpHolds P out R) {ty' : TypeId} {a x : Operand} {kind : TK} {n by_ : Nat} {z : List AV} (e : E.ti ty' = ⟨kind, n, by_, z⟩) (h : vstore K s n (evV t a) (evV t x)) :
    ∃ v s2 fp, OpSem P ⟨dst, .store ty' a x, ty, pos, after, guard⟩ t s v s2 fp ∧ R v s2 fp := by
  cases ha : evV t a with
  | ptr id off =>
    rw [ha] at h
    simp only [vstore, getOK_eq] at h
    cases ho : getO s id with
    | box cs fz =>
      simp only [ho] at h
      cases hb : (!fz && Nat.blt 0 n && Nat.ble (off + n) cs.length && Nat.beq (evV t x).cells.length n && (evV t x).cells.all AV.oneC) with
      | false => simp only [hb] at h; exact (hK _ h).elim
      | true =>
        simp only [hb, forceC_eq, setOK_eq] at h
        simp only [Bool.and_eq_true, Bool.not_eq_true'] at hb
        obtain ⟨⟨⟨⟨b1, b2⟩, b3⟩, b4⟩, b5⟩ := hb
        subst b1
        have b2 := Nat.le_of_ble_eq_true b2
        have b3 := Nat.le_of_ble_eq_true b3
        have b4 := Nat.eq_of_beq_eq_true b4
        refine ⟨_, _, _, .skip (fun id hid => getO_setO_out hid) fun B g w ac σ hB hx hσ hs => ?_, hK _ h⟩
        rw [over_one]
        obtain ⟨i, d, zv, h1, h2, h3, h4, h5, h6, h7, h8, h9⟩ := ti_at hE e (.inr (.inl b2))
        have hra := hx a (by simp [Op.operands])
        rw [ha] at hra
        obtain ⟨b, o, hl, hav⟩ := inv_ptr hra
        obtain ⟨hc, hone⟩ := cells_all (hx x (by simp [Op.operands])) b5
        have hsz := hc.size
        obtain ⟨p1, p2, p3, p4⟩ := put_box hs (cs := cs) (xs := (evV t x).cells) (off := off) (vals := (ac.eval x).cells.toList) ((hσ id (by simp)).trans ho) hl (by simpa using hsz) (by omega) (fun j y v hy hv => hc.rel j y v hy (by simpa using hv))
        refine ⟨g, _, ?_, p3, p4⟩
        have := run_storeAt (P := P) (ty' := ty') (b := b) (o := o + off) (u := ac.eval x) h1 (by omega) hone p2 p1
        simp only [execOp, hav, Sem.run_bind, this, Result.andThen_ok, Sem.run_pure]
    | tbox T cs =>
      simp only [ho] at h
      cases hb : (Nat.blt 0 n && Nat.ble (off + n) cs.length && Nat.beq (evV t x).cells.length n && (evV t x).cells.all AV.oneC) with
      | false => simp only [hb] at h; exact (hK _ h).elim
      | true =>
        simp only [hb, forceC_eq, setOK_eq] at h
        simp only [Bool.and_eq_true] at hb
        obtain ⟨⟨⟨b2, b3⟩, b4⟩, b5⟩ := hb
        have b2 := Nat.le_of_ble_eq_true b2
        have b3 := Nat.le_of_ble_eq_true b3
        have b4 := Nat.eq_of_beq_eq_true b4
        refine ⟨_, _, _, .skip (fun id hid => getO_setO_out hid) fun B g w ac σ hB hx hσ hs => ?_, hK _ h⟩
        rw [over_one]
        obtain ⟨i, d, zv, h1, h2, h3, h4, h5, h6, h7, h8, h9⟩ := ti_at hE e (.inr (.inl b2))
        have hra := hx a (by simp [Op.operands])
        rw [ha] at hra
        obtain ⟨b, o, hl, hav⟩ := inv_ptr hra
        obtain ⟨hc, hone⟩ := cells_all (hx x (by simp [Op.operands])) b5
        have hsz := hc.size
        obtain ⟨p1, p2, p3, p4⟩ := put_tbox hs (cs := cs) (xs := (evV t x).cells) (off := off) (vals := (ac.eval x).cells.toList) ((hσ id (by simp)).trans ho) hl (by simpa using hsz) (by omega) (fun j y v hy hv => hc.rel j y v hy (by simpa using hv))
        refine ⟨g, _, ?_, p3, p4⟩
        have := run_storeAt (P := P) (ty' := ty') (b := b) (o := o + off) (u := ac.eval x) h1 (by omega) hone p2 p1
        simp only [execOp, hav, Sem.run_bind, this, Result.andThen_ok, Sem.run_pure]
    | _ => simp only [ho] at h; exact (hK _ h).elim
  | eptr id ver esz i off =>
    rw [ha] at h
    simp only [vstore, getOK_eq] at h
    cases ho : getO s id with
    | arr ver' esz' nn es fz =>
      simp only [ho] at h
      cases hb : (Nat.beq esz esz' && !fz && Nat.blt 0 n && Nat.ble (off + n) esz && Nat.beq (evV t x).cells.length n && (evV t x).cells.all AV.oneC && !(cellsRefs (evV t x).cells).contains id) with
      | false => simp only [hb] at h; exact (hK _ h).elim
      | true =>
        simp only [hb, nrmLK_eq, freezeK_eq] at h
        simp only [Bool.and_eq_true, Bool.not_eq_true'] at hb
        obtain ⟨⟨⟨⟨⟨⟨b0, b1⟩, b2⟩, b3⟩, b4⟩, b5⟩, b6⟩ := hb
        subst b1
        have b0 := Nat.eq_of_beq_eq_true b0
        subst b0
        have b2 := Nat.le_of_ble_eq_true b2
        have b3 := Nat.le_of_ble_eq_true b3
        have b4 := Nat.eq_of_beq_eq_true b4
        have b6 : id ∉ cellsRefs (evV t x).cells := by simpa using b6
        obtain ⟨hver, hi0, c, hc, hcl, hR⟩ := hK _ h
        subst hver
        rw [Int.toNat_natCast] at hc
        refine ⟨_, _, _, .skip (fun id' hid => ?_) fun B g w ac σ hB hx hσ hs => ?_, hR⟩
        · simp only [List.mem_cons, not_or] at hid
          rw [getO_setO, if_neg hid.1, getO_freeze, if_neg hid.2]
        obtain ⟨inf, d, zv, h1, h2, h3, h4, h5, h6, h7, h8, h9⟩ := ti_at hE e (.inr (.inl b2))
        have hra := hx a (by simp [Op.operands])
        rw [ha] at hra
        obtain ⟨ver0, hd, ad, g1, g2, g3, hav⟩ := inv_eptr hra
        obtain ⟨hcc, hone⟩ := cells_all (hx x (by simp [Op.operands])) b5
        obtain ⟨gf, e1, r1, c1, l1, k1⟩ := freeze_cells (s := s) hs (fun j hj => hσ j (.inr (List.mem_cons_of_mem _ hj))) hcc
        have hoid : over σ (getO (freeze s (cellsRefs (evV t x).cells))) (cellsRefs (evV t x).cells) id = .arr ver esz nn es false := by
          simp only [over, if_neg b6]
          exact (hσ id (.inr (by simp))).trans ho
        have hhdr : ∃ b o len cap, g.hdr id = some (ver, .slice (some ⟨b, o, none⟩) len cap) ∧ ad = ⟨b, o + i * esz + off, none⟩ := by
          have hobj := hs.obj id
          rw [hσ id (.inr (by simp)), ho] at hobj
          obtain ⟨_, _, _, _, hcase⟩ := hobj
          have hv : ver0 = ver := by
            rcases hcase with ⟨a', k1, _⟩ | ⟨b, o, cap', vs, k1, _⟩ <;> (rw [k1] at g1; cases g1; rfl)
          subst hv
          obtain ⟨b, o, len, cap, q1, q2⟩ := g3 rfl
          exact ⟨b, o, len, cap, q1 ▸ g1, q2⟩
        obtain ⟨b, o, len, cap, hh, rfl⟩ := hhdr
        have hsz := hcc.size
        obtain ⟨p1, p2, p3, p4⟩ := put_elem r1 (c := c) (xs := (evV t x).cells.map (nrm s)) (off := off) (vals := (ac.eval x).cells.toList) hoid (k1 ▸ hh) hc (by simpa using hsz) (by simpa using (show off + (evV t x).cells.length ≤ esz by omega))
          (fun y hy => by obtain ⟨q, _, rfl⟩ := List.mem_map.1 hy; exact nrm_pure s q) (fun j y v hy hv => c1.rel j y v hy (by simpa using hv))
        refine ⟨gf, _, ?_, e1.trans p3, ?_⟩
        · have := run_storeAt (P := P) (ty' := ty') (b := b) (o := o + i * esz + off) (u := ac.eval x) h1 (by omega) hone p2 p1
          simp only [execOp, hav, Sem.run_bind, this, Result.andThen_ok, Sem.run_pure]
        · have : over σ (getO (setO (freeze s (cellsRefs (evV t x).cells)) id (.arr ver esz nn (es.set i (splice c off ((evV t x).cells.map (nrm s)))) false))) (id :: cellsRefs (evV t x).cells) =
              updF (over σ (getO (freeze s (cellsRefs (evV t x).cells))) (cellsRefs (evV t x).cells)) id (.arr ver esz nn (es.set i (splice c off ((evV t x).cells.map (nrm s)))) false) := by
            funext j
            simp only [over, updF, List.mem_cons, getO_setO]
            by_cases h : j = id
            · simp only [h, true_or, if_true]
            · simp only [h, false_or, if_false]
          have p4' : RelS B gf (wset w b (o + i * esz + off) (ac.eval x).cells.toList) (over σ (getO (setO (freeze s (cellsRefs (evV t x).cells)) id (.arr ver esz nn (es.set i (splice c off ((evV t x).cells.map (nrm s)))) false))) (id :: cellsRefs (evV t x).cells)) := this ▸ p4
          exact p4'
    | _ => simp only [ho] at h; exact (hK _ h).elim
  | _ => rw [ha] at h; simp only [vstore] at h; exact (hK _ h).elim

/- Calls. -/
theorem s_call (hK : ∀ out, K out → OpHolds P out R) {f : Operand} {args : Array Operand} {argTypes : Array TypeId} {fid : FuncId} {first cap : List AV} (hf : evV t f = .func (.func fid) first cap)
    (h : K (.call fid (first ++ args.toList.map (evV t) ++ cap) s)) : ∃ v s2 fp, OpSem P ⟨dst, .call { callee := .value f, args := args, argTypes := argTypes }, ty, pos, after, guard⟩ t s v s2 fp ∧ R v s2 fp := by
  have hc : VCall P fid (first ++ args.toList.map (evV t) ++ cap) s R := hK _ h
  unfold VCall at hc
  obtain ⟨v, s2, fp, hR, h0, ⟨fn, q1, q2, q3⟩, hc⟩ := hc
  refine ⟨v, s2, fp, ⟨h0, fun B g w a σ next Q hB hx hσ hs htab hn => ?_⟩, hR⟩
  have hrf := hx f (by simp [Op.operands, Call.operands])
  rw [hf] at hrf
  obtain ⟨fv, cv, l1, l2, r1, r2, hev⟩ := inv_func hrf
  have hargs : ∀ (i : Nat) (y : AV) (u : Value), (args.toList.map (evV t))[i]? = some y → (args.map a.eval)[i]? = some u → Rel g w y u := fun i y u hy hu => by
    rw [List.getElem?_map] at hy
    cases hj : args[i]? with
    | none => simp [hj] at hy
    | some o =>
      simp [hj] at hy hu
      subst hy; subst hu
      exact hx o (by
        have := Array.mem_of_getElem? hj
        simp [Op.operands, Call.operands]; exact .inr this)
  have hrel : ∀ (i : Nat) (y : AV) (u : Value), (first ++ args.toList.map (evV t) ++ cap)[i]? = some y → (fv ++ args.map a.eval ++ cv)[i]? = some u → Rel g w y u := fun i y u hy hu => by
    rw [List.getElem?_append] at hy
    rw [Array.getElem?_append] at hu
    have hl1 : (first ++ args.toList.map (evV t)).length = (fv ++ args.map a.eval).size := by simp [l1]
    rw [hl1] at hy
    split at hy
    · rename_i hi
      rw [if_pos hi] at hu
      rw [List.getElem?_append] at hy
      rw [Array.getElem?_append] at hu
      rw [l1] at hy
      split at hy
      · rename_i hi2; rw [if_pos hi2] at hu; exact r1 _ _ _ hy hu
      · rename_i hi2; rw [if_neg hi2] at hu; exact hargs _ _ _ hy hu
    · rename_i hi; rw [if_neg hi] at hu; exact r2 _ _ _ hy hu
  have hC := hc B g w (fv ++ args.map a.eval ++ cv) σ hB (by simp [l1, l2]) hrel hσ hs htab
  unfold Oper.wp
  have hrun : (execOp a.eval ⟨dst, .call { callee := .value f, args := args, argTypes := argTypes }, ty, pos, after, guard⟩).run P w = .ok (.enter fid (fv ++ args.map a.eval ++ cv)) w := by
    have hb : fn.body.isNone = false := by cases hh : fn.body <;> simp_all
    simp only [execOp, resolve, Deferred.ofValue, hev, invoke, callFunc, q1, q3, hb, Sem.run_bind, run_program, Sem.run_pure, Result.andThen_ok, Bool.false_eq_true, if_false]
  rw [hrun, Oper.upon_enter]
  refine Calls.mono hC fun e w' he => ?_
  obtain ⟨g', val, rfl, k1, k2, k3⟩ := he
  exact hn g' w' val k1 k2 k3.unkb

end
end Go.Proofs.YtllpenkgaomdfaaDoor.Vm
/- Soundness: appends. -/
set_option linter.all false
namespace Go.Proofs.YtllpenkgaomdfaaDoor.Vm
open Go
variable [Tabs]

section
variable {P : Program} {E : Env} {t : List AV} {s : List VObj} {dst : Option Tmp} {ty : TypeId} {pos : String} {after : Array Edge} {guard : Option (Nat × Bool)}
variable {K : OpOut → Prop} {R : AV → List VObj → FP → Prop}

/-- elements, in a list of cells that lie one behind the other -/
structure RowC (g : Gh) (w : World) (esz : Nat) (es : List (List AV)) (vs : List Value) : Prop where
  len : vs.length = es.length * esz
  rel : ∀ (i : Nat) (c : List AV) (j : Nat) (x : AV), es[i]? = some c → c[j]? = some x → ∃ u, vs[i * esz + j]? = some u ∧ Rel g w x u

theorem div_lem {i j n : Nat} (h : j < n) : (i * n + j) / n = i ∧ (i * n + j) % n = j := by
  have hn : 0 < n := by omega
  constructor
  · rw [Nat.mul_comm, Nat.mul_add_div hn, Nat.div_eq_of_lt h]; rfl
  · rw [Nat.mul_add_mod_self_right, Nat.mod_eq_of_lt h]

/-- cells in memory, as a list -/
theorem row_of {g : Gh} {w : World} {esz : Nat} {es : List (List AV)} {b o : Nat} {vs : Nat → Nat → Value} (h0 : 0 < esz) (hu : ∀ c ∈ es, c.length = esz)
    (h : ∀ (i : Nat) (c : List AV) (j : Nat) (x : AV), es[i]? = some c → c[j]? = some x → w.cell? ⟨b, o + i * esz + j, none⟩ = some (vs i j) ∧ Rel g w x (vs i j)) :
    ∃ l : List Value, RowC g w esz es l ∧ ∀ j u, l[j]? = some u → w.cell? ⟨b, o + j, none⟩ = some u := by
  have hl : ∀ k, k < es.length * esz → (k / esz) < es.length ∧ k % esz < esz := fun k hk => ⟨(Nat.div_lt_iff_lt_mul h0).2 hk, Nat.mod_lt _ h0⟩
  refine ⟨(List.range (es.length * esz)).map fun k => vs (k / esz) (k % esz), ⟨by simp, fun i c j x hi hj => ?_⟩, fun k u hk => ?_⟩
  · have hi' := (List.getElem?_eq_some_iff.1 hi).1
    have hj' := (List.getElem?_eq_some_iff.1 hj).1
    have hc := hu c (List.mem_of_getElem? hi)
    have hlt : i * esz + j < es.length * esz := by
      have : (i + 1) * esz ≤ es.length * esz := Nat.mul_le_mul_right _ hi'
      rw [Nat.add_mul] at this; omega
    obtain ⟨d1, d2⟩ := div_lem (i := i) (j := j) (n := esz) (by omega)
    refine ⟨vs i j, ?_, (h i c j x hi hj).2⟩
    simp [hlt, d1, d2]
  · have hlt : k < es.length * esz := by have := (List.getElem?_eq_some_iff.1 hk).1; simpa using this
    simp [hlt] at hk
    obtain ⟨k1, k2⟩ := hl k hlt
    have hi := List.getElem?_eq_getElem k1
    have hc := hu _ (List.getElem_mem k1)
    have hj := List.getElem?_eq_getElem (show k % esz < es[k / esz].length by omega)
    have := (h _ _ _ _ hi hj).1
    rw [← hk]
    rw [Nat.add_assoc, Nat.mul_comm, Nat.div_add_mod] at this
    exact this

theorem row_one {g : Gh} {w : World} {esz : Nat} {es : List (List AV)} {vs : List Value} (h : RowC g w esz es vs) (h0 : 0 < esz) (ho : elemsOk esz es) : ∀ u ∈ vs, u.oneCell' = true := by
  intro u hu
  obtain ⟨k, hk⟩ := List.getElem?_of_mem hu
  have hlt : k < es.length * esz := by rw [← h.len]; exact (List.getElem?_eq_some_iff.1 hk).1
  have k1 : k / esz < es.length := (Nat.div_lt_iff_lt_mul h0).2 hlt
  have k2 : k % esz < esz := Nat.mod_lt _ h0
  obtain ⟨hc, hx⟩ := ho _ (List.getElem_mem k1)
  have hj := List.getElem?_eq_getElem (show k % esz < es[k / esz].length by omega)
  obtain ⟨u', q1, q2⟩ := h.rel _ _ _ _ (List.getElem?_eq_getElem k1) hj
  rw [Nat.mul_comm, Nat.div_add_mod, hk] at q1
  cases q1
  exact (cells_one q2 (hx _ (List.getElem_mem _))).2.2

/-- what is appended -/
structure SrcC (P : Program) (g : Gh) (w : World) (esz : Nat) (xs : List (List AV)) (v : Value) : Prop where
  pure : pureL xs
  src : ∃ vs, RowC g w esz xs vs ∧ (elemsOk esz xs → ∀ tx, ((∃ e', P.underlying tx = some (.slice e')) ∨ P.underlying tx = some .string) → Src P esz tx v xs.length vs w)

theorem src_row {g : Gh} {w : World} {esz : Nat} {xs : List (List AV)} {b o cap : Nat} {vs : List Value} (h0 : 0 < esz) (hr : RowC g w esz xs vs) (hc : ∀ j u, vs[j]? = some u → w.cell? ⟨b, o + j, none⟩ = some u) :
    elemsOk esz xs → ∀ tx, ((∃ e', P.underlying tx = some (.slice e')) ∨ P.underlying tx = some .string) → Src P esz tx (.slice (some ⟨b, o, none⟩) xs.length cap) xs.length vs w := fun ho tx htx =>
  ⟨htx, fun _ => rfl, run_firstCells_some w esz _ _ _ _ vs hr.len (fun j u h => by rw [add_none]; exact hc j u h), run_firstCells_some w.drew esz _ _ _ _ vs hr.len (fun j u h => by rw [add_none]; exact hc j u h), hr.len, row_one hr h0 ho⟩

theorem src_nil {g : Gh} {w : World} {esz : Nat} {a : Option Addr} {cap : Nat} : ∃ vs, RowC g w esz [] vs ∧ (elemsOk esz [] → ∀ tx, ((∃ e', P.underlying tx = some (.slice e')) ∨ P.underlying tx = some .string) → Src P esz tx (.slice a 0 cap) 0 vs w) := by
  refine ⟨[], ⟨by simp, fun i c j x h => by simp at h⟩, fun _ tx htx => ?_⟩
  cases a with
  | none => exact ⟨htx, fun _ => rfl, run_firstCells_none w esz 0 0 cap, run_firstCells_none w.drew esz 0 0 cap, by simp, fun _ h => by cases h⟩
  | some a => exact ⟨htx, fun _ => rfl, run_firstCells_some w esz 0 _ _ _ [] (by simp) (by simp), run_firstCells_some w.drew esz 0 _ _ _ [] (by simp) (by simp), by simp, fun _ h => by cases h⟩

/-- the elements of what is appended: under 'p', where the store says what 's' says at 'rd' -/
theorem elems_ok (hF : ¬ K .fail) {esz : Nat} (h0 : 0 < esz) {y : AV} {L : Prop → List (List AV) → List Nat → Prop} (h : elems K s esz y L) :
    ∃ p xs rd, L p xs rd ∧ (p → elemsOk esz xs → ∀ (B : Nat → Prop) (g : Gh) (w : World) (σ : Nat → VObj) (v : Value), RelS B g w σ → (∀ id ∈ rd, σ id = getO s id) → Rel g w y v → SrcC P g w esz xs v) := by
  cases y with
  | sl nn full es =>
    refine ⟨_, _, _, h, fun _ ho B g w σ v hs _ hr => ?_⟩
    rcases inv_sl hr with ⟨rfl, ad, _, _, rfl⟩ | ⟨b, o, cap, vs, k0, k1, k2, k3, k4, k5, rfl⟩
    · exact ⟨fun c h => by simp at h, src_nil⟩
    · have hu : ∀ c ∈ es, c.length = esz := fun c hc => (ho c hc).1
      obtain ⟨l, r1, r2⟩ := row_of (w := w) (g := g) (b := b) (o := o) (vs := vs) h0 hu (fun i c j x hi hj => by
        have := k4 i c j x hi hj
        rwa [hu c (List.mem_of_getElem? hi)] at this)
      exact ⟨k3, l, r1, src_row h0 r1 r2⟩
  | sall id ver =>
    simp only [elems, getOK_eq] at h
    cases hob : getO s id with
    | arr ver' esz' nn es fz =>
      simp only [hob] at h
      refine ⟨_, _, _, h, fun hv ho B g w σ v hs hag hr => ?_⟩
      subst hv
      have hobj := hs.obj id
      rw [hag id (by simp), hob] at hobj
      obtain ⟨_, h2, h3, h4, hcase⟩ := hobj
      obtain ⟨ver0, hd, a, len, cap, r1, r2, r3, rfl⟩ := inv_sall hr
      rcases hcase with ⟨a', k1, rfl, k3, k4⟩ | ⟨b, o, cap', vs, k1, k0, k2, k3, k4, k5, k6, k7, k8, k9⟩
      · rw [k1] at r1; cases r1
        have r3 := r3 rfl; cases r3
        exact ⟨h2, src_nil⟩
      · rw [k1] at r1; cases r1
        have r3 := r3 rfl; cases r3
        have hu : ∀ c ∈ es, c.length = esz := fun c hc => (ho c hc).1
        have he : es = [] ∨ esz' = esz := by
          cases es with
          | nil => exact .inl rfl
          | cons c es => right; rw [← h3 c (by simp), hu c (by simp)]
        rcases he with rfl | rfl
        · exact ⟨h2, src_nil⟩
        · obtain ⟨l, r1, r2⟩ := row_of (w := w) (g := g) (b := b) (o := o) (vs := vs) h0 hu k7
          exact ⟨h2, l, r1, src_row h0 r1 r2⟩
    | _ => simp only [hob] at h; exact (hF h).elim
  | sref id ver esz' off len =>
    simp only [elems, getOK_eq] at h
    cases hob : getO s id with
    | arr ver' esz2 nn es fz =>
      simp only [hob] at h
      cases hbe : Nat.beq esz' esz with
      | false => simp only [hbe] at h; exact (hF h).elim
      | true =>
        simp only [hbe] at h
        have hbe := Nat.eq_of_beq_eq_true hbe
        subst hbe
        refine ⟨_, _, _, h, fun hp ho B g w σ v hs hag hr => ?_⟩
        obtain ⟨hv, hol⟩ := hp
        subst hv
        have hobj := hs.obj id
        rw [hag id (by simp), hob] at hobj
        obtain ⟨_, h2, h3, h4, hcase⟩ := hobj
        obtain ⟨ver0, hd, a, cap, r1, r2, r3, rfl⟩ := inv_sref hr
        have hpw : pureL ((es.drop off).take len) := fun c hc => h2 c (List.mem_of_mem_drop (List.mem_of_mem_take hc))
        have hlw : ((es.drop off).take len).length = len := by simp; omega
        have hgw : ∀ i c, ((es.drop off).take len)[i]? = some c → i < len ∧ es[off + i]? = some c := fun i c h => by
          rw [drop_take_get'] at h
          split at h
          · exact ⟨by assumption, h⟩
          · exact nomatch h
        cases len with
        | zero => simp only [List.take_zero]; exact ⟨fun c h => by simp at h, src_nil⟩
        | succ len =>
          rcases hcase with ⟨a', k1, rfl, k3, k4⟩ | ⟨b, o, cap', vs, k1, k0, k2, k3, k4, k5, k6, k7, k8, k9⟩
          · simp at hol
          · rw [k1] at r1; cases r1
            rcases r3 rfl with ⟨q1, q2, q3, q4⟩ | ⟨b', o0, len0, cap0, o', q1, q2, q3, q4, q5⟩
            · injection q1 with _ _ hcc; exact (k0 hcc).elim
            · cases q1; subst q2
              have hu : ∀ c ∈ (es.drop off).take (len + 1), c.length = esz' := fun c hc => (ho c hc).1
              have he : esz2 = esz' := by
                obtain ⟨c, hc⟩ : ∃ c, es[off]? = some c := ⟨_, List.getElem?_eq_getElem (by omega)⟩
                have h' : ((es.drop off).take (len + 1))[0]? = some c := by rw [drop_take_get']; simpa using hc
                rw [← h3 c (List.mem_of_getElem? hc), hu c (List.mem_of_getElem? h')]
              subst he
              obtain ⟨l, r1, r2⟩ := row_of (w := w) (g := g) (b := b) (o := o') (vs := fun i j => vs (off + i) j) h0 hu (fun i c j x hi hj => by
                obtain ⟨hil, hie⟩ := hgw i c hi
                have := k7 _ c j x hie hj
                rw [q3 (by omega)]
                rw [Nat.add_mul] at this
                rw [show o + off * esz2 + i * esz2 + j = o + (off * esz2 + i * esz2) + j by omega]
                exact this)
              refine ⟨hpw, l, r1, ?_⟩
              have := src_row (P := P) (cap := cap) h0 r1 r2
              rw [hlw] at this ⊢
              exact this
    | _ => simp only [hob] at h; exact (hF h).elim
  | str bs =>
    simp only [elems] at h
    cases hbe : Nat.beq esz 1 with
    | false => simp only [hbe] at h; exact (hF h).elim
    | true =>
      simp only [hbe] at h
      have hbe := Nat.eq_of_beq_eq_true hbe
      subst hbe
      refine ⟨_, _, _, h, fun _ ho B g w σ v hs _ hr => ?_⟩
      have hv := rel_str hr; subst hv
      refine ⟨fun c hc x hx => ?_, byteCells ⟨bs.toArray⟩, ⟨by simp [byteCells], fun i c j x hi hj => ?_⟩, fun _ tx htx => ?_⟩
      · obtain ⟨q, _, rfl⟩ := List.mem_map.1 hc
        simp at hx; subst hx; rfl
      · rw [List.getElem?_map] at hi
        cases hq : bs[i]? with
        | none => rw [hq] at hi; exact nomatch hi
        | some q =>
          rw [hq] at hi; cases hi
          cases j with
          | succ j => simp at hj
          | zero =>
            cases hj
            exact ⟨.int .u8 q.toNat, by simp [byteCells, hq], .int _ _⟩
      · have := fun w' => firstCells_string (P := P) ⟨bs.toArray⟩ w'
        rw [size_mk] at this
        refine ⟨htx, fun _ => by simp [Builtin.lenOf, size_mk], by simpa using this w, by simpa using this w.drew, by simp [byteCells], fun u hu => by
          obtain ⟨_, _, rfl⟩ := List.mem_map.1 hu
          rfl⟩
  | _ => exact (hF h).elim

theorem setCells_wset (w : World) (b : Nat) : ∀ (vs : List Value) (w : World) (o : Nat), w.setCells b o vs = wset w b o vs := by
  intro vs; induction vs with
  | nil => intro w o; rfl
  | cons v vs ih => intro w o; simp only [World.setCells, wset, ih]

/-- of an append: what the program says of its types -/
structure AppT (P : Program) (esz bytes : Nat) (t0 t1 e : TypeId) (i : TypeInfo) (z : Value) : Prop where
  ht : P.underlying t0 = some (.slice e)
  hi : P.info? e = some i
  hz : i.zero = some z
  hsz : i.size = esz
  hby : i.bytes = bytes
  hzs : z.cells.size = esz
  htx : (∃ e', P.underlying t1 = some (.slice e')) ∨ P.underlying t1 = some .string
  h0 : 0 < esz
  hb0 : 0 < bytes

section
variable {B : Nat → Prop} {g : Gh} {w : World} {σ : Nat → VObj} {esz bytes : Nat} {t0 t1 e : TypeId} {i : TypeInfo} {z : Value} {id ver : Nat} {es xs : List (List AV)} {xv : Value}

theorem grow_new (A : AppT P esz bytes t0 t1 e i z) (hs : RelS B g w σ) (hB : ∀ b, w.heap.size ≤ b → B b) (fz : Bool) (hloc : g.loc id = none) (hver : ∀ v h, g.hdr id = some (v, h) → v < ver)
    (hpe : pureL es) (hue : ∀ c ∈ es, c.length = esz) (hx : SrcC P g w esz xs xv) (hxo : elemsOk esz xs) {base : Option Addr} {len cap : Nat} (hlen : len = es.length) {olds : List Value} (hro : RowC g w esz es olds)
    (hold : (Builtin.firstCells esz len (.slice base len cap)).run P w.drew = .ok olds.toArray w.drew) (hg : cap < len + xs.length) (hb : (len + xs.length) * bytes ≤ big) :
    ∃ g' w' val, (Builtin.append_ #[t0, t1] ty #[.slice base len cap, xv]).run P w = .ok val w' ∧ Ext B g w g' w' ∧ RelS B g' w' (updF σ id (.arr ver esz none (es ++ xs) fz)) ∧ Rel g' w' (.sall id ver) val := by
  obtain ⟨hpx, vs, hrx, hsrc⟩ := hx
  have hS := hsrc hxo t1 A.htx
  subst hlen
  have hb' : (es.length + xs.length) * bytes ≤ 70368744177664 := hb
  have hn : es.length + xs.length ≤ 70368744177664 := Nat.le_trans (Nat.le_mul_of_pos_right _ A.hb0) hb'
  have hfit := growslice_fits (bytes := bytes) hg (by omega)
  have hrun := run_append_grow_src (P := P) w t0 t1 ty e i z A.ht A.hi A.hz base es.length cap olds (by rw [A.hsz]; exact hold) xv xs.length vs (by rw [A.hsz]; exact hS) hg (by omega) (by rw [A.hby]; exact hfit)
  have hge := grownCap_ge w (es.length + xs.length) cap e
  generalize grownCap w (es.length + xs.length) cap e = nc at hrun hge
  have hs' : RelS B g w.drew σ := hs.heap rfl ⟨rfl, rfl, rfl⟩
  have hE : Ext B g w g w.drew := Ext.ofHeap rfl ⟨rfl, rfl, rfl⟩
  have hsz : ((olds ++ vs).toArray ++ Builtin.zeroCells z.cells (nc - (es.length + xs.length))).size = nc * esz := by
    rw [Array.size_append, size_zeroCells, A.hzs]
    simp only [List.size_toArray, List.length_append, hro.len, hrx.len]
    rw [← Nat.add_mul, ← Nat.add_mul]; congr 1; omega
  obtain ⟨g', e1, r1, v1⟩ := set_arr (w := w.drew) (id := id) (ver := ver) (es := es ++ xs) (esz := esz) (cap := nc) (nn := none) hs' hB hloc hver (fun c hc => by
      rcases List.mem_append.1 hc with h | h
      · exact hpe c h
      · exact hpx c h) (fun c hc => by
      rcases List.mem_append.1 hc with h | h
      · exact hue c h
      · exact (hxo c h).1) A.h0 nofun (by simpa using hge) (Nat.le_of_eq hsz.symm) (fun k c j x hk hj => by
      rw [List.getElem?_append] at hk
      have key : ∃ u, (olds ++ vs)[k * esz + j]? = some u ∧ Rel g w x u := by
        rw [List.getElem?_append, hro.len]
        split at hk
        · rename_i hlt
          obtain ⟨u, q1, q2⟩ := hro.rel k c j x hk hj
          have := (List.getElem?_eq_some_iff.1 q1).1
          rw [hro.len] at this
          rw [if_pos this]; exact ⟨u, q1, q2⟩
        · rename_i hlt
          obtain ⟨u, q1, q2⟩ := hrx.rel _ c j x hk hj
          have hm : (k - es.length) * esz + es.length * esz = k * esz := by rw [← Nat.add_mul]; congr 1; omega
          rw [if_neg (by omega), show k * esz + j - es.length * esz = (k - es.length) * esz + j by omega]; exact ⟨u, q1, q2⟩
      obtain ⟨u, q1, q2⟩ := key
      refine ⟨u, ?_, q2.mono hE⟩
      have hlt := (List.getElem?_eq_some_iff.1 q1).1
      rw [Array.getElem?_append_left (by simpa using hlt)]; simpa using q1) e fz
  rw [List.length_append] at v1
  exact ⟨g', _, _, hrun, hE.trans e1, r1, v1⟩

theorem grow_at (A : AppT P esz bytes t0 t1 e i z) (hs : RelS B g w σ) {nn : Option Bool} {fz : Bool} {b o len cap off n capn : Nat} (ho : σ id = .arr ver esz nn es fz) (hl : g.hdr id = some (ver, .slice (some ⟨b, o, none⟩) len cap)) (hk0 : cap ≠ 0)
    (hwin : off + n ≤ es.length) (hfz : fz = true → off + n = es.length) (hroom : n + xs.length ≤ capn) (hcapn : off + capn ≤ cap) (hc0 : capn ≠ 0) (hx : SrcC P g w esz xs xv) (hxo : elemsOk esz xs) :
    ∃ g' w' val, (Builtin.append_ #[t0, t1] ty #[.slice (some ⟨b, o + off * esz, none⟩) n capn, xv]).run P w = .ok val w' ∧ Ext B g w g' w' ∧ RelS B g' w' (updF σ id (.arr (ver + 1) esz none ((es.drop off).take n ++ xs) fz)) ∧ Rel g' w' (.sall id (ver + 1)) val := by
  obtain ⟨hpx, vs, hrx, hsrc⟩ := hx
  have hS := hsrc hxo t1 A.htx
  obtain ⟨p1, p2, g', e1, r1, v1⟩ := grow_place hs ho hl hk0 hwin hfz hroom hcapn hc0 hrx.len hpx (fun c hc => (hxo c hc).1) hrx.rel
  have hpos : o + off * esz + n * esz = o + (off + n) * esz := by rw [Nat.add_mul]; omega
  have hrun := run_append_room_src (P := P) w t0 t1 ty e i A.ht A.hi b (o + off * esz) n capn xv xs.length vs (by rw [A.hsz]; exact hS) hroom (fun j hj => by rw [A.hsz, hpos]; exact p1 j hj) (fun j hj => p2 _)
  rw [A.hsz, hpos, setCells_wset w] at hrun
  exact ⟨g', _, _, hrun, e1, r1, v1⟩

theorem grow_none (A : AppT P esz bytes t0 t1 e i z) (hs : RelS B g w σ) (fz : Bool) (hloc : g.loc id = none) (hver : ∀ v h, g.hdr id = some (v, h) → v < ver) {nn : Option Bool} {a : Option Addr} (hn : a = none → nn ≠ some false) (hn' : ∀ x, a = some x → nn ≠ some true)
    (hx : SrcC P g w esz [] xv) :
    ∃ g' w' val, (Builtin.append_ #[t0, t1] ty #[.slice a 0 0, xv]).run P w = .ok val w' ∧ Ext B g w g' w' ∧ RelS B g' w' (updF σ id (.arr ver esz nn [] fz)) ∧ Rel g' w' (.sall id ver) val := by
  obtain ⟨hpx, vs, hrx, hsrc⟩ := hx
  have hS := hsrc (fun c h => by simp at h) t1 A.htx
  have hv : vs = [] := List.eq_nil_of_length_eq_zero (by rw [hrx.len]; simp)
  subst hv
  obtain ⟨g', e1, r1, v1⟩ := set_arr_nil hs hloc hver A.h0 hn hn' fz
  exact ⟨g', w, _, run_append_nothing w t0 t1 ty e i A.ht A.hi a 0 0 (Nat.le_refl _) xv (by rw [A.hsz]; exact hS), e1, r1, v1⟩

theorem firstCells_nil {a : Option Addr} {len cap : Nat} (hl : len = 0) : (Builtin.firstCells esz len (.slice a len cap)).run P w.drew = .ok ([] : List Value).toArray w.drew := by
  subst hl
  cases a with
  | none => exact run_firstCells_none w.drew esz 0 0 cap
  | some a => exact run_firstCells_some w.drew esz 0 _ _ _ [] (by simp) (by simp)

theorem firstCells_row {b o cap len : Nat} {l : List Value} (hl : l.length = len * esz) (h : ∀ j u, l[j]? = some u → w.cell? ⟨b, o + j, none⟩ = some u) : (Builtin.firstCells esz len (.slice (some ⟨b, o, none⟩) len cap)).run P w.drew = .ok l.toArray w.drew :=
  run_firstCells_some w.drew esz len _ _ _ l hl (fun j u hj => by rw [add_none]; exact h j u hj)

theorem rowC_nil : RowC g w esz [] [] := ⟨by simp, fun i c j x h => by simp at h⟩

/-- an append onto what is no object of the store -/
theorem app_sl (A : AppT P esz bytes t0 t1 e i z) (hs : RelS B g w σ) (hB : ∀ b, w.heap.size ≤ b → B b) (hg : σ id = .gone) {nn : Option Bool} {full : Bool} {v : Value} (hr : Rel g w (.sl nn full es) v) (hf : full = true ∨ nn = some true)
    (hue : ∀ c ∈ es, c.length = esz) (hx : SrcC P g w esz xs xv) (hxo : elemsOk esz xs) (hne : xs.length ≠ 0 ∨ es.length = 0) (hb : (es.length + xs.length) * bytes ≤ big) :
    ∃ g' w' val, (Builtin.append_ #[t0, t1] ty #[v, xv]).run P w = .ok val w' ∧ Ext B g w g' w' ∧ RelS B g' w' (updF σ id (.arr 0 esz none (es ++ xs) false)) ∧ Rel g' w' (.sall id 0) val := by
  have hobj := hs.obj id
  rw [hg] at hobj
  have hver : ∀ v h, g.hdr id = some (v, h) → v < 0 := fun v h hh => by rw [hobj.2] at hh; exact nomatch hh
  rcases inv_sl hr with ⟨rfl, ad, hn, hn2, rfl⟩ | ⟨b, o, cap, vs, k0, k1, k2, k3, k4, k5, rfl⟩
  · by_cases hz : xs = []
    · subst hz
      exact grow_none A hs false hobj.1 hver (nn := none) nofun nofun hx
    · have : xs.length ≠ 0 := fun h => hz (List.eq_nil_of_length_eq_zero h)
      exact grow_new A hs hB false hobj.1 hver (fun c h => by simp at h) (fun c h => by simp at h) hx hxo rfl rowC_nil (firstCells_nil rfl) (by simp; omega) hb
  · have hf' : full = true := hf.resolve_right k0
    have hcap := k2 hf'
    subst hcap
    by_cases hz : xs = []
    · subst hz
      have he : es = [] := List.eq_nil_of_length_eq_zero (hne.resolve_left (by simp))
      subst he
      exact grow_none A hs false hobj.1 hver (nn := none) nofun (fun x hx => nofun) hx
    · have : xs.length ≠ 0 := fun h => hz (List.eq_nil_of_length_eq_zero h)
      obtain ⟨l, r1, r2⟩ := row_of (w := w) (g := g) (b := b) (o := o) (vs := vs) A.h0 hue (fun i c j x hi hj => by
        have := k4 i c j x hi hj
        rwa [hue c (List.mem_of_getElem? hi)] at this)
      exact grow_new A hs hB false hobj.1 hver k3 hue hx hxo rfl r1 (firstCells_row r1.len r2) (by omega) hb

/-- an append onto an array object, or onto a window of it -/
theorem app_arr (A : AppT P esz bytes t0 t1 e i z) (hs : RelS B g w σ) (hB : ∀ b, w.heap.size ≤ b → B b) {nn : Option Bool} {fz : Bool} (ho : σ id = .arr ver esz nn es fz) {off n : Nat} {v : Value} (hwin : off + n ≤ es.length) (hfz : fz = true → off = 0 ∧ n = es.length)
    (hr : (Rel g w (.sall id ver) v ∧ off = 0 ∧ n = es.length) ∨ Rel g w (.sref id ver esz off n) v) (hx : SrcC P g w esz xs xv) (hxo : elemsOk esz xs) (hb : (n + xs.length) * bytes ≤ big) :
    ∃ g' w' val, (Builtin.append_ #[t0, t1] ty #[v, xv]).run P w = .ok val w' ∧ Ext B g w g' w' ∧ RelS B g' w' (updF σ id (.arr (ver + 1) esz none ((es.drop off).take n ++ xs) fz)) ∧ Rel g' w' (.sall id (ver + 1)) val := by
  have hobj := hs.obj id
  rw [ho] at hobj
  obtain ⟨h1, h2, h3, h4, hcase⟩ := hobj
  have hlw : ((es.drop off).take n).length = n := by simp; omega
  have hpw : pureL ((es.drop off).take n) := fun c hc => h2 c (List.mem_of_mem_drop (List.mem_of_mem_take hc))
  have huw : ∀ c ∈ (es.drop off).take n, c.length = esz := fun c hc => h3 c (List.mem_of_mem_drop (List.mem_of_mem_take hc))
  have hgw : ∀ i c, ((es.drop off).take n)[i]? = some c → i < n ∧ es[off + i]? = some c := fun i c h => by
    rw [drop_take_get'] at h
    split at h
    · exact ⟨by assumption, h⟩
    · exact nomatch h
  -- the value: empty, or a window
  have hval : (∃ a, v = .slice a 0 0 ∧ n = 0) ∨ ∃ (b o len cap capn : Nat) (vs : Nat → Nat → Value), g.hdr id = some (ver, .slice (some ⟨b, o, none⟩) len cap) ∧ cap ≠ 0 ∧ v = .slice (some ⟨b, o + off * esz, none⟩) n capn ∧ capn ≠ 0 ∧ off + capn ≤ cap ∧ n ≤ capn ∧
      (∀ (i : Nat) (c : List AV) (j : Nat) (x : AV), es[i]? = some c → c[j]? = some x → w.cell? ⟨b, o + i * esz + j, none⟩ = some (vs i j) ∧ Rel g w x (vs i j)) := by
    rcases hr with ⟨hr, rfl, rfl⟩ | hr
    · obtain ⟨ver0, hd, a, len, cap, r1, r2, r3, rfl⟩ := inv_sall hr
      rcases hcase with ⟨a', k1, rfl, k3, k4⟩ | ⟨b, o, cap', vs, k1, k0, k2, k3, k4, k5, k6, k7, k8, k9⟩
      · rw [k1] at r1; cases r1
        have r3 := r3 rfl; cases r3
        exact .inl ⟨a, rfl, rfl⟩
      · have k1' := k1
        rw [k1] at r1; cases r1
        have r3 := r3 rfl; cases r3
        exact .inr ⟨b, o, _, _, _, vs, k1', k0, by simp, k0, by omega, k3, k7⟩
    · obtain ⟨ver0, hd, a, cap, r1, r2, r3, rfl⟩ := inv_sref hr
      rcases hcase with ⟨a', k1, rfl, k3, k4⟩ | ⟨b, o, cap', vs, k1, k0, k2, k3, k4, k5, k6, k7, k8, k9⟩
      · rw [k1] at r1; cases r1
        have hn0 : n = 0 := by simp at hwin; omega
        subst hn0
        rcases r3 rfl with ⟨q1, q2, q3, q4⟩ | ⟨b, o, len0, cap0, o', q1, q2, q3, q4, q5⟩
        · subst q4; exact .inl ⟨_, rfl, rfl⟩
        · cases q1
          have hc0 : cap = 0 := by omega
          subst hc0; subst q2
          exact .inl ⟨_, rfl, rfl⟩
      · have k1' := k1
        rw [k1] at r1; cases r1
        rcases r3 rfl with ⟨q1, q2, q3, q4⟩ | ⟨b', o0, len0, cap0, o', q1, q2, q3, q4, q5⟩
        · injection q1 with _ _ hcc; exact (k0 hcc).elim
        · cases q1; subst q2
          by_cases hc0 : cap = 0
          · subst hc0
            have hn0 : n = 0 := by omega
            subst hn0
            exact .inl ⟨_, rfl, rfl⟩
          · rw [q3 hc0]
            exact .inr ⟨b, o, _, cap', cap, vs, k1', k0, rfl, hc0, q4, q5, k7⟩
  have hver : ∀ v h, g.hdr id = some (v, h) → v < ver + 1 := fun v h hh => by
    rcases hcase with ⟨a', k1, _⟩ | ⟨b, o, cap', vs, k1, _⟩ <;> (rw [k1] at hh; cases hh; omega)
  rcases hval with ⟨a, rfl, rfl⟩ | ⟨b, o, len, cap, capn, vs, q1, q2, rfl, q4, q5, q6, q7⟩
  · by_cases hz : xs = []
    · subst hz
      have := grow_none (id := id) (ver := ver + 1) (ty := ty) A hs fz h1 hver (nn := none) (a := a) nofun (fun x hx => nofun) hx
      simpa using this
    · have : xs.length ≠ 0 := fun h => hz (List.eq_nil_of_length_eq_zero h)
      have := grow_new (id := id) (ver := ver + 1) (ty := ty) (es := []) A hs hB fz h1 hver (fun c h => by simp at h) (fun c h => by simp at h) hx hxo rfl rowC_nil (firstCells_nil (a := a) (cap := 0) rfl) (by simp; omega) hb
      simpa using this
  · by_cases hroom : n + xs.length ≤ capn
    · exact grow_at A hs ho q1 q2 hwin (fun h => by have := hfz h; omega) hroom q5 q4 hx hxo
    · obtain ⟨l, r1, r2⟩ := row_of (w := w) (g := g) (es := (es.drop off).take n) (b := b) (o := o + off * esz) (vs := fun i j => vs (off + i) j) A.h0 huw (fun i c j x hi hj => by
        obtain ⟨hil, hie⟩ := hgw i c hi
        have := q7 _ c j x hie hj
        rw [Nat.add_mul] at this
        rw [show o + off * esz + i * esz + j = o + (off * esz + i * esz) + j by omega]
        exact this)
      exact grow_new (id := id) (ver := ver + 1) A hs hB fz h1 hver hpw huw hx hxo hlw.symm r1 (firstCells_row (by rw [r1.len, hlw]) r2) (by omega) hb
end

theorem seq_kind (hE : E.Fits P) {t1 : TypeId} (h : (E.ti t1).kind.isSeq = true) : (∃ e', P.underlying t1 = some (.slice e')) ∨ P.underlying t1 = some .string := by
  cases hk : (E.ti t1).kind with
  | sl e' =>
    obtain ⟨d, h1, h2⟩ := und_of hE hk (by simp)
    exact .inl ⟨e', by rw [h1, tk_slice h2.symm]⟩
  | str =>
    obtain ⟨d, h1, h2⟩ := und_of hE hk (by simp)
    exact .inr (by rw [h1, tk_str h2.symm])
  | _ => rw [hk] at h; exact nomatch h

theorem fzd_rd {rd : List Nat} {n : Nat} {σ : Nat → VObj} (h : ∀ id, id ∈ rd ∨ id ∈ [n] → σ id = getO s id) : (∀ id ∈ rd, σ id = getO s id) ∧ σ n = getO s n := ⟨fun id hid => h id (.inl hid), h n (.inr (by simp))⟩

theorem s_append (hE : E.Fits P) (hK : ∀ out, K out → OpHolds P out R) {args : Array Operand} {x y : AV} {t0 t1 e n by_ esz bytes : Nat} {k : TK} {z zero : List AV} (ha : args.toList.map (evV t) = [x, y])
    (e1 : E.ti t0 = ⟨.sl e, n, by_, z⟩) (hk : (E.ti t1).kind.isSeq = true) (e2 : E.ti e = ⟨k, esz, bytes, zero⟩) (h0 : 0 < esz) (hb0 : 0 < bytes) (h : vappend K s esz bytes x y) :
    ∃ v s2 fp, OpSem P ⟨dst, .call { callee := .builtin .append, args := args, argTypes := #[t0, t1] }, ty, pos, after, guard⟩ t s v s2 fp ∧ R v s2 fp := by
  have hF : ¬ K .fail := fun h => hK _ h
  obtain ⟨i, d, zv, h1, h2, h3, h4, h5, h6, h7, h8, h9⟩ := ti_at hE e1 (.inl (by simp))
  have hd := tk_slice h6.symm; subst hd
  obtain ⟨i2, d2, zv2, q1, q2, q3, q4, q5, q6, q7, q8, q9⟩ := ti_at hE e2 (.inr (.inl h0))
  have A : AppT P esz bytes t0 t1 e i2 zv2 := ⟨h2, q1, q3, q7, q8, q5, seq_kind hE hk, h0, hb0⟩
  obtain ⟨ox, oy, rfl, hox, hoy⟩ := args_two ha
  have hxy : ∀ (a : Act) (g : Gh) (w : World), (∀ x ∈ (Op.call { callee := .builtin .append, args := #[ox, oy], argTypes := #[t0, t1] }).operands, Rel g w (evV t x) (a.eval x)) → Rel g w x (a.eval ox) ∧ Rel g w y (a.eval oy) := fun a g w hh =>
    ⟨hox ▸ hh ox (by simp [Op.operands, Call.operands]), hoy ▸ hh oy (by simp [Op.operands, Call.operands])⟩
  have hrun : ∀ (a : Act) (w w' : World) (v : Value), (Builtin.append_ #[t0, t1] ty #[a.eval ox, a.eval oy]).run P w = .ok v w' →
      (execOp a.eval ⟨dst, .call { callee := .builtin .append, args := #[ox, oy], argTypes := #[t0, t1] }, ty, pos, after, guard⟩).run P w = .ok (.value v) w' := fun a w w' v hr => by
    refine run_builtin ?_
    simp only [builtin, Sem.run_bind, List.map_toArray, List.map_cons, List.map_nil, hr, Result.andThen_ok, Sem.run_pure]
  obtain ⟨p, xs, rd, hL, hsem⟩ := elems_ok (P := P) hF h0 h
  have hsl : ∀ {nn : Option Bool} {full : Bool} {es : List (List AV)}, x = .sl nn full es → (full = true ∨ nn = some true) → p → elemsOk esz xs → (∀ c ∈ es, c.length = esz) → (xs.length ≠ 0 ∨ es.length = 0) → (es.length + xs.length) * bytes ≤ big →
      OpSem P ⟨dst, .call { callee := .builtin .append, args := #[ox, oy], argTypes := #[t0, t1] }, ty, pos, after, guard⟩ t s (.sall s.length 0) (setO s s.length (.arr 0 esz none (es ++ xs) false)) ⟨rd, [s.length]⟩ := by
    intro nn full es hx hf hp hxo hue hne hb
    refine .val (fun id hid => getO_setO_out hid) fun B g w a σ hB hh hσ hs => ?_
    rw [over_one]
    obtain ⟨r1, r2⟩ := hxy a g w hh
    rw [hx] at r1
    obtain ⟨f1, f2⟩ := fzd_rd hσ
    obtain ⟨g', w', val, k1, k2, k3, k4⟩ := app_sl (ty := ty) A hs hB (id := s.length) (f2.trans (getO_len s)) r1 hf hue (hsem hp hxo B g w σ _ hs f1 r2) hxo hne hb
    exact ⟨g', w', val, hrun a w w' val k1, k2, k3, k4⟩
  cases x with
  | sl nn full es =>
    by_cases hc : nn = some true ∧ es = []
    · obtain ⟨rfl, rfl⟩ := hc
      simp only [lenK_eq, setOK_eq] at hL
      obtain ⟨⟨hp, hxo, hb⟩, hR⟩ := hK _ hL
      have := hsl rfl (.inr rfl) hp hxo (fun c h => by simp at h) (.inr rfl) (by simpa using hb)
      rw [Nat.zero_add] at hR
      exact ⟨_, _, _, this, hR⟩
    · cases full with
      | false =>
        have : K .fail := by
          revert hL hc
          rcases nn with _ | _ | _ <;> cases es <;> intro hc hL <;> first | exact hL | exact (hc ⟨rfl, rfl⟩).elim
        exact (hF this).elim
      | true =>
        have hL' : lenK s 0 fun n => setOK s n (.arr 0 esz none (es ++ xs) false) fun s' => K (.need (p ∧ elemsOk esz xs ∧ elemsOk esz es ∧ (xs.length ≠ 0 ∨ es.length = 0) ∧ (es.length + xs.length) * bytes ≤ big) (.sall n 0) s' ⟨rd, [n]⟩) := by
          revert hL hc
          rcases nn with _ | _ | _ <;> cases es <;> intro hc hL <;> first | exact hL | exact (hc ⟨rfl, rfl⟩).elim
        simp only [lenK_eq, setOK_eq] at hL'
        obtain ⟨⟨hp, hxo, heo, hne, hb⟩, hR⟩ := hK _ hL'
        have := hsl rfl (.inl rfl) hp hxo (fun c h => (heo c h).1) hne hb
        rw [Nat.zero_add] at hR
        exact ⟨_, _, _, this, hR⟩
  | sall id ver =>
    simp only [getOK_eq] at hL
    cases hob : getO s id with
    | arr ver' esz' nn es fz =>
      simp only [hob] at hL
      cases hbe : Nat.beq esz' esz with
      | false => simp only [hbe] at hL; exact (hF hL).elim
      | true =>
        simp only [hbe, setOK_eq] at hL
        have hbe := Nat.eq_of_beq_eq_true hbe
        subst hbe
        obtain ⟨⟨hp, hv, hxo, hb⟩, hR⟩ := hK _ hL
        subst hv
        refine ⟨_, _, _, .val (fun id hid => getO_setO_out hid) fun B g w a σ hB hh hσ hs => ?_, hR⟩
        rw [over_one]
        obtain ⟨r1, r2⟩ := hxy a g w hh
        obtain ⟨f1, f2⟩ := fzd_rd hσ
        obtain ⟨g', w', val, k1, k2, k3, k4⟩ := app_arr (ty := ty) A hs hB (f2.trans hob) (off := 0) (n := es.length) (by omega) (fun _ => ⟨rfl, rfl⟩) (.inl ⟨r1, rfl, rfl⟩) (hsem hp hxo B g w σ _ hs f1 r2) hxo hb
        rw [List.drop_zero, List.take_length] at k3
        exact ⟨g', w', val, hrun a w w' val k1, k2, k3, k4⟩
    | _ => simp only [hob] at hL; exact (hF hL).elim
  | sref id ver esz'' off len =>
    simp only [getOK_eq] at hL
    cases hob : getO s id with
    | arr ver' esz' nn es fz =>
      simp only [hob] at hL
      cases hbe : (Nat.beq esz' esz && Nat.beq esz'' esz && !fz) with
      | false => simp only [hbe] at hL; exact (hF hL).elim
      | true =>
        simp only [hbe, setOK_eq] at hL
        simp only [Bool.and_eq_true, Bool.not_eq_true'] at hbe
        obtain ⟨⟨b1, b2⟩, b3⟩ := hbe
        have b1 := Nat.eq_of_beq_eq_true b1
        have b2 := Nat.eq_of_beq_eq_true b2
        subst b1; subst b2; subst b3
        obtain ⟨⟨hp, hv, hxo, hwin, hb⟩, hR⟩ := hK _ hL
        subst hv
        refine ⟨_, _, _, .val (fun id hid => getO_setO_out hid) fun B g w a σ hB hh hσ hs => ?_, hR⟩
        rw [over_one]
        obtain ⟨r1, r2⟩ := hxy a g w hh
        obtain ⟨f1, f2⟩ := fzd_rd hσ
        obtain ⟨g', w', val, k1, k2, k3, k4⟩ := app_arr (ty := ty) A hs hB (f2.trans hob) (off := off) (n := len) hwin nofun (.inr r1) (hsem hp hxo B g w σ _ hs f1 r2) hxo hb
        exact ⟨g', w', val, hrun a w w' val k1, k2, k3, k4⟩
    | _ => simp only [hob] at hL; exact (hF hL).elim
  | _ => exact (hF hL).elim

theorem s_appendZ (hE : E.Fits P) {args : Array Operand} {t0 t1 e n by_ esz bytes : Nat} {k : TK} {ik ki : IntKind} {full : Bool} {m : Int} {z zero : List AV} (ha : args.toList.map (evV t) = [.sl (some true) full [], .int ki m])
    (e1 : E.ti t0 = ⟨.sl e, n, by_, z⟩) (hk : (E.ti t1).kind = .int ik) (e2 : E.ti e = ⟨k, esz, bytes, zero⟩) (h0 : 0 < esz) (hz : zero.length = esz) (hb0 : 0 < bytes) (hm : 0 ≤ m ∧ m * bytes ≤ big) :
    OpSem P ⟨dst, .call { callee := .builtin .append, args := args, argTypes := #[t0, t1] }, ty, pos, after, guard⟩ t s (.sall s.length 0) (setO s s.length (.arr 0 esz none (List.replicate m.toNat zero) false)) ⟨[], [s.length]⟩ := by
  obtain ⟨i, d, zv, h1, h2, h3, h4, h5, h6, h7, h8, h9⟩ := ti_at hE e1 (.inl (by simp))
  have hd := tk_slice h6.symm; subst hd
  obtain ⟨i2, d2, zv2, q1, q2, q3, q4, q5, q6, q7, q8, q9⟩ := ti_at hE e2 (.inr (.inl h0))
  obtain ⟨d3, hd3, hd4⟩ := und_of hE hk (by simp)
  have hd4 := tk_int hd4.symm; subst hd4
  obtain ⟨m1, m2⟩ := hm
  obtain ⟨L, rfl⟩ := Int.eq_ofNat_of_zero_le m1
  have m3 : L * bytes ≤ 70368744177664 := by have : ((L * bytes : Nat) : Int) ≤ (big : Nat) := by push_cast; exact m2
                                             simpa [big] using Int.ofNat_le.1 this
  have hL : L ≤ 70368744177664 := Nat.le_trans (Nat.le_mul_of_pos_right _ hb0) m3
  obtain ⟨ox, oy, rfl, hox, hoy⟩ := args_two ha
  refine .val (fun id hid => getO_setO_out hid) fun B g w a σ hB hx hσ hs => ?_
  rw [over_one]
  have hg : σ s.length = .gone := (hσ _ (by simp)).trans (getO_len s)
  have hob := hs.obj s.length
  rw [hg] at hob
  have hrx : a.eval ox = .slice none 0 0 := by
    rcases inv_sl (hox ▸ hx ox (by simp [Op.operands, Call.operands])) with ⟨_, ad, n1, n2, hr⟩ | ⟨_, _, _, _, n1, _⟩
    · cases ad with
      | none => exact hr
      | some ad => exact (n2 ad rfl rfl).elim
    · exact (n1 rfl).elim
  have hry := rel_int (hoy ▸ hx oy (by simp [Op.operands, Call.operands]))
  have hrun : ∀ (w' : World) (v : Value), (Builtin.append_ #[t0, t1] ty #[a.eval ox, a.eval oy]).run P w = .ok v w' →
      (execOp a.eval ⟨dst, .call { callee := .builtin .append, args := #[ox, oy], argTypes := #[t0, t1] }, ty, pos, after, guard⟩).run P w = .ok (.value v) w' := fun w' v hr => by
    refine run_builtin ?_
    simp only [builtin, Sem.run_bind, List.map_toArray, List.map_cons, List.map_nil, hr, Result.andThen_ok, Sem.run_pure]
  rw [hrx, hry] at hrun
  by_cases hL0 : L = 0
  · subst hL0
    obtain ⟨g', e1, r1, v1⟩ := set_arr_nil (a := none) (id := s.length) (ver := 0) (esz := esz) (nn := none) hs hob.1 (fun v h hh => by rw [hob.2] at hh; exact nomatch hh) h0 (fun _ => nofun) nofun false
    refine ⟨g', w, _, hrun w (.slice none 0 0) ?_, e1, r1, v1⟩
    have hw : IntKind.i64.wrap 0 = 0 := by rw [IntKind.wrap_i64]; omega
    simp [Builtin.append_, run_underlying h2, run_underlying hd3, sizeOf, typeInfo, q1, asInt, asIntOf, hw]
  · have hrn := Go.Lib.run_append_nil_zeros (P := P) w t0 t1 ty e i2 zv2 ki ik h2 hd3 q1 q3 L (by omega) (by omega) (by omega) (by rw [q8]; omega)
    have hge := grownCap_ge w L 0 e
    generalize grownCap w L 0 e = nc at hrn hge
    have hs' : RelS B g w.drew σ := hs.heap rfl ⟨rfl, rfl, rfl⟩
    have hE : Ext B g w g w.drew := Ext.ofHeap rfl ⟨rfl, rfl, rfl⟩
    have hsz : (Builtin.zeroCells zv2.cells L ++ Builtin.zeroCells zv2.cells (nc - L)).size = nc * esz := by
      rw [Array.size_append, size_zeroCells, size_zeroCells, q5, ← Nat.add_mul]; congr 1; omega
    have hcell : ∀ j, j < L * esz → (Builtin.zeroCells zv2.cells L ++ Builtin.zeroCells zv2.cells (nc - L))[j]? = zv2.cells[j % esz]? := fun j hj => by
      have hm : j % esz < zv2.cells.size := by rw [q5]; exact Nat.mod_lt _ h0
      rw [Array.getElem?_append_left (by rw [size_zeroCells, q5]; exact hj)]
      unfold Builtin.zeroCells
      simp only [Array.getElem?_map, Array.getElem?_range, q5, hj, if_true, Option.map_some]
      rw [getElem!_pos zv2.cells (j % esz) hm, Array.getElem?_eq_getElem hm]
    obtain ⟨g2, e2, r2, v2⟩ := set_arr (c := Builtin.zeroCells zv2.cells L ++ Builtin.zeroCells zv2.cells (nc - L)) (w := w.drew) hs' hB (id := s.length) (ver := 0) (cap := nc) (nn := none) (es := List.replicate L zero) (esz := esz) hob.1 (fun v h e => by rw [hob.2] at e; exact nomatch e)
      (fun c hc x hx => by
        rw [(List.mem_replicate.1 hc).2, q9] at hx
        obtain ⟨v, hv, rfl⟩ := List.mem_map.1 hx
        have := q4 v hv
        cases v <;> first | rfl | (simp [litOk] at this; done) | skip
        · rename_i p; cases p <;> first | rfl | simp [litOk] at this
        · rename_i a l c; cases a <;> cases l <;> cases c <;> first | rfl | simp [litOk] at this
        · rename_i r; cases r <;> first | rfl | simp [litOk] at this)
      (fun c hc => by rw [(List.mem_replicate.1 hc).2]; exact hz) h0 nofun (by simpa using hge) (Nat.le_of_eq hsz.symm) (fun i ci j x hi hj => by
        obtain ⟨hil, rfl⟩ : i < L ∧ ci = zero := by
          rw [List.getElem?_replicate] at hi
          split at hi
          · cases hi; exact ⟨by assumption, rfl⟩
          · exact nomatch hi
        have hjl : j < esz := hz ▸ (List.getElem?_eq_some_iff.1 hj).1
        have : (i + 1) * esz ≤ L * esz := Nat.mul_le_mul_right _ (by omega)
        rw [Nat.add_mul] at this
        rw [hcell _ (by omega), Nat.mul_add_mod_self_right, Nat.mod_eq_of_lt hjl]
        have hjz : j < zv2.cells.size := by omega
        refine ⟨zv2.cells[j], Array.getElem?_eq_getElem hjz, ?_⟩
        rw [q9] at hj
        simp only [List.getElem?_map, Array.getElem?_toList, Array.getElem?_eq_getElem hjz, Option.map_some] at hj
        cases hj
        exact rel_lit _) e false
    rw [List.length_replicate] at v2
    exact ⟨g2, _, _, hrun _ _ hrn, hE.trans e2, r2, v2⟩

end
end Go.Proofs.YtllpenkgaomdfaaDoor.Vm
/- Maps: made, read, written. -/
set_option linter.all false
namespace Go.Proofs.YtllpenkgaomdfaaDoor.Vm
open Go
variable [Tabs]

section
variable {P : Program} {E : Env} {t : List AV} {s : List VObj} {dst : Option Tmp} {ty : TypeId} {pos : String} {after : Array Edge} {guard : Option (Nat × Bool)} {K : OpOut → Prop} {R : AV → List VObj → FP → Prop}

/-- what the table says of a key's type -/
theorem keyKs_plain (hE : E.Fits P) (hQ : E.EqOk P) {kt : TypeId} {agg : Bool} {ks : List LK} (h : keyKs E kt = some (agg, ks)) : plainB P 4 kt = some ks ∧ aggB P kt = agg ∧
    (agg = false → (∃ k, P.underlying kt = some (.int k) ∧ ks = [.int k]) ∨ (P.underlying kt = some .bool ∧ ks = [.bool]) ∨ (P.underlying kt = some .string ∧ ks = [.str])) := by
  unfold keyKs at h
  split at h
  · rename_i k hk
    cases h
    obtain ⟨d, hd, e⟩ := und_of hE hk (by simp)
    have := tk_int e.symm; subst this
    exact ⟨by simp [plainB, hd], by simp [aggB, hd], fun _ => .inl ⟨k, hd, rfl⟩⟩
  · rename_i hk
    cases h
    obtain ⟨d, hd, e⟩ := und_of hE hk (by simp)
    cases d <;> simp [tkOf] at e
    exact ⟨by simp [plainB, hd], by simp [aggB, hd], fun _ => .inr (.inl ⟨hd, rfl⟩)⟩
  · rename_i hk
    cases h
    obtain ⟨d, hd, e⟩ := und_of hE hk (by simp)
    have := tk_str e.symm; subst this
    exact ⟨by simp [plainB, hd], by simp [aggB, hd], fun _ => .inr (.inr ⟨hd, rfl⟩)⟩
  · split at h
    · split at h
      · rename_i ks' hks
        cases h
        obtain ⟨p1, p2, p3⟩ := hQ.1 kt ks hks
        exact ⟨p1, p2, nofun⟩
      · exact nomatch h
    · exact nomatch h

theorem eqLeafs_refl {ks : List LK} {cs : List AV} {b : Bool} (h : eqLeafs ks cs cs = some b) : b = true := by
  induction ks generalizing cs b with
  | nil => cases cs with
    | nil => cases h; rfl
    | cons c cs => exact nomatch h
  | cons k ks ih =>
    cases cs with
    | nil => cases k <;> exact nomatch h
    | cons c cs =>
      unfold eqLeafs at h
      split at h
      · rename_i h' _ _; exact nomatch h'
      · rename_i e0 e1 e2; cases e0; cases e1; cases e2
        split at h
        · split at h
          · rename_i r hr; cases h; simp [ih hr]
          · exact nomatch h
        · exact nomatch h
      · rename_i e0 e1 e2; cases e0; cases e1; cases e2
        split at h
        · rename_i r hr; cases h; simp [ih hr]
        · exact nomatch h
      · rename_i e0 e1 e2; cases e0; cases e1; cases e2
        split at h
        · rename_i r hr; cases h; simp [ih hr]
        · exact nomatch h
      · exact nomatch h

theorem eqVs_eq : ∀ {ks : List LK} {us vs : List Value}, leafsV ks us = true → leafsV ks vs = true → eqVs us vs = true → us = vs
  | [], [], [], _, _, _ => rfl
  | [], [], _ :: _, _, h, _ => nomatch h
  | [], _ :: _, _, h, _, _ => nomatch h
  | _ :: _, [], _, h, _, _ => nomatch h
  | _ :: _, _ :: _, [], _, h, _ => nomatch h
  | k :: ks, u :: us, v :: vs, h1, h2, h3 => by
    simp only [leafsV, eqVs, Bool.and_eq_true] at h1 h2 h3
    have := eqVs_eq h1.2 h2.2 h3.2
    subst this
    congr 1
    obtain ⟨h1, _⟩ := h1
    obtain ⟨h2, _⟩ := h2
    obtain ⟨h3, _⟩ := h3
    cases k <;> cases u <;> simp [leafV] at h1 <;> cases v <;> simp [leafV] at h2 <;> simp [eqV] at h3
    · subst h1; subst h2; subst h3; rfl
    · subst h3; rfl
    · rename_i a b
      obtain ⟨a⟩ := a
      obtain ⟨b⟩ := b
      simp at h3
      subst h3; rfl

theorem sameBits_leafs : ∀ {ks : List LK} {us : List Value}, leafsV ks us = true → ∀ u ∈ us, ∀ n, Instr.sameBits n u u = true
  | [], [], _, u, hu, _ => nomatch hu
  | [], _ :: _, h, _, _, _ => nomatch h
  | _ :: _, [], _, u, hu, _ => nomatch hu
  | k :: ks, v :: vs, h, u, hu, n => by
    simp only [leafsV, Bool.and_eq_true] at h
    rcases List.mem_cons.1 hu with rfl | hu
    · obtain ⟨h, _⟩ := h
      cases k <;> cases u <;> simp [leafV] at h <;> simp [Instr.sameBits, MapKept.bytes_beq]
    · exact sameBits_leafs h.2 u hu n

/-- what a key's value is like -/
structure KeyV (P : Program) (kt : TypeId) (ks : List LK) (v : Value) (us : List Value) : Prop where
  val : v = valOf P kt us
  leafs : leafsV ks us = true

theorem eqKey_rel (hE : E.Fits P) (hQ : E.EqOk P) {kt : TypeId} {agg : Bool} {ks : List LK} (h : keyKs E kt = some (agg, ks)) {g : Gh} {w : World} {x y : AV} {u v : Value} {b : Bool} (hb : eqKey (agg, ks) x y = some b) (hx : Rel g w x u) (hy : Rel g w y v) :
    ∃ us vs, KeyV P kt ks u us ∧ KeyV P kt ks v vs ∧ eqVs us vs = b := by
  obtain ⟨p1, p2, p3⟩ := keyKs_plain hE hQ h
  cases agg with
  | true =>
    simp only [eqKey] at hb
    split at hb
    · obtain ⟨us, u1, u2, rfl⟩ := inv_agg hx
      obtain ⟨vs, v1, v2, rfl⟩ := inv_agg hy
      obtain ⟨l1, l2, l3⟩ := eqLeafs_rel hb (us := us.toList) (vs := vs.toList) (by simpa using u1) (by simpa using v1) (fun i c u a b => u2 i c u a (by simpa using b)) (fun i c u a b => v2 i c u a (by simpa using b))
      exact ⟨us.toList, vs.toList, ⟨by simp [valOf, p2], l1⟩, ⟨by simp [valOf, p2], l2⟩, l3⟩
    · exact nomatch hb
  | false =>
    simp only [eqKey] at hb
    split at hb
    · exact nomatch hb
    · exact nomatch hb
    · obtain ⟨l1, l2, l3⟩ := eqLeafs_rel hb (us := [u]) (vs := [v]) rfl rfl (fun i c q a b => by cases i <;> simp at a b; subst a; subst b; exact hx) (fun i c q a b => by cases i <;> simp at a b; subst a; subst b; exact hy)
      exact ⟨[u], [v], ⟨by simp [valOf, p2], l1⟩, ⟨by simp [valOf, p2], l2⟩, l3⟩

def findI (ks : Bool × List LK) (k : AV) : List (AV × AV) → Option Nat
  | [] => none
  | e :: es => match eqKey ks k e.1 with
    | some true => some 0
    | _ => (findI ks k es).map (· + 1)

theorem findI_K (ks : Bool × List LK) (k : AV) : ∀ es, findK ks k es = (findI ks k es).bind fun i => (es[i]?).map (·.2)
  | [] => rfl
  | e :: es => by
    have ih := findI_K ks k es
    cases he : eqKey ks k e.1 with
    | none => simp only [findK, findI, he, ih]; cases findI ks k es <;> simp
    | some b => cases b <;> simp only [findK, findI, he, ih]
                · cases findI ks k es <;> simp
                · rfl
theorem findI_put (ks : Bool × List LK) (k v : AV) : ∀ es, putM ks k v es = match findI ks k es with | some i => es.set i (k, v) | none => es ++ [(k, v)]
  | [] => rfl
  | e :: es => by
    have ih := findI_put ks k v es
    cases he : eqKey ks k e.1 with
    | none => simp only [putM, findI, he, ih]; cases findI ks k es <;> simp
    | some b => cases b <;> simp only [putM, findI, he, ih]
                · cases findI ks k es <;> simp
                · rfl
theorem findI_del (ks : Bool × List LK) (k : AV) : ∀ es, delM ks k es = match findI ks k es with | some i => es.eraseIdx i | none => es
  | [] => rfl
  | e :: es => by
    have ih := findI_del ks k es
    cases he : eqKey ks k e.1 with
    | none => simp only [delM, findI, he, ih]; cases findI ks k es <;> simp
    | some b => cases b <;> simp only [delM, findI, he, ih]
                · cases findI ks k es <;> simp
                · rfl
theorem findI_spec (ks : Bool × List LK) (k : AV) : ∀ es i, findI ks k es = some i → ∃ e, es[i]? = some e ∧ eqKey ks k e.1 = some true
  | [], i, h => nomatch h
  | e :: es, i, h => by
    simp only [findI] at h
    split at h
    · rename_i he; cases h; exact ⟨e, rfl, he⟩
    · cases hi : findI ks k es with
      | none => rw [hi] at h; exact nomatch h
      | some j => rw [hi] at h; cases h; obtain ⟨e', h1, h2⟩ := findI_spec ks k es j hi; exact ⟨e', by simpa using h1, h2⟩

/-- an entry found -/
theorem find_run (hE : E.Fits P) (hQ : E.EqOk P) {kt : TypeId} {agg : Bool} {ks : List LK} (h : keyKs E kt = some (agg, ks)) {g : Gh} {w : World} {x : AV} {u : Value} (hx : Rel g w x u) :
    ∀ (es : List (AV × AV)) (en : List MapEntry), es.length = en.length → (∀ (i : Nat) (x : AV × AV) (e : MapEntry), es[i]? = some x → en[i]? = some e → Rel g w x.1 e.key) → (∀ e ∈ es, (eqKey (agg, ks) x e.1).isSome = true) →
    (Instr.findKey kt u en).run P w = .ok (match findI (agg, ks) x es with | some i => (en[i]?).map fun e => (i, e.val) | none => none) w := by
  obtain ⟨p1, p2, p3⟩ := keyKs_plain hE hQ h
  obtain ⟨d, hd⟩ := plainB_und p1
  intro es en hl hr hk
  have now : agg = false → ∀ (es : List (AV × AV)) (en : List MapEntry) (j : Nat), es.length = en.length → (∀ (i : Nat) (x : AV × AV) (e : MapEntry), es[i]? = some x → en[i]? = some e → Rel g w x.1 e.key) → (∀ e ∈ es, (eqKey (agg, ks) x e.1).isSome = true) →
      Instr.findNow d u en j = some (match findI (agg, ks) x es with | some i => (en[i]?).map fun e => (i + j, e.val) | none => none) := by
    intro ha es
    induction es with
    | nil => intro en j hl _ _; rw [List.eq_nil_of_length_eq_zero hl.symm]; rfl
    | cons e es ih =>
      intro en j hl hr hk
      cases en with
      | nil => exact nomatch hl
      | cons m en =>
        obtain ⟨b, hb⟩ := Option.isSome_iff_exists.1 (hk e (by simp))
        obtain ⟨us, vs, ku, kv, heq⟩ := eqKey_rel hE hQ h hb hx (hr 0 e m rfl rfl)
        have hs : Instr.sameNow d u m.key = some b := by
          obtain ⟨a, rfl⟩ : ∃ a, us = [a] := List.length_eq_one_iff.1 ((leafsV_len ku.leafs).trans (plainB_leaf p1 (p2.trans ha)))
          obtain ⟨c, rfl⟩ : ∃ a, vs = [a] := List.length_eq_one_iff.1 ((leafsV_len kv.leafs).trans (plainB_leaf p1 (p2.trans ha)))
          have l1 := ku.leafs
          have l2 := kv.leafs
          rw [ku.val, kv.val]
          simp only [valOf, p2, ha, Bool.false_eq_true, if_false, List.headD_cons]
          rcases p3 ha with ⟨k, hd', rfl⟩ | ⟨hd', rfl⟩ | ⟨hd', rfl⟩ <;> (rw [hd] at hd'; cases hd') <;> cases a <;> simp [leafsV, leafV] at l1 <;> cases c <;> simp [leafsV, leafV] at l2
          · subst l1; subst l2; simp [Instr.sameNow]; rw [← heq]; simp [eqVs, eqV]; congr 1
          · simp [Instr.sameNow]; rw [← heq]; simp [eqVs, eqV]
          · simp [Instr.sameNow]; rw [← heq]; simp [eqVs, eqV]
            rename_i a c
            rw [Bool.eq_iff_iff, MapKept.bytes_beq]
            obtain ⟨⟨a⟩⟩ := a
            obtain ⟨⟨c⟩⟩ := c
            simp
        simp only [Instr.findNow, hs, findI, hb]
        cases b with
        | true => simp
        | false =>
          simp only []
          rw [ih en (j + 1) (by simpa using hl) (fun i x e a b => hr (i + 1) x e a b) (fun e he => hk e (by simp [he]))]
          cases findI (agg, ks) x es with
          | none => rfl
          | some i => simp; cases en[i]? <;> simp; omega
  unfold Instr.findKey
  simp only [Sem.run_bind, run_underlying' hd, Result.andThen_ok]
  cases ha : agg with
  | false =>
    have := now ha es en 0 hl hr hk
    rw [this, ← ha]
    simp
  | true =>
    subst ha
    cases es with
    | nil => rw [List.eq_nil_of_length_eq_zero hl.symm]; rfl
    | cons e0 es0 =>
      cases en with
      | nil => exact nomatch hl
      | cons m0 en0 =>
        obtain ⟨b0, hb0⟩ := Option.isSome_iff_exists.1 (hk e0 (by simp))
        obtain ⟨us0, vs0, ku0, kv0, _⟩ := eqKey_rel hE hQ h hb0 hx (hr 0 e0 m0 rfl rfl)
        have hnone : Instr.findNow d u (m0 :: en0) 0 = none := by
          have : Instr.sameNow d u m0.key = none := by
            rw [ku0.val]
            simp only [valOf, p2, if_true]
            cases d <;> rfl
          simp only [Instr.findNow, this]
        rw [hnone]
        simp only []
        have ask : ∀ (es : List (AV × AV)) (en : List MapEntry) (j : Nat), es.length = en.length → (∀ (i : Nat) (x : AV × AV) (e : MapEntry), es[i]? = some x → en[i]? = some e → Rel g w x.1 e.key) → (∀ e ∈ es, (eqKey (true, ks) x e.1).isSome = true) →
            (Instr.findAsking kt u en j).run P w = .ok (match findI (true, ks) x es with | some i => (en[i]?).map fun e => (i + j, e.val) | none => none) w := by
          intro es
          induction es with
          | nil => intro en j hl _ _; rw [List.eq_nil_of_length_eq_zero hl.symm]; rfl
          | cons e es ih =>
            intro en j hl hr hk
            cases en with
            | nil => exact nomatch hl
            | cons m en =>
              obtain ⟨b, hb⟩ := Option.isSome_iff_exists.1 (hk e (by simp))
              obtain ⟨us, vs, ku, kv, heq⟩ := eqKey_rel hE hQ h hb hx (hr 0 e m rfl rfl)
              have q := equalIn_plain 4 10000 (by decide) kt ks p1 us vs w ku.leafs kv.leafs
              rw [← ku.val, ← kv.val, heq] at q
              have q : (Op.equal kt u m.key).run P w = .ok b w := q
              simp only [Instr.findAsking, Sem.run_bind, q, Result.andThen_ok, findI, hb]
              cases b with
              | true => simp
              | false =>
                simp only [Bool.false_eq_true, if_false]
                rw [ih en (j + 1) (by simpa using hl) (fun i x e a b => hr (i + 1) x e a b) (fun e he => hk e (by simp [he]))]
                cases findI (true, ks) x es with
                | none => rfl
                | some i => simp; cases en[i]? <;> simp; omega
        rw [ask (e0 :: es0) (m0 :: en0) 0 hl hr hk]
        simp

theorem check_run (hE : E.Fits P) (hQ : E.EqOk P) {kt : TypeId} {agg : Bool} {ks : List LK} (h : keyKs E kt = some (agg, ks)) {g : Gh} {w : World} {x : AV} {u : Value} (hx : Rel g w x u) (hk : (eqKey (agg, ks) x x).isSome = true) (em : Bool) :
    (Instr.checkKey em 10000 kt u).run P w = .ok () w := by
  obtain ⟨p1, p2, p3⟩ := keyKs_plain hE hQ h
  obtain ⟨b, hb⟩ := Option.isSome_iff_exists.1 hk
  obtain ⟨us, vs, ku, kv, heq⟩ := eqKey_rel hE hQ h hb hx hx
  rw [ku.val]
  exact checkKey_plain em 4 10000 (by decide) kt ks p1 us w ku.leafs

/-- the key that stays -/
theorem stays_run (hE : E.Fits P) (hQ : E.EqOk P) {kt : TypeId} {agg : Bool} {ks : List LK} (h : keyKs E kt = some (agg, ks)) {g : Gh} {w : World} {x y : AV} {u v : Value} (hb : eqKey (agg, ks) x y = some true) (hx : Rel g w x u) (hy : Rel g w y v) :
    (Instr.keyThatStays v u).run P w = .ok u w := by
  obtain ⟨p1, p2, p3⟩ := keyKs_plain hE hQ h
  obtain ⟨us, vs, ku, kv, heq⟩ := eqKey_rel hE hQ h hb hx hy
  have := eqVs_eq ku.leafs kv.leafs heq
  subst this
  have huv : v = u := kv.val.trans ku.val.symm
  subst huv
  have hsb : Instr.sameBits 10000 v v = true := by
    rw [ku.val]
    unfold valOf
    split
    · show Instr.sameBits (9999 + 1) _ _ = true
      simp only [Instr.sameBits, beq_self_eq_true, Bool.true_and]
      have hz : ∀ (l : List Value) (a b : Value), (a, b) ∈ l.zip l → a = b ∧ a ∈ l := by
        intro l
        induction l with
        | nil => intro a b h; exact nomatch h
        | cons c l ih =>
          intro a b h
          rcases List.mem_cons.1 h with h | h
          · cases h; exact ⟨rfl, by simp⟩
          · exact ⟨(ih a b h).1, by simp [(ih a b h).2]⟩
      refine List.all_eq_true.2 fun p hp => ?_
      obtain ⟨a, b⟩ := p
      obtain ⟨h1, h2⟩ := hz _ a b hp
      subst h1
      exact sameBits_leafs ku.leafs a (by simpa using h2) 9999
    · rename_i ha
      obtain ⟨a, rfl⟩ : ∃ a, us = [a] := List.length_eq_one_iff.1 ((leafsV_len ku.leafs).trans (plainB_leaf p1 (by simpa using ha)))
      exact sameBits_leafs ku.leafs a (by simp) 10000
  simp [Instr.keyThatStays, hsb]

/-- a new map -/
theorem new_map {B : Nat → Prop} {g : Gh} {w : World} {σ : Nat → VObj} {id : Nat} (hs : RelS B g w σ) (hB : ∀ b, w.heap.size ≤ b → B b) (hg : σ id = .gone) (kt vt : TypeId) :
    ∃ g', Ext B g w g' (w.alloc (.map #[] 0)) ∧ RelS B g' (w.alloc (.map #[] 0)) (updF σ id (.map kt vt [])) ∧ Rel g' (w.alloc (.map #[] 0)) (.map id) (.map (some w.heap.size)) := by
  have hgone := hs.obj id
  rw [hg] at hgone
  let g' : Gh := { g with loc := updF g.loc id (some (w.heap.size, 0)) }
  have hl' : ∀ j, j ≠ id → g'.loc j = g.loc j ∧ g'.hdr j = g.hdr j := fun j h => ⟨updF_other _ _ h, rfl⟩
  have hloc : g'.loc id = some (w.heap.size, 0) := updF_same _ _ _
  have hE : Ext B g w g' (w.alloc (.map #[] 0)) := Ext.allocO (Low.allocM w _ _) hB (fun _ _ _ => Iff.rfl) hs.sb (fun j x h => by
      by_cases hj : j = id
      · subst hj; rw [hgone.1] at h; exact nomatch h
      · exact (hl' j hj).1.trans h) (fun j ver h e => ⟨ver, h, e, Nat.le_refl _, fun _ => rfl⟩)
  refine ⟨g', hE, ?_, .map hloc⟩
  refine hs.upd hE hl' (fun j b _ hk => ⟨heap_alloc_lt (hs.lt hk), fun _ => Iff.rfl⟩) ?_ ?_ (fun b x h => by
    have := hs.sb b x h
    simp; omega)
  · refine ⟨hgone.2, w.heap.size, 0, #[], hloc, by simp, ?_, rfl, fun i x e h => by simp at h, fun x h => (nomatch h), fun x h => ?_⟩
    · show (w.heap.push _)[w.heap.size]? = _; simp
    · exact absurd (hs.sb _ _ h) (Nat.lt_irrefl _)
  · rintro b (⟨o, h⟩ | ⟨v, o, l, c', h, _⟩)
    · rw [hloc] at h; cases h
      exact ⟨hB _ (Nat.le_refl _), fun j _ hk => absurd (hs.lt hk) (Nat.lt_irrefl _)⟩
    · have : g.hdr id = _ := h
      rw [hgone.2] at this; exact nomatch this

def setB (w : World) (b : Nat) (o : Obj) : World := { w with heap := w.heap.setIfInBounds b o }

/-- a map is written -/
theorem set_map {B : Nat → Prop} {g : Gh} {w : World} {σ : Nat → VObj} {id b clock : Nat} {kt vt : TypeId} {es es' : List (AV × AV)} {en en' : Array MapEntry} {clock' : Nat} (hs : RelS B g w σ) (ho : σ id = .map kt vt es)
    (hl : g.loc id = some (b, 0)) (hm : w.heap[b]? = some (.map en clock)) (h5 : es'.length = en'.size) (h6 : ∀ (i : Nat) (x : AV × AV) (e : MapEntry), es'[i]? = some x → en'[i]? = some e → Rel g w x.1 e.key ∧ Rel g w x.2 e.val)
    (h7 : ∀ x ∈ es', x.1.flat = true ∧ x.2.flat = true) : Ext B g w g (setB w b (.map en' clock')) ∧ RelS B g (setB w b (.map en' clock')) (updF σ id (.map kt vt es')) := by
  have hobj := hs.obj id
  rw [ho] at hobj
  obtain ⟨k1, b', c0, en0, k2, k3, k4, k5, k6, k7, k8⟩ := hobj
  rw [hl] at k2; cases k2
  have hset := MapKept.heap_set (o' := Obj.map en' clock') hm
  have hb : B b := hs.inB id b (.inl ⟨0, hl⟩)
  have hE : Ext B g w g (setB w b (.map en' clock')) :=
    { size := by simp [setB]
      stab := fun _ _ h => h
      same := fun b2 o h => by
        refine cell?_of_heap ?_
        have : b2 ≠ b := fun e => k8 o (e ▸ h)
        exact hset.2 b2 this
      keep := fun b2 hn => hset.2 b2 fun e => hn (e ▸ hb)
      keepS := fun _ _ _ h => h
      loc := fun _ _ h => h
      hdr := fun _ ver h e => ⟨ver, h, e, Nat.le_refl _, fun _ => rfl⟩
      low := ⟨rfl, rfl, rfl⟩ }
  refine ⟨hE, hs.upd hE (fun _ _ => ⟨rfl, rfl⟩) (fun j b2 hj hk => ⟨hset.2 b2 fun e => hj (hs.apart j id b2 hk (.inl ⟨0, e ▸ hl⟩)), fun _ => Iff.rfl⟩) ?_ (fun b2 hk => ⟨hs.inB id b2 hk, fun j hj hk' => hj (hs.apart j id b2 hk' hk)⟩) (fun b2 x h => by
    have := hs.sb b2 x h
    simpa [setB] using this)⟩
  exact ⟨k1, b, clock', en', hl, by simpa [setB] using k3, hset.1, h5, fun i x e hx he => ⟨(h6 i x e hx he).1.mono hE, (h6 i x e hx he).2.mono hE⟩, h7, k8⟩

theorem ti_map (hE : E.Fits P) {ty' : TypeId} {kt vt n b : Nat} {z : List AV} (e : E.ti ty' = ⟨.map kt vt, n, b, z⟩) : P.underlying ty' = some (.map kt vt) := by
  obtain ⟨i, d, zv, h1, h2, _, _, _, h6, _⟩ := ti_at hE e (.inl (by simp))
  cases d <;> simp [tkOf] at h6
  rw [h2, h6.1, h6.2]

theorem s_makeMap (hE : E.Fits P) {ty' : TypeId} {kt vt n b : Nat} {z : List AV} (e : E.ti ty' = ⟨.map kt vt, n, b, z⟩) {r : Option Operand} (hr : r = none ∨ ∃ x k m, r = some x ∧ evV t x = .int k m) :
    OpSem P ⟨dst, .makeMap ty' r, ty, pos, after, guard⟩ t s (.map s.length) (setO s s.length (.map 0 0 [])) ⟨[], [s.length]⟩ := by
  refine .val (fun id hid => getO_setO_out hid) fun B g w a σ hB hx hσ hs => ?_
  obtain ⟨g', e1, r1, v1⟩ := new_map hs hB ((hσ s.length (by simp)).trans (getO_len s)) 0 0
  refine ⟨g', _, _, ?_, e1, by rw [over_one]; exact r1, v1⟩
  rcases hr with rfl | ⟨x, k, m, rfl, hxv⟩
  · simp only [execOp, Option.map_none, Instr.makeMap, Sem.run_bind, Sem.run_pure, Result.andThen_ok, run_alloc']
  · have hv := rel_int (hxv ▸ hx x (by simp [Op.operands]))
    simp only [execOp, Option.map_some, hv, Instr.makeMap, Sem.run_bind, run_underlying' (ti_map hE e), asInt, asIntOf, Sem.run_pure, Result.andThen_ok, run_alloc']

theorem zero_rel (hE : E.Fits P) {vt : TypeId} {vk : TK} {n2 b2 : Nat} {z : AV} {z2 : List AV} (e2 : E.ti vt = ⟨vk, n2, b2, z :: z2⟩) (hz1 : vk.isAgg = false → (z :: z2).length = 1) :
    ∃ zv, (∀ w, (zeroValue vt).run P w = .ok zv w) ∧ ∀ g w, Rel g w (mkv vk.isAgg (z :: z2)) zv := by
  obtain ⟨i, d, zv, h1, h2, h3, h4, h5, h6, h7, h8, h9⟩ := ti_at hE e2 (.inr (.inr (by simp)))
  have hsh := ti_shape hE (by rw [e2]; simp) h1 h2 h3
  rw [← h6] at hsh
  refine ⟨zv, fun w => run_zeroValue' h1 h3 w, fun g w => ?_⟩
  have hr : RelC g w (z :: z2) zv.cells := by rw [h9]; exact relC_lits _
  cases ha : vk.isAgg with
  | true =>
    rw [ha] at hsh
    cases zv <;> simp [isAggV] at hsh
    exact .agg hr.size hr.rel
  | false =>
    rw [ha] at hsh
    have hz1 := hz1 ha
    have : zv.cells = #[zv] := by cases zv <;> first | rfl | exact nomatch hsh
    rw [this] at hr
    have hz2 : z2 = [] := by simpa using hz1
    subst hz2
    exact hr.rel 0 z zv rfl rfl

theorem unkb_lookV {g : Gh} {w : World} {ok : Bool} {z : AV} {r : Option AV} {v : Value} (h : Rel g w (lookV ok z r) v) : Rel g w (unkb (lookV ok z r)) v := h.unkb

theorem s_lookup_nil (hE : E.Fits P) (hQ : E.EqOk P) {ty' : TypeId} {kt vt n b n2 b2 : Nat} {z : List AV} {z1 : AV} {z2 : List AV} {vk : TK} {agg : Bool} {ks : List LK} {x i : Operand} {ok : Bool} (e : E.ti ty' = ⟨.map kt vt, n, b, z⟩) (hks : keyKs E kt = some (agg, ks))
    (e2 : E.ti vt = ⟨vk, n2, b2, z1 :: z2⟩) (hz1 : vk.isAgg = false → (z1 :: z2).length = 1) (hx : evV t x = .nilmap) (hk : hasKs (agg, ks) (evV t i) []) :
    OpSem P ⟨dst, .lookup ty' x i ok, ty, pos, after, guard⟩ t s (lookV ok (mkv vk.isAgg (z1 :: z2)) none) s fp0 := by
  refine .same fun B g w a σ hB hh hσ hs => ?_
  obtain ⟨zv, hz, hzr⟩ := zero_rel hE e2 hz1
  have hm : a.eval x = .map none := by
    have := hx ▸ hh x (by simp [Op.operands])
    generalize a.eval x = q at this
    cases this; rfl
  have hi := hh i (by simp [Op.operands])
  have hc := check_run hE hQ hks hi hk.1
  have hf := find_run hE hQ hks hi [] [] rfl (fun i x e h => by simp at h) hk.2
  refine ⟨if ok = true then .tuple #[zv, .bool false] else zv, by simp only [execOp, Instr.lookup, Sem.run_bind, run_underlying' (ti_map hE e), Result.andThen_ok, hm, Sem.run_pure, hc]; erw [hf]; simp only [findI, Result.andThen_ok, Sem.run_bind, hz, Sem.run_pure], ?_⟩
  refine Rel.unkb ?_
  cases ok with
  | true =>
    refine .tuple rfl fun i x v hx hv => ?_
    match i with
    | 0 => cases hx; cases hv; exact hzr g w
    | 1 => cases hx; cases hv; exact .bool false
    | i + 2 => simp at hx
  | false => exact hzr g w

theorem s_lookup (hE : E.Fits P) (hQ : E.EqOk P) {ty' : TypeId} {kt vt n b n2 b2 id kt' vt' : Nat} {z : List AV} {z1 : AV} {z2 : List AV} {vk : TK} {agg : Bool} {ks : List LK} {x i : Operand} {ok : Bool} {es : List (AV × AV)} {q : Option AV} (e : E.ti ty' = ⟨.map kt vt, n, b, z⟩) (hks : keyKs E kt = some (agg, ks))
    (e2 : E.ti vt = ⟨vk, n2, b2, z1 :: z2⟩) (hz1 : vk.isAgg = false → (z1 :: z2).length = 1) (hx : evV t x = .map id) (ho : getO s id = .map kt' vt' es) (hk : hasKs (agg, ks) (evV t i) es) (hq : findK (agg, ks) (evV t i) es = q) :
    OpSem P ⟨dst, .lookup ty' x i ok, ty, pos, after, guard⟩ t s (lookV ok (mkv vk.isAgg (z1 :: z2)) q) s ⟨[id], []⟩ := by
  refine .same fun B g w a σ hB hh hσ hs => ?_
  obtain ⟨zv, hz, hzr⟩ := zero_rel hE e2 hz1
  obtain ⟨b', hl, hm⟩ := inv_map (hx ▸ hh x (by simp [Op.operands]))
  have hobj := hs.obj id
  rw [hσ id (by simp), ho] at hobj
  obtain ⟨_, b0, clock, en, k2, k3, k4, k5, k6, k7, k8⟩ := hobj
  rw [hl] at k2; cases k2
  have hi := hh i (by simp [Op.operands])
  have hc := fun em => check_run hE hQ hks hi hk.1 em
  have hf := find_run hE hQ hks hi es en.toList (by simpa using k5) (fun i x e h1 h2 => (k6 i x e h1 (by simpa using h2)).1) hk.2
  subst hq
  rw [findI_K]
  cases hfi : findI (agg, ks) (evV t i) es with
  | none =>
    rw [hfi] at hf
    refine ⟨if ok = true then .tuple #[zv, .bool false] else zv, by simp only [execOp, Instr.lookup, Sem.run_bind, run_underlying' (ti_map hE e), Result.andThen_ok, hm, Sem.run_pure, MapKept.run_getObj_map k4, hc]; erw [hf]; simp only [Result.andThen_ok, Sem.run_bind, hz, Sem.run_pure], ?_⟩
    refine Rel.unkb ?_
    cases ok with
    | true =>
      refine .tuple rfl fun i x v hx hv => ?_
      match i with
      | 0 => cases hx; cases hv; exact hzr g w
      | 1 => cases hx; cases hv; exact .bool false
      | i + 2 => simp at hx
    | false => exact hzr g w
  | some j =>
    rw [hfi] at hf
    obtain ⟨e1, he1, _⟩ := findI_spec _ _ _ _ hfi
    have hj : j < en.size := by have := (List.getElem?_eq_some_iff.1 he1).1; omega
    have hm2 : en[j]? = some en[j] := Array.getElem?_eq_getElem hj
    have hm3 : en.toList[j]? = some en[j] := by simpa using hm2
    simp only [hm3, Option.map_some] at hf
    have hv := (k6 j e1 _ he1 hm2).2
    refine ⟨if ok = true then .tuple #[en[j].val, .bool true] else en[j].val, by simp only [execOp, Instr.lookup, Sem.run_bind, run_underlying' (ti_map hE e), Result.andThen_ok, hm, Sem.run_pure, MapKept.run_getObj_map k4, hc]; erw [hf]; simp only [Result.andThen_ok, Sem.run_bind, hz, Sem.run_pure], ?_⟩
    refine Rel.unkb ?_
    simp only [Option.bind_some, he1, Option.map_some]
    cases ok with
    | true =>
      refine .tuple rfl fun i x v hx hv' => ?_
      match i with
      | 0 => cases hx; cases hv'; exact hv
      | 1 => cases hx; cases hv'; exact .bool true
      | i + 2 => simp at hx
    | false => exact hv

/-- keys that are compared are plain -/
theorem eqLeafs_pure {ks : List LK} {cs ds : List AV} {b : Bool} (h : eqLeafs ks cs ds = some b) : ∀ c ∈ cs, c.pure = true := by
  induction ks generalizing cs ds b with
  | nil => cases cs with
    | nil => intro c hc; exact nomatch hc
    | cons c cs => exact nomatch h
  | cons k ks ih =>
    cases cs with
    | nil => intro c hc; exact nomatch hc
    | cons c cs =>
      cases ds with
      | nil => cases k <;> cases c <;> exact nomatch h
      | cons d ds =>
      unfold eqLeafs at h
      split at h
      · rename_i h' _ _; exact nomatch h'
      · rename_i e0 e1 e2; cases e0; cases e1; cases e2
        split at h
        · split at h
          · rename_i r hr; exact List.forall_mem_cons.2 ⟨rfl, ih hr⟩
          · exact nomatch h
        · exact nomatch h
      · rename_i e0 e1 e2; cases e0; cases e1; cases e2
        split at h
        · rename_i r hr; exact List.forall_mem_cons.2 ⟨rfl, ih hr⟩
        · exact nomatch h
      · rename_i e0 e1 e2; cases e0; cases e1; cases e2
        split at h
        · rename_i r hr; exact List.forall_mem_cons.2 ⟨rfl, ih hr⟩
        · exact nomatch h
      · exact nomatch h

theorem eqKey_flat {ks : Bool × List LK} {x y : AV} (h : (eqKey ks x y).isSome = true) : x.flat = true := by
  obtain ⟨b, h⟩ := Option.isSome_iff_exists.1 h
  obtain ⟨agg, ks⟩ := ks
  cases agg with
  | true =>
    simp only [eqKey] at h
    split at h
    · exact List.all_eq_true.2 (eqLeafs_pure h)
    · exact nomatch h
  | false =>
    simp only [eqKey] at h
    split at h
    · exact nomatch h
    · exact nomatch h
    · rename_i h1 h2
      have := eqLeafs_pure h x (by simp)
      cases x <;> first | exact this | exact (h1 _ rfl).elim

theorem set_list {α : Type} {l : List α} {i j : Nat} {x y : α} (h : (l.set i x)[j]? = some y) : (j = i ∧ y = x) ∨ l[j]? = some y := by
  rw [List.getElem?_set] at h
  split at h
  · split at h
    · cases h; exact .inl ⟨by omega, rfl⟩
    · exact nomatch h
  · exact .inr h

theorem s_mapPut (hE : E.Fits P) (hQ : E.EqOk P) {ty' : TypeId} {kt vt n b id kt' vt' : Nat} {z : List AV} {agg : Bool} {ks : List LK} {m k v : Operand} {es : List (AV × AV)} {op : Op} (hop : op = .mapUpdate ty' m k v ∨ op = .insert ty' m k v) (e : E.ti ty' = ⟨.map kt vt, n, b, z⟩) (hks : keyKs E kt = some (agg, ks))
    (hx : evV t m = .map id) (ho : getO s id = .map kt' vt' es) (hk : hasKs (agg, ks) (evV t k) es) (h1 : (evV t v).cells.all AV.oneC = true) (h2 : id ∉ cellsRefs (evV t v).cells) :
    OpSem P ⟨dst, op, ty, pos, after, guard⟩ t s (.tuple []) (setO (freeze s (cellsRefs (evV t v).cells)) id (.map kt' vt' (putM (agg, ks) (evV t k) (recell (evV t v) ((evV t v).cells.map (nrm s))) es))) ⟨[], id :: cellsRefs (evV t v).cells⟩ := by
  refine .skip (fun j hj => ?_) fun B g w a σ hB hh hσ hs => ?_
  · simp only [List.mem_cons, not_or] at hj
    rw [getO_setO, if_neg hj.1, getO_freeze, if_neg hj.2]
  have hmem : ∀ o, o = m ∨ o = k ∨ o = v → o ∈ op.operands := fun o ho => by
    rcases hop with rfl | rfl <;> simpa [Op.operands] using ho
  obtain ⟨b', hl, hm⟩ := inv_map (hx ▸ hh m (hmem m (.inl rfl)))
  have hki := hh k (hmem k (.inr (.inl rfl)))
  have hvi := hh v (hmem v (.inr (.inr rfl)))
  have hd : evV t v ≠ .dead := fun h => by rw [h] at h1; exact nomatch h1
  obtain ⟨g1, e1, r1, c1, l1, k1⟩ := freeze_cells (s := s) hs (fun j hj => hσ j (by simp [hj])) (rel_cells hvi hd)
  have hσid : σ id = .map kt' vt' es := (hσ id (by simp)).trans ho
  have hid1 : over σ (getO (freeze s (cellsRefs (evV t v).cells))) (cellsRefs (evV t v).cells) id = .map kt' vt' es := by
    unfold over; rw [if_neg h2]; exact hσid
  have hobj := r1.obj id
  rw [hid1] at hobj
  obtain ⟨_, b0, clock, en, k2, k3, k4, k5, k6, k7, k8⟩ := hobj
  have hl1 : g1.loc id = some (b', 0) := by rw [l1]; exact hl
  rw [hl1] at k2; cases k2
  have hki := hki.mono e1
  have hvi := hvi.mono e1
  -- the value, once it is frozen
  have hnv : Rel g1 w (recell (evV t v) ((evV t v).cells.map (nrm s))) (a.eval v) := by
    by_cases ho1 : (evV t v).oneC = true
    · obtain ⟨q1, q2, _⟩ := cells_one hvi ho1
      have : recell (evV t v) ((evV t v).cells.map (nrm s)) = nrm s (evV t v) := by
        rw [q1]
        cases hev : evV t v <;> first | rfl | (rw [hev] at ho1; exact nomatch ho1)
      rw [this]
      rw [q1, q2] at c1
      exact c1.rel 0 _ _ rfl rfl
    · cases hev : evV t v with
      | agg cs =>
        rw [hev] at hvi c1
        obtain ⟨vs, v1, v2, v3⟩ := inv_agg hvi
        rw [v3] at c1 ⊢
        exact .agg c1.size c1.rel
      | _ => rw [hev] at h1 ho1; simp_all [AV.cells]
  have hflat : (recell (evV t v) ((evV t v).cells.map (nrm s))).flat = true := by
    by_cases ho1 : (evV t v).oneC = true
    · obtain ⟨q1, q2, _⟩ := cells_one hvi ho1
      have : recell (evV t v) ((evV t v).cells.map (nrm s)) = nrm s (evV t v) := by
        rw [q1]
        cases hev : evV t v <;> first | rfl | (rw [hev] at ho1; exact nomatch ho1)
      rw [this]
      have := nrm_pure s (evV t v)
      cases hn : nrm s (evV t v) <;> rw [hn] at this <;> first | exact this | exact nomatch this
    · cases hev : evV t v with
      | agg cs =>
        refine List.all_eq_true.2 fun x hx => ?_
        obtain ⟨y, _, rfl⟩ := List.mem_map.1 hx
        exact nrm_pure s y
      | _ => rw [hev] at h1 ho1; simp_all [AV.cells]
  have hkf : (evV t k).flat = true := eqKey_flat hk.1
  have hc := fun em => check_run hE hQ hks hki hk.1 em
  have hf := find_run hE hQ hks hki es en.toList (by simpa using k5) (fun i x e h1 h2 => (k6 i x e h1 (by simpa using h2)).1) hk.2
  have hset : ∀ o : Obj, (setObj b' o).run P w = .ok () (setB w b' o) := fun o => MapKept.run_setObj_map o k4
  have hover : ∀ o, over σ (getO (setO (freeze s (cellsRefs (evV t v).cells)) id o)) (id :: cellsRefs (evV t v).cells) = updF (over σ (getO (freeze s (cellsRefs (evV t v).cells))) (cellsRefs (evV t v).cells)) id o := fun o => by
    funext j
    unfold over updF
    rw [getO_setO]
    by_cases hj : j = id
    · simp [hj]
    · simp [hj]
  rw [hover]
  have hexec : ∀ w', (Instr.mapUpdate ty' (a.eval m) (a.eval k) (a.eval v)).run P w = .ok () w' → (execOp a.eval ⟨dst, op, ty, pos, after, guard⟩).run P w = .ok .skip w' := fun w' h => by
    rcases hop with rfl | rfl
    · simp only [execOp, Sem.run_bind, h, Result.andThen_ok, Sem.run_pure]
    · simp only [execOp, Sem.run_bind, h, Result.andThen_ok, Sem.run_pure]
  rw [findI_put]
  cases hfi : findI (agg, ks) (evV t k) es with
  | none =>
    rw [hfi] at hf
    obtain ⟨q1, q2⟩ := set_map (es' := es ++ [(evV t k, recell (evV t v) ((evV t v).cells.map (nrm s)))]) (en' := en.push { key := a.eval k, val := a.eval v, born := clock }) (clock' := clock + 1) r1 hid1 hl1 k4 (by simp [k5]) (fun i x e hx he => by
      rw [List.getElem?_append] at hx
      rw [Array.getElem?_push] at he
      by_cases hi : i < es.length
      · rw [if_pos hi] at hx
        rw [if_neg (by omega)] at he
        exact k6 i x e hx he
      · rw [if_neg hi] at hx
        have : i = es.length := by have := (List.getElem?_eq_some_iff.1 hx).1; simp at this; omega
        rw [if_pos (by omega)] at he
        subst this
        simp at hx
        cases hx; cases he
        exact ⟨hki, hnv⟩) (fun x hx => by
      rcases List.mem_append.1 hx with hx | hx
      · exact k7 x hx
      · simp at hx; subst hx; exact ⟨hkf, hflat⟩)
    refine ⟨g1, _, hexec _ ?_, e1.trans q1, q2⟩
    simp only [Instr.mapUpdate, Sem.run_bind, run_underlying' (ti_map hE e), Result.andThen_ok, hm, MapKept.run_getObj_map k4, hc]
    erw [hf]
    simp only [Result.andThen_ok, hset]
  | some j =>
    rw [hfi] at hf
    obtain ⟨e0, he0, heq⟩ := findI_spec _ _ _ _ hfi
    have hj : j < en.size := by have := (List.getElem?_eq_some_iff.1 he0).1; omega
    have hm2 : en[j]? = some en[j] := Array.getElem?_eq_getElem hj
    have hm3 : en.toList[j]? = some en[j] := by simpa using hm2
    simp only [hm3, Option.map_some] at hf
    have hst := stays_run hE hQ hks heq hki (k6 j e0 _ he0 hm2).1
    obtain ⟨q1, q2⟩ := set_map (es' := es.set j (evV t k, recell (evV t v) ((evV t v).cells.map (nrm s)))) (en' := en.modify j fun e => { e with key := a.eval k, val := a.eval v }) (clock' := clock) r1 hid1 hl1 k4 (by simp [k5]) (fun i x e hx he => by
      rw [Array.getElem?_modify] at he
      rw [List.getElem?_set] at hx
      by_cases hi : j = i
      · subst hi
        rw [if_pos rfl] at he hx
        rw [if_pos (by omega)] at hx
        rw [hm2] at he
        cases hx; cases he
        exact ⟨hki, hnv⟩
      · rw [if_neg hi] at he hx
        exact k6 i x e hx he) (fun x hx => by
      rcases List.mem_or_eq_of_mem_set hx with hx | hx
      · exact k7 x hx
      · subst hx; exact ⟨hkf, hflat⟩)
    refine ⟨g1, _, hexec _ ?_, e1.trans q1, q2⟩
    simp only [Instr.mapUpdate, Sem.run_bind, run_underlying' (ti_map hE e), Result.andThen_ok, hm, MapKept.run_getObj_map k4, hc]
    erw [hf]
    simp only [Result.andThen_ok, Sem.run_bind, hm2, Option.map_some, Option.getD_some, hst, hset]

theorem s_delete (hE : E.Fits P) (hQ : E.EqOk P) {args : Array Operand} {argTypes : Array TypeId} {ty' : TypeId} {rest : List TypeId} {kt vt n b id kt' vt' : Nat} {z : List AV} {agg : Bool} {ks : List LK} {k : AV} {es : List (AV × AV)} (ha : args.toList.map (evV t) = [.map id, k]) (hT : argTypes.toList = ty' :: rest)
    (e : E.ti ty' = ⟨.map kt vt, n, b, z⟩) (hks : keyKs E kt = some (agg, ks)) (ho : getO s id = .map kt' vt' es) (hk : hasKs (agg, ks) k es) :
    OpSem P ⟨dst, .call { callee := .builtin .delete, args := args, argTypes := argTypes }, ty, pos, after, guard⟩ t s (.tuple []) (setO s id (.map kt' vt' (delM (agg, ks) k es))) ⟨[], [id]⟩ := by
  refine .val (fun j hj => getO_setO_out hj) fun B g w a σ hB hh hσ hs => ?_
  rw [over_one]
  obtain ⟨o1, o2, rfl, hx, hx2⟩ := args_two ha
  have hT0 : argTypes[0]? = some ty' := by
    rw [← Array.getElem?_toList, hT]; rfl
  obtain ⟨b', hl, hm⟩ := inv_map (hx ▸ hh o1 (by simp [Op.operands, Call.operands]))
  have hki := hx2 ▸ hh o2 (by simp [Op.operands, Call.operands])
  have hσid : σ id = .map kt' vt' es := (hσ id (by simp)).trans ho
  have hobj := hs.obj id
  rw [hσid] at hobj
  obtain ⟨_, b0, clock, en, k2, k3, k4, k5, k6, k7, k8⟩ := hobj
  rw [hl] at k2; cases k2
  have hc := fun em => check_run hE hQ hks hki hk.1 em
  have hf := find_run hE hQ hks hki es en.toList (by simpa using k5) (fun i x e h1 h2 => (k6 i x e h1 (by simpa using h2)).1) hk.2
  have hset : ∀ o : Obj, (setObj b' o).run P w = .ok () (setB w b' o) := fun o => MapKept.run_setObj_map o k4
  rw [findI_del]
  have hpre : ∀ w', (setObj b' (.map (match findI (agg, ks) k es with | some j => en.eraseIdxIfInBounds j | none => en) clock)).run P w = .ok () w' →
      (builtin .delete argTypes ty (#[o1, o2].map fun | .const _ => true | _ => false) (#[o1, o2].map a.eval)).run P w = .ok (.value (.tuple #[])) w' := fun w' hw => by
    simp only [builtin, Builtin.delete_, List.map_toArray, List.map_cons, List.map_nil, hT0, List.getElem?_toArray, List.getElem?_cons_zero, List.getElem?_cons_succ, Sem.run_bind, run_underlying' (ti_map hE e), Result.andThen_ok, hm, MapKept.run_getObj_map k4, hc]
    erw [hf]
    cases hfi : findI (agg, ks) k es with
    | none => rw [hfi] at hw; simp only [Result.andThen_ok, hw, Sem.run_bind, Sem.run_pure]
    | some j =>
      rw [hfi] at hw
      obtain ⟨e0, he0, heq⟩ := findI_spec _ _ _ _ hfi
      have hj : j < en.size := by have := (List.getElem?_eq_some_iff.1 he0).1; omega
      have hm3 : en.toList[j]? = some en[j] := by simp [hj]
      simp only [hm3, Option.map_some, Result.andThen_ok, hw, Sem.run_bind, Sem.run_pure]
  cases hfi : findI (agg, ks) k es with
  | none =>
    obtain ⟨q1, q2⟩ := set_map (es' := es) (en' := en) (clock' := clock) hs hσid hl k4 k5 k6 k7
    refine ⟨g, _, _, run_builtin (v := .tuple #[]) (hpre _ (by rw [hfi]; exact hset _)), q1, q2, .tuple rfl fun i x v h => by simp at h⟩
  | some j =>
    obtain ⟨e0, he0, heq⟩ := findI_spec _ _ _ _ hfi
    have hj : j < en.size := by have := (List.getElem?_eq_some_iff.1 he0).1; omega
    obtain ⟨q1, q2⟩ := set_map (es' := es.eraseIdx j) (en' := en.eraseIdxIfInBounds j) (clock' := clock) hs hσid hl k4 (by
      rw [List.length_eraseIdx, if_pos (by omega)]
      simp [Array.eraseIdxIfInBounds, hj, k5]) (fun i x e hx he => by
      have he : (en.toList.eraseIdx j)[i]? = some e := by
        rw [← Array.getElem?_toList] at he
        simpa [Array.eraseIdxIfInBounds, hj] using he
      rw [List.getElem?_eraseIdx] at hx he
      by_cases hi : i < j
      · rw [if_pos hi] at hx he
        exact k6 i x e hx (by simpa using he)
      · rw [if_neg hi] at hx he
        exact k6 (i + 1) x e hx (by simpa using he)) (fun x hx => k7 x (List.mem_of_mem_eraseIdx hx))
    refine ⟨g, _, _, run_builtin (v := .tuple #[]) (hpre _ (by rw [hfi]; exact hset _)), q1, q2, .tuple rfl fun i x v h => by simp at h⟩

end
end Go.Proofs.YtllpenkgaomdfaaDoor.Vm
