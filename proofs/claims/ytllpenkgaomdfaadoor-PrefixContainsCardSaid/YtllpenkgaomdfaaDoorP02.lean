/- Rows of bytes: strings are appended. -/
import Derived.Test.YtllpenkgaomdfaaDoorP01
import Derived.Lib.UnsafeStr
import Derived.Laws.Externs
import Derived.Orders
import Derived.Scope
import Derived.Deep.Slices
import Derived.Carry
import Derived.OpenShut
import Derived.WalkKit
import Derived.ProofKit
import Derived.JoinedCond
set_option linter.all false
namespace Go.Proofs.YtllpenkgaomdfaaDoor.Vm
open Go
variable [Tabs]
section
variable {P : Program} {B : Nat → Prop} {g : Gh} {w : World} {σ : Nat → VObj} {bytes : Nat} {t0 t1 e ty : TypeId} {i : TypeInfo} {z : Value} {id ver : Nat}

theorem bCells_get {bs : List UInt8} {j : Nat} {x : UInt8} (h : bs[j]? = some x) : (byteCells ⟨bs.toArray⟩)[j]? = some (.int .u8 x.toNat) := by simp [byteCells, h]
theorem bCells_len (bs : List UInt8) : (byteCells ⟨bs.toArray⟩).length = bs.length := by simp [byteCells]
theorem src_str (htx : P.underlying t1 = some .string) (bs : List UInt8) : Src P 1 t1 (.string ⟨bs.toArray⟩) bs.length (byteCells ⟨bs.toArray⟩) w := by
  have := fun w' => firstCells_string (P := P) ⟨bs.toArray⟩ w'
  rw [size_mk] at this
  exact ⟨.inr htx, fun _ => by simp [Builtin.lenOf, size_mk], by simpa using this w, by simpa using this w.drew, by simp [byteCells], fun u hu => by
    obtain ⟨_, _, rfl⟩ := List.mem_map.1 hu
    rfl⟩

/-- a new block for what there was and what comes -/
theorem buf_grow (A : AppT P 1 bytes t0 t1 e i z) (htx : P.underlying t1 = some .string) (hs : RelS B g w σ) (hB : ∀ b, w.heap.size ≤ b → B b) (hloc : g.loc id = none) (hver : ∀ v h, g.hdr id = some (v, h) → v < ver)
    {old bs : List UInt8} {base : Option Addr} {cap : Nat} (hold : (Builtin.firstCells 1 old.length (.slice base old.length cap)).run P w.drew = .ok (byteCells ⟨old.toArray⟩).toArray w.drew) (hg : cap < old.length + bs.length) (hb : (old.length + bs.length) * bytes ≤ big) :
    ∃ g' w' val, (Builtin.append_ #[t0, t1] ty #[.slice base old.length cap, .string ⟨bs.toArray⟩]).run P w = .ok val w' ∧ Ext B g w g' w' ∧ RelS B g' w' (updF σ id (.buf e ver (old ++ bs))) ∧ Rel g' w' (.sall id ver) val := by
  have hS := src_str (w := w) htx bs
  have hb' : (old.length + bs.length) * bytes ≤ 70368744177664 := hb
  have hn : old.length + bs.length ≤ 70368744177664 := Nat.le_trans (Nat.le_mul_of_pos_right _ A.hb0) hb'
  have hfit := growslice_fits (bytes := bytes) hg (by omega)
  have hrun := run_append_grow_src (P := P) w t0 t1 ty e i z A.ht A.hi A.hz base old.length cap (byteCells ⟨old.toArray⟩) (by rw [A.hsz]; exact hold) (.string ⟨bs.toArray⟩) bs.length (byteCells ⟨bs.toArray⟩) (by rw [A.hsz]; exact hS) hg (by omega) (by rw [A.hby]; exact hfit)
  have hge := grownCap_ge w (old.length + bs.length) cap e
  generalize grownCap w (old.length + bs.length) cap e = nc at hrun hge
  have hs' : RelS B g w.drew σ := hs.heap rfl ⟨rfl, rfl, rfl⟩
  have hE : Ext B g w g w.drew := Ext.ofHeap rfl ⟨rfl, rfl, rfl⟩
  have hsz : ((byteCells ⟨old.toArray⟩ ++ byteCells ⟨bs.toArray⟩).toArray ++ Builtin.zeroCells z.cells (nc - (old.length + bs.length))).size = nc := by
    rw [Array.size_append, size_zeroCells, A.hzs]
    simp only [List.size_toArray, List.length_append, bCells_len]
    omega
  obtain ⟨g', e1, r1, v1⟩ := set_buf (w := w.drew) (id := id) (ver := ver) (bs := old ++ bs) (cap := nc) hs' hB hloc hver (by omega) (by simpa using hge) hsz (fun j x hj => by
      have hlt : j < (old ++ bs).length := (List.getElem?_eq_some_iff.1 hj).1
      rw [Array.getElem?_append_left (by simp [bCells_len] at hlt ⊢; exact hlt)]
      have : byteCells ⟨old.toArray⟩ ++ byteCells ⟨bs.toArray⟩ = byteCells ⟨(old ++ bs).toArray⟩ := by simp [byteCells]
      rw [this]
      simpa using bCells_get hj) e
  rw [List.length_append] at v1
  exact ⟨g', _, _, hrun, hE.trans e1, r1, v1⟩

/-- in the block that there is -/
theorem buf_at (A : AppT P 1 bytes t0 t1 e i z) (htx : P.underlying t1 = some .string) (hs : RelS B g w σ) {T : TypeId} {old bs : List UInt8} {b len cap : Nat} (ho : σ id = .buf T ver old) (hl : g.hdr id = some (ver, .slice (some ⟨b, 0, none⟩) len cap)) (hroom : old.length + bs.length ≤ cap) :
    ∃ g' w' val, (Builtin.append_ #[t0, t1] ty #[.slice (some ⟨b, 0, none⟩) old.length cap, .string ⟨bs.toArray⟩]).run P w = .ok val w' ∧ Ext B g w g' w' ∧ RelS B g' w' (updF σ id (.buf T (ver + 1) (old ++ bs))) ∧ Rel g' w' (.sall id (ver + 1)) val := by
  have hS := src_str (w := w) htx bs
  have hobj := hs.obj id
  rw [ho] at hobj
  obtain ⟨h1, b', cap', k1, k0, k2, k3, k4, k5, k6, k7, k8⟩ := hobj
  rw [hl] at k1
  injection k1 with k1; injection k1 with _ k1; injection k1 with ka kl kc
  injection ka with ka; injection ka with ka1 ka2
  subst ka1; subst kc; subst kl
  have hblk : blk g id b := .inr ⟨ver, 0, _, cap, hl, k0⟩
  let hd' : Value := .slice (some ⟨b, 0, none⟩) (old.length + bs.length) cap
  let g' : Gh := { g with hdr := updF g.hdr id (some (ver + 1, hd')) }
  have hhdr : g'.hdr id = some (ver + 1, hd') := updF_same _ _ _
  have hl' : ∀ j, j ≠ id → g'.loc j = g.loc j ∧ g'.hdr j = g.hdr j := fun j h => ⟨rfl, updF_other _ _ h⟩
  have hsome : ∀ j, j < (byteCells ⟨bs.toArray⟩).length → (w.cell? ⟨b, 0 + old.length * 1 + j, none⟩).isSome = true := fun j hj => by
    rw [bCells_len] at hj
    exact k6 _ (by omega)
  have hrun := run_append_room_src (P := P) w t0 t1 ty e i A.ht A.hi b 0 old.length cap (.string ⟨bs.toArray⟩) bs.length (byteCells ⟨bs.toArray⟩) (by rw [A.hsz]; exact hS) hroom (fun j hj => by rw [A.hsz]; exact hsome j hj) (fun j hj => k4 _)
  rw [A.hsz, setCells_wset w] at hrun
  have hE0 : Ext B g w g (wset w b (0 + old.length * 1) (byteCells ⟨bs.toArray⟩)) := Ext.wset (hs.inB id b hblk) fun x _ _ => k8 x
  have hE1 : Ext B g (wset w b (0 + old.length * 1) (byteCells ⟨bs.toArray⟩)) g' (wset w b (0 + old.length * 1) (byteCells ⟨bs.toArray⟩)) :=
    { Ext.refl B g _ with
      stab := fun _ _ h => h
      same := fun _ _ _ => rfl
      keepS := fun _ _ _ h => h
      loc := fun _ _ h => h
      hdr := fun j v h e => by
        by_cases ej : j = id
        · subst ej; rw [hl] at e; cases e; exact ⟨ver + 1, hd', hhdr, Nat.le_succ _, fun q => by omega⟩
        · exact ⟨v, h, (hl' j ej).2.trans e, Nat.le_refl _, fun _ => rfl⟩ }
  have hE := hE0.trans hE1
  refine ⟨g', _, _, hrun, hE, ?_, .sall hhdr (Nat.le_refl _) fun _ => rfl⟩
  refine hs.upd hE hl' (fun j b' hj hk => ⟨wset_heap w b _ _ fun e => hj (hs.apart j id b' hk (e ▸ hblk)), fun _ => Iff.rfl⟩) ?_ ?_ (fun b' x h => by rw [wset_size]; exact hs.sb b' x h)
  · refine ⟨h1, b, cap, by rw [hhdr, List.length_append], k0, by rw [List.length_append]; exact hroom, by rw [wset_size]; exact k3, fun x => by rw [wset_frozen]; exact k4 x, by rw [shape_wset]; exact k5, fun x hx => ?_, fun j x hj => ?_, k8⟩
    · by_cases hin : old.length ≤ x ∧ x < old.length + bs.length
      · have := wset_cell_in w b (0 + old.length * 1) (byteCells ⟨bs.toArray⟩) (x - old.length) (by rw [bCells_len]; omega) hsome
        rw [show 0 + old.length * 1 + (x - old.length) = x by omega] at this
        rw [this, List.getElem?_eq_getElem (by rw [bCells_len]; omega)]; rfl
      · rw [wset_cell_out _ _ _ _ _ (by rw [bCells_len]; omega)]; exact k6 x hx
    · rw [List.getElem?_append] at hj
      split at hj
      · rename_i hlt
        rw [wset_cell_out _ _ _ _ _ (by omega)]; exact k7 j x hj
      · rename_i hge
        have hlt2 : j - old.length < bs.length := (List.getElem?_eq_some_iff.1 hj).1
        have := wset_cell_in w b (0 + old.length * 1) (byteCells ⟨bs.toArray⟩) (j - old.length) (by rw [bCells_len]; exact hlt2) hsome
        rw [show 0 + old.length * 1 + (j - old.length) = j by omega] at this
        rw [this, bCells_get hj]
  · rintro b' (⟨o, h⟩ | ⟨v, o, l, c', h, hc0⟩)
    · have h : g.loc id = _ := h
      rw [h1] at h; exact nomatch h
    · rw [hhdr] at h; simp only [hd'] at h; cases h
      exact ⟨hs.inB id b hblk, fun j hj hk => hj (hs.apart j id b hk hblk)⟩
end
end Go.Proofs.YtllpenkgaomdfaaDoor.Vm
/- Operations on rows of bytes. -/
set_option linter.all false
namespace Go.Proofs.YtllpenkgaomdfaaDoor.Vm
open Go
variable [Tabs]
section
variable {P : Program} {B : Nat → Prop} {g : Gh} {w : World} {σ : Nat → VObj} {bytes : Nat} {t0 t1 e ty : TypeId} {i : TypeInfo} {z : Value} {id ver : Nat}

theorem app_buf_nil (A : AppT P 1 bytes t0 t1 e i z) (htx : P.underlying t1 = some .string) (hs : RelS B g w σ) (hB : ∀ b, w.heap.size ≤ b → B b) (hg : σ id = .gone) {nn : Option Bool} {full : Bool} {v : Value} (hr : Rel g w (.sl nn full []) v) (hn : nn = some true) {bs : List UInt8} (h0 : bs ≠ []) (hb : bs.length * bytes ≤ big) :
    ∃ g' w' val, (Builtin.append_ #[t0, t1] ty #[v, .string ⟨bs.toArray⟩]).run P w = .ok val w' ∧ Ext B g w g' w' ∧ RelS B g' w' (updF σ id (.buf e 0 bs)) ∧ Rel g' w' (.sall id 0) val := by
  have hobj := hs.obj id
  rw [hg] at hobj
  have hver : ∀ v h, g.hdr id = some (v, h) → v < 0 := fun v h hh => by rw [hobj.2] at hh; exact nomatch hh
  have hl : bs.length ≠ 0 := fun h => h0 (List.eq_nil_of_length_eq_zero h)
  rcases inv_sl hr with ⟨_, ad, _, _, rfl⟩ | ⟨b, o, cap, vs, k0, k1, k2, k3, k4, k5, rfl⟩
  · have := buf_grow (id := id) (ver := 0) (ty := ty) (old := []) (bs := bs) (base := ad) (cap := 0) A htx hs hB hobj.1 hver (firstCells_nil rfl) (by simp; omega) (by simpa using hb)
    simpa using this
  · exact (k0 hn).elim

theorem app_buf (A : AppT P 1 bytes t0 t1 e i z) (htx : P.underlying t1 = some .string) (hs : RelS B g w σ) (hB : ∀ b, w.heap.size ≤ b → B b) {old bs : List UInt8} (ho : σ id = .buf e ver old) {v : Value} (hr : Rel g w (.sall id ver) v) (hb : (old.length + bs.length) * bytes ≤ big) :
    ∃ g' w' val, (Builtin.append_ #[t0, t1] ty #[v, .string ⟨bs.toArray⟩]).run P w = .ok val w' ∧ Ext B g w g' w' ∧ RelS B g' w' (updF σ id (.buf e (ver + 1) (old ++ bs))) ∧ Rel g' w' (.sall id (ver + 1)) val := by
  have hobj := hs.obj id
  rw [ho] at hobj
  obtain ⟨h1, b, cap, k1, k0, k2, k3, k4, k5, k6, k7, k8⟩ := hobj
  have hver : ∀ v h, g.hdr id = some (v, h) → v < ver + 1 := fun v h hh => by rw [k1] at hh; cases hh; omega
  obtain ⟨ver0, hd, a, len, cap', r1, r2, r3, rfl⟩ := inv_sall hr
  have k1' := k1
  rw [k1] at r1; cases r1
  have r3 := r3 rfl; cases r3
  by_cases hroom : old.length + bs.length ≤ cap
  · exact buf_at A htx hs ho k1' hroom
  · exact buf_grow A htx hs hB h1 hver (firstCells_row (by rw [bCells_len]; omega) fun j u hj => by
      have hlt : j < old.length := by have := (List.getElem?_eq_some_iff.1 hj).1; rwa [bCells_len] at this
      have hx : old[j]? = some old[j] := List.getElem?_eq_getElem hlt
      rw [bCells_get hx] at hj; cases hj
      rw [Nat.zero_add]; exact k7 j _ hx) (by omega) hb

theorem freeze_heap (w : World) (b n : Nat) {b' : Nat} (h : b' ≠ b) : (w.freeze ⟨b, 0, none⟩ n).heap[b']? = w.heap[b']? := by
  unfold World.freeze
  split
  · rfl
  · simp only [Array.getElem?_modify]
    rw [if_neg (fun e => h e.symm)]
theorem freeze_size (w : World) (a : Addr) (n : Nat) : (w.freeze a n).heap.size = w.heap.size := by
  unfold World.freeze
  split
  · rfl
  · simp
theorem freeze_cell (w : World) (b n : Nat) (a : Addr) : (w.freeze ⟨b, 0, none⟩ n).cell? a = w.cell? a := by
  by_cases h : a.block = b
  · unfold World.freeze
    split
    · rfl
    · unfold World.cell?
      simp only [Array.getElem?_modify, if_pos h.symm]
      cases w.heap[a.block]? with
      | none => rfl
      | some o => cases o <;> rfl
  · exact cell?_of_heap (freeze_heap w b n h)
theorem freeze_low (w : World) (a : Addr) (n : Nat) : Low w (w.freeze a n) := by
  unfold World.freeze
  split
  · exact Low.refl w
  · exact ⟨rfl, rfl, rfl⟩
/-- a row of bytes is read as a string: it is spent -/
theorem spend_buf (hs : RelS B g w σ) {T : TypeId} {bs : List UInt8} (ho : σ id = .buf T ver bs) {b n len cap : Nat} (hl : g.hdr id = some (ver, .slice (some ⟨b, 0, none⟩) len cap)) :
    Ext B g w g (w.freeze ⟨b, 0, none⟩ n) ∧ RelS B g (w.freeze ⟨b, 0, none⟩ n) (updF σ id (.spent ver)) := by
  have hobj := hs.obj id
  rw [ho] at hobj
  obtain ⟨h1, b', cap', k1, k0, k2, k3, _⟩ := hobj
  rw [hl] at k1
  injection k1 with k1; injection k1 with _ k1; injection k1 with ka kl kc
  injection ka with ka; injection ka with ka1 ka2
  subst ka1; subst kc; subst kl
  have hblk : blk g id b := .inr ⟨ver, 0, _, cap, hl, k0⟩
  have hE : Ext B g w g (w.freeze ⟨b, 0, none⟩ n) :=
    { size := by rw [freeze_size]; exact Nat.le_refl _
      stab := fun _ _ h => h
      same := fun b' x _ => freeze_cell w b n _
      keep := fun b' hb => freeze_heap w b n fun e => hb (e ▸ hs.inB id b hblk)
      keepS := fun _ _ _ h => h
      loc := fun _ _ h => h
      hdr := fun _ v h e => ⟨v, h, e, Nat.le_refl _, fun _ => rfl⟩
      low := freeze_low w _ n }
  refine ⟨hE, hs.upd hE (fun _ _ => ⟨rfl, rfl⟩) (fun j b' hj hk => ⟨freeze_heap w b n fun e => hj (hs.apart j id b' hk (e ▸ hblk)), fun _ => Iff.rfl⟩) ⟨h1, b, _, cap, hl, by rw [freeze_size]; exact k3⟩ (fun b' hk => ⟨hs.inB id b' hk, fun j hj hk2 => hj (hs.apart j id b' hk2 hk)⟩) (fun b' x h => by rw [freeze_size]; exact hs.sb b' x h)⟩
end

section
variable {P : Program} {E : Env} {t : List AV} {s : List VObj} {dst : Option Tmp} {ty : TypeId} {pos : String} {after : Array Edge} {guard : Option (Nat × Bool)} {K : OpOut → Prop} {R : AV → List VObj → FP → Prop}

theorem s_appendX (hE : E.Fits P) (hK : ∀ out, K out → OpHolds P out R) {args : Array Operand} {x y : AV} {t0 t1 e n by_ esz bytes : Nat} {k : TK} {z zero : List AV} (ha : args.toList.map (evV t) = [x, y])
    (e1 : E.ti t0 = ⟨.sl e, n, by_, z⟩) (hk : (E.ti t1).kind.isSeq = true) (e2 : E.ti e = ⟨k, esz, bytes, zero⟩) (h0 : 0 < esz) (hb0 : 0 < bytes) (h : vappendX K E s t0 t1 e esz bytes x y) :
    ∃ v s2 fp, OpSem P ⟨dst, .call { callee := .builtin .append, args := args, argTypes := #[t0, t1] }, ty, pos, after, guard⟩ t s v s2 fp ∧ R v s2 fp := by
  have hF : ¬ K .fail := fun h => hK _ h
  unfold vappendX at h
  split at h
  · split at h
    · rename_i b hkind hsz
      have hsz := Nat.eq_of_beq_eq_true hsz
      subst hsz
      obtain ⟨i, d, zv, h1, h2, h3, h4, h5, h6, h7, h8, h9⟩ := ti_at hE e1 (.inl (by simp))
      have hd := tk_slice h6.symm; subst hd
      obtain ⟨i2, d2, zv2, q1, q2, q3, q4, q5, q6, q7, q8, q9⟩ := ti_at hE e2 (.inr (.inl h0))
      have A : AppT P 1 bytes t0 t1 e i2 zv2 := ⟨h2, q1, q3, q7, q8, q5, seq_kind hE hk, h0, hb0⟩
      have htx : P.underlying t1 = some .string := by
        cases e3 : E.ti t1 with
        | mk kd sz bt zr =>
          rw [e3] at hkind
          have hkind : kd = .str := hkind
          subst hkind
          obtain ⟨i3, d3, zv3, p1, p2, p3, p4, p5, p6, p7, p8, p9⟩ := ti_at hE e3 (.inl (by simp))
          have hd := tk_str p6.symm; subst hd
          exact p2
      obtain ⟨ox, oy, rfl, hox, hoy⟩ := args_two ha
      have hxy : ∀ (a : Act) (g : Gh) (w : World), (∀ x ∈ (Op.call { callee := .builtin .append, args := #[ox, oy], argTypes := #[t0, t1] }).operands, Rel g w (evV t x) (a.eval x)) → Rel g w x (a.eval ox) ∧ Rel g w (.str b) (a.eval oy) := fun a g w hh =>
        ⟨hox ▸ hh ox (by simp [Op.operands, Call.operands]), hoy ▸ hh oy (by simp [Op.operands, Call.operands])⟩
      have hrun : ∀ (a : Act) (w w' : World) (v : Value), (Builtin.append_ #[t0, t1] ty #[a.eval ox, a.eval oy]).run P w = .ok v w' →
          (execOp a.eval ⟨dst, .call { callee := .builtin .append, args := #[ox, oy], argTypes := #[t0, t1] }, ty, pos, after, guard⟩).run P w = .ok (.value v) w' := fun a w w' v hr => by
        refine run_builtin ?_
        simp only [builtin, Sem.run_bind, List.map_toArray, List.map_cons, List.map_nil, hr, Result.andThen_ok, Sem.run_pure]
      unfold vappendB at h
      split at h
      · rename_i full
        simp only [lenK_eq, setOK_eq] at h
        obtain ⟨⟨hb, hbig⟩, hR⟩ := hK _ h
        rw [Nat.zero_add] at hR
        refine ⟨_, _, _, .val (fun id hid => getO_setO_out hid) fun B g w a σ hB hh hσ hs => ?_, hR⟩
        rw [over_one]
        obtain ⟨r1, r2⟩ := hxy a g w hh
        have hy := rel_str r2
        obtain ⟨g', w', val, k1, k2, k3, k4⟩ := app_buf_nil (ty := ty) A htx hs hB (id := s.length) ((hσ _ (by simp)).trans (getO_len s)) r1 rfl hb hbig
        exact ⟨g', w', val, hrun a w w' val (by rw [hy]; exact k1), k2, k3, k4⟩
      · rename_i id ver
        simp only [getOK_eq] at h
        cases hob : getO s id with
        | buf T ver' old =>
          simp only [hob] at h
          cases hbe : Nat.beq T e with
          | false => simp only [hbe] at h; exact (hF h).elim
          | true =>
            simp only [hbe, setOK_eq] at h
            have hbe := Nat.eq_of_beq_eq_true hbe
            subst hbe
            obtain ⟨⟨hv, hbig⟩, hR⟩ := hK _ h
            subst hv
            refine ⟨_, _, _, .val (fun id hid => getO_setO_out hid) fun B g w a σ hB hh hσ hs => ?_, hR⟩
            rw [over_one]
            obtain ⟨r1, r2⟩ := hxy a g w hh
            have hy := rel_str r2
            obtain ⟨g', w', val, k1, k2, k3, k4⟩ := app_buf (ty := ty) A htx hs hB ((hσ id (by simp)).trans hob) r1 hbig
            exact ⟨g', w', val, hrun a w w' val (by rw [hy]; exact k1), k2, k3, k4⟩
        | _ => simp only [hob] at h; exact (hF h).elim
      · exact (hF h).elim
    · exact (hF h).elim
  · exact s_append hE hK ha e1 hk e2 h0 hb0 h

theorem s_noesc (hQ : E.EqOk P) {f : Operand} {args : Array Operand} {argTypes : Array TypeId} {fid : FuncId} {x : AV} (hne : E.ne.contains fid = true) (hf : evV t f = .func (.func fid) [] []) (ha : args.toList.map (evV t) = [x]) :
    OpSem P ⟨dst, .call { callee := .value f, args := args, argTypes := argTypes }, ty, pos, after, guard⟩ t s x s fp0 := by
  obtain ⟨fn, q1, q2, q3, q4, q5⟩ := hQ.2.2 fid hne
  obtain ⟨o, rfl, hq⟩ := args_one ha
  refine .same fun B g w a σ hB hh hσ hs => ?_
  have hrf := hh f (by simp [Op.operands, Call.operands])
  rw [hf] at hrf
  obtain ⟨fv, cv, l1, l2, r1, r2, hev⟩ := inv_func hrf
  have e1 : fv = #[] := by apply Array.eq_empty_of_size_eq_zero; simpa using l1.symm
  have e2 : cv = #[] := by apply Array.eq_empty_of_size_eq_zero; simpa using l2.symm
  subst e1; subst e2
  refine ⟨a.eval o, ?_, (hq ▸ hh o (by simp [Op.operands, Call.operands])).unkb⟩
  simp only [execOp, resolve, Deferred.ofValue, hev, invoke, Sem.run_bind, Sem.run_pure, Result.andThen_ok]
  simp [run_callFunc_extern q1 q2 q3 q4 q5, Go.Lib.run_noEscape]

theorem s_sliceData {args : Array Operand} {argTypes : Array TypeId} {id ver T : Nat} {bs : List UInt8} (ha : args.toList.map (evV t) = [.sall id ver]) (ho : getO s id = .buf T ver bs) :
    OpSem P ⟨dst, .call { callee := .builtin .unsafeSliceData, args := args, argTypes := argTypes }, ty, pos, after, guard⟩ t s (.eptr id ver 1 0 0) s ⟨[id], []⟩ := by
  obtain ⟨o, rfl, hq⟩ := args_one ha
  refine .same fun B g w a σ hB hh hσ hs => ?_
  obtain ⟨ver0, hd0, ad, len, cap, g1, g2, g3, hr⟩ := inv_sall (hq ▸ hh o (by simp [Op.operands, Call.operands]))
  have hobj := hs.obj id
  rw [hσ id (by simp), ho] at hobj
  obtain ⟨h1, b, cap', k1, k0, k2, k3, _⟩ := hobj
  have k1' := k1
  rw [k1] at g1; cases g1
  have g3 := g3 rfl; cases g3
  exact ⟨.pointer (some ⟨b, 0, none⟩), run_builtin (by simp only [builtin, List.map_toArray, List.map_cons, List.map_nil, hr]; simp [Go.Lib.run_unsafeSliceData_row w _ _ _ _ _ k0]), .eptr k1' (Nat.le_refl _) fun _ => ⟨b, 0, _, _, rfl, by simp⟩⟩
theorem s_unsafeString (hE : E.Fits P) {args : Array Operand} {pt it e id ver : Nat} {bs : List UInt8} {n : Int} (ha : args.toList.map (evV t) = [.eptr id ver 1 0 0, .int .i64 n]) (hk : (E.ti pt).kind = .ptr e) (hz : (E.ti e).size = 1) (ho : getO s id = .buf e ver bs)
    (hn : n = bs.length) (h0 : bs ≠ []) (h63 : bs.length ≤ 9223372036854775807) :
    OpSem P ⟨dst, .call { callee := .builtin .unsafeString, args := args, argTypes := #[pt, it] }, ty, pos, after, guard⟩ t s (.str bs) (setO s id (.spent ver)) ⟨[], [id]⟩ := by
  subst hn
  obtain ⟨ox, oy, rfl, hox, hoy⟩ := args_two ha
  obtain ⟨d, hd, e1⟩ := und_of hE hk (by simp)
  have hd' : P.underlying pt = some (.pointer e) := by
    rw [hd]; cases d <;> simp [tkOf] at e1
    rw [e1]
  have hc : P.cellsOf e = 1 := by
    obtain ⟨i2, d2, zv2, q1, q2, q3, q4, q5, q6, q7, q8, q9⟩ := ti_at hE (t := e) (k := (E.ti e).kind) (n := (E.ti e).size) (b := (E.ti e).bytes) (z := (E.ti e).zero) rfl (.inr (.inl (by omega)))
    unfold Program.cellsOf; rw [q1]; simp [q7, hz]
  refine .val (fun id' hid => getO_setO_out hid) fun B g w a σ hB hh hσ hs => ?_
  rw [over_one]
  have rx := hox ▸ hh ox (by simp [Op.operands, Call.operands])
  have ry := rel_int (hoy ▸ hh oy (by simp [Op.operands, Call.operands]))
  obtain ⟨ver0, hd0, ad, g1, g2, g3, hr⟩ := inv_eptr rx
  have hob := (hσ id (by simp)).trans ho
  have hobj := hs.obj id
  rw [hob] at hobj
  obtain ⟨h1, b, cap, k1, k0, k2, k3, k4, k5, k6, k7, k8⟩ := hobj
  have k1' := k1
  rw [k1] at g1; cases g1
  obtain ⟨b2, o2, l2, c2, e2, e3⟩ := g3 rfl
  cases e2
  have e3 : ad = ⟨b, 0, none⟩ := by rw [e3]
  subst e3
  obtain ⟨p1, p2⟩ := spend_buf (n := bs.length) hs hob k1'
  refine ⟨g, _, _, run_builtin ?_, p1, p2, .str bs⟩
  simp only [builtin, List.map_toArray, List.map_cons, List.map_nil, hr, ry]
  simp [Go.Lib.run_unsafeString_row (P := P) w pt it ty e hd' hc b cap k5 bs h0 k2 h63 (fun j x hj => by
    have q := k7 j x hj
    by_cases hj0 : j = 0
    · subst hj0; simpa [Addr.add] using q
    · simpa [Addr.add, hj0] using q)]
end
end Go.Proofs.YtllpenkgaomdfaaDoor.Vm
/- Soundness of the evaluator of operations. -/
set_option linter.all false
namespace Go.Proofs.YtllpenkgaomdfaaDoor.Vm
open Go
variable [Tabs]

section
variable {P : Program} {E : Env} {t : List AV} {s : List VObj} {dst : Option Tmp} {ty : TypeId} {pos : String} {after : Array Edge} {guard : Option (Nat × Bool)}
variable {K : OpOut → Prop} {R : AV → List VObj → FP → Prop}

/-- what is to be shown of an operation -/
abbrev Goal (P : Program) (dst : Option Tmp) (op : Op) (ty : TypeId) (pos : String) (after : Array Edge) (guard : Option (Nat × Bool)) (t : List AV) (s : List VObj) (R : AV → List VObj → FP → Prop) : Prop :=
  ∃ v s2 fp, OpSem P ⟨dst, op, ty, pos, after, guard⟩ t s v s2 fp ∧ R v s2 fp

theorem v_pick (hK : ∀ out, K out → OpHolds P out R) {c a b : Operand} (h : vval E K dst (.pick c a b) t s) : Goal P dst (.pick c a b) ty pos after guard t s R := by
  simp only [vval, evG_eq] at h
  have hc := unkb_evGv t c
  split at h
  · rename_i q hq
    rw [hq] at hc
    have hs := s_pick (P := P) (s := s) (dst := dst) (ty := ty) (pos := pos) (after := after) (guard := guard) (a := a) (b := b) hc.symm
    split at h
    · exact ⟨_, _, _, hs, hK _ h⟩
    · exact ⟨_, _, _, hs, hK _ h⟩
  · rename_i q hq
    rw [hq] at hc
    have hs := s_pick' (P := P) (s := s) (dst := dst) (ty := ty) (pos := pos) (after := after) (guard := guard) (a := a) (b := b) hc.symm
    simp only [evK_eq] at h
    split at h
    · rename_i x y hx hy
      rw [hx, hy] at hs
      refine ⟨_, _, _, hs, ?_⟩
      have := hK _ h
      cases q <;> exact this
    · have h' := hK _ h
      cases q
      · exact ⟨_, _, _, hs, h'.2 rfl⟩
      · exact ⟨_, _, _, hs, h'.1 rfl⟩
  · exact (hK _ h).elim

theorem v_build (hE : E.Fits P) (hK : ∀ out, K out → OpHolds P out R) {ty' : TypeId} {parts : Array (Nat × Operand)} (h : vval E K dst (.build ty' parts) t s) : Goal P dst (.build ty' parts) ty pos after guard t s R := by
  have hF : ¬ K .fail := fun h => hK _ h
  simp only [vval] at h
  split at h
  · rename_i fs m b z e1
    split at h
    · exact (hF h).elim
    · rename_i hfs
      rw [evPK_eq] at h
      obtain ⟨cs, hL, hs⟩ := s_build_struct (P := P) (dst := dst) (ty := ty) (pos := pos) (after := after) (guard := guard) (s := s) hF hE e1 hfs h
      exact ⟨_, _, _, hs, hK _ hL⟩
  · rename_i e m b n z e1
    split at h
    · exact (hF h).elim
    · rename_i hfs
      rw [evPK_eq] at h
      obtain ⟨cs, hL, hs⟩ := s_build_arr (P := P) (dst := dst) (ty := ty) (pos := pos) (after := after) (guard := guard) (s := s) hF hE e1 hfs h
      exact ⟨_, _, _, hs, hK _ hL⟩
  · exact (hF h).elim

theorem v_buildSlice (hE : E.Fits P) (hK : ∀ out, K out → OpHolds P out R) {ty' : TypeId} {len : Nat} {parts : Array (Nat × Operand)} (h : vval E K dst (.buildSlice ty' len parts) t s) : Goal P dst (.buildSlice ty' len parts) ty pos after guard t s R := by
  have hF : ¬ K .fail := fun h => hK _ h
  simp only [vval] at h
  split at h
  · rename_i e m b z e1
    cases e2 : E.ti e with
    | mk kind n by2 zero =>
    simp only [e2, forceC_eq, evPK_eq, nrmLK_eq, chunkK_eq, lenK_eq, setOK_eq, freezeK_eq] at h
    cases hb : (Nat.blt 0 n && Nat.beq zero.length n && Nat.ble (len * n) 16777216) with
    | false =>
      simp only [hb] at h
      have : ∀ (parts : List (Nat × AV)) (z : List AV), fillAV K (fun i => some (i * n, n)) z parts (fun _ => K .fail) → K .fail := by
        intro parts
        induction parts with
        | nil => intro z h; exact h
        | cons p parts ih =>
          intro z h
          obtain ⟨i, v⟩ := p
          cases v <;> first
            | exact h
            | (simp only [fillAV, forceC_eq] at h
               split at h
               · exact ih _ h
               · exact h)
      exact (hF (this _ _ h)).elim
    | true =>
      simp only [hb] at h
      simp only [Bool.and_eq_true] at hb
      obtain ⟨⟨b1, b2⟩, b3⟩ := hb
      have b1 := Nat.le_of_ble_eq_true b1
      have b2 := Nat.eq_of_beq_eq_true b2
      have b3 := Nat.le_of_ble_eq_true b3
      obtain ⟨cs, hL, hl, hc⟩ := lit_cells (P := P) (dst := dst) (ty := ty) (pos := pos) (after := after) (guard := guard) hF hE e1 e2 b1 b2 b3 h
      split at hL
      · have := s_buildSlice_arr (s := s) b1 hl hc
        rw [Nat.zero_add] at hL
        exact ⟨_, _, _, this, hK _ hL⟩
      · exact ⟨_, _, _, s_buildSlice_row (s := s) hl hc, hK _ hL⟩
  · exact (hF h).elim

theorem v_makeSlice (hE : E.Fits P) (hK : ∀ out, K out → OpHolds P out R) {ty' : TypeId} {l c : Operand} (h : vval E K dst (.makeSlice ty' l c) t s) : Goal P dst (.makeSlice ty' l c) ty pos after guard t s R := by
  have hF : ¬ K .fail := fun h => hK _ h
  simp only [vval] at h
  split at h
  · rename_i e m b z e1
    cases e2 : E.ti e with
    | mk kind n by2 zero =>
    simp only [e2, evK_eq, lenK_eq, setOK_eq] at h
    split at h
    · rename_i kn nl km nc hl hc
      cases hb : (Nat.blt 0 n && Nat.beq zero.length n && Nat.blt 0 by2) with
      | false => simp only [hb] at h; exact (hF h).elim
      | true =>
        simp only [hb] at h
        simp only [Bool.and_eq_true] at hb
        obtain ⟨⟨b1, b2⟩, b3⟩ := hb
        obtain ⟨hn, hR⟩ := hK _ h
        rw [Nat.zero_add] at hR
        exact ⟨_, _, _, s_makeSlice hE e1 e2 (Nat.le_of_ble_eq_true b1) (Nat.eq_of_beq_eq_true b2) (Nat.le_of_ble_eq_true b3) hl hc hn, hR⟩
    · exact (hF h).elim
  · exact (hF h).elim

theorem v_slice (hE : E.Fits P) (hK : ∀ out, K out → OpHolds P out R) {ty' : TypeId} {x : Operand} {lo hi mx : Option Operand} (h : vval E K dst (.slice ty' x lo hi mx) t s) : Goal P dst (.slice ty' x lo hi mx) ty pos after guard t s R := by
  have hF : ¬ K .fail := fun h => hK _ h
  simp only [vval] at h
  split at h
  · rename_i m b z e1
    rw [evK_eq] at h
    split at h
    · rename_i bs hx
      rcases intOr_inv hF h with ⟨rfl, hA⟩ | ⟨ol, kl, nl, rfl, hl, hA⟩ <;> rcases intOr_inv hF hA with ⟨rfl, hB⟩ | ⟨oh, kh, nh, rfl, hh, hB⟩ <;> (clear h hA; have h := hB; clear hB)
      · have := s_slice_str (P := P) (dst := dst) (ty := ty) (pos := pos) (after := after) (guard := guard) (s := s) (lo := none) (hi := none) (kl := .i64) (kh := .i64) hE e1 hx (.inl ⟨rfl, rfl⟩) (.inl ⟨rfl, rfl⟩) (Nat.zero_le _) (Nat.le_refl _)
        rw [List.take_length, List.drop_zero] at this
        exact ⟨_, _, _, this, hK _ h⟩
      · obtain ⟨⟨h1, h2⟩, hR⟩ := hK _ h
        obtain ⟨H, rfl⟩ := Int.eq_ofNat_of_zero_le h1
        have := s_slice_str (P := P) (dst := dst) (ty := ty) (pos := pos) (after := after) (guard := guard) (s := s) (lo := none) (hi := some oh) (L := 0) (H := H) (kl := .i64) (kh := kh) hE e1 hx (.inl ⟨rfl, rfl⟩) (.inr ⟨oh, rfl, hh⟩) (Nat.zero_le _) (by omega)
        rw [List.drop_zero] at this
        exact ⟨_, _, _, this, hR⟩
      · obtain ⟨⟨h1, h2⟩, hR⟩ := hK _ h
        obtain ⟨L, rfl⟩ := Int.eq_ofNat_of_zero_le h1
        have := s_slice_str (P := P) (dst := dst) (ty := ty) (pos := pos) (after := after) (guard := guard) (s := s) (lo := some ol) (hi := none) (L := L) (H := bs.length) (kl := kl) (kh := .i64) hE e1 hx (.inr ⟨ol, rfl, hl⟩) (.inl ⟨rfl, rfl⟩) (by omega) (Nat.le_refl _)
        rw [List.take_length] at this
        exact ⟨_, _, _, this, hR⟩
      · obtain ⟨⟨h1, h2, h3⟩, hR⟩ := hK _ h
        obtain ⟨L, rfl⟩ := Int.eq_ofNat_of_zero_le h1
        obtain ⟨H, rfl⟩ := Int.eq_ofNat_of_zero_le (Int.le_trans h1 h2)
        have := s_slice_str (P := P) (dst := dst) (ty := ty) (pos := pos) (after := after) (guard := guard) (s := s) (lo := some ol) (hi := some oh) (L := L) (H := H) (kl := kl) (kh := kh) hE e1 hx (.inr ⟨ol, rfl, hl⟩) (.inr ⟨oh, rfl, hh⟩) (by omega) (by omega)
        exact ⟨_, _, _, this, hR⟩
    · exact (hF h).elim
  · rename_i e m b z e1
    cases e2 : E.ti e with
    | mk kind size by2 zero =>
    simp only [e2] at h
    split at h
    · rename_i h0
      rw [evK_eq] at h
      cases hx : evV t x with
      | sl nn full es =>
        rw [hx] at h
        rcases intOr_inv hF h with ⟨rfl, hA⟩ | ⟨ol, kl, nl, rfl, hl, hA⟩ <;> rcases intOr_inv hF hA with ⟨rfl, hB⟩ | ⟨oh, kh, nh, rfl, hh, hB⟩ <;> rcases intOr_inv hF hB with ⟨rfl, hC⟩ | ⟨om, km, nm, rfl, hm, hC⟩ <;> (clear h hA hB; have h := hC; clear hC) <;> simp only [vslice] at h
        · have := s_slice_sl (P := P) (dst := dst) (ty := ty) (pos := pos) (after := after) (guard := guard) (s := s) (lo := none) (hi := none) (L := 0) (H := es.length) (full' := full) (kl := .i64) (kh := .i64) hE e1 e2 h0 hx (.inl ⟨rfl, rfl⟩) (.inl ⟨rfl, rfl⟩) (Nat.zero_le _) (Nat.le_refl _) (fun h => (h rfl).elim) (fun h => ⟨h, rfl⟩)
          rw [List.take_length, List.drop_zero] at this
          exact ⟨_, _, _, this, hK _ h⟩
        · exact (hF h).elim
        · obtain ⟨⟨h1, h2⟩, hR⟩ := hK _ h
          obtain ⟨H, rfl⟩ := Int.eq_ofNat_of_zero_le h1
          have := s_slice_sl (P := P) (dst := dst) (ty := ty) (pos := pos) (after := after) (guard := guard) (s := s) (lo := none) (hi := some oh) (L := 0) (H := H) (full' := false) (kl := .i64) (kh := kh) hE e1 e2 h0 hx (.inl ⟨rfl, rfl⟩) (.inr ⟨oh, rfl, hh⟩) (Nat.zero_le _) (by omega) (fun h => (h rfl).elim) nofun
          rw [List.drop_zero] at this
          exact ⟨_, _, _, this, hR⟩
        · obtain ⟨⟨h1, rfl, h2⟩, hR⟩ := hK _ h
          exact ⟨_, _, _, s_slice_full hE e1 e2 h0 hx hh hm h1 h2, hR⟩
        · obtain ⟨⟨h0', h1, h2⟩, hR⟩ := hK _ h
          obtain ⟨L, rfl⟩ := Int.eq_ofNat_of_zero_le h1
          have := s_slice_sl (P := P) (dst := dst) (ty := ty) (pos := pos) (after := after) (guard := guard) (s := s) (lo := some ol) (hi := none) (L := L) (H := es.length) (full' := full) (kl := kl) (kh := .i64) hE e1 e2 h0 hx (.inr ⟨ol, rfl, hl⟩) (.inl ⟨rfl, rfl⟩) (by omega) (Nat.le_refl _) (fun _ => h0') (fun h => ⟨h, rfl⟩)
          rw [List.take_length] at this
          exact ⟨_, _, _, this, hR⟩
        · exact (hF h).elim
        · obtain ⟨⟨h0', h1, h2, h3⟩, hR⟩ := hK _ h
          obtain ⟨L, rfl⟩ := Int.eq_ofNat_of_zero_le h1
          obtain ⟨H, rfl⟩ := Int.eq_ofNat_of_zero_le (Int.le_trans h1 h2)
          have := s_slice_sl (P := P) (dst := dst) (ty := ty) (pos := pos) (after := after) (guard := guard) (s := s) (lo := some ol) (hi := some oh) (L := L) (H := H) (full' := false) (kl := kl) (kh := kh) hE e1 e2 h0 hx (.inr ⟨ol, rfl, hl⟩) (.inr ⟨oh, rfl, hh⟩) (by omega) (by omega) (fun _ => h0') nofun
          exact ⟨_, _, _, this, hR⟩
        · exact (hF h).elim
      | sall id ver =>
        rw [hx] at h
        have hW : ∀ {L H : Nat} {kl kh : IntKind} {lo hi : Option Operand} {ver' esz' : Nat} {nn : Option Bool} {fz : Bool} {es : List (List AV)}, getO s id = .arr ver' esz' nn es fz → esz' = size → ver = ver' → ((lo = none ∧ L = 0) ∨ ∃ o, lo = some o ∧ evV t o = .int kl L) → ((hi = none ∧ H = es.length) ∨ ∃ o, hi = some o ∧ evV t o = .int kh H) → L ≤ H → H ≤ es.length →
            OpSem P ⟨dst, .slice ty' x lo hi none, ty, pos, after, guard⟩ t s (.sref id ver esz' (0 + L) (H - L)) s ⟨[id], []⟩ := fun ho he hv hlo hhi h1 h2 => by
          exact s_slice_ref (P := P) hE e1 e2 h0 hx ho he hv (.inl ⟨rfl, rfl, rfl, rfl⟩) hlo hhi h1 h2
        rcases intOr_inv hF h with ⟨rfl, hA⟩ | ⟨ol, kl, nl, rfl, hl, hA⟩ <;> rcases intOr_inv hF hA with ⟨rfl, hB⟩ | ⟨oh, kh, nh, rfl, hh, hB⟩ <;> rcases intOr_inv hF hB with ⟨rfl, hC⟩ | ⟨om, km, nm, rfl, hm, hC⟩ <;> (clear h hA hB; have h := hC; clear hC) <;> simp only [vslice, getOK_eq] at h <;> (first | exact (hF h).elim | (split at h <;> first | exact (hF h).elim | (rename_i o mx' ver' esz' nn es fz ho hmx; split at h <;> first | exact (hF h).elim | rename_i hbe)))
        all_goals have hbe := Nat.eq_of_beq_eq_true hbe
        · obtain ⟨⟨hv, h1, h2⟩, hR⟩ := hK _ h
          obtain ⟨H, rfl⟩ := Int.eq_ofNat_of_zero_le h1
          have := hW (L := 0) (H := H) (kl := .i64) (kh := kh) (lo := none) (hi := some oh) ho hbe hv (.inl ⟨rfl, rfl⟩) (.inr ⟨oh, rfl, hh⟩) (Nat.zero_le _) (by omega)
          exact ⟨_, _, _, this, hR⟩
        · obtain ⟨⟨hv, h1, h2⟩, hR⟩ := hK _ h
          obtain ⟨L, rfl⟩ := Int.eq_ofNat_of_zero_le h1
          have := hW (L := L) (H := es.length) (kl := kl) (kh := .i64) (lo := some ol) (hi := none) ho hbe hv (.inr ⟨ol, rfl, hl⟩) (.inl ⟨rfl, rfl⟩) (by omega) (Nat.le_refl _)
          rw [Nat.zero_add] at this
          exact ⟨_, _, _, this, hR⟩
        · obtain ⟨⟨hv, h1, h2, h3⟩, hR⟩ := hK _ h
          obtain ⟨L, rfl⟩ := Int.eq_ofNat_of_zero_le h1
          obtain ⟨H, rfl⟩ := Int.eq_ofNat_of_zero_le (Int.le_trans h1 h2)
          have := hW (L := L) (H := H) (kl := kl) (kh := kh) (lo := some ol) (hi := some oh) ho hbe hv (.inr ⟨ol, rfl, hl⟩) (.inr ⟨oh, rfl, hh⟩) (by omega) (by omega)
          rw [Nat.zero_add] at this
          exact ⟨_, _, _, this, hR⟩
      | sref id ver esz off len =>
        rw [hx] at h
        have hW : ∀ {L H : Nat} {kl kh : IntKind} {lo hi : Option Operand} {ver' esz' : Nat} {nn : Option Bool} {fz : Bool} {es : List (List AV)}, getO s id = .arr ver' esz' nn es fz → esz = size → ver = ver' → ((lo = none ∧ L = 0) ∨ ∃ o, lo = some o ∧ evV t o = .int kl L) → ((hi = none ∧ H = len) ∨ ∃ o, hi = some o ∧ evV t o = .int kh H) → L ≤ H → H ≤ len →
            OpSem P ⟨dst, .slice ty' x lo hi none, ty, pos, after, guard⟩ t s (.sref id ver esz (off + L) (H - L)) s ⟨[id], []⟩ := fun ho he hv hlo hhi h1 h2 => by
          exact s_slice_ref (P := P) hE e1 e2 h0 hx ho he hv (.inr rfl) hlo hhi h1 h2
        rcases intOr_inv hF h with ⟨rfl, hA⟩ | ⟨ol, kl, nl, rfl, hl, hA⟩ <;> rcases intOr_inv hF hA with ⟨rfl, hB⟩ | ⟨oh, kh, nh, rfl, hh, hB⟩ <;> rcases intOr_inv hF hB with ⟨rfl, hC⟩ | ⟨om, km, nm, rfl, hm, hC⟩ <;> (clear h hA hB; have h := hC; clear hC) <;> simp only [vslice, getOK_eq] at h <;> (first | exact (hF h).elim | (split at h <;> first | exact (hF h).elim | (rename_i o mx' ver' esz' nn es fz ho hmx; split at h <;> first | exact (hF h).elim | rename_i hbe)))
        all_goals have hbe := Nat.eq_of_beq_eq_true hbe
        · obtain ⟨⟨hv, h1, h2⟩, hR⟩ := hK _ h
          obtain ⟨H, rfl⟩ := Int.eq_ofNat_of_zero_le h1
          have := hW (L := 0) (H := H) (kl := .i64) (kh := kh) (lo := none) (hi := some oh) ho hbe hv (.inl ⟨rfl, rfl⟩) (.inr ⟨oh, rfl, hh⟩) (Nat.zero_le _) (by omega)
          exact ⟨_, _, _, this, hR⟩
        · obtain ⟨⟨hv, h1, h2⟩, hR⟩ := hK _ h
          obtain ⟨L, rfl⟩ := Int.eq_ofNat_of_zero_le h1
          have := hW (L := L) (H := len) (kl := kl) (kh := .i64) (lo := some ol) (hi := none) ho hbe hv (.inr ⟨ol, rfl, hl⟩) (.inl ⟨rfl, rfl⟩) (by omega) (Nat.le_refl _)
          exact ⟨_, _, _, this, hR⟩
        · obtain ⟨⟨hv, h1, h2, h3⟩, hR⟩ := hK _ h
          obtain ⟨L, rfl⟩ := Int.eq_ofNat_of_zero_le h1
          obtain ⟨H, rfl⟩ := Int.eq_ofNat_of_zero_le (Int.le_trans h1 h2)
          have := hW (L := L) (H := H) (kl := kl) (kh := kh) (lo := some ol) (hi := some oh) ho hbe hv (.inr ⟨ol, rfl, hl⟩) (.inr ⟨oh, rfl, hh⟩) (by omega) (by omega)
          exact ⟨_, _, _, this, hR⟩
      | _ =>
        rw [hx] at h
        rcases intOr_inv hF h with ⟨rfl, hA⟩ | ⟨ol, kl, nl, rfl, hl, hA⟩ <;> rcases intOr_inv hF hA with ⟨rfl, hB⟩ | ⟨oh, kh, nh, rfl, hh, hB⟩ <;> rcases intOr_inv hF hB with ⟨rfl, hC⟩ | ⟨om, km, nm, rfl, hm, hC⟩ <;> (clear h hA hB; have h := hC; clear hC) <;> exact (hF h).elim
    · exact (hF h).elim
  · exact (hF h).elim

theorem v_fieldAddr (hE : E.Fits P) (hK : ∀ out, K out → OpHolds P out R) {ty' : TypeId} {x : Operand} {f : Nat} (h : vval E K dst (.fieldAddr ty' x f) t s) : Goal P dst (.fieldAddr ty' x f) ty pos after guard t s R := by
  have hF : ¬ K .fail := fun h => hK _ h
  simp only [vval] at h
  split at h
  · rename_i fs m b z e1
    split at h
    · rename_i o ft hf
      split at h
      · rename_i h0
        rw [evK_eq] at h
        split at h
        · rename_i id off hx
          exact ⟨_, _, _, s_fieldAddr hE e1 hf h0 hx (.inl ⟨_, _, rfl, rfl⟩), hK _ h⟩
        · rename_i id ver esz i off hx
          exact ⟨_, _, _, s_fieldAddr hE e1 hf h0 hx (.inr (.inl ⟨_, _, _, _, _, rfl, rfl⟩)), hK _ h⟩
        · rename_i cs off hx
          exact ⟨_, _, _, s_fieldAddr hE e1 hf h0 hx (.inr (.inr ⟨_, _, rfl, rfl⟩)), hK _ h⟩
        · exact (hF h).elim
      · exact (hF h).elim
    · exact (hF h).elim
  · exact (hF h).elim

theorem v_field (hE : E.Fits P) (hK : ∀ out, K out → OpHolds P out R) {ty' : TypeId} {x : Operand} {f : Nat} (h : vval E K dst (.field ty' x f) t s) : Goal P dst (.field ty' x f) ty pos after guard t s R := by
  have hF : ¬ K .fail := fun h => hK _ h
  simp only [vval] at h
  split at h
  · rename_i fs m b z e1
    split at h
    · rename_i o ft hf
      cases e2 : E.ti ft with
      | mk kind size b2 z2 =>
      simp only [e2, evK_eq] at h
      split at h
      · rename_i cs hx
        split at h
        · rename_i hle
          rw [forceC_eq] at h
          rcases mkvK_ok (K := K) (agg := kind.isAgg) (cs := (cs.drop o).take size) (L := fun v => K (.ok v s fp0)) with ⟨h1, h2⟩ | h2
          · rw [h2] at h
            exact ⟨_, _, _, s_field hE e1 hf e2 hx hle h1, hK _ h⟩
          · rw [h2] at h; exact (hF h).elim
        · exact (hF h).elim
      · exact (hF h).elim
    · exact (hF h).elim
  · exact (hF h).elim

theorem v_indexAddr (hE : E.Fits P) (hK : ∀ out, K out → OpHolds P out R) {ty' : TypeId} {x ix : Operand} (h : vval E K dst (.indexAddr ty' x ix) t s) : Goal P dst (.indexAddr ty' x ix) ty pos after guard t s R := by
  have hF : ¬ K .fail := fun h => hK _ h
  simp only [vval, evK_eq] at h
  split at h
  · rename_i k i hi
    split at h
    · rename_i n e m b z e1
      cases e2 : E.ti e with
      | mk kind size b2 z2 =>
      simp only [e2] at h
      split at h
      · exact (hF h).elim
      · rename_i h0
        split at h
        · rename_i id off hx
          obtain ⟨j, hj, hjn, hR⟩ := hK _ h
          exact ⟨_, _, _, s_index_arrPtr hE e1 e2 h0 hi hj hjn hx (.inl ⟨_, _, rfl, rfl⟩), hR⟩
        · rename_i cs off hx
          obtain ⟨j, hj, hjn, hR⟩ := hK _ h
          exact ⟨_, _, _, s_index_arrPtr hE e1 e2 h0 hi hj hjn hx (.inr (.inr ⟨_, _, rfl, rfl⟩)), hR⟩
        · rename_i id ver esz q off hx
          obtain ⟨j, hj, hjn, hR⟩ := hK _ h
          exact ⟨_, _, _, s_index_arrPtr hE e1 e2 h0 hi hj hjn hx (.inr (.inl ⟨_, _, _, _, _, rfl, rfl⟩)), hR⟩
        · exact (hF h).elim
    · rename_i e m b z e1
      cases e2 : E.ti e with
      | mk kind size b2 z2 =>
      simp only [e2] at h
      split at h
      · exact (hF h).elim
      · rename_i h0
        split at h
        · rename_i nn full es hx
          obtain ⟨_, hi0, c, hc, hcl, hR⟩ := hK _ h
          exact ⟨_, _, _, s_index_sl hE e1 e2 h0 hi hx hi0 hc hcl, hR⟩
        · rename_i id ver hx
          rw [getOK_eq] at h
          split at h
          · rename_i ver' esz nn es fz ho
            split at h
            · rename_i he
              obtain ⟨⟨hv, h1, h2⟩, hR⟩ := hK _ h
              exact ⟨_, _, _, s_index_sall hE e1 e2 h0 hi hx ho he hv h1 h2, hR⟩
            · exact (hF h).elim
          · exact (hF h).elim
        · rename_i id ver esz off len hx
          rw [getOK_eq] at h
          split at h
          · rename_i ver' esz' nn es fz ho
            split at h
            · rename_i he
              obtain ⟨⟨hv, h1, h2⟩, hR⟩ := hK _ h
              exact ⟨_, _, _, s_index_sref hE e1 e2 h0 hi hx ho he hv h1 h2, hR⟩
            · exact (hF h).elim
          · exact (hF h).elim
        · exact (hF h).elim
    · exact (hF h).elim
  · exact (hF h).elim

theorem v_index (hE : E.Fits P) (hK : ∀ out, K out → OpHolds P out R) {ty' : TypeId} {x ix : Operand} (h : vval E K dst (.index ty' x ix) t s) : Goal P dst (.index ty' x ix) ty pos after guard t s R := by
  have hF : ¬ K .fail := fun h => hK _ h
  simp only [vval, evK_eq] at h
  split at h
  · rename_i k i hi
    split at h
    · rename_i m b z e1
      split at h
      · rename_i bs hx
        obtain ⟨h1, c, hc, hR⟩ := hK _ h
        exact ⟨_, _, _, s_index_str hE e1 hi hx h1 hc, hR⟩
      · exact (hF h).elim
    · rename_i n e m b z e1
      split at h
      · rename_i cs hx
        cases e2 : E.ti e with
        | mk kind size b2 z2 =>
        simp only [e2] at h
        split at h
        · rename_i hc
          obtain ⟨j, hj, hjn, hR⟩ := hK _ h
          exact ⟨_, _, _, s_index_arr hE e1 e2 hc hi hx hj hjn, hR⟩
        · exact (hF h).elim
      · exact (hF h).elim
    · exact (hF h).elim
  · exact (hF h).elim

theorem list_one {α : Type} {a : Array α} {x : α} (h : a.toList = [x]) : a = #[x] := by obtain ⟨l⟩ := a; simp at h; rw [h]
theorem list_two {α : Type} {a : Array α} {x y : α} (h : a.toList = [x, y]) : a = #[x, y] := by obtain ⟨l⟩ := a; simp at h; rw [h]

theorem v_call (hE : E.Fits P) (hQ : E.EqOk P) (hK : ∀ out, K out → OpHolds P out R) {c : Call} (h : vval E K dst (.call c) t s) : Goal P dst (.call c) ty pos after guard t s R := by
  have hF : ¬ K .fail := fun h => hK _ h
  obtain ⟨callee, args, argTypes⟩ := c
  simp only [vval, evLK_eq] at h
  unfold vcall at h
  split at h
  · split at h
    · rename_i x ha
      split at h
      · rename_i t0 ht
        have := list_one ht; subst this
        exact s_len hE hK ha (by simp) h
      · exact (hF h).elim
    · exact (hF h).elim
  · split at h
    · rename_i x y t0 t1 ha ht
      have := list_two ht; subst this
      split at h
      · rename_i e m b z e1 hk
        cases e2 : E.ti e with
        | mk kind size b2 z2 =>
        simp only [e2] at h
        split at h
        · rename_i hb
          simp only [Bool.and_eq_true] at hb
          exact s_appendX hE hK ha e1 hk e2 (Nat.le_of_ble_eq_true hb.1.1.1) (Nat.le_of_ble_eq_true hb.1.1.2) h
        · exact (hF h).elim
      · rename_i e m b z e1 hk
        cases e2 : E.ti e with
        | mk kind size b2 z2 =>
        simp only [e2] at h
        split at h
        · rename_i hb
          simp only [Bool.and_eq_true] at hb
          split at h
          · rename_i k full k' n hk
            simp only [lenK_eq, setOK_eq] at h
            obtain ⟨hn, hR⟩ := hK _ h
            rw [Nat.zero_add] at hR
            exact ⟨_, _, _, s_appendZ hE ha e1 hk e2 (Nat.le_of_ble_eq_true hb.1.1) (Nat.eq_of_beq_eq_true hb.2) (Nat.le_of_ble_eq_true hb.1.2) hn, hR⟩
          · exact (hF h).elim
        · exact (hF h).elim
      · exact (hF h).elim
    · exact (hF h).elim
  · split at h
    · rename_i nn full es t0 ha ht
      have := list_one ht; subst this
      split at h
      · rename_i e hk
        split at h
        · exact ⟨_, _, _, s_cap hE ha hk (.inl rfl), hK _ h⟩
        · split at h
          · exact ⟨_, _, _, s_cap hE ha hk (.inr ⟨rfl, rfl⟩), hK _ h⟩
          · exact (hF h).elim
      · exact (hF h).elim
    · exact (hF h).elim
  · split at h
    · rename_i k a k' b ha
      split at h
      · rename_i hk; subst hk
        exact ⟨_, _, _, s_min ha, hK _ h⟩
      · exact (hF h).elim
    · exact (hF h).elim
  · split at h
    · rename_i k a k' b ha
      split at h
      · rename_i hk; subst hk
        exact ⟨_, _, _, s_max ha, hK _ h⟩
      · exact (hF h).elim
    · exact (hF h).elim
  · split at h
    · rename_i m k t0 rest ha ht
      split at h
      · rename_i kt vt n b z e1
        split at h
        · rename_i ks hks
          obtain ⟨agg, ks⟩ := ks
          split at h
          · rename_i id
            rw [getOK_eq] at h
            split at h
            · rename_i kt' vt' es ho
              rw [setOK_eq] at h
              obtain ⟨hk, hR⟩ := hK _ h
              exact ⟨_, _, _, s_delete hE hQ ha ht e1 hks ho hk, hR⟩
            · exact (hF h).elim
          · exact (hF h).elim
        · exact (hF h).elim
      · exact (hF h).elim
    · exact (hF h).elim
  · split at h
    · rename_i id ver ha
      rw [getOK_eq] at h
      split at h
      · rename_i T ver' bs ho
        obtain ⟨hv, hR⟩ := hK _ h
        subst hv
        exact ⟨_, _, _, s_sliceData ha ho, hR⟩
      · exact (hF h).elim
    · exact (hF h).elim
  · split at h
    · rename_i id ver n pt it ha ht
      have := list_two ht; subst this
      split at h
      · rename_i e hk
        rw [getOK_eq] at h
        split at h
        · rename_i T ver' bs ho
          split at h
          · rename_i hb
            simp only [Bool.and_eq_true] at hb
            have b1 := Nat.eq_of_beq_eq_true hb.1
            have b2 := Nat.eq_of_beq_eq_true hb.2
            subst b1
            rw [setOK_eq] at h
            obtain ⟨⟨hv, hn, h0, h63⟩, hR⟩ := hK _ h
            subst hv
            exact ⟨_, _, _, s_unsafeString hE ha hk b2 ho hn h0 h63, hR⟩
          · exact (hF h).elim
        · exact (hF h).elim
      · exact (hF h).elim
    · exact (hF h).elim
  · rename_i f
    rw [evK_eq] at h
    split at h
    · rename_i fid first cap hf
      split at h
      · rename_i hne
        split at h
        · rename_i x ha
          exact ⟨_, _, _, s_noesc hQ hne hf ha, hK _ h⟩
        · exact (hF h).elim
      · rw [forceC_eq] at h
        exact s_call hK hf h
    · exact (hF h).elim
  · exact (hF h).elim

theorem recellK_eq {A : Type} (v : AV) (d : List AV) (L : AV → A) : recellK v d L = L (recell v d) := by
  rcases d with _ | ⟨x, _ | ⟨y, r⟩⟩ <;> cases v <;> rfl

theorem v_mapPut (hE : E.Fits P) (hQ : E.EqOk P) (hK : ∀ out, K out → OpHolds P out R) {op : Op} {ty' : TypeId} {m k v : Operand} (hop : op = .mapUpdate ty' m k v ∨ op = .insert ty' m k v) (h : vmapPut E K t s ty' m k v) : Goal P dst op ty pos after guard t s R := by
  have hF : ¬ K .fail := fun h => hK _ h
  unfold vmapPut at h
  split at h
  · rename_i kt vt n b z e1
    split at h
    · rename_i ks hks
      obtain ⟨agg, ks⟩ := ks
      simp only [evK_eq] at h
      split at h
      · rename_i id hm
        rw [getOK_eq] at h
        split at h
        · rename_i kt' vt' es ho
          split at h
          · rename_i hc
            simp only [Bool.and_eq_true, Bool.not_eq_true'] at hc
            rw [nrmLK_eq, freezeK_eq, recellK_eq, setOK_eq] at h
            obtain ⟨hk, hR⟩ := hK _ h
            exact ⟨_, _, _, s_mapPut hE hQ hop e1 hks hm ho hk hc.1 (fun hmem => by rw [List.contains_iff_mem.2 hmem] at hc; exact nomatch hc.2), hR⟩
          · exact (hF h).elim
        · exact (hF h).elim
      · exact (hF h).elim
    · exact (hF h).elim
  · exact (hF h).elim

theorem vval_sound (hE : E.Fits P) (hQ : E.EqOk P) (hK : ∀ out, K out → OpHolds P out R) {op : Op} (h : vval E K dst op t s) : Goal P dst op ty pos after guard t s R := by
  have hF : ¬ K .fail := fun h => hK _ h
  cases op with
  | move x => simp only [vval, evG_eq] at h; exact ⟨_, _, _, s_move (.inl rfl), hK _ h⟩
  | assign x => simp only [vval, evG_eq] at h; exact ⟨_, _, _, s_move (.inr rfl), hK _ h⟩
  | pick c a b => exact v_pick hK h
  | alloc e =>
    simp only [vval] at h
    split at h
    · exact (hF h).elim
    · rename_i k n b z zero e1
      split at h
      · rw [lenK_eq, setOK_eq, Nat.zero_add] at h
        exact ⟨_, _, _, s_allocT hE e1, hK _ h⟩
      · rw [lenK_eq, setOK_eq, Nat.zero_add] at h
        exact ⟨_, _, _, s_alloc hE e1, hK _ h⟩
  | box e x =>
    simp only [vval, evK_eq] at h
    split at h
    · exact (hF h).elim
    · rename_i hd
      rw [forceC_eq, lenK_eq, setOK_eq, Nat.zero_add] at h
      exact ⟨_, _, _, s_box hd, hK _ h⟩
  | build ty' parts => exact v_build hE hK h
  | buildSlice ty' len parts => exact v_buildSlice hE hK h
  | load ty' a =>
    simp only [vval] at h
    cases e1 : E.ti ty' with
    | mk kind size b z =>
    simp only [e1, evK_eq] at h
    exact s_load hE hK e1 h
  | store ty' a v =>
    simp only [vval] at h
    cases e1 : E.ti ty' with
    | mk kind size b z =>
    simp only [e1, evK_eq] at h
    exact s_store hE hK e1 h
  | nilCheck x =>
    simp only [vval, evK_eq] at h
    split at h
    · rename_i id off hx; exact ⟨_, _, _, s_nilCheck hx (.inl ⟨_, _, rfl⟩), hK _ h⟩
    · rename_i id ver esz i off hx; exact ⟨_, _, _, s_nilCheck hx (.inr (.inl ⟨_, _, _, _, _, rfl⟩)), hK _ h⟩
    · rename_i cs off hx; exact ⟨_, _, _, s_nilCheck hx (.inr (.inr ⟨_, _, rfl⟩)), hK _ h⟩
    · exact (hF h).elim
  | binOp op ty' x y _ => simp only [vval, evK_eq] at h; exact s_binOp hE hQ hK h
  | unOp op _ x => simp only [vval, evK_eq] at h; exact s_unOp hK h
  | convert src d x => simp only [vval, evK_eq] at h; exact s_convertU hE hQ hK h
  | makeInterface ty' x =>
    simp only [vval] at h
    split at h
    · exact (hF h).elim
    · exact (hF h).elim
    · rename_i n1 n2
      rw [evK_eq] at h
      cases e1 : E.ti ty' with
      | mk kind size b z =>
      have k1 : kind ≠ .other := by rintro rfl; exact n1 _ _ _ e1
      have k2 : kind ≠ .iface := by rintro rfl; exact n2 _ _ _ e1
      obtain ⟨i, d, zv, h1, h2, h3, h4, h5, h6, h7, h8, h9⟩ := ti_at hE e1 (.inl k1)
      exact ⟨_, _, _, s_makeInterface h2 (h6 ▸ k2), hK _ h⟩
  | makeFunc fn first cap => simp only [vval, evLK_eq] at h; exact ⟨_, _, _, s_makeFunc, hK _ h⟩
  | makeSlice ty' l c => exact v_makeSlice hE hK h
  | slice ty' x lo hi mx => exact v_slice hE hK h
  | fieldAddr ty' x f => exact v_fieldAddr hE hK h
  | field ty' x f => exact v_field hE hK h
  | indexAddr ty' x i => exact v_indexAddr hE hK h
  | index ty' x i => exact v_index hE hK h
  | extract x i =>
    simp only [vval, evK_eq] at h
    split at h
    · rename_i vs hx
      rcases nthK_some (K := K) (vs := vs) (i := i) (L := fun v => K (.ok v s fp0)) with ⟨v, h1, h2⟩ | h2
      · rw [h2] at h; exact ⟨_, _, _, s_extract hx h1, hK _ h⟩
      · rw [h2] at h; exact (hF h).elim
    · exact (hF h).elim
  | call c => exact v_call hE hQ hK h
  | mapUpdate ty' m k v => exact v_mapPut hE hQ hK (.inl rfl) h
  | insert ty' m k v => exact v_mapPut hE hQ hK (.inr rfl) h
  | makeMap ty' r =>
    simp only [vval] at h
    split at h
    · rename_i kt vt n b z e1
      rw [lenK_eq, setOK_eq, Nat.zero_add] at h
      cases r with
      | none => exact ⟨_, _, _, s_makeMap hE e1 (.inl rfl), hK _ h⟩
      | some x =>
        simp only [evK_eq] at h
        split at h
        · rename_i k m hx; exact ⟨_, _, _, s_makeMap hE e1 (.inr ⟨x, k, m, rfl, hx⟩), hK _ h⟩
        · exact (hF h).elim
    · exact (hF h).elim
  | lookup ty' x i ok =>
    simp only [vval] at h
    split at h
    · rename_i kt vt n b z e1
      split at h
      · rename_i ks vk n2 b2 z1 z2 hks e2
        obtain ⟨agg, ks⟩ := ks
        simp only [evK_eq] at h
        rcases mkvK_ok (K := K) (agg := vk.isAgg) (cs := z1 :: z2) (L := fun z => match evV t x with
          | .nilmap => K (.need (hasKs (agg, ks) (evV t i) []) (lookV ok z none) s fp0)
          | .map id => getOK s id fun o => match o with
            | .map _ _ es => K (.look (hasKs (agg, ks) (evV t i) es) (findK (agg, ks) (evV t i) es) (lookV ok z) s ⟨[id], []⟩)
            | _ => K .fail
          | _ => K .fail) with ⟨hz1, hz⟩ | hz
        · erw [hz] at h
          split at h
          · rename_i hx
            obtain ⟨hk, hR⟩ := hK _ h
            exact ⟨_, _, _, s_lookup_nil hE hQ e1 hks e2 hz1 hx hk, hR⟩
          · rename_i id hx
            rw [getOK_eq] at h
            split at h
            · rename_i kt' vt' es ho
              obtain ⟨hk, q, hq, hR⟩ := hK _ h
              exact ⟨_, _, _, s_lookup hE hQ e1 hks e2 hz1 hx ho hk hq, hR⟩
            · exact (hF h).elim
          · exact (hF h).elim
        · erw [hz] at h; exact (hF h).elim
      · exact (hF h).elim
    · exact (hF h).elim
  | _ => exact (hF h).elim

end
end Go.Proofs.YtllpenkgaomdfaaDoor.Vm
/- Regions: operations in the order of the text, or in any order that is open. -/
set_option linter.all false
namespace Go.Proofs.YtllpenkgaomdfaaDoor.Vm
open Go
variable [Tabs]

theorem Rel.of_unkb {g : Gh} {w : World} {x : AV} {v : Value} (h : Rel g w (Vm.unkb x) v) : Rel g w x v := by
  cases x <;> first | exact h | (have := rel_bool h; subst this; exact .kb _)

theorem Rel.sameU {g : Gh} {w : World} {x y : AV} {v : Value} (h : Rel g w x v) (e : Vm.unkb x = Vm.unkb y) : Rel g w y v := .of_unkb (e ▸ h.unkb)

structure SameU (t t' : List AV) : Prop where
  len : t.length = t'.length
  at_ : ∀ i, unkb (t.getD i .dead) = unkb (t'.getD i .dead)

theorem SameU.refl (t : List AV) : SameU t t := ⟨rfl, fun _ => rfl⟩
theorem SameU.trans {t t' t'' : List AV} (h : SameU t t') (h' : SameU t' t'') : SameU t t'' := ⟨h.len.trans h'.len, fun i => (h.at_ i).trans (h'.at_ i)⟩

def GuardYes (all : Array Oper) (o : Oper) (t : List AV) : Prop :=
  match o.guard with
  | none => True
  | some (j, want) => ∃ d, (all[j]?).bind (·.dst) = some d ∧ unkb (t.getD d .dead) = .bool want
def GuardNo (all : Array Oper) (o : Oper) (t : List AV) : Prop :=
  match o.guard with
  | none => False
  | some (j, want) => ∃ d, (all[j]?).bind (·.dst) = some d ∧ (unkb (t.getD d .dead) = .bool (!want) ∨ unkb (t.getD d .dead) = .tuple [])

/-- an operation's part in a region -/
def Done (P : Program) (all : Array Oper) (o : Oper) (t : List AV) (s : List VObj) (v : AV) (s2 : List VObj) (fp : FP) : Prop :=
  (GuardYes all o t ∧ OpSem P o t s v s2 fp) ∨ (GuardNo all o t ∧ v = .tuple [] ∧ s2 = s ∧ fp = fp0)

/-- what a region's first operations have come to, taken in the order of the text -/
structure Hist (P : Program) (all : Array Oper) (n : Nat) (ts : Nat → List AV) (ss : Nat → List VObj) (fp : Nat → FP) : Prop where
  le : n ≤ all.size
  step : ∀ k o, k < n → all[k]? = some o → ∃ v, Done P all o (ts k) (ss k) v (ss (k + 1)) (fp k) ∧ SameU (putT (ts k) o.dst v) (ts (k + 1))

def dstIs (all : Array Oper) (k x : Nat) : Bool := match all[k]? with
  | some o => (match o.dst with | some d => Nat.beq d x | none => false)
  | none => false

theorem putT_len (t : List AV) (d : Option Tmp) (v : AV) : (putT t d v).length = t.length := by cases d <;> simp [putT]
theorem putT_other (t : List AV) (d : Option Tmp) (v : AV) (x : Nat) (h : d ≠ some x) : (putT t d v).getD x .dead = t.getD x .dead := by
  cases d with
  | none => rfl
  | some d =>
    have : d ≠ x := fun e => h (by rw [e])
    simp [putT, List.getElem?_set, this]
theorem putT_same (t : List AV) (v : AV) (x : Nat) (h : x < t.length) : (putT t (some x) v).getD x .dead = v := by simp [putT, h]

section
variable {P : Program} {all : Array Oper} {n : Nat} {ts : Nat → List AV} {ss : Nat → List VObj} {fp : Nat → FP}

theorem Hist.oper (H : Hist P all n ts ss fp) {k : Nat} (hk : k < n) : ∃ o, all[k]? = some o := ⟨_, Array.getElem?_eq_getElem (Nat.lt_of_lt_of_le hk H.le)⟩

theorem Hist.len (H : Hist P all n ts ss fp) : ∀ k, k ≤ n → (ts k).length = (ts 0).length := by
  intro k
  induction k with
  | zero => intro _; rfl
  | succ k ih =>
    intro hk
    obtain ⟨o, ho⟩ := H.oper (show k < n by omega)
    obtain ⟨v, _, h⟩ := H.step k o (by omega) ho
    rw [← h.len, putT_len, ih (by omega)]

theorem Hist.slot (H : Hist P all n ts ss fp) {k x : Nat} (hk : k < n) (h : dstIs all k x = false) : unkb ((ts (k + 1)).getD x .dead) = unkb ((ts k).getD x .dead) := by
  obtain ⟨o, ho⟩ := H.oper hk
  obtain ⟨v, _, hs⟩ := H.step k o hk ho
  rw [← hs.at_, putT_other]
  intro e
  simp [dstIs, ho, e] at h

theorem Hist.obj (H : Hist P all n ts ss fp) {k id : Nat} (hk : k < n) (h : (fp k).wr.contains id = false) : getO (ss (k + 1)) id = getO (ss k) id := by
  obtain ⟨o, ho⟩ := H.oper hk
  obtain ⟨v, hd, _⟩ := H.step k o hk ho
  rcases hd with ⟨_, h1, _⟩ | ⟨_, _, h1, _⟩
  · exact h1 id (by simpa using h)
  · rw [h1]
end

/-- a thing's state behind some of the writes, taken in their order -/
def Vat {α : Type} (val : Nat → α) (p D : Nat → Bool) : Nat → α
  | 0 => val 0
  | n + 1 => if D n && p n then val (n + 1) else Vat val p D n

theorem Vat_at {α : Type} {val : Nat → α} {p D : Nat → Bool} : ∀ {n j : Nat}, (∀ k, k < n → p k = false → val (k + 1) = val k) → j ≤ n → (∀ i, i < j → p i = true → D i = true) → (∀ i, j ≤ i → i < n → D i = true → p i = false) → Vat val p D n = val j := by
  intro n
  induction n with
  | zero => intro j _ hj _ _; have : j = 0 := by omega
            rw [this]; rfl
  | succ n ih =>
    intro j h hj h1 h2
    have h' : ∀ k, k < n → p k = false → val (k + 1) = val k := fun k hk => h k (by omega)
    simp only [Vat]
    by_cases hjn : j = n + 1
    · subst hjn
      cases hp : p n with
      | true => rw [h1 n (by omega) hp]; rfl
      | false =>
        rw [Bool.and_false, h n (by omega) hp]
        exact ih h' (Nat.le_refl _) (fun i hi => h1 i (by omega)) (fun i hi hi' => absurd hi' (by omega))
    · have hd : (D n && p n) = false := by
        cases hD : D n with
        | false => rfl
        | true => rw [h2 n (by omega) (by omega) hD]; rfl
      rw [hd]
      exact ih h' (by omega) h1 (fun i hi hi' => h2 i hi (by omega))

theorem Vat_put {α : Type} {val : Nat → α} {p D : Nat → Bool} {j : Nat} : ∀ {n : Nat}, j < n → (p j = true → (∀ k, j < k → k < n → D k = true → p k = false) → Vat val p (fun i => D i || Nat.beq i j) n = val (j + 1)) ∧ (p j = false → Vat val p (fun i => D i || Nat.beq i j) n = Vat val p D n) := by
  have low : ∀ m, m ≤ j → Vat val p (fun i => D i || Nat.beq i j) m = Vat val p D m := by
    intro m
    induction m with
    | zero => intro _; rfl
    | succ m ih =>
      intro hm
      have : Nat.beq m j = false := by
        cases h : Nat.beq m j with
        | false => rfl
        | true => have := Nat.eq_of_beq_eq_true h; omega
      simp only [Vat, this, Bool.or_false, ih (by omega)]
  intro n
  induction n with
  | zero => intro h; omega
  | succ n ih =>
    intro hj
    by_cases hn : j = n
    · subst hn
      have hb : Nat.beq j j = true := Nat.beq_refl j
      refine ⟨fun hp _ => ?_, fun hp => ?_⟩
      · simp only [Vat, hb, hp, Bool.or_true, Bool.and_true, if_true]
      · simp only [Vat, hp, Bool.and_false, Bool.false_eq_true, if_false, low j (Nat.le_refl _)]
    · have hb : Nat.beq n j = false := by
        cases h : Nat.beq n j with
        | false => rfl
        | true => have := Nat.eq_of_beq_eq_true h; omega
      obtain ⟨i1, i2⟩ := ih (by omega)
      refine ⟨fun hp hl => ?_, fun hp => ?_⟩
      · have : (D n && p n) = false := by
          cases hD : D n with
          | false => rfl
          | true => rw [hl n (by omega) (by omega) hD]; rfl
        simp only [Vat, hb, Bool.or_false, this, Bool.false_eq_true, if_false]
        exact i1 hp fun k h1 h2 => hl k h1 (by omega)
      · simp only [Vat, hb, Bool.or_false, i2 hp]

/-- where a region stands when the operations of D are done -/
structure Inv (B : Nat → Prop) (g0 : Gh) (w0 : World) (all : Array Oper) (n : Nat) (ts : Nat → List AV) (ss : Nat → List VObj) (fp : Nat → FP) (D : Nat → Bool) (a : Act) (w : World) : Prop where
  ex : ∃ g, Ext B g0 w0 g w ∧ RelS B g w (fun id => Vat (fun k => getO (ss k) id) (fun k => (fp k).wr.contains id) D n) ∧
    ∀ x v, a.tmps[x]? = some v → Rel g w (Vat (fun k => unkb ((ts k).getD x .dead)) (fun k => dstIs all k x) D n) v
  size : a.tmps.size = (ts 0).length
  defers : a.defers = []

section
variable {P : Program} {all : Array Oper} {n : Nat} {ts : Nat → List AV} {ss : Nat → List VObj} {fp : Nat → FP} {B : Nat → Prop} {g0 : Gh} {w0 : World} {D : Nat → Bool} {Q : Exit → Act → World → Prop}

theorem eval_rel {g : Gh} {w : World} {t : List AV} {a : Act} {x : Operand} (h : ∀ i, x = .tmp i → ∀ v, a.tmps[i]? = some v → Rel g w (unkb (t.getD i .dead)) v) (hs : a.tmps.size = t.length) : Rel g w (evV t x) (a.eval x) := by
  cases x with
  | tmp i =>
    show Rel g w (unkb (t.getD i .dead)) (a.tmps.getD i undef)
    cases hi : a.tmps[i]? with
    | none =>
      have : t.length ≤ i := by rw [← hs]; exact Array.getElem?_eq_none_iff.1 hi
      rw [show t.getD i .dead = .dead by simp [this]]
      exact .dead _
    | some v =>
      have := h i rfl v hi
      rw [Array.getD_eq_getD_getElem?, hi]; exact this
  | const v => exact (rel_lit v).unkb
  | global g => exact .dead _
  | func f => exact .func (fv := #[]) (cv := #[]) rfl rfl (fun i x v h => by simp at h) (fun i x v h => by simp at h)

theorem put_at (a : Act) (d : Option Tmp) (v : Value) (x : Nat) : (a.put d v).tmps[x]? = if d = some x ∧ x < a.tmps.size then some v else a.tmps[x]? := by
  cases d with
  | none => simp [Act.put]
  | some d =>
    simp only [Act.put, Array.getElem?_setIfInBounds]
    by_cases h : d = x
    · subst h
      by_cases hs : d < a.tmps.size
      · simp [hs]
      · simp [hs]
    · simp [h]
theorem put_size (a : Act) (d : Option Tmp) (v : Value) : (a.put d v).tmps.size = a.tmps.size := by cases d <;> simp [Act.put]
theorem put_defers (a : Act) (d : Option Tmp) (v : Value) : (a.put d v).defers = a.defers := by cases d <;> rfl

/-- D, and one more -/
def and1 (D : Nat → Bool) (j : Nat) : Nat → Bool := fun i => D i || Nat.beq i j

theorem op_step (H : Hist P all n ts ss fp) (hB : ∀ b, w0.heap.size ≤ b → B b) (hTab : Tabs.ok g0.stab w0) {j : Nat} {o : Oper} (hj : j < n) (ho : all[j]? = some o) 
    (hread : ∀ x, (x ∈ looks all o ∨ o.dst = some x) → ∀ i, i < n → dstIs all i x = true → (i < j → D i = true) ∧ (j ≤ i → D i = false))
    (hobj : ∀ id, (id ∈ (fp j).rd ∨ id ∈ (fp j).wr) → ∀ i, i < n → (fp i).wr.contains id = true → (i < j → D i = true) ∧ (j ≤ i → D i = false))
    {a : Act} {w : World} {K : Act → World → Prop} (hI : Inv B g0 w0 all n ts ss fp D a w) (hK : ∀ a w, Inv B g0 w0 all n ts ss fp (and1 D j) a w → K a w) : wpOp P all Q j K a w := by
  obtain ⟨⟨g, hE, hS, hT⟩, hsz, hdf⟩ := hI
  obtain ⟨v, hdone, hsame⟩ := H.step j o hj ho
  -- a slot that the operation looks at
  have hslot : ∀ x, (x ∈ looks all o ∨ o.dst = some x) → Vat (fun k => unkb ((ts k).getD x .dead)) (fun k => dstIs all k x) D n = unkb ((ts j).getD x .dead) := fun x hx =>
    Vat_at (fun k hk hp => H.slot hk hp) (Nat.le_of_lt hj) (fun i hi hp => (hread x hx i (by omega) hp).1 hi) (fun i hi hin hD => by
      cases hp : dstIs all i x with
      | false => rfl
      | true => have := (hread x hx i hin hp).2 hi; rw [hD] at this; exact nomatch this)
  have hσ : ∀ id, (id ∈ (fp j).rd ∨ id ∈ (fp j).wr) → Vat (fun k => getO (ss k) id) (fun k => (fp k).wr.contains id) D n = getO (ss j) id := fun id hx =>
    Vat_at (fun k hk hp => H.obj hk hp) (Nat.le_of_lt hj) (fun i hi hp => (hobj id hx i (by omega) hp).1 hi) (fun i hi hin hD => by
      cases hp : (fp i).wr.contains id with
      | false => rfl
      | true => have := (hobj id hx i hin hp).2 hi; rw [hD] at this; exact nomatch this)
  -- what is so behind the operation
  have hnext : ∀ (g' : Gh) (w' : World) (val : Value), Ext B g w g' w' → RelS B g' w' (over (fun id => Vat (fun k => getO (ss k) id) (fun k => (fp k).wr.contains id) D n) (getO (ss (j + 1))) (fp j).wr) → Rel g' w' (unkb v) val →
      Inv B g0 w0 all n ts ss fp (and1 D j) (a.put o.dst val) w' := fun g' w' val e1 r1 v1 => by
    refine ⟨⟨g', hE.trans e1, ?_, fun x u hu => ?_⟩, (put_size _ _ _).trans hsz, (put_defers _ _ _).trans hdf⟩
    · have : (fun id => Vat (fun k => getO (ss k) id) (fun k => (fp k).wr.contains id) (and1 D j) n) = over (fun id => Vat (fun k => getO (ss k) id) (fun k => (fp k).wr.contains id) D n) (getO (ss (j + 1))) (fp j).wr := by
        funext id
        obtain ⟨q1, q2⟩ := Vat_put (val := fun k => getO (ss k) id) (p := fun k => (fp k).wr.contains id) (D := D) hj
        simp only [over]
        by_cases hm : id ∈ (fp j).wr
        · rw [if_pos hm]
          refine q1 (List.contains_iff_mem.2 hm) fun k hk hkn hD => ?_
          cases hp : (fp k).wr.contains id with
          | false => rfl
          | true => have := (hobj id (.inr hm) k hkn hp).2 (by omega); rw [hD] at this; exact nomatch this
        · rw [if_neg hm]
          exact q2 (by simpa using hm)
      rw [this]; exact r1
    · obtain ⟨q1, q2⟩ := Vat_put (val := fun k => unkb ((ts k).getD x .dead)) (p := fun k => dstIs all k x) (D := D) hj
      rw [put_at] at hu
      by_cases hd : o.dst = some x
      · by_cases hlt : x < a.tmps.size
        · rw [if_pos ⟨hd, hlt⟩] at hu
          cases hu
          have hp : dstIs all j x = true := by simp [dstIs, ho, hd]
          have hv : Vat (fun k => unkb ((ts k).getD x .dead)) (fun k => dstIs all k x) (and1 D j) n = unkb ((ts (j + 1)).getD x .dead) := q1 hp fun k hk hkn hD => by
            cases hp : dstIs all k x with
            | false => rfl
            | true => have := (hread x (.inr hd) k hkn hp).2 (by omega); rw [hD] at this; exact nomatch this
          rw [hv, ← hsame.at_, hd, putT_same _ _ _ (by rw [H.len j (Nat.le_of_lt hj), ← hsz]; exact hlt)]
          exact v1
        · rw [if_neg (fun h => hlt h.2)] at hu
          rw [Array.getElem?_eq_none (by omega)] at hu; exact nomatch hu
      · rw [if_neg (fun h => hd h.1)] at hu
        have hp : dstIs all j x = false := by
          cases h : dstIs all j x with
          | false => rfl
          | true =>
            simp only [dstIs, ho] at h
            split at h
            · rename_i d hd'; rw [Nat.eq_of_beq_eq_true h] at hd'; exact (hd hd').elim
            · exact nomatch h
        have := q2 hp
        show Rel g' w' (Vat (fun k => unkb ((ts k).getD x .dead)) (fun k => dstIs all k x) (fun i => D i || Nat.beq i j) n) u
        rw [this]
        exact (hT x u hu).mono e1
  have hlooks : ∀ i, Operand.tmp i ∈ o.op.operands → i ∈ looks all o := fun i hi => by
    unfold looks
    exact List.mem_append_left _ (List.mem_filterMap.2 ⟨.tmp i, Array.mem_toList_iff.2 hi, rfl⟩)
  have hguard : ∀ jg want d, o.guard = some (jg, want) → (all[jg]?).bind (·.dst) = some d → d ∈ looks all o := fun jg want d h1 h2 => by
    unfold looks
    rw [h1]
    exact List.mem_append_right _ (by simp [h2])
  have hglen : ∀ d, unkb ((ts j).getD d .dead) ≠ .dead → ∃ u, a.tmps[d]? = some u := fun d hne => by
    have : d < (ts j).length := by
      rcases Nat.lt_or_ge d (ts j).length with h | h
      · exact h
      · refine (hne ?_).elim; simp [h]; rfl
    rw [H.len j (Nat.le_of_lt hj), ← hsz] at this
    exact ⟨_, Array.getElem?_eq_getElem this⟩
  unfold wpOp
  rw [ho]
  dsimp only
  rcases hdone with ⟨hg, hop⟩ | ⟨hg, hv, hs2, hfp⟩
  · have hw : Region.wanted o (yielded all a.tmps) = true := by
      unfold Region.wanted
      unfold GuardYes at hg
      split at hg
      · rename_i h; rw [h]
      · rename_i jg want h
        obtain ⟨d, hd, hb⟩ := hg
        rw [h]
        obtain ⟨u, hu⟩ := hglen d (by rw [hb]; nofun)
        have := hT d u hu
        rw [hslot d (.inl (hguard jg want d h hd)), hb] at this
        have := rel_bool this
        subst this
        simp [yielded, hd, hu]
    rw [if_pos hw]
    left
    refine hop.2 B g w a _ K Q (fun b hb => hB b (Nat.le_trans hE.size hb)) (fun x hx => ?_) (fun id hid => hσ id hid) hS (Tabs.ext hTab hE) (fun g' w' val e1 r1 v1 => hK _ _ (hnext g' w' val e1 r1 v1))
    refine eval_rel (fun i hi v hv => ?_) (by rw [hsz, H.len j (Nat.le_of_lt hj)])
    subst hi
    rw [← hslot i (.inl (hlooks i hx))]
    exact hT i v hv
  · have hw : Region.wanted o (yielded all a.tmps) = false := by
      unfold Region.wanted
      unfold GuardNo at hg
      split at hg
      · exact hg.elim
      · rename_i jg want h
        obtain ⟨d, hd, hb⟩ := hg
        rw [h]
        obtain ⟨u, hu⟩ := hglen d (by rcases hb with h | h <;> rw [h] <;> nofun)
        have := hT d u hu
        rw [hslot d (.inl (hguard jg want d h hd))] at this
        rcases hb with hb | hb
        · rw [hb] at this
          have := rel_bool this
          subst this
          cases want <;> simp [yielded, hd, hu]
        · rw [hb] at this
          obtain ⟨vs, _, _, rfl⟩ := inv_tuple this
          simp [yielded, hd, hu]
    rw [hw]
    simp only [Bool.false_eq_true, if_false]
    refine hK _ _ (hnext g w undef (Ext.refl B g w) ?_ (by rw [hv]; exact .tuple rfl fun i x v hi => by simp at hi))
    rw [hfp]
    simp only [fp0, over_nil]
    exact hS

theorem Inv.congr {D' : Nat → Bool} {a : Act} {w : World} (h : Inv B g0 w0 all n ts ss fp D a w) (e : ∀ i, D i = D' i) : Inv B g0 w0 all n ts ss fp D' a w := by
  have : D = D' := funext e
  rw [← this]; exact h

/-- in the order of the text -/
theorem plain_ops (H : Hist P all all.size ts ss fp) (hB : ∀ b, w0.heap.size ≤ b → B b) (hTab : Tabs.ok g0.stab w0) (hQ : ∀ a w, Inv B g0 w0 all all.size ts ss fp (fun i => Nat.blt i all.size) a w → Q .normal a w) :
    ∀ (m k : Nat) (a : Act) (w : World), k + m = all.size → Inv B g0 w0 all all.size ts ss fp (fun i => Nat.blt i k) a w → wpOps P all Q (List.range' k m) a w := by
  intro m
  induction m with
  | zero => intro k a w hk hI; have : k = all.size := by omega
            subst this; exact hQ a w hI
  | succ m ih =>
    intro k a w hk hI
    rw [List.range'_succ, wpOps_cons]
    have hkn : k < all.size := by omega
    refine op_step H hB hTab hkn (Array.getElem?_eq_getElem hkn) (fun x _ i hi _ => ⟨fun h => Nat.ble_eq_true_of_le h, fun h => ?_⟩) (fun id _ i hi _ => ⟨fun h => Nat.ble_eq_true_of_le h, fun h => ?_⟩) hI (fun a w hI' => ih (k + 1) a w (by omega) (hI'.congr fun i => ?_))
    · cases h' : Nat.blt i k with
      | false => exact h'
      | true => have := Nat.le_of_ble_eq_true h'; omega
    · cases h' : Nat.blt i k with
      | false => exact h'
      | true => have := Nat.le_of_ble_eq_true h'; omega
    · show (Nat.blt i k || Nat.beq i k) = Nat.blt i (k + 1)
      rw [Bool.eq_iff_iff, Bool.or_eq_true]
      constructor
      · rintro (h | h)
        · have := Nat.le_of_ble_eq_true h; exact Nat.ble_eq_true_of_le (by omega)
        · have := Nat.eq_of_beq_eq_true h; exact Nat.ble_eq_true_of_le (by omega)
      · intro h
        have := Nat.le_of_ble_eq_true h
        by_cases e : i = k
        · right; subst e; exact Nat.beq_refl i
        · left; exact Nat.ble_eq_true_of_le (by omega)

/- In an open order. -/
theorem allPairs_of {α : Type} {p : Nat → Nat → α → α → Bool} {l : List α} (h : allPairs p l = true) {i j : Nat} {a b : α} (hij : i < j) (ha : l[i]? = some a) (hb : l[j]? = some b) : p i j a b = true := by
  unfold allPairs at h
  rw [List.all_eq_true] at h
  have h1 := h (b, j) (List.mem_zipIdx_iff_getElem?.2 hb)
  rw [List.all_eq_true] at h1
  refine h1 (a, i) (List.mem_zipIdx_iff_getElem?.2 ?_)
  rw [List.getElem?_take, if_pos hij]; exact ha

theorem masks_pre : ∀ (os : List Oper) (acc : List Nat) (k : Nat), k < acc.length → (masks os acc).getD k 0 = acc.getD k 0 := by
  intro os
  induction os with
  | nil => intro acc k _; rfl
  | cons o os ih =>
    intro acc k hk
    simp only [masks]
    rw [ih _ _ (by simp; omega)]
    simp [List.getElem?_append, hk]

theorem masks_at : ∀ (os : List Oper) (acc : List Nat) (k : Nat) (o : Oper), os[k]? = some o → ∃ acc' : List Nat, acc'.length = acc.length + k ∧ (masks os acc).getD (acc.length + k) 0 = maskOf acc' o ∧ ∀ i, i < acc'.length → (masks os acc).getD i 0 = acc'.getD i 0 := by
  intro os
  induction os with
  | nil => intro acc k o h; simp at h
  | cons o' os ih =>
    intro acc k o h
    simp only [masks]
    cases k with
    | zero =>
      simp at h; subst h
      refine ⟨acc, rfl, ?_, fun i hi => ?_⟩
      · rw [masks_pre _ _ _ (by simp)]; simp
      · rw [masks_pre _ _ _ (by simp; omega)]; simp [List.getElem?_append, hi]
    | succ k =>
      obtain ⟨acc', h1, h2, h3⟩ := ih (acc ++ [maskOf acc o']) k o (by simpa using h)
      simp only [List.length_append, List.length_cons, List.length_nil] at h1 h2
      exact ⟨acc', by omega, by rw [show acc.length + (k + 1) = acc.length + (0 + 1) + k by omega]; exact h2, h3⟩

theorem fold_bits (acc : List Nat) (i : Nat) : ∀ (es : List Edge) (s0 : Nat), (es.foldl (fun s e => s ||| 2 ^ e.on ||| acc.getD e.on 0) s0).testBit i = true → s0.testBit i = true ∨ ∃ e ∈ es, e.on = i ∨ (acc.getD e.on 0).testBit i = true := by
  intro es
  induction es with
  | nil => intro s0 h; exact .inl h
  | cons e es ih =>
    intro s0 h
    rcases ih _ h with h | ⟨e', he', h⟩
    · simp only [Nat.testBit_or, Bool.or_eq_true, Nat.testBit_two_pow, decide_eq_true_eq] at h
      rcases h with (h | h) | h
      · exact .inl h
      · exact .inr ⟨e, by simp, .inl h⟩
      · exact .inr ⟨e, by simp, .inr h⟩
    · exact .inr ⟨e', by simp [he'], h⟩

theorem okEdges_of (h : okEdges all = true) {j : Nat} {o : Oper} (ho : all[j]? = some o) : ∀ e ∈ o.after.toList, isGc e = true ∨ e.on < j := by
  intro e he
  unfold okEdges at h
  rw [Bool.and_eq_true, List.all_eq_true] at h
  have h1 := h.1 (o, j) (List.mem_zipIdx_iff_getElem?.2 (by simpa using ho))
  rw [List.all_eq_true] at h1
  have h2 := h1 e he
  simp only [Bool.or_eq_true] at h2
  rcases h2 with h2 | h2
  · exact .inl h2
  · exact .inr (Nat.le_of_ble_eq_true h2)
theorem okEdges_any (h : okEdges all = true) {j : Nat} {o : Oper} (ho : all[j]? = some o) {e : Edge} (he : e ∈ o.after.toList) (ha : anyE e = true) : e.on < j := by
  rcases okEdges_of h ho e he with h | h
  · unfold isGc at h; unfold anyE at ha; revert h ha; cases e.ground <;> simp
  · exact h

theorem befores_bit {i j : Nat} {o : Oper} (ho : all[j]? = some o) (hE : okEdges all = true) (h : ((befores all).getD j 0).testBit i = true) : ∃ e ∈ o.after.toList, anyE e = true ∧ (e.on = i ∨ ((befores all).getD e.on 0).testBit i = true) := by
  obtain ⟨acc', h1, h2, h3⟩ := masks_at all.toList [] j o (by simpa using ho)
  simp only [List.length_nil, Nat.zero_add] at h1 h2
  unfold befores at h ⊢
  rw [h2] at h
  rcases fold_bits acc' i _ _ h with h | ⟨e, q1, q2⟩
  · simp at h
  · obtain ⟨q1, q0⟩ := List.mem_filter.1 q1
    refine ⟨e, q1, q0, q2.imp id fun q => ?_⟩
    rw [h3 e.on (by have := okEdges_any hE ho q1 q0; omega)]; exact q

/-- in each of the orders' modes, some rank rises along the edges that bind -/
theorem okEdges_rank (h : okEdges all = true) (md : Region.Mode) : ∃ r : Nat → Nat, ∀ (j : Nat) (o : Oper), all[j]? = some o → ∀ e ∈ o.after.toList, Region.binds md e = true → r e.on < r j ∧ e.on < all.size := by
  have plain : (∀ (j : Nat) (o : Oper), all[j]? = some o → ∀ e ∈ o.after.toList, Region.binds md e = true → isGc e = false) → ∃ r : Nat → Nat, ∀ (j : Nat) (o : Oper), all[j]? = some o → ∀ e ∈ o.after.toList, Region.binds md e = true → r e.on < r j ∧ e.on < all.size := fun hb => by
    refine ⟨id, fun j o ho e he hbe => ?_⟩
    have hj := (Array.getElem?_eq_some_iff.1 ho).1
    rcases okEdges_of h ho e he with h | h
    · rw [hb j o ho e he hbe] at h; exact nomatch h
    · exact ⟨h, by omega⟩
  cases md with
  | text => exact plain fun j o ho e he hbe => by unfold Region.binds at hbe; unfold isGc; revert hbe; cases e.ground <;> simp <;> decide
  | any => exact plain fun j o ho e he hbe => by unfold Region.binds at hbe; unfold isGc; revert hbe; cases e.ground <;> simp <;> decide
  | gc =>
    have h' := h
    unfold okEdges at h'
    rw [Bool.and_eq_true] at h'
    obtain ⟨_, h2⟩ := h'
    split at h2
    · generalize gcRanks all.toList 60 [] = rk at h2
      refine ⟨fun k => rk.getD k 0, fun j o ho e he hbe => ?_⟩
      unfold gcOk at h2
      rw [List.all_eq_true] at h2
      have h3 := h2 (o, j) (List.mem_zipIdx_iff_getElem?.2 (by simpa using ho))
      rw [List.all_eq_true] at h3
      have h4 := h3 e he
      simp only [Bool.or_eq_true, Bool.and_eq_true] at h4
      rcases h4 with h4 | h4
      · unfold Region.binds at hbe; unfold isText at h4; revert hbe h4; cases e.ground <;> simp <;> decide
      · exact ⟨Nat.le_of_ble_eq_true h4.1, Nat.le_of_ble_eq_true h4.2⟩
    · rename_i hg
      refine plain fun j o ho e he _ => ?_
      cases hi : isGc e with
      | false => rfl
      | true =>
        have : hasGc all = true := by
          unfold hasGc
          refine List.any_eq_true.2 ⟨o, ?_, List.any_eq_true.2 ⟨e, he, hi⟩⟩
          have := List.mem_of_getElem? (l := all.toList) (i := j) (a := o) (by simpa using ho)
          exact this
        rw [this] at hg; exact nomatch hg

/-- whoever is done has all done that stands before it -/
def Closed (all : Array Oper) (D : Nat → Bool) : Prop := ∀ k o, D k = true → all[k]? = some o → ∀ e ∈ o.after.toList, anyE e = true → D e.on = true

theorem closed_bit (hE : okEdges all = true) (hC : Closed all D) : ∀ (j : Nat) (o : Oper) (i : Nat), all[j]? = some o → (∀ e ∈ o.after.toList, anyE e = true → D e.on = true) → ((befores all).getD j 0).testBit i = true → D i = true := by
  intro j
  induction j using Nat.strongRecOn with
  | _ j ih =>
    intro o i ho hd h
    obtain ⟨e, he, hany, h⟩ := befores_bit ho hE h
    have hlt := okEdges_any hE ho he hany
    rcases h with rfl | h
    · exact hd e he hany
    · have hj : j < all.size := (Array.getElem?_eq_some_iff.1 ho).1
      have ho' := Array.getElem?_eq_getElem (show e.on < all.size by omega)
      exact ih e.on hlt _ i ho' (hC e.on _ (hd e he hany) ho') h

theorem apart_of {o o' : Oper} (h : apart all o o' = true) {x : Nat} (hx : o.dst = some x) : x ∉ looks all o' ∧ o'.dst ≠ some x := by
  unfold apart at h
  rw [hx] at h
  simp only [Bool.and_eq_true, Bool.not_eq_true'] at h
  refine ⟨by simpa using h.1, fun e => ?_⟩
  rw [e] at h
  simp at h

theorem meets_not {a b : FP} (h : meets a b = false) {id : Nat} : (a.wr.contains id = true → id ∉ b.rd ∧ id ∉ b.wr) ∧ (b.wr.contains id = true → id ∉ a.rd ∧ id ∉ a.wr) := by
  unfold meets at h
  simp only [Bool.or_eq_false_iff, List.any_eq_false] at h
  obtain ⟨h1, h2⟩ := h
  refine ⟨fun hm => ?_, fun hm => ?_⟩
  · have := h1 id (List.contains_iff_mem.1 hm)
    simp only [Bool.or_eq_true, not_or, List.contains_iff_mem] at this
    exact this
  · have h3 := h2 id (List.contains_iff_mem.1 hm)
    refine ⟨by simpa using h3, fun hw => ?_⟩
    have := h1 id hw
    simp only [Bool.or_eq_true, not_or] at this
    exact this.2 hm

/-- operations that are listed, as they are taken -/
def listedD (listed : Array Bool) : Nat → Bool := fun i => listed.getD i false

theorem drawn_step (H : Hist P all all.size ts ss fp) (hB : ∀ b, w0.heap.size ≤ b → B b) (hTab : Tabs.ok g0.stab w0) (hok : okDraw all = true) (hp : okPairs (befores all) ((List.range all.size).map fp) = true)
    (hC : Closed all D) {j : Nat} {o : Oper} (ho : all[j]? = some o) (hj : D j = false) (hr : ∀ e ∈ o.after.toList, anyE e = true → D e.on = true)
    {a : Act} {w : World} {K : Act → World → Prop} (hI : Inv B g0 w0 all all.size ts ss fp D a w) (hK : ∀ a w, Inv B g0 w0 all all.size ts ss fp (and1 D j) a w → K a w) : wpOp P all Q j K a w := by
  unfold okDraw at hok
  rw [Bool.and_eq_true] at hok
  obtain ⟨hE, hT⟩ := hok
  have hjn : j < all.size := (Array.getElem?_eq_some_iff.1 ho).1
  have hlow : ∀ i, ((befores all).getD j 0).testBit i = true → D i = true := fun i h => closed_bit hE hC j o i ho hr h
  have hhigh : ∀ i oi, all[i]? = some oi → ((befores all).getD i 0).testBit j = true → D i = false := fun i oi hoi h => by
    cases hD : D i with
    | false => rfl
    | true => rw [closed_bit hE hC i oi j hoi (hC i oi hD hoi) h] at hj; exact nomatch hj
  have hslots : ∀ x, (x ∈ looks all o ∨ o.dst = some x) → ∀ i, i < all.size → dstIs all i x = true → (i < j → D i = true) ∧ (j ≤ i → D i = false) := by
    intro x hx i hi hd
    have hoi := Array.getElem?_eq_getElem hi
    have hdi : all[i].dst = some x := by
      simp only [dstIs, hoi] at hd
      split at hd
      · rename_i d h; rw [Nat.eq_of_beq_eq_true hd] at h; exact h
      · exact nomatch hd
    refine ⟨fun hij => ?_, fun hij => ?_⟩
    · have := allPairs_of hT hij ((Array.getElem?_toList).trans hoi) ((Array.getElem?_toList).trans ho)
      simp only [Bool.or_eq_true, Bool.and_eq_true] at this
      rcases this with h | h
      · exact hlow i h
      · obtain ⟨q1, q2⟩ := apart_of h.1 hdi
        rcases hx with hx | hx
        · exact (q1 hx).elim
        · exact (q2 hx).elim
    · by_cases he : i = j
      · rw [he]; exact hj
      · have := allPairs_of hT (show j < i by omega) ((Array.getElem?_toList).trans ho) ((Array.getElem?_toList).trans hoi)
        simp only [Bool.or_eq_true, Bool.and_eq_true] at this
        rcases this with h | h
        · exact hhigh i _ hoi h
        · obtain ⟨q1, q2⟩ := apart_of h.2 hdi
          rcases hx with hx | hx
          · exact (q1 hx).elim
          · exact (q2 hx).elim
  have hfp : ∀ i, i < all.size → ((List.range all.size).map fp)[i]? = some (fp i) := fun i hi => by simp [hi]
  have hobjs : ∀ id, (id ∈ (fp j).rd ∨ id ∈ (fp j).wr) → ∀ i, i < all.size → (fp i).wr.contains id = true → (i < j → D i = true) ∧ (j ≤ i → D i = false) := by
    intro id hid i hi hw
    refine ⟨fun hij => ?_, fun hij => ?_⟩
    · have := allPairs_of hp hij (hfp i hi) (hfp j hjn)
      simp only [Bool.or_eq_true, Bool.not_eq_true'] at this
      rcases this with h | h
      · exact hlow i h
      · obtain ⟨q1, q2⟩ := (meets_not h (id := id)).1 hw
        rcases hid with h | h
        · exact (q1 h).elim
        · exact (q2 h).elim
    · by_cases he : i = j
      · rw [he]; exact hj
      · have := allPairs_of hp (show j < i by omega) (hfp j hjn) (hfp i hi)
        simp only [Bool.or_eq_true, Bool.not_eq_true'] at this
        rcases this with h | h
        · exact hhigh i _ (Array.getElem?_eq_getElem hi) h
        · obtain ⟨q1, q2⟩ := (meets_not h (id := id)).2 hw
          rcases hid with h | h
          · exact (q1 h).elim
          · exact (q2 h).elim
  exact op_step H hB hTab hjn ho hslots hobjs hI hK

theorem listed_put {listed : Array Bool} {i : Nat} (hi : i < listed.size) : ∀ k, and1 (listedD listed) i k = listedD (listed.setIfInBounds i true) k := by
  intro k
  simp only [and1, listedD, Array.getD_eq_getD_getElem?, Array.getElem?_setIfInBounds]
  by_cases h : i = k
  · subst h; simp [hi]
  · have : Nat.beq k i = false := by
      cases h' : Nat.beq k i with
      | false => rfl
      | true => exact (h (Nat.eq_of_beq_eq_true h').symm).elim
    simp [h, this]

theorem drawn_any (H : Hist P all all.size ts ss fp) (hB : ∀ b, w0.heap.size ≤ b → B b) (hTab : Tabs.ok g0.stab w0) (hok : okDraw all = true) (hp : okPairs (befores all) ((List.range all.size).map fp) = true) (md : Region.Mode)
    (hQ : ∀ D a w, (∀ i, i < all.size → D i = true) → Inv B g0 w0 all all.size ts ss fp D a w → Q .normal a w) :
    ∀ (fuel : Nat) (listed : Array Bool) (a : Act) (w : World), listed.size = all.size → ((List.range all.size).filter fun i => !listedD listed i).length ≤ fuel → Closed all (listedD listed) → Inv B g0 w0 all all.size ts ss fp (listedD listed) a w → wpAny P md all Q fuel listed a w := by
  have hE : okEdges all = true := by unfold okDraw at hok; rw [Bool.and_eq_true] at hok; exact hok.1
  have hready : ∀ (listed : Array Bool), listed.size = all.size → Region.ready md all listed = [] → ∀ i, i < all.size → listedD listed i = true := by
    intro listed hsz hr i
    obtain ⟨r, hrk⟩ := okEdges_rank hE md
    induction hri : r i using Nat.strongRecOn generalizing i with
    | _ ri ih =>
      intro hi
      cases hD : listedD listed i with
      | true => rfl
      | false =>
        have ho := Array.getElem?_eq_getElem hi
        have : i ∈ Region.ready md all listed := by
          unfold Region.ready
          refine List.mem_filter.2 ⟨List.mem_range.2 hi, ?_⟩
          have h1 : listed.getD i true = false := by
            unfold listedD at hD
            simp only [Array.getD_eq_getD_getElem?, Array.getElem?_eq_getElem (show i < listed.size by omega)] at hD ⊢
            exact hD
          rw [h1, ho]
          simp only [Bool.not_false, Bool.true_and, Option.map_some, Option.getD_some]
          rw [← Array.all_toList, List.all_eq_true]
          intro e he
          cases hb : Region.binds md e with
          | false => rfl
          | true =>
            have := hrk i _ ho e he hb
            have hl : listed.getD e.on false = true := ih (r e.on) (hri ▸ this.1) e.on rfl this.2
            rw [hl]; rfl
        rw [hr] at this; simp at this
  intro fuel
  induction fuel with
  | zero =>
    intro listed a w hsz hc hC hI
    have hall : ∀ i, i < all.size → listedD listed i = true := fun i hi => by
      cases hD : listedD listed i with
      | true => rfl
      | false =>
        have : i ∈ (List.range all.size).filter fun i => !listedD listed i := List.mem_filter.2 ⟨List.mem_range.2 hi, by rw [hD]; rfl⟩
        rw [List.eq_nil_of_length_eq_zero (Nat.le_zero.1 hc)] at this; simp at this
    refine ⟨?_, hQ _ a w hall hI⟩
    unfold Region.ready
    refine List.filter_eq_nil_iff.2 fun i hi => ?_
    have h := hall i (List.mem_range.1 hi)
    have h1 : listed.getD i true = true := by
      unfold listedD at h
      simp only [Array.getD_eq_getD_getElem?, Array.getElem?_eq_getElem (show i < listed.size by have := List.mem_range.1 hi; omega)] at h ⊢
      exact h
    rw [h1]; simp
  | succ fuel ih =>
    intro listed a w hsz hc hC hI
    refine ⟨fun hr => hQ _ a w (hready listed hsz hr) hI, fun i hi => ?_⟩
    unfold Region.ready at hi
    obtain ⟨h1, h2⟩ := List.mem_filter.1 hi
    have hin := List.mem_range.1 h1
    have ho := Array.getElem?_eq_getElem hin
    rw [ho] at h2
    simp only [Option.map_some, Option.getD_some, Bool.and_eq_true, Bool.not_eq_true'] at h2
    obtain ⟨h2, h3⟩ := h2
    rw [← Array.all_toList, List.all_eq_true] at h3
    have hDi : listedD listed i = false := by
      unfold listedD
      simp only [Array.getD_eq_getD_getElem?, Array.getElem?_eq_getElem (show i < listed.size by omega)] at h2 ⊢
      exact h2
    have hrd : ∀ e ∈ all[i].after.toList, anyE e = true → listedD listed e.on = true := fun e he ha => by
      have := h3 e he
      have hb : Region.binds md e = true := by unfold anyE at ha; unfold Region.binds; revert ha; cases e.ground <;> simp
      rw [hb] at this
      exact this
    have hput := listed_put (listed := listed) (i := i) (by omega)
    refine drawn_step H hB hTab hok hp hC ho hDi hrd hI fun a w hI' => ih _ a w (by simp [hsz]) ?_ ?_ (hI'.congr hput)
    · have hlt : ((List.range all.size).filter fun k => !listedD (listed.setIfInBounds i true) k).length < ((List.range all.size).filter fun k => !listedD listed k).length := by
        have hsub : ((List.range all.size).filter fun k => !listedD (listed.setIfInBounds i true) k) = ((List.range all.size).filter fun k => !listedD listed k).filter fun k => !Nat.beq k i := by
          rw [List.filter_filter]
          refine List.filter_congr fun k _ => ?_
          rw [← hput k]
          simp only [and1]
          cases listedD listed k <;> cases Nat.beq k i <;> rfl
        rw [hsub]
        refine List.length_filter_lt_length_iff_exists.2 ⟨i, List.mem_filter.2 ⟨h1, by rw [hDi]; rfl⟩, ?_⟩
        rw [show Nat.beq i i = true from Nat.beq_refl i]; simp
      omega
    · intro k o hk hok' e he ha
      rw [← hput k] at hk
      rw [← hput e.on]
      simp only [and1, Bool.or_eq_true] at hk ⊢
      rcases hk with hk | hk
      · exact .inl (hC k o hk hok' e he ha)
      · have := Nat.eq_of_beq_eq_true hk
        subst this
        rw [ho] at hok'
        cases hok'
        exact .inl (hrd e he ha)

end
end Go.Proofs.YtllpenkgaomdfaaDoor.Vm
/- Code: what a function's body comes to on abstract states. -/
set_option linter.all false
namespace Go.Proofs.YtllpenkgaomdfaaDoor.Vm
open Go
variable [Tabs]

/-- an abstract state, in the machine -/
structure StRel (B : Nat → Prop) (g0 : Gh) (w0 : World) (g : Gh) (w : World) (t : List AV) (s : List VObj) (a : Act) : Prop where
  ext : Ext B g0 w0 g w
  rs : RelS B g w (getO s)
  rt : RelT g w t a.tmps
  defers : a.defers = []

section
variable {P : Program} {all : Array Oper} {ts : Nat → List AV} {ss : Nat → List VObj} {fp : Nat → FP} {B : Nat → Prop} {g0 : Gh} {w0 : World} {Q : Exit → Act → World → Prop}

theorem inv_start (H : Hist P all all.size ts ss fp) {D : Nat → Bool} (hD : ∀ i, D i = false) {g : Gh} {a : Act} {w : World} (h : StRel B g0 w0 g w (ts 0) (ss 0) a) : Inv B g0 w0 all all.size ts ss fp D a w := by
  refine ⟨⟨g, h.ext, ?_, fun x v hv => ?_⟩, h.rt.size.symm, h.defers⟩
  · have : (fun id => Vat (fun k => getO (ss k) id) (fun k => (fp k).wr.contains id) D all.size) = getO (ss 0) := by
      funext id
      exact Vat_at (j := 0) (fun k hk hp => H.obj hk hp) (Nat.zero_le _) (fun i hi => by omega) (fun i _ _ hd => by rw [hD i] at hd; exact nomatch hd)
    rw [this]; exact h.rs
  · rw [Vat_at (val := fun k => unkb ((ts k).getD x .dead)) (j := 0) (fun k hk hp => H.slot hk hp) (Nat.zero_le _) (fun i hi => by omega) (fun i _ _ hd => by rw [hD i] at hd; exact nomatch hd)]
    have hlt : x < (ts 0).length := by rw [h.rt.size]; exact (Array.getElem?_eq_some_iff.1 hv).1
    have := h.rt.rel x _ v (List.getElem?_eq_getElem hlt) hv
    rw [show (ts 0).getD x .dead = (ts 0)[x] by simp [hlt]]
    exact this.unkb

theorem inv_end (H : Hist P all all.size ts ss fp) {D : Nat → Bool} (hD : ∀ i, i < all.size → D i = true) {a : Act} {w : World} (h : Inv B g0 w0 all all.size ts ss fp D a w) : ∃ g, StRel B g0 w0 g w (ts all.size) (ss all.size) a := by
  obtain ⟨⟨g, hE, hS, hT⟩, hsz, hd⟩ := h
  refine ⟨g, hE, ?_, ⟨(H.len _ (Nat.le_refl _)).trans hsz.symm, fun i x v hx hv => ?_⟩, hd⟩
  · have : (fun id => Vat (fun k => getO (ss k) id) (fun k => (fp k).wr.contains id) D all.size) = getO (ss all.size) := by
      funext id
      exact Vat_at (j := all.size) (fun k hk hp => H.obj hk hp) (Nat.le_refl _) (fun i hi _ => hD i hi) (fun i h1 h2 => by omega)
    rw [← this]; exact hS
  · have := hT i v hv
    rw [Vat_at (val := fun k => unkb ((ts k).getD i .dead)) (j := all.size) (fun k hk hp => H.slot hk hp) (Nat.le_refl _) (fun i hi _ => hD i hi) (fun i h1 h2 => by omega)] at this
    rw [show (ts all.size).getD i .dead = x by simp [hx]] at this
    exact this.of_unkb

theorem StRel.heap {g : Gh} {a : Act} {w w' : World} {t : List AV} {s : List VObj} (h : StRel B g0 w0 g w t s a) (e : w'.heap = w.heap) (l : Low w w') : StRel B g0 w0 g w' t s a :=
  ⟨h.ext.trans (Ext.ofHeap e l), h.rs.heap e l, h.rt.mono (Ext.ofHeap (B := B) e l), h.defers⟩

theorem region_sound {id : Nat} {draw : Bool} (H : Hist P all all.size ts ss fp) (hB : ∀ b, w0.heap.size ≤ b → B b) (hTab : Tabs.ok g0.stab w0) (hok : draw = true → okDraw all = true ∧ okPairs (befores all) ((List.range all.size).map fp) = true)
    {g : Gh} {a : Act} {w : World} (hS : StRel B g0 w0 g w (ts 0) (ss 0) a) (hQ : ∀ g a w, StRel B g0 w0 g w (ts all.size) (ss all.size) a → Q .normal a w) : (Code.region id all draw).wp P Q a w := by
  cases draw with
  | false =>
    refine wp_region ?_
    rw [List.range_eq_range']
    refine plain_ops H hB hTab (fun a w hI => ?_) all.size 0 a w (by omega) (inv_start H (fun i => ?_) hS)
    · obtain ⟨g, h⟩ := inv_end H (fun i hi => Nat.ble_eq_true_of_le hi) hI
      exact hQ g a w h
    · cases h : Nat.blt i 0 with
      | false => exact h
      | true => have := Nat.le_of_ble_eq_true h; omega
  | true =>
    obtain ⟨h1, h2⟩ := hok rfl
    refine wp_region_draw fun t => ?_
    have key : ∀ md t', wpOps P all Q (Region.linearise md all t') a { w with drawn := w.drawn + 1 } := fun md t' => by
      have hf : ∀ i, listedD (Array.replicate all.size false) i = false := fun i => by
        unfold listedD
        rw [Array.getD_eq_getD_getElem?, Array.getElem?_replicate]
        split <;> rfl
      refine wpAny_sound (md := md) all.size t' _ a _ (drawn_any H hB hTab h1 h2 md (fun D a w hD hI => ?_) all.size (Array.replicate all.size false) a _ (by simp) ?_ (fun k o hk => by rw [hf k] at hk; exact nomatch hk) (inv_start H hf (hS.heap rfl ⟨rfl, rfl, rfl⟩)))
      · obtain ⟨g, h⟩ := inv_end H hD hI
        exact hQ g a w h
      · exact Nat.le_trans (List.length_filter_le _ _) (by simp)
    unfold Region.schedule
    split
    · exact key _ _
    · exact key _ _
end

/-- what is still to be done, behind what a piece of code ends in -/
def after (P : Program) (Q : Exit → Act → World → Prop) : List VItem → Exit → Act → World → Prop
  | [] => Q
  | .code c :: r => Exit.then (c.wp P (after P Q r)) (after P Q r)
  | .inBlock id :: r => Exit.inBlock id (after P Q r)
  | .inScope :: r => Exit.noGoto (after P Q r)
  | .ops .. :: r => after P Q r

def isOps : VItem → Bool
  | .ops .. => true
  | _ => false

theorem after_ret {P : Program} {Q : Exit → Act → World → Prop} {a : Act} {w : World} (h : Q .ret a w) : ∀ todo, after P Q todo .ret a w := by
  intro todo
  induction todo with
  | nil => exact h
  | cons x r ih => cases x <;> exact ih

theorem after_exit {P : Program} {Q : Exit → Act → World → Prop} {a : Act} {w : World} {id : Nat} : ∀ todo, (match popTo id todo with
    | some r => after P Q r .normal a w
    | none => Q (.exit id) a w) → after P Q todo (.exit id) a w := by
  intro todo
  induction todo with
  | nil => intro h; exact h
  | cons x r ih =>
    intro h
    cases x with
    | code c => exact ih h
    | ops all draw left fps => exact ih h
    | inScope => exact ih h
    | inBlock id' =>
      show if id = id' then after P Q r .normal a w else after P Q r (.exit id) a w
      simp only [popTo] at h
      by_cases e : id = id'
      · subst e
        rw [if_pos rfl]
        rw [show Nat.beq id id = true from Nat.beq_refl id] at h
        exact h
      · rw [if_neg e]
        have : Nat.beq id' id = false := by
          cases h' : Nat.beq id' id with
          | false => rfl
          | true => exact (e (Nat.eq_of_beq_eq_true h').symm).elim
        rw [this] at h
        exact ih h

/-- the machine's side of what is asked of an abstract end -/
def conc (B : Nat → Prop) (g0 : Gh) (w0 : World) (R : Exit → List AV → List VObj → Prop) (e : Exit) (a : Act) (w : World) : Prop := ∃ t s g, StRel B g0 w0 g w t s a ∧ R e t s

/-- which objects are the function's own: from v on their versions, from l on their places -/
structure NN where
  v : Nat
  l : Nat

/-- where a run may start -/
structure Frm (n : NN) (B : Nat → Prop) (g0 : Gh) (w0 : World) : Prop where
  above : ∀ b, w0.heap.size ≤ b → B b
  ownl : ∀ id, n.l ≤ id → g0.loc id = none
  ownh : ∀ id, n.v ≤ id → g0.hdr id = none
  tab : Tabs.ok g0.stab w0

/-- a region that is under way -/
def Under (P : Program) (all : Array Oper) (left : List Oper) (fps : List FP) (t : List AV) (s : List VObj) (ts : Nat → List AV) (ss : Nat → List VObj) : Prop :=
  ∃ (n : Nat) (fp : Nat → FP), Hist P all n ts ss fp ∧ left = all.toList.drop n ∧ fps.reverse = (List.range n).map fp ∧ ts n = t ∧ ss n = s

/-- all runs from an abstract state on end as R says -/
@[irreducible] def Run (P : Program) (n : NN) (c : Cfg) (R : Exit → List AV → List VObj → Prop) : Prop :=
  c.todo.tail.any isOps = false → ∀ (B : Nat → Prop) (g0 : Gh) (w0 : World), Frm n B g0 w0 →
    match c.todo with
    | .ops all draw left fps :: r => ∀ ts ss, Under P all left fps c.t c.s ts ss → ∀ g a w, StRel B g0 w0 g w (ts 0) (ss 0) a → ∀ id, (Code.region id all draw).wp P (after P (conc B g0 w0 R) r) a w
    | todo => ∀ g a w, StRel B g0 w0 g w c.t c.s a → after P (conc B g0 w0 R) todo .normal a w

/-- a run that stands before a loop -/
@[irreducible] def LoopRun (P : Program) (n : NN) (body : Code) (c : Cfg) (R : Exit → List AV → List VObj → Prop) : Prop := Run P n ⟨c.t, c.s, .code (.loop body) :: c.todo⟩ R

def OutHolds (P : Program) (n : NN) (R : Exit → List AV → List VObj → Prop) : Out → Prop
  | .fail => False
  | .more c => Run P n c R
  | .br b c c' => (b = true → Run P n c R) ∧ (b = false → Run P n c' R)
  | .op o f => OpHolds P o fun v s fp => Run P n (f v s fp) R
  | .loop body c => LoopRun P n body c R
  | .done e t s => R e t s

section
variable {P : Program} {E : Env} {N : NN} {R : Exit → List AV → List VObj → Prop}

theorem any_tail {x : VItem} {r : List VItem} (h : (x :: r).any isOps = false) : r.any isOps = false := by rw [List.any_cons, Bool.or_eq_false_iff] at h; exact h.2
theorem any_cons {x : VItem} {r : List VItem} (hx : isOps x = false) (h : r.any isOps = false) : (x :: r).any isOps = false := by rw [List.any_cons, hx, h]; rfl
theorem any_sub {r : List VItem} (h : r.any isOps = false) : r.tail.any isOps = false := by
  cases r with
  | nil => rfl
  | cons x r => rw [List.any_cons, Bool.or_eq_false_iff] at h; exact h.2

/-- a run whose next item is no region under way -/
theorem run_intro {t : List AV} {s : List VObj} {todo : List VItem} (h : todo.any isOps = false → ∀ (B : Nat → Prop) (g0 : Gh) (w0 : World), Frm N B g0 w0 → ∀ g a w, StRel B g0 w0 g w t s a → after P (conc B g0 w0 R) todo .normal a w)
    (hh : ∀ x r, todo = x :: r → isOps x = false) : Run P N ⟨t, s, todo⟩ R := by
  unfold Run
  intro ht B g0 w0 hf
  cases todo with
  | nil => exact h rfl B g0 w0 hf
  | cons x r =>
    have := any_cons (hh x r rfl) ht
    cases x with
    | ops => exact nomatch hh _ _ rfl
    | code c => exact h this B g0 w0 hf
    | inBlock id => exact h this B g0 w0 hf
    | inScope => exact h this B g0 w0 hf

theorem run_elim {t : List AV} {s : List VObj} {todo : List VItem} (h : Run P N ⟨t, s, todo⟩ R) (ht : todo.any isOps = false) {B : Nat → Prop} {g0 : Gh} {w0 : World} (hf : Frm N B g0 w0) {g : Gh} {a : Act} {w : World} (hS : StRel B g0 w0 g w t s a) :
    after P (conc B g0 w0 R) todo .normal a w := by
  unfold Run at h
  have h := h (any_sub ht) B g0 w0 hf
  cases todo with
  | nil => exact h g a w hS
  | cons x r =>
    cases x with
    | ops => exact nomatch ht
    | code c => exact h g a w hS
    | inBlock id => exact h g a w hS
    | inScope => exact h g a w hS

/-- one more operation of a region is done -/
theorem Under.more {all : Array Oper} {o : Oper} {os : List Oper} {fps : List FP} {t : List AV} {s s2 : List VObj} {ts : Nat → List AV} {ss : Nat → List VObj} {v : AV} {fp : FP} (h : Under P all (o :: os) fps t s ts ss) (hd : Done P all o t s v s2 fp) :
    ∃ ts' ss', ts' 0 = ts 0 ∧ ss' 0 = ss 0 ∧ Under P all os (fp :: fps) (putT t o.dst v) s2 ts' ss' := by
  obtain ⟨n, fpf, H, hl, hf, rfl, rfl⟩ := h
  have hn : n < all.size := by
    rcases Nat.lt_or_ge n all.size with h | h
    · exact h
    · rw [List.drop_eq_nil_of_le (by simpa using h)] at hl; exact nomatch hl
  have hdrop := List.drop_eq_getElem_cons (l := all.toList) (i := n) (by simpa using hn)
  rw [hdrop] at hl
  injection hl with ho hos
  have hoo : all[n]? = some o := by rw [Array.getElem?_eq_getElem hn, ho]; simp
  refine ⟨fun k => if k = n + 1 then putT (ts n) o.dst v else ts k, fun k => if k = n + 1 then s2 else ss k, if_neg (by omega), if_neg (by omega), n + 1, fun k => if k = n then fp else fpf k, ⟨hn, fun k o' hk hok => ?_⟩, hos, ?_, if_pos rfl, if_pos rfl⟩
  · by_cases hkn : k = n
    · subst hkn
      rw [hoo] at hok
      cases hok
      refine ⟨v, ?_, ?_⟩
      · rw [if_neg (by omega), if_neg (by omega), if_pos rfl, if_pos rfl]; exact hd
      · rw [if_neg (by omega), if_pos rfl]; exact .refl _
    · obtain ⟨v', q1, q2⟩ := H.step k o' (by omega) hok
      refine ⟨v', ?_, ?_⟩
      · rw [if_neg (by omega), if_neg (by omega), if_neg (by omega), if_neg hkn]; exact q1
      · rw [if_neg (by omega), if_neg (by omega)]; exact q2
  · rw [List.reverse_cons, hf, List.range_succ, List.map_append]
    congr 1
    · refine List.map_congr_left fun k hk => ?_
      have := List.mem_range.1 hk
      rw [if_neg (by omega)]
    · simp

/-- a guard's value is told -/
theorem Under.told {all : Array Oper} {left : List Oper} {fps : List FP} {t t' : List AV} {s : List VObj} {ts : Nat → List AV} {ss : Nat → List VObj} (h : Under P all left fps t s ts ss) (e : SameU t t') :
    ∃ ts', SameU (ts 0) (ts' 0) ∧ Under P all left fps t' s ts' ss := by
  obtain ⟨n, fpf, H, hl, hf, rfl, rfl⟩ := h
  refine ⟨fun k => if k = n then t' else ts k, ?_, n, fpf, ⟨H.le, fun k o hk ho => ?_⟩, hl, hf, if_pos rfl, rfl⟩
  · by_cases hn : 0 = n
    · subst hn; dsimp only; rw [if_pos rfl]; exact e
    · dsimp only; rw [if_neg hn]; exact .refl _
  · obtain ⟨v, q1, q2⟩ := H.step k o hk ho
    refine ⟨v, by rw [if_neg (by omega)]; exact q1, ?_⟩
    rw [if_neg (by omega)]
    by_cases hk1 : k + 1 = n
    · subst hk1; rw [if_pos rfl]; exact q2.trans e
    · rw [if_neg hk1]; exact q2

theorem StRel.same {B : Nat → Prop} {g0 : Gh} {w0 : World} {g : Gh} {w : World} {t t' : List AV} {s : List VObj} {a : Act} (h : StRel B g0 w0 g w t s a) (e : SameU t t') : StRel B g0 w0 g w t' s a :=
  ⟨h.ext, h.rs, ⟨e.len.symm.trans h.rt.size, fun i x v hx hv => by
    have hlt : i < t.length := by rw [h.rt.size]; exact (Array.getElem?_eq_some_iff.1 hv).1
    have hr := h.rt.rel i _ v (List.getElem?_eq_getElem hlt) hv
    refine hr.sameU ?_
    have := e.at_ i
    simpa [hlt, hx] using this⟩, h.defers⟩

theorem sameU_set {t : List AV} {d : Nat} {b b' : Bool} (h : t.getD d .dead = .bool b) (e : b = b') : SameU t (t.set d (.kb b')) := by
  subst e
  refine ⟨by simp, fun i => ?_⟩
  by_cases hi : d = i
  · subst hi
    have hlt : d < t.length := by
      rcases Nat.lt_or_ge d t.length with h' | h'
      · exact h'
      · simp [h'] at h
    rw [h]; simp [hlt, unkb]
  · simp [List.getElem?_set, hi]

theorem run_done_op {all : Array Oper} {draw : Bool} {o : Oper} {os : List Oper} {fps : List FP} {t : List AV} {s s2 : List VObj} {r : List VItem} {v : AV} {fp : FP} (hd : Done P all o t s v s2 fp)
    (h : Run P N ⟨putT t o.dst v, s2, .ops all draw os (fp :: fps) :: r⟩ R) : Run P N ⟨t, s, .ops all draw (o :: os) fps :: r⟩ R := by
  unfold Run at h ⊢
  intro ht B g0 w0 hf ts ss hU g a w hS id
  obtain ⟨ts', ss', e1, e2, hU'⟩ := hU.more hd
  exact h ht B g0 w0 hf ts' ss' hU' g a w (by rw [e1, e2]; exact hS) id

theorem run_told {all : Array Oper} {draw : Bool} {left : List Oper} {fps : List FP} {t t' : List AV} {s : List VObj} {r : List VItem} (e : SameU t t')
    (h : Run P N ⟨t', s, .ops all draw left fps :: r⟩ R) : Run P N ⟨t, s, .ops all draw left fps :: r⟩ R := by
  unfold Run at h ⊢
  intro ht B g0 w0 hf ts ss hU g a w hS id
  obtain ⟨ts', e1, hU'⟩ := hU.told e
  exact h ht B g0 w0 hf ts' ss hU' g a w (hS.same e1) id

theorem run_ops_end {all : Array Oper} {draw : Bool} {fps : List FP} {t : List AV} {s : List VObj} {r : List VItem} (hok : draw = true → okDraw all = true ∧ okPairs (befores all) fps.reverse = true)
    (h : Run P N ⟨t, s, r⟩ R) : Run P N ⟨t, s, .ops all draw [] fps :: r⟩ R := by
  unfold Run
  intro ht B g0 w0 hf ts ss hU g a w hS id
  obtain ⟨n, fpf, H, hl, hfp, rfl, rfl⟩ := hU
  have hn : n = all.size := by
    have h1 := H.le
    have := congrArg List.length hl
    simp at this; omega
  subst hn
  exact region_sound H hf.above hf.tab (fun hd => by rw [← hfp]; exact hok hd) hS fun g a w hS' => run_elim h ht hf hS'

theorem run_ops_start {all : Array Oper} {draw : Bool} {id : Nat} {t : List AV} {s : List VObj} {r : List VItem} (h : Run P N ⟨t, s, .ops all draw all.toList [] :: r⟩ R) : Run P N ⟨t, s, .code (.region id all draw) :: r⟩ R := by
  refine run_intro (fun ht B g0 w0 hf g a w hS => ?_) (fun x r' e => by cases e; rfl)
  unfold Run at h
  have := h (any_sub (r := .code (.region id all draw) :: r) ht) B g0 w0 hf (fun _ => t) (fun _ => s) ⟨0, fun _ => fp0, ⟨Nat.zero_le _, fun k o hk => by omega⟩, by simp, rfl, rfl, rfl⟩ g a w hS id
  exact wp_mono this fun e a w he => by cases e <;> exact he

theorem evGv_rel {g : Gh} {w : World} {t : List AV} {a : Act} {x : Operand} (h : RelT g w t a.tmps) : Rel g w (evV t x) (a.eval x) :=
  eval_rel (fun i _ v hv => by
    have hlt : i < t.length := by rw [h.size]; exact (Array.getElem?_eq_some_iff.1 hv).1
    have := h.rel i _ v (List.getElem?_eq_getElem hlt) hv
    rw [show t.getD i .dead = t[i] by simp [hlt]]
    exact this.unkb) h.size.symm

theorem guard_of {all : Array Oper} {o : Oper} {j d : Nat} {want b : Bool} {t : List AV} (hg : o.guard = some (j, want)) (hd : (all[j]?).bind (·.dst) = some d) (h : t.getD d .dead = .kb b) :
    (Bool.xor b want = false → GuardYes all o t) ∧ (Bool.xor b want = true → GuardNo all o t) := by
  unfold GuardYes GuardNo
  rw [hg]
  refine ⟨fun h' => ⟨d, hd, ?_⟩, fun h' => ⟨d, hd, .inl ?_⟩⟩
  · rw [h]; cases b <;> cases want <;> first | rfl | exact nomatch h'
  · rw [h]; cases b <;> cases want <;> first | rfl | exact nomatch h'

theorem putK_eq {A : Type} (t : List AV) (d : Option Tmp) (v : AV) (K : List AV → A) : putK t d v K = K (putT t d v) := by
  cases d with
  | none => rfl
  | some i => simp only [putK, putT, setS_eq]

/-- the evaluator of code is sound -/
theorem vrun_sound (hE : E.Fits P) (hQ : E.EqOk P) : ∀ (n : Nat) (t : List AV) (s : List VObj) (todo : List VItem), vrun E n t s todo (OutHolds P N R) → Run P N ⟨t, s, todo⟩ R := by
  intro n
  induction n with
  | zero => intro t s todo h; exact h
  | succ n ih =>
    intro t s todo h
    have hops : ∀ (all : Array Oper) (draw : Bool) (o : Oper) (os : List Oper) (fps : List FP) (todo : List VItem), GuardYes all o t →
        vval E (fun out => match out with
          | .ok v s' fp => putK t o.dst v fun t' => vrun E n t' s' (.ops all draw os (fp :: fps) :: todo) (OutHolds P N R)
          | .fail => OutHolds P N R .fail
          | out => OutHolds P N R (.op out fun v s' fp => ⟨putT t o.dst v, s', .ops all draw os (fp :: fps) :: todo⟩)) o.dst o.op t s → Run P N ⟨t, s, .ops all draw (o :: os) fps :: todo⟩ R := by
      intro all draw o os fps todo hg h
      obtain ⟨v, s2, fp, hop, hR⟩ := vval_sound (ty := o.type) (pos := o.pos) (after := o.after) (guard := o.guard) (R := fun v s' fp => Run P N ⟨putT t o.dst v, s', .ops all draw os (fp :: fps) :: todo⟩ R) hE hQ (fun out hout => by
        cases out with
        | ok v s' fp =>
          dsimp only at hout
          rw [putK_eq] at hout
          exact ih _ _ _ hout
        | fail => exact hout
        | need p v s fp => exact hout
        | look p r f s fp => exact hout
        | br b v v' s => exact hout
        | idx p es i m f fp => exact hout
        | sidx b i s => exact hout
        | cas m i f s => exact hout
        | call fid args s => exact hout) h
      exact run_done_op (.inl ⟨hg, hop⟩) hR
    cases todo with
    | nil =>
      refine run_intro (fun _ B g0 w0 hf g a w hS => ⟨t, s, g, hS, h⟩) (fun x r e => nomatch e)
    | cons x todo =>
      cases x with
      | inBlock id =>
        refine run_intro (fun ht B g0 w0 hf g a w hS => ?_) (fun x r' e => by cases e; rfl)
        exact run_elim (ih t s todo h) (any_tail ht) hf hS
      | inScope =>
        refine run_intro (fun ht B g0 w0 hf g a w hS => ?_) (fun x r' e => by cases e; rfl)
        exact run_elim (ih t s todo h) (any_tail ht) hf hS
      | ops all draw left fps =>
        cases left with
        | nil =>
          cases draw with
          | false => exact run_ops_end (fun h => nomatch h) (ih t s todo h)
          | true =>
            simp only [vrun] at h
            split at h
            · rename_i hok
              rw [Bool.and_eq_true] at hok
              exact run_ops_end (fun _ => hok) (ih t s todo h)
            · exact h.elim
        | cons o os =>
          simp only [vrun] at h
          split at h
          · rename_i hg
            exact hops all draw o os fps todo (by unfold GuardYes; rw [hg]; trivial) h
          · rename_i j want hg
            split at h
            · exact h.elim
            · rename_i d hd
              rw [getS_eq] at h
              split at h
              · rename_i b hb
                obtain ⟨g1, g2⟩ := guard_of hg hd hb
                split at h
                · rename_i hx; exact hops all draw o os fps todo (g1 hx) h
                · rename_i hx
                  rw [putK_eq] at h
                  exact run_done_op (.inr ⟨g2 hx, rfl, rfl, rfl⟩) (ih _ _ _ h)
              · rename_i b hb
                obtain ⟨h1, h2⟩ := h
                cases b with
                | true => exact run_told (sameU_set hb rfl) (h1 rfl)
                | false => exact run_told (sameU_set hb rfl) (h2 rfl)
              · rename_i hb
                rw [putK_eq] at h
                refine run_done_op (.inr ⟨?_, rfl, rfl, rfl⟩) (ih _ _ _ h)
                unfold GuardNo
                rw [hg]
                exact ⟨d, hd, .inr (by rw [hb]; rfl)⟩
              · exact h.elim
      | code c =>
        cases c with
        | skip =>
          refine run_intro (fun ht B g0 w0 hf g a w hS => wp_skip ?_) (fun x r' e => by cases e; rfl)
          exact run_elim (ih t s todo h) (any_tail ht) hf hS
        | region id all draw => exact run_ops_start (ih t s _ h)
        | seq x y =>
          refine run_intro (fun ht B g0 w0 hf g a w hS => ?_) (fun x r' e => by cases e; rfl)
          have := run_elim (ih t s _ h) (todo := .code x :: .code y :: todo) (any_cons rfl (any_cons rfl (any_tail ht))) hf hS
          refine wp_seq (wp_mono this fun e a w he => ?_)
          cases e <;> first | exact he | exact wp_mono he fun e a w he => by cases e <;> exact he
        | cond c x y =>
          simp only [vrun, evG_eq] at h
          have hc := unkb_evGv t c
          have hc2 : ∀ (g : Gh) (w : World) (a : Act), RelT g w t a.tmps → Rel g w (evV t c) (a.eval c) := fun g w a hr => evGv_rel hr
          split at h
          · rename_i b hb
            rw [hb] at hc
            split at h
            · refine run_intro (fun ht B g0 w0 hf g a w hS => ?_) (fun x r' e => by cases e; rfl)
              have hv := hc2 g w a hS.rt
              rw [← hc] at hv
              have := run_elim (ih t s _ h) (todo := .code x :: todo) (any_cons rfl (any_tail ht)) hf hS
              exact wp_mono (wp_cond_true (rel_bool hv) this) fun e a w he => by cases e <;> exact he
            · refine run_intro (fun ht B g0 w0 hf g a w hS => ?_) (fun x r' e => by cases e; rfl)
              have hv := hc2 g w a hS.rt
              rw [← hc] at hv
              have := run_elim (ih t s _ h) (todo := .code y :: todo) (any_cons rfl (any_tail ht)) hf hS
              exact wp_mono (wp_cond_false (rel_bool hv) this) fun e a w he => by cases e <;> exact he
          · rename_i b hb
            rw [hb] at hc
            obtain ⟨h1, h2⟩ := h
            refine run_intro (fun ht B g0 w0 hf g a w hS => ?_) (fun x r' e => by cases e; rfl)
            have hv := hc2 g w a hS.rt
            rw [← hc] at hv
            cases b with
            | true =>
              have := run_elim (h1 rfl) (todo := .code x :: todo) (any_cons rfl (any_tail ht)) hf hS
              exact wp_mono (wp_cond_true (rel_bool hv) this) fun e a w he => by cases e <;> exact he
            | false =>
              have := run_elim (h2 rfl) (todo := .code y :: todo) (any_cons rfl (any_tail ht)) hf hS
              exact wp_mono (wp_cond_false (rel_bool hv) this) fun e a w he => by cases e <;> exact he
          · exact h.elim
        | block id b =>
          refine run_intro (fun ht B g0 w0 hf g a w hS => ?_) (fun x r' e => by cases e; rfl)
          have := run_elim (ih t s _ h) (todo := .code b :: .inBlock id :: todo) (any_cons rfl (any_cons rfl (any_tail ht))) hf hS
          have hb : (Code.block id b).wp P (after P (conc B g0 w0 R) todo) a w := wp_block (wp_mono this fun e a w he => by cases e <;> exact he)
          exact wp_mono hb fun e a w he => by cases e <;> exact he
        | scope b =>
          refine run_intro (fun ht B g0 w0 hf g a w hS => ?_) (fun x r' e => by cases e; rfl)
          have := run_elim (ih t s _ h) (todo := .code b :: .inScope :: todo) (any_cons rfl (any_cons rfl (any_tail ht))) hf hS
          have hb : (Code.scope b).wp P (after P (conc B g0 w0 R) todo) a w := wp_scope_straight (wp_mono this fun e a w he => by cases e <;> exact he)
          exact wp_mono hb fun e a w he => by cases e <;> exact he
        | label l =>
          refine run_intro (fun ht B g0 w0 hf g a w hS => wp_label ?_) (fun x r' e => by cases e; rfl)
          exact run_elim (ih t s todo h) (any_tail ht) hf hS
        | loop b =>
          have h : LoopRun P N b ⟨t, s, todo⟩ R := h
          unfold LoopRun at h
          exact h
        | exit id =>
          refine run_intro (fun ht B g0 w0 hf g a w hS => wp_exit ?_) (fun x r' e => by cases e; rfl)
          simp only [vrun] at h
          show after P (conc B g0 w0 R) todo (.exit id) a w
          refine after_exit todo ?_
          have hp : ∀ (todo r : List VItem), popTo id todo = some r → todo.any isOps = false → r.any isOps = false := by
            intro todo
            induction todo with
            | nil => intro r h; exact nomatch h
            | cons x todo ih2 =>
              intro r h hh
              rw [List.any_cons, Bool.or_eq_false_iff] at hh
              cases x with
              | inBlock id' =>
                simp only [popTo] at h
                split at h
                · cases h; exact hh.2
                · exact ih2 r h hh.2
              | _ => exact ih2 r h hh.2
          split at h
          · rename_i r hr
            rw [hr]
            exact run_elim (ih t s r h) (hp todo r hr (any_tail ht)) hf hS
          · rename_i hr
            rw [hr]
            exact ⟨t, s, g, hS, h⟩
        | ret =>
          refine run_intro (fun ht B g0 w0 hf g a w hS => wp_ret ?_) (fun x r' e => by cases e; rfl)
          exact after_ret ⟨t, s, g, hS, h⟩ todo
        | _ => exact h.elim

end
end Go.Proofs.YtllpenkgaomdfaaDoor.Vm
/- Steps of a run, weaker states, loops. -/
set_option linter.all false
namespace Go.Proofs.YtllpenkgaomdfaaDoor.Vm
open Go
variable [Tabs]

theorem forceS_eq {A : Type} (s : List VObj) (k : List VObj → A) : forceS s k = k s := by
  induction s generalizing k with
  | nil => rfl
  | cons o os ih => cases o <;> simp only [forceS, forceC_eq, forceL_eq, ih]

section
variable {P : Program} {E : Env} {N : NN} {R : Exit → List AV → List VObj → Prop}

theorem run_step (hE : E.Fits P) (hQ : E.EqOk P) (fuel : Nat) {c : Cfg} (h : vrunC E fuel c (OutHolds P N R)) : Run P N c R := by
  obtain ⟨t, s, todo⟩ := c
  simp only [vrunC, forceC_eq, forceS_eq] at h
  exact vrun_sound hE hQ fuel t s todo h

/-- a state says no more than another one -/
def Weak (N : NN) (t : List AV) (s : List VObj) (t' : List AV) (s' : List VObj) : Prop :=
  ∀ (B : Nat → Prop) (g0 : Gh) (w0 : World), Frm N B g0 w0 → ∀ g a w, StRel B g0 w0 g w t s a → ∃ g', StRel B g0 w0 g' w t' s' a

theorem Weak.refl (t : List AV) (s : List VObj) : Weak N t s t s := fun _ _ _ _ g _ _ h => ⟨g, h⟩
theorem Weak.trans {t t' t'' : List AV} {s s' s'' : List VObj} (h : Weak N t s t' s') (h' : Weak N t' s' t'' s'') : Weak N t s t'' s'' := fun B g0 w0 hf g a w hS =>
  let ⟨g', hS'⟩ := h B g0 w0 hf g a w hS
  h' B g0 w0 hf g' a w hS'

theorem run_weak {t t' : List AV} {s s' : List VObj} {todo : List VItem} (hw : Weak N t s t' s') (hh : ∀ x r, todo = x :: r → isOps x = false) (h : Run P N ⟨t', s', todo⟩ R) : Run P N ⟨t, s, todo⟩ R :=
  run_intro (fun ht B g0 w0 hf g a w hS => let ⟨_, hS'⟩ := hw B g0 w0 hf g a w hS; run_elim h ht hf hS') hh

theorem run_mono {c : Cfg} {R' : Exit → List AV → List VObj → Prop} (h : Run P N c R) (hR : ∀ e t s, R e t s → R' e t s) : Run P N c R' := by
  have hc : ∀ B g0 w0 e a w, conc B g0 w0 R e a w → conc B g0 w0 R' e a w := fun B g0 w0 e a w ⟨t, s, g, h1, h2⟩ => ⟨t, s, g, h1, hR e t s h2⟩
  have ha : ∀ B g0 w0 todo e a w, after P (conc B g0 w0 R) todo e a w → after P (conc B g0 w0 R') todo e a w := by
    intro B g0 w0 todo
    induction todo with
    | nil => exact hc B g0 w0
    | cons x r ih =>
      intro e a w h
      cases x with
      | ops => exact ih e a w h
      | code c => cases e <;> first | exact ih _ a w h | exact wp_mono h ih
      | inBlock id =>
        cases e with
        | exit id' =>
          simp only [after, Exit.inBlock] at h ⊢
          split
          · rename_i hh; rw [if_pos hh] at h; exact ih _ a w h
          · rename_i hh; rw [if_neg hh] at h; exact ih _ a w h
        | _ => exact ih _ a w h
      | inScope => cases e <;> first | exact ih _ a w h | exact h.elim
  unfold Run at h ⊢
  intro ht B g0 w0 hf
  have h := h ht B g0 w0 hf
  obtain ⟨t, s, todo⟩ := c
  cases todo with
  | nil => exact fun g a w hS => ha B g0 w0 _ _ _ _ (h g a w hS)
  | cons x r =>
    cases x with
    | ops => exact fun ts ss hU g a w hS id => wp_mono (h ts ss hU g a w hS id) (ha B g0 w0 r)
    | code c => exact fun g a w hS => ha B g0 w0 _ _ _ _ (h g a w hS)
    | inBlock id => exact fun g a w hS => ha B g0 w0 _ _ _ _ (h g a w hS)
    | inScope => exact fun g a w hS => ha B g0 w0 _ _ _ _ (h g a w hS)

/-- what a loop's body may end in -/
def LoopR (P : Program) (N : NN) (todo : List VItem) (R : Exit → List AV → List VObj → Prop) (again : List AV → List VObj → Prop) : Exit → List AV → List VObj → Prop
  | .normal, t, s => again t s
  | .exit id, t, s => match popTo id todo with
    | some r => Run P N ⟨t, s, r⟩ R
    | none => R (.exit id) t s
  | .ret, t, s => R .ret t s
  | _, _, _ => False

theorem run_loop {ι : Type} (T : ι → List AV) (S : ι → List VObj) (μ : ι → Nat) (i0 : ι) {t : List AV} {s : List VObj} {body : Code} {todo : List VItem} (h0 : Weak N t s (T i0) (S i0))
    (round : ∀ i, Run P N ⟨T i, S i, [.code body]⟩ (LoopR P N todo R fun t' s' => ∃ j, μ j < μ i ∧ Weak N t' s' (T j) (S j))) : Run P N ⟨t, s, .code (.loop body) :: todo⟩ R := by
  refine run_intro (fun ht B g0 w0 hf g a w hS => ?_) (fun x r' e => by cases e; rfl)
  have htl : todo.any isOps = false := any_tail ht
  have hp : ∀ (id : Nat) (todo r : List VItem), popTo id todo = some r → todo.any isOps = false → r.any isOps = false := by
    intro id todo
    induction todo with
    | nil => intro r h; exact nomatch h
    | cons x todo ih2 =>
      intro r h hh
      rw [List.any_cons, Bool.or_eq_false_iff] at hh
      cases x with
      | inBlock id' =>
        simp only [popTo] at h
        split at h
        · cases h; exact hh.2
        · exact ih2 r h hh.2
      | _ => exact ih2 r h hh.2
  show (Code.loop body).wp P (after P (conc B g0 w0 R) todo) a w
  obtain ⟨g1, hS1⟩ := h0 B g0 w0 hf g a w hS
  intro b k cs
  have key : ∀ n i g a w, μ i = n → StRel B g0 w0 g w (T i) (S i) a →
      ∃ e a' w', after P (conc B g0 w0 R) todo e a' w' ∧ Arrives P (lone (b.at a (.code body :: .inLoop body :: k)) cs w) b k cs e a' w' := by
    intro n
    induction n using Nat.strongRecOn with
    | _ n ih =>
      intro i g a w hn hSi
      have hb : body.wp P (conc B g0 w0 _) a w := wp_mono (run_elim (round i) (by rfl) hf hSi) fun e a w he => by cases e <;> exact he
      obtain ⟨e, a₁, w₁, ⟨t1, s1, g2, hS2, hq⟩, harr⟩ := hb b (.inLoop body :: k) cs
      cases e with
      | normal =>
        obtain ⟨j, hlt, hw⟩ := hq
        obtain ⟨g3, hS3⟩ := hw B g0 w0 hf g2 a₁ w₁ hS2
        obtain ⟨e₂, a₂, w₂, hq₂, harr₂⟩ := ih (μ j) (hn ▸ hlt) j g3 a₁ w₁ rfl hS3
        exact ⟨e₂, a₂, w₂, hq₂, .of_steps (Steps.trans harr (.one step_inLoop)) harr₂⟩
      | exit id =>
        refine ⟨_, a₁, w₁, ?_, .pass (x := .inLoop body) rfl (fun _ _ => .inl (by simp)) harr⟩
        show after P (conc B g0 w0 R) todo (.exit id) a₁ w₁
        refine after_exit todo ?_
        simp only [LoopR] at hq
        split at hq
        · rename_i r hr
          try rw [hr]
          exact run_elim hq (hp id todo r hr htl) hf hS2
        · rename_i hr
          try rw [hr]
          exact ⟨t1, s1, g2, hS2, hq⟩
      | ret => exact ⟨_, a₁, w₁, after_ret ⟨t1, s1, g2, hS2, hq⟩ todo, .pass (x := .inLoop body) rfl (fun _ _ => .inl (by simp)) harr⟩
      | _ => exact hq.elim
  obtain ⟨e, a', w', hq, harr⟩ := key _ i0 g1 a w rfl hS1
  exact ⟨e, a', w', hq, .of_steps (.one step_loop) harr⟩

theorem loop_rule {ι : Type} (T : ι → List AV) (S : ι → List VObj) (μ : ι → Nat) (i0 : ι) {t : List AV} {s : List VObj} {body : Code} {todo : List VItem} (h0 : Weak N t s (T i0) (S i0))
    (round : ∀ i, Run P N ⟨T i, S i, [.code body]⟩ (LoopR P N todo R fun t' s' => ∃ j, μ j < μ i ∧ Weak N t' s' (T j) (S j))) : LoopRun P N body ⟨t, s, todo⟩ R := by
  unfold LoopRun
  exact run_loop T S μ i0 h0 round

/-- slots that are let go -/
theorem weak_drop {t t' : List AV} {s : List VObj} (hl : t.length = t'.length) (h : ∀ (i : Nat) (x : AV), t'[i]? = some x → x = AV.dead ∨ t[i]? = some x) : Weak N t s t' s := fun B g0 w0 hf g a w hS =>
  ⟨g, hS.ext, hS.rs, ⟨hl.symm.trans hS.rt.size, fun i x v hx hv => by
    rcases h i x hx with rfl | h
    · exact .dead v
    · exact hS.rt.rel i x v h hv⟩, hS.defers⟩

def maskT (keep : List Nat) : Nat → List AV → List AV
  | _, [] => []
  | i, x :: t => (match keep.contains i with | true => x | false => .dead) :: maskT keep (i + 1) t

theorem maskT_len (keep : List Nat) : ∀ (t : List AV) (i : Nat), (maskT keep i t).length = t.length := by
  intro t; induction t with
  | nil => intro i; rfl
  | cons x t ih => intro i; simp [maskT, ih]
theorem maskT_get (keep : List Nat) : ∀ (t : List AV) (i k : Nat) (x : AV), (maskT keep i t)[k]? = some x → x = .dead ∨ t[k]? = some x := by
  intro t; induction t with
  | nil => intro i k x h; simp [maskT] at h
  | cons y t ih =>
    intro i k x h
    cases k with
    | zero =>
      simp only [maskT, List.getElem?_cons_zero, Option.some.injEq] at h
      split at h
      · right; rw [← h]; rfl
      · left; exact h.symm
    | succ k => exact ih (i + 1) k x (by simpa [maskT] using h)

theorem weak_mask (keep : List Nat) (t : List AV) (s : List VObj) : Weak N t s (maskT keep 0 t) s := weak_drop (maskT_len keep t 0).symm (maskT_get keep t 0)

end

section
variable {N : Nat}
/-- a leaf, when the objects from n on are let go and the versions of the function's own ones start anew -/
def revL (N n : Nat) (s : List VObj) : AV → AV
  | .sall id ver => match Nat.blt id N with
    | true => .sall id ver
    | false => match Nat.blt id n, getO s id with
      | true, .arr ver' _ _ _ _ => match Nat.beq ver ver' with
        | true => .sall id 0
        | false => .dead
      | true, .buf _ ver' _ => match Nat.beq ver ver' with
        | true => .sall id 0
        | false => .dead
      | _, _ => .dead
  | .sref id ver esz off len => match Nat.blt id N with
    | true => .sref id ver esz off len
    | false => match Nat.blt id n, getO s id with
      | true, .arr ver' _ _ _ _ => match Nat.beq ver ver' with
        | true => .sref id 0 esz off len
        | false => .dead
      | _, _ => .dead
  | .eptr id ver esz i off => match Nat.blt id N with
    | true => .eptr id ver esz i off
    | false => match Nat.blt id n, getO s id with
      | true, .arr ver' _ _ _ _ => match Nat.beq ver ver' with
        | true => .eptr id 0 esz i off
        | false => .dead
      | _, _ => .dead
  | .ptr id off => match Nat.blt id n with
    | true => .ptr id off
    | false => .dead
  | .map id => match Nat.blt id n with
    | true => .map id
    | false => .dead
  | .vptr .. => .dead
  | .func .. => .dead
  | .iface .. => .dead
  | .agg _ => .dead
  | .tuple _ => .dead
  | .kb b => .bool b
  | v => v

/-- .. and what is made of leaves -/
def rev1 (N n : Nat) (s : List VObj) : AV → AV
  | .agg cs => .agg (cs.map (revL N n s))
  | .tuple cs => .tuple (cs.map (revL N n s))
  | .func fn first cap => .func fn (first.map (revL N n s)) (cap.map (revL N n s))
  | .iface t x => .iface t (revL N n s x)
  | .vptr cs off => .vptr (cs.map (revL N n s)) off
  | v => revL N n s v

def revO (N n : Nat) (s : List VObj) (id : Nat) : VObj → VObj
  | .box cs fz => .box (cs.map (rev1 N n s)) fz
  | .arr ver esz nn es fz => .arr (match Nat.blt id N with | true => ver | false => 0) esz nn es fz
  | .tbox T cs => .tbox T (cs.map (rev1 N n s))
  | .buf T ver bs => .buf T (match Nat.blt id N with | true => ver | false => 0) bs
  | .spent ver => .spent (match Nat.blt id N with | true => ver | false => 0)
  | o => o

def revS (N n : Nat) (s : List VObj) : Nat → Nat → List VObj → List VObj
  | 0, _, _ => []
  | _, _, [] => []
  | m + 1, i, o :: os => revO N n s i o :: revS N n s m (i + 1) os

def revG (N n : Nat) (g : Gh) : Gh :=
  { loc := fun id => if id < n then g.loc id else none
    hdr := fun id => if id < n then (if id < N then g.hdr id else (g.hdr id).map fun p => (0, p.2)) else none
    stab := g.stab }

/-- a cell that leads into no object needs the stable cells alone -/
theorem Rel.pureG {g g' : Gh} {w : World} (hs : ∀ b o, g.stab b o → g'.stab b o) {x : AV} {v : Value} (h : Rel g w x v) (hp : x.pure = true) : Rel g' w x v := by
  induction h with
  | dead v => exact .dead v
  | bool b => exact .bool b
  | kb b => exact .kb b
  | int k n => exact .int k n
  | str s => exact .str s
  | nilptr => exact .nilptr
  | slnil h h' => exact .slnil h h'
  | sl vs h0 h1 h2 h3 h4 h5 h6 ih => exact .sl vs h0 h1 h2 h3 h4 (fun i c j x hi hj => ih i c j x hi hj (h3 c (List.mem_of_getElem? hi) x (List.mem_of_getElem? hj))) (fun i c j hi hj => hs _ _ (h6 i c j hi hj))
  | nilmap => exact .nilmap
  | nilfunc => exact .nilfunc
  | nilif => exact .nilif
  | _ => exact nomatch hp

theorem Rel.flatG {g g' : Gh} {w : World} (hs : ∀ b o, g.stab b o → g'.stab b o) {x : AV} {v : Value} (h : Rel g w x v) (hp : x.flat = true) : Rel g' w x v := by
  cases x with
  | agg cs =>
    obtain ⟨vs, h1, h2, rfl⟩ := inv_agg h
    exact .agg h1 fun i x v hx hv => (h2 i x v hx hv).pureG hs (List.all_eq_true.1 hp x (List.mem_of_getElem? hx))
  | _ => exact h.pureG hs hp

theorem getO_revS (n : Nat) (s : List VObj) : ∀ (m i : Nat) (os : List VObj) (k : Nat), getO (revS N n s m i os) k = if k < m then revO N n s (i + k) (getO os k) else .gone := by
  intro m
  induction m with
  | zero => intro i os k; simp [revS, getO]
  | succ m ih =>
    intro i os k
    cases os with
    | nil => simp [revS, getO, revO]
    | cons o os =>
      cases k with
      | zero => simp [revS, getO]
      | succ k =>
        have := ih (i + 1) os k
        simp only [getO] at this ⊢
        simp only [revS, List.getD_cons_succ, this]
        rw [show i + 1 + k = i + (k + 1) by omega]
        by_cases hk : k < m
        · rw [if_pos hk, if_pos (by omega)]
        · rw [if_neg hk, if_neg (by omega)]

section
variable {B : Nat → Prop} {g0 g : Gh} {w0 w : World} {n : Nat} {s : List VObj}

theorem revG_ext {M : NN} (hl : M.l ≤ n) (hn : M.v ≤ n) (hf : Frm M B g0 w0) (h : Ext B g0 w0 g w) : Ext B g0 w0 (revG M.v n g) w :=
  { h with
    stab := h.stab
    keepS := h.keepS
    loc := fun id x e => by
      have hid : id < M.l := by
        rcases Nat.lt_or_ge id M.l with h' | h'
        · exact h'
        · rw [hf.ownl id h'] at e; exact nomatch e
      simp only [revG, if_pos (show id < n by omega)]
      exact h.loc id x e
    hdr := fun id ver v e => by
      have hid : id < M.v := by
        rcases Nat.lt_or_ge id M.v with h' | h'
        · exact h'
        · rw [hf.ownh id h'] at e; exact nomatch e
      simp only [revG, if_pos (show id < n by omega), if_pos hid]
      exact h.hdr id ver v e }

theorem hdr_ver (hs : RelS B g w (getO s)) {id ver esz : Nat} {nn : Option Bool} {es : List (List AV)} {fz : Bool} (ho : getO s id = .arr ver esz nn es fz) {v : Nat} {h : Value} (hh : g.hdr id = some (v, h)) : v = ver := by
  have := hs.obj id
  rw [ho] at this
  obtain ⟨_, _, _, _, hc⟩ := this
  rcases hc with ⟨a, k, _⟩ | ⟨b, o, cap, vs, k, _⟩ <;> (rw [hh] at k; cases k; rfl)

theorem revG_hdr {id ver : Nat} {h : Value} (h1 : id < n) (hh : g.hdr id = some (ver, h)) : (revG N n g).hdr id = some (if id < N then ver else 0, h) := by
  simp only [revG, if_pos h1, hh]
  by_cases h2 : id < N
  · rw [if_pos h2, if_pos h2]
  · rw [if_neg h2, if_neg h2]; rfl

theorem revL_rel (hn : N ≤ n) (hs : RelS B g w (getO s)) {x : AV} {v : Value} (h : Rel g w x v) : Rel (revG N n g) w (revL N n s x) v := by
  have hst : ∀ b o, g.stab b o → (revG N n g).stab b o := fun _ _ h => h
  cases x with
  | sall id ver =>
    obtain ⟨ver0, hd, a, len, cap, r1, r2, r3, rfl⟩ := inv_sall h
    simp only [revL]
    split
    · rename_i h1
      have h1 := Nat.le_of_ble_eq_true h1
      have := revG_hdr (N := N) (n := n) (show id < n by omega) r1
      rw [if_pos (show id < N by omega)] at this
      exact .sall this r2 r3
    · rename_i h1
      have h1 : ¬ id < N := fun h => by rw [show Nat.blt id N = true from Nat.ble_eq_true_of_le h] at h1; exact nomatch h1
      split
      · rename_i ver' _ _ _ _ h2 ho
        have h2 := Nat.le_of_ble_eq_true h2
        split
        · rename_i h3
          have h3 := Nat.eq_of_beq_eq_true h3
          have hv := hdr_ver hs ho r1
          have := revG_hdr (N := N) (n := n) (show id < n by omega) r1
          rw [if_neg h1] at this
          exact .sall this (Nat.le_refl _) fun _ => r3 (by omega)
        · exact .dead _
      · rename_i ver' _ h2 ho
        have h2 := Nat.le_of_ble_eq_true h2
        split
        · rename_i h3
          have h3 := Nat.eq_of_beq_eq_true h3
          have hv : ver0 = ver' := by
            have hb := hs.obj id
            rw [ho] at hb
            obtain ⟨_, b, cap, k1, _⟩ := hb
            rw [k1] at r1; cases r1; rfl
          have := revG_hdr (N := N) (n := n) (show id < n by omega) r1
          rw [if_neg h1] at this
          exact .sall this (Nat.le_refl _) fun _ => r3 (by omega)
        · exact .dead _
      · exact .dead _
  | sref id ver esz off len =>
    obtain ⟨ver0, hd, a, cap, r1, r2, r3, rfl⟩ := inv_sref h
    simp only [revL]
    split
    · rename_i h1
      have h1 := Nat.le_of_ble_eq_true h1
      have := revG_hdr (N := N) (n := n) (show id < n by omega) r1
      rw [if_pos (show id < N by omega)] at this
      exact .sref this r2 r3
    · rename_i h1
      have h1 : ¬ id < N := fun h => by rw [show Nat.blt id N = true from Nat.ble_eq_true_of_le h] at h1; exact nomatch h1
      split
      · rename_i ver' _ _ _ _ h2 ho
        have h2 := Nat.le_of_ble_eq_true h2
        split
        · rename_i h3
          have h3 := Nat.eq_of_beq_eq_true h3
          have hv := hdr_ver hs ho r1
          have := revG_hdr (N := N) (n := n) (show id < n by omega) r1
          rw [if_neg h1] at this
          exact .sref this (Nat.le_refl _) fun _ => r3 (by omega)
        · exact .dead _
      · exact .dead _
  | eptr id ver esz i off =>
    obtain ⟨ver0, hd, a, r1, r2, r3, rfl⟩ := inv_eptr h
    simp only [revL]
    split
    · rename_i h1
      have h1 := Nat.le_of_ble_eq_true h1
      have := revG_hdr (N := N) (n := n) (show id < n by omega) r1
      rw [if_pos (show id < N by omega)] at this
      exact .eptr this r2 r3
    · rename_i h1
      have h1 : ¬ id < N := fun h => by rw [show Nat.blt id N = true from Nat.ble_eq_true_of_le h] at h1; exact nomatch h1
      split
      · rename_i ver' _ _ _ _ h2 ho
        have h2 := Nat.le_of_ble_eq_true h2
        split
        · rename_i h3
          have h3 := Nat.eq_of_beq_eq_true h3
          have hv := hdr_ver hs ho r1
          have := revG_hdr (N := N) (n := n) (show id < n by omega) r1
          rw [if_neg h1] at this
          exact .eptr this (Nat.le_refl _) fun _ => r3 (by omega)
        · exact .dead _
      · exact .dead _
  | ptr id off =>
    obtain ⟨b, o, hl, rfl⟩ := inv_ptr h
    simp only [revL]
    split
    · rename_i h2
      have h2 := Nat.le_of_ble_eq_true h2
      exact .ptr (by simp only [revG, if_pos (show id < n by omega)]; exact hl)
    · exact .dead _
  | map id =>
    cases h with
    | map hl =>
      simp only [revL]
      split
      · rename_i h2
        have h2 := Nat.le_of_ble_eq_true h2
        exact .map (by simp only [revG, if_pos (show id < n by omega)]; exact hl)
      · exact .dead _
  | kb b => have := rel_bool (h.unkb); subst this; exact .bool b
  | vptr cs off => exact .dead _
  | func fn a b => exact .dead _
  | iface t x => exact .dead _
  | agg cs => exact .dead _
  | tuple cs => exact .dead _
  | _ => exact h.pureG hst rfl

theorem rev1_rel (hn : N ≤ n) (hs : RelS B g w (getO s)) {x : AV} {v : Value} (h : Rel g w x v) : Rel (revG N n g) w (rev1 N n s x) v := by
  have hm : ∀ (cs : List AV) (f : Nat → Value → Prop), (∀ (i : Nat) (x : AV) (v : Value), cs[i]? = some x → f i v → Rel g w x v) → ∀ (i : Nat) (x : AV) (v : Value), (cs.map (revL N n s))[i]? = some x → f i v → Rel (revG N n g) w x v := by
    intro cs f hc i x v hx hv
    rw [List.getElem?_map] at hx
    cases hi : cs[i]? with
    | none => rw [hi] at hx; exact nomatch hx
    | some y => rw [hi] at hx; cases hx; exact revL_rel hn hs (hc i y v hi hv)
  cases x with
  | agg cs =>
    obtain ⟨vs, h1, h2, rfl⟩ := inv_agg h
    exact .agg (by simpa using h1) (hm cs (fun i v => vs[i]? = some v) h2)
  | tuple cs =>
    obtain ⟨vs, h1, h2, rfl⟩ := inv_tuple h
    exact .tuple (by simpa using h1) (hm cs (fun i v => vs[i]? = some v) h2)
  | func fn first cap =>
    obtain ⟨fv, cv, h1, h2, h3, h4, rfl⟩ := inv_func h
    exact .func (by simpa using h1) (by simpa using h2) (hm first (fun i v => fv[i]? = some v) h3) (hm cap (fun i v => cv[i]? = some v) h4)
  | iface t x =>
    cases h with
    | iface h => exact .iface (revL_rel hn hs h)
  | vptr cs off =>
    obtain ⟨b, o, vs, h1, h2, rfl⟩ := inv_vptr h
    refine .vptr vs (fun j c hc => ?_) (fun j c hc => ?_) (fun j hj => h2 j (by simpa using hj))
    · rw [List.getElem?_map] at hc
      cases hj : cs[j]? with
      | none => rw [hj] at hc; exact nomatch hc
      | some y => exact (h1 j y hj).1
    · exact hm cs (fun i v => v = vs i) (fun i x v hx hv => hv ▸ (h1 i x hx).2) j c _ hc rfl
  | _ => exact revL_rel hn hs h

theorem revS_rel (hn : N ≤ n) (hs : RelS B g w (getO s)) : RelS B (revG N n g) w (getO (revS N n s n 0 s)) := by
  have hblk : ∀ id b, blk (revG N n g) id b → blk g id b := by
    rintro id b (⟨o, h⟩ | ⟨ver, o, len, cap, h, hc⟩)
    · simp only [revG] at h
      split at h
      · exact .inl ⟨o, h⟩
      · exact nomatch h
    · simp only [revG] at h
      split at h
      · split at h
        · exact .inr ⟨ver, o, len, cap, h, hc⟩
        · cases hh : g.hdr id with
          | none => rw [hh] at h; exact nomatch h
          | some p =>
            obtain ⟨v, x⟩ := p
            rw [hh] at h
            cases h
            exact .inr ⟨v, o, len, cap, hh, hc⟩
      · exact nomatch h
  refine ⟨fun id => ?_, fun id id' b h h' => hs.apart id id' b (hblk _ _ h) (hblk _ _ h'), fun id b h => hs.inB id b (hblk _ _ h), hs.sb⟩
  rw [getO_revS, Nat.zero_add]
  by_cases hid : id < n
  · rw [if_pos hid]
    have hobj := hs.obj id
    have hloc : (revG N n g).loc id = g.loc id := by simp only [revG, if_pos hid]
    cases ho : getO s id with
    | gone =>
      rw [ho] at hobj
      refine ⟨hloc.trans hobj.1, ?_⟩
      simp only [revG, if_pos hid, hobj.2]
      split <;> rfl
    | map kt vt es =>
      rw [ho] at hobj
      obtain ⟨h1, b, clock, en, h2, h3, h4, h5, h6, h7, h8⟩ := hobj
      refine ⟨?_, b, clock, en, hloc.trans h2, h3, h4, h5, fun i x e hx he => ?_, h7, h8⟩
      · simp only [revG, if_pos hid, h1]; split <;> rfl
      · have hm := h7 x (List.mem_of_getElem? hx)
        exact ⟨(h6 i x e hx he).1.flatG (g := g) (g' := revG N n g) (fun _ _ h => h) hm.1, (h6 i x e hx he).2.flatG (g := g) (g' := revG N n g) (fun _ _ h => h) hm.2⟩
    | box cs fz =>
      rw [ho] at hobj
      obtain ⟨h1, b, o, vs, h2, h3, h4, h5, h6, h7⟩ := hobj
      refine ⟨?_, b, o, vs, hloc.trans h2, h3, h4, fun j c hj => ?_, fun hf j hj => h6 hf j (by simpa using hj), h7⟩
      · simp only [revG, if_pos hid, h1]; split <;> rfl
      · rw [List.getElem?_map] at hj
        cases hy : cs[j]? with
        | none => rw [hy] at hj; exact nomatch hj
        | some y =>
          rw [hy] at hj; cases hj
          exact ⟨(h5 j y hy).1, rev1_rel hn hs (h5 j y hy).2⟩
    | tbox T cs =>
      rw [ho] at hobj
      obtain ⟨h1, b, vs, h2, h3, h4, h5, h6, h7⟩ := hobj
      refine ⟨?_, b, vs, hloc.trans h2, h3, h4, by rw [List.length_map]; exact h5, fun j c hj => ?_, h7⟩
      · simp only [revG, if_pos hid, h1]; split <;> rfl
      · rw [List.getElem?_map] at hj
        cases hy : cs[j]? with
        | none => rw [hy] at hj; exact nomatch hj
        | some y =>
          rw [hy] at hj; cases hj
          exact ⟨(h6 j y hy).1, rev1_rel hn hs (h6 j y hy).2⟩
    | buf T ver bs =>
      rw [ho] at hobj
      obtain ⟨h1, b, cap, k1, k2⟩ := hobj
      have hv : (match Nat.blt id N with | true => ver | false => 0) = if id < N then ver else 0 := by
        by_cases h : id < N
        · rw [if_pos h, show Nat.blt id N = true from Nat.ble_eq_true_of_le h]
        · rw [if_neg h]
          cases h' : Nat.blt id N with
          | true => exact (h (Nat.le_of_ble_eq_true h')).elim
          | false => rfl
      refine ⟨hloc.trans h1, b, cap, ?_, k2⟩
      rw [hv]; exact revG_hdr hid k1
    | spent ver =>
      rw [ho] at hobj
      obtain ⟨h1, b, m, cap, k1, k2⟩ := hobj
      have hv : (match Nat.blt id N with | true => ver | false => 0) = if id < N then ver else 0 := by
        by_cases h : id < N
        · rw [if_pos h, show Nat.blt id N = true from Nat.ble_eq_true_of_le h]
        · rw [if_neg h]
          cases h' : Nat.blt id N with
          | true => exact (h (Nat.le_of_ble_eq_true h')).elim
          | false => rfl
      refine ⟨hloc.trans h1, b, m, cap, ?_, k2⟩
      rw [hv]; exact revG_hdr hid k1
    | arr ver esz nn es fz =>
      rw [ho] at hobj
      obtain ⟨h1, h2, h3, h4, hcase⟩ := hobj
      have hv : (match Nat.blt id N with | true => ver | false => 0) = if id < N then ver else 0 := by
        by_cases h : id < N
        · rw [if_pos h, show Nat.blt id N = true from Nat.ble_eq_true_of_le h]
        · rw [if_neg h]
          cases h' : Nat.blt id N with
          | true => exact (h (Nat.le_of_ble_eq_true h')).elim
          | false => rfl
      refine ⟨hloc.trans h1, h2, h3, h4, ?_⟩
      rw [hv]
      rcases hcase with ⟨a, k1, k2, k3⟩ | ⟨b, o, cap, vs, k1, k0, k2, k3, k4, k5, k6, k7, k8, k9⟩
      · exact .inl ⟨a, revG_hdr hid k1, k2, k3⟩
      · exact .inr ⟨b, o, cap, vs, revG_hdr hid k1, k0, k2, k3, k4, k5, k6, fun i c j x hi hj => ⟨(k7 i c j x hi hj).1, (k7 i c j x hi hj).2.pureG (g := g) (g' := revG N n g) (fun _ _ h => h) (h2 c (List.mem_of_getElem? hi) x (List.mem_of_getElem? hj))⟩, k8, k9⟩
  · rw [if_neg hid]
    exact ⟨by simp only [revG, if_neg hid], by simp only [revG, if_neg hid]⟩
end

end

section
variable {P : Program} {E : Env} {N : NN} {R : Exit → List AV → List VObj → Prop}

theorem weak_rev {n : Nat} (hl : N.l ≤ n) (hn : N.v ≤ n) (t : List AV) (s : List VObj) : Weak N t s (t.map (rev1 N.v n s)) (revS N.v n s n 0 s) := fun B g0 w0 hf g a w hS =>
  ⟨revG N.v n g, revG_ext hl hn hf hS.ext, revS_rel hn hS.rs, ⟨by rw [List.length_map]; exact hS.rt.size, fun i x v hx hv => by
    rw [List.getElem?_map] at hx
    cases hi : t[i]? with
    | none => rw [hi] at hx; exact nomatch hx
    | some y => rw [hi] at hx; cases hx; exact rev1_rel hn hS.rs (hS.rt.rel i y v hi hv)⟩, hS.defers⟩

/-- the slots that are kept, the objects below n, versions anew -/
def canonT (N : Nat) (keep : List Nat) (n : Nat) (s : List VObj) (t : List AV) : List AV := (maskT keep 0 t).map (rev1 N n s)
def canonS (N : Nat) (n : Nat) (s : List VObj) : List VObj := revS N n s n 0 s

theorem weak_canon {n : Nat} (keep : List Nat) (hl : N.l ≤ n) (hn : N.v ≤ n) {t t' : List AV} {s s' : List VObj} (ht : canonT N.v keep n s t = t') (hs : canonS N.v n s = s') : Weak N t s t' s' := by
  subst ht; subst hs
  exact (weak_mask keep t s).trans (weak_rev hl hn _ s)

def updT (t : List AV) : List (Nat × AV) → List AV
  | [] => t
  | (i, v) :: u => updT (t.set i v) u
def updS (s : List VObj) : List (Nat × VObj) → List VObj
  | [] => s
  | (i, o) :: u => updS (setO s i o) u

/-- a loop: the slots 'keep' and the objects below n are as they were before it, but for what U and V say -/
theorem loop_upd {ι : Type} (keep : List Nat) (n : Nat) (U : ι → List (Nat × AV)) (V : ι → List (Nat × VObj)) (μ : ι → Nat) (i0 : ι) {t : List AV} {s : List VObj} {body : Code} {todo : List VItem} (hl : N.l ≤ n) (hn : N.v ≤ n)
    (h0 : updT (canonT N.v keep n s t) (U i0) = canonT N.v keep n s t) (h1 : updS (canonS N.v n s) (V i0) = canonS N.v n s)
    (round : ∀ i, Run P N ⟨updT (canonT N.v keep n s t) (U i), updS (canonS N.v n s) (V i), [.code body]⟩
      (LoopR P N todo R fun t' s' => ∃ j, μ j < μ i ∧ canonT N.v keep n s' t' = updT (canonT N.v keep n s t) (U j) ∧ canonS N.v n s' = updS (canonS N.v n s) (V j))) : LoopRun P N body ⟨t, s, todo⟩ R := by
  refine loop_rule (fun i => updT (canonT N.v keep n s t) (U i)) (fun i => updS (canonS N.v n s) (V i)) μ i0 (weak_canon keep hl hn h0.symm h1.symm) fun i => run_mono (round i) fun e t' s' h => ?_
  cases e with
  | normal =>
    obtain ⟨j, q1, q2, q3⟩ := h
    exact ⟨j, q1, weak_canon keep hl hn q2 q3⟩
  | _ => exact h

/-- .. under an invariant -/
theorem loop_inv {ι : Type} (I : ι → Prop) (keep : List Nat) (n : Nat) (U : ι → List (Nat × AV)) (V : ι → List (Nat × VObj)) (μ : ι → Nat) (i0 : ι) {t : List AV} {s : List VObj} {body : Code} {todo : List VItem} (hl : N.l ≤ n) (hn : N.v ≤ n)
    (h0 : updT (canonT N.v keep n s t) (U i0) = canonT N.v keep n s t) (h1 : updS (canonS N.v n s) (V i0) = canonS N.v n s) (hI : I i0)
    (round : ∀ i, I i → Run P N ⟨updT (canonT N.v keep n s t) (U i), updS (canonS N.v n s) (V i), [.code body]⟩
      (LoopR P N todo R fun t' s' => ∃ j, I j ∧ μ j < μ i ∧ canonT N.v keep n s' t' = updT (canonT N.v keep n s t) (U j) ∧ canonS N.v n s' = updS (canonS N.v n s) (V j))) : LoopRun P N body ⟨t, s, todo⟩ R := by
  refine loop_upd (ι := { i : ι // I i }) keep n (fun i => U i.1) (fun i => V i.1) (fun i => μ i.1) ⟨i0, hI⟩ hl hn h0 h1 fun i => run_mono (round i.1 i.2) fun e t' s' h => ?_
  cases e with
  | normal =>
    obtain ⟨j, q0, q1, q2, q3⟩ := h
    exact ⟨⟨j, q0⟩, q1, q2, q3⟩
  | _ => exact h

/-- a slice variable that is still nil becomes an array object of the store -/
theorem weak_promote {k esz : Nat} {full : Bool} {t : List AV} {s : List VObj} (hk : t[k]? = some (.sl (some true) full [])) (h0 : 0 < esz) : Weak N t s (t.set k (.sall s.length 0)) (setO s s.length (.arr 0 esz none [] false)) := by
  intro B g0 w0 hf g a w hS
  have hobj := hS.rs.obj s.length
  rw [getO_len] at hobj
  obtain ⟨g', e1, r1, v1⟩ := set_arr_nil (id := s.length) (ver := 0) (esz := esz) (nn := none) (a := none) hS.rs hobj.1 (fun v h e => by rw [hobj.2] at e; exact nomatch e) h0 nofun nofun false
  refine ⟨g', hS.ext.trans e1, ?_, ⟨by rw [List.length_set]; exact hS.rt.size, fun i x v hx hv => ?_⟩, hS.defers⟩
  · have : getO (setO s s.length (.arr 0 esz none [] false)) = updF (getO s) s.length (.arr 0 esz none [] false) := by
      funext j; rw [getO_setO]; rfl
    rw [this]; exact r1
  · rw [List.getElem?_set] at hx
    split at hx
    · rename_i hki
      subst hki
      split at hx
      · cases hx
        have hr := hS.rt.rel k _ v hk hv
        cases hr with
        | slnil h h' =>
          rename_i ad
          cases ad with
          | none => exact v1
          | some ad => exact (h' ad rfl rfl).elim
        | sl vs h => exact (h rfl).elim
      · exact nomatch hx
    · exact (hS.rt.rel i x v hx hv).mono e1

theorem loop_promote {k esz : Nat} {full : Bool} {t : List AV} {s : List VObj} {body : Code} {todo : List VItem} (hk : t[k]? = some (.sl (some true) full [])) (h0 : 0 < esz) (h : LoopRun P N body ⟨t.set k (.sall s.length 0), setO s s.length (.arr 0 esz none [] false), todo⟩ R) :
    LoopRun P N body ⟨t, s, todo⟩ R := by
  unfold LoopRun at h ⊢
  exact run_weak (weak_promote hk h0) (fun x r e => by cases e; rfl) h

/-- a loop's rounds, one by one: n at the most -/
def LoopF (P : Program) (N : NN) (body : Code) (todo : List VItem) (R : Exit → List AV → List VObj → Prop) : Nat → List AV → List VObj → Prop
  | 0, _, _ => False
  | n + 1, t, s => Run P N ⟨t, s, [.code body]⟩ (LoopR P N todo R (LoopF P N body todo R n))

theorem loop_fuel (n : Nat) {t : List AV} {s : List VObj} {body : Code} {todo : List VItem} (h : LoopF P N body todo R n t s) : LoopRun P N body ⟨t, s, todo⟩ R := by
  refine loop_rule (ι := { x : Nat × List AV × List VObj // LoopF P N body todo R x.1 x.2.1 x.2.2 }) (fun x => x.1.2.1) (fun x => x.1.2.2) (fun x => x.1.1) ⟨(n, t, s), h⟩ (Weak.refl t s) fun x => ?_
  obtain ⟨⟨m, t1, s1⟩, hx⟩ := x
  cases m with
  | zero => exact hx.elim
  | succ m =>
    refine run_mono (show Run P N ⟨t1, s1, [.code body]⟩ (LoopR P N todo R (LoopF P N body todo R m)) from hx) fun e t' s' he => ?_
    cases e with
    | normal => exact ⟨⟨(m, t', s'), he⟩, Nat.lt_succ_self m, Weak.refl t' s'⟩
    | _ => exact he

end
end Go.Proofs.YtllpenkgaomdfaaDoor.Vm
/- Functions: contracts, and calls of functions that have one. -/
set_option linter.all false
namespace Go.Proofs.YtllpenkgaomdfaaDoor.Vm
open Go
variable [Tabs]

/-- the ghost of a memory of which only stable cells are known -/
def stG (st : Nat → Nat → Prop) : Gh := ⟨fun _ => none, fun _ => none, st⟩

/-- a function's result, from arguments that lead into no object: 'v', with a stable memory behind it -/
def PureCall (P : Program) (fid : FuncId) (args : List AV) (v : AV) : Prop :=
  (∃ fn, P.funcs[fid]? = some fn ∧ fn.body.isSome = true ∧ (fn.name == "runtime.NumGoroutine") = false) ∧
  ∀ (st : Nat → Nat → Prop) (w : World) (vals : Array Value), (∀ b x, st b x → b < w.heap.size) → Tabs.ok st w → args.length = vals.size → (∀ (i : Nat) (x : AV) (u : Value), args[i]? = some x → vals[i]? = some u → Rel (stG st) w x u) →
    Calls P fid vals w fun e w' => ∃ st' val, e = .returned val ∧ Ext (fun b => w.heap.size ≤ b) (stG st) w (stG st') w' ∧ (∀ b x, st' b x → b < w'.heap.size) ∧ Rel (stG st') w' v val

/-- a value once all it leads to is frozen -/
def nrm1 (s : List VObj) : AV → AV
  | .agg cs => .agg (cs.map (nrm s))
  | .iface t x => .iface t (nrm s x)
  | v => nrm s v
def nrmD (s : List VObj) : AV → AV
  | .tuple cs => .tuple (cs.map (nrm1 s))
  | .func fn first cap => .func fn (first.map (nrm1 s)) (cap.map (nrm1 s))
  | v => nrm1 s v
def refs1 : AV → List Nat
  | .agg cs => cellsRefs cs
  | .iface _ x => refsOf x
  | v => refsOf v
def refsD : AV → List Nat
  | .tuple cs => cs.flatMap refs1
  | .func _ first cap => first.flatMap refs1 ++ cap.flatMap refs1
  | v => refs1 v

section
variable {P : Program} {N : NN}

theorem nrm1_rel {B : Nat → Prop} {g : Gh} {w : World} {σ : Nat → VObj} {s : List VObj} (hs : RelS B g w σ) {x : AV} {v : Value} (hr : Rel g w x v) (hag : ∀ id ∈ refs1 x, σ id = (getO s id).fzd) : Rel g w (nrm1 s x) v := by
  cases x with
  | agg cs =>
    obtain ⟨vs, h1, h2, rfl⟩ := inv_agg hr
    refine .agg (by simpa using h1) fun i x v hx hv => ?_
    rw [List.getElem?_map] at hx
    cases hi : cs[i]? with
    | none => rw [hi] at hx; exact nomatch hx
    | some y => rw [hi] at hx; cases hx; exact nrm_rel hs (h2 i y v hi hv) fun id hid => hag id (refs_mem (List.mem_of_getElem? hi) hid)
  | iface t x => cases hr with | iface h => exact .iface (nrm_rel hs h hag)
  | _ => exact nrm_rel hs hr hag

theorem nrmD_rel {B : Nat → Prop} {g : Gh} {w : World} {σ : Nat → VObj} {s : List VObj} (hs : RelS B g w σ) {x : AV} {v : Value} (hr : Rel g w x v) (hag : ∀ id ∈ refsD x, σ id = (getO s id).fzd) : Rel g w (nrmD s x) v := by
  have hm : ∀ (cs : List AV) (f : Nat → Value → Prop), (∀ id ∈ cs.flatMap refs1, σ id = (getO s id).fzd) → (∀ (i : Nat) (x : AV) (v : Value), cs[i]? = some x → f i v → Rel g w x v) → ∀ (i : Nat) (x : AV) (v : Value), (cs.map (nrm1 s))[i]? = some x → f i v → Rel g w x v := by
    intro cs f hag hc i x v hx hv
    rw [List.getElem?_map] at hx
    cases hi : cs[i]? with
    | none => rw [hi] at hx; exact nomatch hx
    | some y => rw [hi] at hx; cases hx; exact nrm1_rel hs (hc i y v hi hv) fun id hid => hag id (List.mem_flatMap.2 ⟨y, List.mem_of_getElem? hi, hid⟩)
  cases x with
  | tuple cs =>
    obtain ⟨vs, h1, h2, rfl⟩ := inv_tuple hr
    exact .tuple (by simpa using h1) (hm cs (fun i v => vs[i]? = some v) hag h2)
  | func fn first cap =>
    obtain ⟨fv, cv, h1, h2, h3, h4, rfl⟩ := inv_func hr
    exact .func (by simpa using h1) (by simpa using h2) (hm first (fun i v => fv[i]? = some v) (fun id hid => hag id (List.mem_append_left _ hid)) h3) (hm cap (fun i v => cv[i]? = some v) (fun id hid => hag id (List.mem_append_right _ hid)) h4)
  | _ => exact nrm1_rel hs hr hag

/-- leads into no object, at the outermost levels -/
def flat0 : AV → Bool
  | .kb _ => true
  | v => v.pure
def flat1 : AV → Bool
  | .agg cs => cs.all flat0
  | .iface _ x => flat0 x
  | v => flat0 v
def flatD : AV → Bool
  | .tuple cs => cs.all flat1
  | .func _ first cap => first.all flat1 && cap.all flat1
  | v => flat1 v

theorem flat0_rel {g g' : Gh} {w : World} (hs : ∀ b o, g.stab b o → g'.stab b o) {x : AV} {v : Value} (h : Rel g w x v) (hf : flat0 x = true) : Rel g' w x v := by
  cases x with
  | kb b => have := rel_bool h.unkb; subst this; exact .kb b
  | _ => exact h.pureG hs hf
theorem flat1_rel {g g' : Gh} {w : World} (hs : ∀ b o, g.stab b o → g'.stab b o) {x : AV} {v : Value} (h : Rel g w x v) (hf : flat1 x = true) : Rel g' w x v := by
  cases x with
  | agg cs =>
    obtain ⟨vs, h1, h2, rfl⟩ := inv_agg h
    exact .agg h1 fun i x v hx hv => flat0_rel hs (h2 i x v hx hv) (List.all_eq_true.1 hf x (List.mem_of_getElem? hx))
  | iface t x => cases h with | iface h => exact .iface (flat0_rel hs h hf)
  | _ => exact flat0_rel hs h hf
theorem flatD_rel {g g' : Gh} {w : World} (hs : ∀ b o, g.stab b o → g'.stab b o) {x : AV} {v : Value} (h : Rel g w x v) (hf : flatD x = true) : Rel g' w x v := by
  cases x with
  | tuple cs =>
    obtain ⟨vs, h1, h2, rfl⟩ := inv_tuple h
    exact .tuple h1 fun i x v hx hv => flat1_rel hs (h2 i x v hx hv) (List.all_eq_true.1 hf x (List.mem_of_getElem? hx))
  | func fn first cap =>
    obtain ⟨fv, cv, h1, h2, h3, h4, rfl⟩ := inv_func h
    simp only [flatD, Bool.and_eq_true] at hf
    exact .func h1 h2 (fun i x v hx hv => flat1_rel hs (h3 i x v hx hv) (List.all_eq_true.1 hf.1 x (List.mem_of_getElem? hx))) (fun i x v hx hv => flat1_rel hs (h4 i x v hx hv) (List.all_eq_true.1 hf.2 x (List.mem_of_getElem? hx)))
  | _ => exact flat1_rel hs h hf

theorem nrm_flat (s : List VObj) (x : AV) : flat0 (nrm s x) = true := by
  have := nrm_pure s x
  cases h : nrm s x <;> rw [h] at this <;> first | exact this | rfl
theorem nrm1_cases (s : List VObj) (x : AV) : (∃ cs, x = .agg cs) ∨ (∃ t y, x = .iface t y) ∨ nrm1 s x = nrm s x := by
  cases x <;> first | exact .inl ⟨_, rfl⟩ | exact .inr (.inl ⟨_, _, rfl⟩) | exact .inr (.inr rfl)
theorem nrmD_cases (s : List VObj) (x : AV) : (∃ cs, x = .tuple cs) ∨ (∃ f a b, x = .func f a b) ∨ nrmD s x = nrm1 s x := by
  cases x <;> first | exact .inl ⟨_, rfl⟩ | exact .inr (.inl ⟨_, _, _, rfl⟩) | exact .inr (.inr rfl)
theorem flat0_1 {x : AV} (h : flat0 x = true) : flat1 x = true := by cases x <;> first | exact h | exact nomatch h
theorem flat1_D {x : AV} (h : flat1 x = true) : flatD x = true := by cases x <;> first | exact h | exact nomatch h
theorem nrm1_flat (s : List VObj) (x : AV) : flat1 (nrm1 s x) = true := by
  rcases nrm1_cases s x with ⟨cs, rfl⟩ | ⟨t, y, rfl⟩ | h
  · exact List.all_eq_true.2 fun y hy => by obtain ⟨z, _, rfl⟩ := List.mem_map.1 hy; exact nrm_flat s z
  · exact nrm_flat s y
  · rw [h]; exact flat0_1 (nrm_flat s x)
theorem nrmD_flat (s : List VObj) (x : AV) : flatD (nrmD s x) = true := by
  rcases nrmD_cases s x with ⟨cs, rfl⟩ | ⟨f, a, b, rfl⟩ | h
  · exact List.all_eq_true.2 fun y hy => by obtain ⟨z, _, rfl⟩ := List.mem_map.1 hy; exact nrm1_flat s z
  · simp only [nrmD, flatD, Bool.and_eq_true]
    exact ⟨List.all_eq_true.2 fun y hy => by obtain ⟨z, _, rfl⟩ := List.mem_map.1 hy; exact nrm1_flat s z, List.all_eq_true.2 fun y hy => by obtain ⟨z, _, rfl⟩ := List.mem_map.1 hy; exact nrm1_flat s z⟩
  · rw [h]; exact flat1_D (nrm1_flat s x)

/-- a call of a function that has a contract: what the arguments lead to is frozen -/
theorem vcall_pure {fid : FuncId} {args : List AV} {s : List VObj} {R : AV → List VObj → FP → Prop} {v : AV} (hc : PureCall P fid (args.map (nrmD s)) v) (hv : flatD v = true)
    (hR : R v (freeze s (args.flatMap refsD)) ⟨[], args.flatMap refsD⟩) : VCall P fid args s R := by
  unfold VCall
  obtain ⟨hfn, hc⟩ := hc
  refine ⟨v, _, _, hR, fun id hid => by rw [getO_freeze, if_neg hid], hfn, fun B g w vals σ hB hl hrel hag hs htab => ?_⟩
  obtain ⟨g1, e1, r1, l1, k1⟩ := freeze_list (w := w) (g := g) (args.flatMap refsD) hs (fun id hid => hag id (.inr hid))
  have hcall := hc g1.stab w vals (fun b x h => r1.sb b x h) (Tabs.ext htab e1) (by simpa using hl) (fun i x u hx hu => by
    rw [List.getElem?_map] at hx
    cases hi : args[i]? with
    | none => rw [hi] at hx; exact nomatch hx
    | some y =>
      rw [hi] at hx; cases hx
      have := nrmD_rel (s := s) r1 ((hrel i y u hi hu).mono e1) fun id hid => by
        have hm : id ∈ args.flatMap refsD := List.mem_flatMap.2 ⟨y, List.mem_of_getElem? hi, hid⟩
        simp only [over, if_pos hm, getO_freeze]
      exact flatD_rel (g := g1) (g' := stG g1.stab) (fun _ _ h => h) this (nrmD_flat s y))
  refine Calls.mono hcall fun e w' he => ?_
  obtain ⟨st', val, rfl, e2, hsb, hval⟩ := he
  let g2 : Gh := { g1 with stab := st' }
  have e3 : Ext B g1 w g2 w' :=
    { size := e2.size
      stab := e2.stab
      same := e2.same
      keep := fun b hb => e2.keep b fun h => hb (hB b h)
      keepS := fun b o hb h => e2.keepS b o (fun h => hb (hB b h)) h
      loc := fun _ _ h => h
      hdr := fun _ ver h e => ⟨ver, h, e, Nat.le_refl _, fun _ => rfl⟩
      low := e2.low }
  have hlow : ∀ b, b < w.heap.size → w'.heap[b]? = w.heap[b]? ∧ ∀ x, st' b x ↔ g1.stab b x := fun b hb =>
    ⟨e2.keep b (by omega), fun x => ⟨fun h => e2.keepS b x (by omega) h, fun h => e2.stab b x h⟩⟩
  refine ⟨g2, val, rfl, e1.trans e3, ?_, flatD_rel (g := stG st') (g' := g2) (fun _ _ h => h) hval hv⟩
  exact ⟨fun id => (r1.obj id).keep e3 rfl rfl fun b hk => hlow b (r1.lt hk), r1.apart, r1.inB, hsb⟩

theorem call_pure {fid : FuncId} {args args' : List AV} {s : List VObj} {R : AV → List VObj → FP → Prop} {v : AV} (hc : PureCall P fid args' v) (ha : args.map (nrmD s) = args') (hv : flatD v = true)
    (hR : R v (freeze s (args.flatMap refsD)) ⟨[], args.flatMap refsD⟩) : VCall P fid args s R := vcall_pure (ha ▸ hc) hv hR

/-- a result that lies in a variable -/
def cellAt (E : Env) (t : List AV) (s : List VObj) (a ty : Nat) : Option AV :=
  match t.getD a .dead with
  | .ptr id off => match getO s id, E.ti ty with
    | .box cs _, ⟨kind, size, _, _⟩ => match Nat.ble (off + size) cs.length && Nat.blt 0 size && (kind.isAgg || Nat.beq size 1) with
      | true => some (mkv kind.isAgg ((cs.drop off).take size))
      | false => none
    | _, _ => none
  | _ => none

def resL (E : Env) (t : List AV) (s : List VObj) : List ResultVar → Option (List AV)
  | [] => some []
  | .tmp i :: r => match resL E t s r with
    | some l => some (t.getD i .dead :: l)
    | none => none
  | .cell a ty :: r => match cellAt E t s a ty, resL E t s r with
    | some v, some l => some (v :: l)
    | _, _ => none

/-- a function's result -/
def resO (E : Env) (rs : List ResultVar) (t : List AV) (s : List VObj) : Option AV :=
  match resL E t s rs with
  | some [v] => some v
  | some l => some (.tuple l)
  | none => none

/-- what a function's run must end in -/
def RetR (E : Env) (rs : List ResultVar) (v : AV) : Exit → List AV → List VObj → Prop
  | .ret, t, s => match resO E rs t s with
    | some r => nrmD s r = v
    | none => False
  | .normal, t, s => match resO E rs t s with
    | some r => nrmD s r = v
    | none => False
  | _, _, _ => False

theorem resL_run {E : Env} (hE : E.Fits P) {B : Nat → Prop} {g : Gh} {w : World} {t : List AV} {s : List VObj} {a : Act} (hs : RelS B g w (getO s)) (ht : RelT g w t a.tmps) {f : ResultVar → Sem Value} (hf1 : ∀ i, f (.tmp i) = pure (a.tmps.getD i undef))
    (hf2 : ∀ i ty, f (.cell i ty) = do loadVar ty (← asAddr (a.tmps.getD i undef))) : ∀ (rs : List ResultVar) (l : List AV), resL E t s rs = some l → ∃ vs : List Value, (rs.mapM f).run P w = .ok vs w ∧ l.length = vs.length ∧ ∀ (i : Nat) (x : AV) (u : Value), l[i]? = some x → vs[i]? = some u → Rel g w x u := by
  have hslot : ∀ i, Rel g w (t.getD i .dead) (a.tmps.getD i undef) := fun i => by
    cases hi : a.tmps[i]? with
    | none =>
      have : t.length ≤ i := by rw [ht.size]; exact Array.getElem?_eq_none_iff.1 hi
      rw [show t.getD i .dead = .dead by simp [this]]; exact .dead _
    | some u =>
      have hlt : i < t.length := by rw [ht.size]; exact (Array.getElem?_eq_some_iff.1 hi).1
      have := ht.rel i _ u (List.getElem?_eq_getElem hlt) hi
      rw [show t.getD i .dead = t[i] by simp [hlt], Array.getD_eq_getD_getElem?, hi]; exact this
  have hcons : ∀ (r : ResultVar) (rs : List ResultVar) (v : AV) (u : Value) (l : List AV), (f r).run P w = .ok u w → Rel g w v u →
      (∃ vs : List Value, (rs.mapM f).run P w = .ok vs w ∧ l.length = vs.length ∧ ∀ (i : Nat) (x : AV) (u : Value), l[i]? = some x → vs[i]? = some u → Rel g w x u) →
      ∃ vs : List Value, ((r :: rs).mapM f).run P w = .ok vs w ∧ (v :: l).length = vs.length ∧ ∀ (i : Nat) (x : AV) (u : Value), (v :: l)[i]? = some x → vs[i]? = some u → Rel g w x u := by
    intro r rs v u l hr hv ⟨vs, h1, h2, h3⟩
    refine ⟨u :: vs, by simp only [List.mapM_cons, Sem.run_bind, hr, Result.andThen_ok, h1, Sem.run_pure], by simp [h2], fun i x u' hx hu => ?_⟩
    cases i with
    | zero => cases hx; cases hu; exact hv
    | succ i => exact h3 i x u' hx hu
  intro rs
  induction rs with
  | nil => intro l h; cases h; exact ⟨[], rfl, rfl, fun i x u h => by simp at h⟩
  | cons r rs ih =>
    intro l h
    cases r with
    | tmp i =>
      simp only [resL] at h
      split at h
      · rename_i l' hl; cases h
        exact hcons _ _ _ (a.tmps.getD i undef) _ (by rw [hf1]; rfl) (hslot i) (ih l' hl)
      · exact nomatch h
    | cell i ty =>
      simp only [resL] at h
      split at h
      · rename_i v l' hv hl; cases h
        unfold cellAt at hv
        split at hv
        · rename_i id off hp
          split at hv
          · rename_i cs fz kind size b z ho e
            split at hv
            · rename_i hb
              cases hv
              simp only [Bool.and_eq_true, Bool.or_eq_true] at hb
              obtain ⟨⟨b1, b2⟩, b3⟩ := hb
              have b1 := Nat.le_of_ble_eq_true b1
              have b2 := Nat.le_of_ble_eq_true b2
              obtain ⟨inf, d, zv, h1, h2, h3, h4, h5, h6, h7, h8, h9⟩ := ti_at hE e (.inr (.inl b2))
              have hr := hslot i
              rw [hp] at hr
              obtain ⟨b', o', hloc, hval⟩ := inv_ptr hr
              have hobj := hs.obj id
              rw [ho] at hobj
              obtain ⟨_, b, o, vs, hl2, _, _, hc, _, _⟩ := hobj
              rw [hl2] at hloc; cases hloc
              obtain ⟨val, hrun, hrel⟩ := loadVar_rel (off := off) h1 h2 hc (by omega) (fun ha => by
                rcases b3 with h | h
                · rw [h6] at h; rw [h] at ha; exact nomatch ha
                · rw [h7]; exact Nat.eq_of_beq_eq_true h)
              refine hcons _ _ _ val _ ?_ (by rw [h6, ← h7]; exact hrel) (ih l' hl)
              rw [hf2, hval]
              simp only [Sem.run_bind, asAddr, Sem.run_pure, Result.andThen_ok, hrun]
            · exact nomatch hv
          · exact nomatch hv
        · exact nomatch hv
      · exact nomatch h

theorem run_results {E : Env} (hE : E.Fits P) {B : Nat → Prop} {g : Gh} {w : World} {t : List AV} {s : List VObj} {a : Act} (hs : RelS B g w (getO s)) (ht : RelT g w t a.tmps) {fn : Func} {rs : List ResultVar} (h : fn.results.toList = rs) {r : AV} (hr : resO E rs t s = some r) :
    ∃ u, (results fn a.tmps).run P w = .ok u w ∧ Rel g w r u := by
  unfold resO at hr
  have key : ∀ l, resL E t s rs = some l → ∃ vs : List Value, (results fn a.tmps).run P w = .ok (if h : vs.toArray.size = 1 then vs.toArray[0] else .tuple vs.toArray) w ∧ l.length = vs.length ∧ ∀ (i : Nat) (x : AV) (u : Value), l[i]? = some x → vs[i]? = some u → Rel g w x u := fun l hl => by
    obtain ⟨vs, h1, h2, h3⟩ := resL_run (f := fun | .tmp t => pure (a.tmps.getD t undef) | .cell x t => do loadVar t (← asAddr (a.tmps.getD x undef))) hE hs ht (fun i => rfl) (fun i ty => rfl) rs l hl
    refine ⟨vs, ?_, h2, h3⟩
    unfold results
    rw [Array.mapM_eq_mapM_toList, h]
    simp only [map_eq_pure_bind, Sem.run_bind]
    erw [h1]
    simp only [Result.andThen_ok, Sem.run_pure]
  split at hr
  · rename_i v hl
    cases hr
    obtain ⟨vs, h1, h2, h3⟩ := key _ hl
    obtain ⟨u, rfl⟩ := List.length_eq_one_iff.1 h2.symm
    exact ⟨u, h1, h3 0 _ _ rfl rfl⟩
  · rename_i l hn hl
    cases hr
    obtain ⟨vs, h1, h2, h3⟩ := key _ hl
    have : ¬ vs.toArray.size = 1 := fun hh => by
      have hl1 : l.length = 1 := by rw [h2]; simpa using hh
      obtain ⟨v, rfl⟩ := List.length_eq_one_iff.1 hl1
      exact hn v rfl
    rw [dif_neg this] at h1
    exact ⟨_, h1, .tuple (by simpa using h2) fun i x u hx hu => h3 i x u hx (by simpa using hu)⟩
  · exact nomatch hr

theorem pure_of_run {E : Env} (hE : E.Fits P) {fid : FuncId} {fn : Func} {c : Code} {args : List AV} {v : AV} {rs : List ResultVar} (hf : P.funcs[fid]? = some fn) (hb : fn.body = some c) (hname : (fn.name == "runtime.NumGoroutine") = false) (hres : fn.results.toList = rs)
    (h : Run P ⟨0, 0⟩ ⟨args ++ List.replicate (fn.ntmps - args.length) .dead, [], [.code c]⟩ (RetR E rs v)) : PureCall P fid args v := by
  refine ⟨⟨fn, hf, by rw [hb]; rfl, hname⟩, fun st w vals hsb htab hl hrel => ?_⟩
  have hfrm : Frm ⟨0, 0⟩ (fun b => w.heap.size ≤ b) (stG st) w := ⟨fun _ h => h, fun _ _ => rfl, fun _ _ => rfl, htab⟩
  have hS : StRel (fun b => w.heap.size ≤ b) (stG st) w (stG st) w (args ++ List.replicate (fn.ntmps - args.length) .dead) [] { tmps := vals ++ Array.replicate (fn.ntmps - vals.size) undef, defers := [] } := by
    refine ⟨Ext.refl _ _ _, ⟨fun id => ⟨rfl, rfl⟩, ?_, ?_, hsb⟩, ⟨by simp [hl], fun i x u hx hu => ?_⟩, rfl⟩
    · rintro id id' b (⟨o, h⟩ | ⟨ver, o, len, cap, h, _⟩) _ <;> exact nomatch h
    · rintro id b (⟨o, h⟩ | ⟨ver, o, len, cap, h, _⟩) <;> exact nomatch h
    · rw [List.getElem?_append] at hx
      rw [Array.getElem?_append] at hu
      by_cases hi : i < args.length
      · rw [if_pos hi] at hx
        rw [if_pos (by omega)] at hu
        exact hrel i x u hx hu
      · rw [if_neg hi, List.getElem?_replicate] at hx
        split at hx
        · cases hx; exact .dead _
        · exact nomatch hx
  have hw := run_elim h rfl hfrm hS
  refine calls_of_wp hf hb (wp_mono (show c.wp P _ _ _ from hw) fun e a w' he => ?_)
  have key : ∀ e, e = .ret ∨ e = .normal → after P (conc (fun b => w.heap.size ≤ b) (stG st) w (RetR E rs v)) [] e a w' →
      a.defers = [] ∧ ∃ u, (results fn a.tmps).run P w' = .ok u w' ∧ ∃ st' val, Ending.returned u = .returned val ∧ Ext (fun b => w.heap.size ≤ b) (stG st) w (stG st') w' ∧ (∀ b x, st' b x → b < w'.heap.size) ∧ Rel (stG st') w' v val := by
    rintro e hee ⟨t, s, g, hS', hR⟩
    have hR : ∃ r, resO E rs t s = some r ∧ nrmD s r = v := by
      rcases hee with rfl | rfl
      all_goals
        simp only [RetR] at hR
        split at hR
        · rename_i r hr; exact ⟨r, hr, hR⟩
        · exact hR.elim
    obtain ⟨r, hr, hR⟩ := hR
    obtain ⟨u, hrun, hval⟩ := run_results hE hS'.rs hS'.rt hres hr
    refine ⟨hS'.defers, u, hrun, ?_⟩
    obtain ⟨g1, e1, r1, l1, k1⟩ := freeze_list (w := w') (g := g) (s := s) (refsD r) hS'.rs (fun id _ => rfl)
    have hnv := nrmD_rel (s := s) r1 (hval.mono e1) fun id hid => by simp only [over, if_pos hid, getO_freeze]
    rw [hR] at hnv
    have hE : Ext (fun b => w.heap.size ≤ b) (stG st) w (stG g1.stab) w' :=
      { hS'.ext.trans e1 with
        stab := (hS'.ext.trans e1).stab
        keepS := (hS'.ext.trans e1).keepS
        loc := fun _ _ h => nomatch h
        hdr := fun _ _ _ h => nomatch h }
    exact ⟨g1.stab, _, rfl, hE, r1.sb, flatD_rel (g := g1) (g' := stG g1.stab) (fun _ _ h => h) hnv (hR ▸ nrmD_flat s _)⟩
  cases e with
  | normal => exact key _ (.inr rfl) he
  | ret => exact key _ (.inl rfl) he
  | _ => obtain ⟨t, s, g, _, hR⟩ := he; exact hR.elim

end
end Go.Proofs.YtllpenkgaomdfaaDoor.Vm
/- The program's side: its table of types, its functions. -/
set_option linter.all false
namespace Go.Proofs.YtllpenkgaomdfaaDoor.Vm
open Go
variable [Tabs]

theorem Env.fits {E : Env} {P : Program} (n : Nat) (hl : E.T.length * 16 ≤ n) (h : ((List.range n).map fun t => (tiOf P t).getD ⟨.other, 0, 0, []⟩) = (List.range n).map E.ti) : E.Fits P := by
  intro t
  by_cases ht : t < n
  · have := congrArg (fun l : List TI => l[t]?) h
    simp [ht] at this
    cases hq : tiOf P t with
    | none => rw [hq] at this; exact .inl this.symm
    | some x => rw [hq] at this; exact .inr (by rw [← this]; rfl)
  · left
    unfold Env.ti
    have : E.T.length ≤ t / 16 := (Nat.le_div_iff_mul_le (by omega)).2 (Nat.le_trans hl (Nat.le_of_not_lt ht))
    rw [show E.T.getD (t / 16) [] = [] by simp [this]]
    simp

def eqOkB (P : Program) : List (Nat × List LK) → Bool
  | [] => true
  | (t, ks) :: r => decide (plainB P 4 t = some ks) && aggB P t && !P.eqGuardType P.depth t && eqOkB P r

theorem Env.unsOk0 {E : Env} {P : Program} (h : (E.uns.isEmpty && E.ne.isEmpty) = true) : E.UnsOk P := by
  simp only [Bool.and_eq_true, List.isEmpty_iff] at h
  refine ⟨fun p u T e => ?_, fun fid e => ?_⟩
  · rw [h.1] at e; exact nomatch e
  · rw [h.2] at e; simp at e
theorem Env.eqOk {E : Env} {P : Program} (h : eqOkB P E.eqs = true) (hU : E.UnsOk P := by exact Env.unsOk0 rfl) : E.EqOk P := by
  refine ⟨?_, hU⟩
  intro ty ks hk
  generalize E.eqs = l at h hk
  induction l with
  | nil => exact nomatch hk
  | cons x r ih =>
    obtain ⟨t, k⟩ := x
    simp only [eqOkB, Bool.and_eq_true, decide_eq_true_eq, Bool.not_eq_true'] at h
    simp only [lookK] at hk
    split at hk
    · rename_i e
      cases hk
      rw [← Nat.eq_of_beq_eq_true e]
      exact ⟨h.1.1.1, h.1.1.2, h.1.2⟩
    · exact ih h.2 hk

/-- what the program says of a function -/
structure Known (P : Program) (fid : FuncId) (fn : Func) : Prop where
  funcs : P.funcs[fid]? = some fn
  body : fn.body.isSome = true
  name : (fn.name == "runtime.NumGoroutine") = false

/-- where a function's run starts -/
def start (fn : Func) (args : List AV) : Cfg := ⟨args ++ List.replicate (fn.ntmps - args.length) .dead, [], [.code (fn.body.getD .skip)]⟩

theorem contract {P : Program} {E : Env} (hE : E.Fits P) {fid : FuncId} {fn : Func} {args : List AV} {v : AV} (hk : Known P fid fn) (h : Run P ⟨0, 0⟩ (start fn args) (RetR E fn.results.toList v)) : PureCall P fid args v := by
  obtain ⟨c, hc⟩ := Option.isSome_iff_exists.1 hk.body
  refine pure_of_run hE hk.funcs hc hk.name rfl ?_
  unfold start at h
  rw [hc] at h
  exact h

/-- one element of a slice that is made element by element -/
theorem idx_map {α : Type} {enc : α → List AV} {xs : List α} {i : Nat} {n : Nat} {R : List AV → Prop} (hi : i < xs.length) (hl : (enc xs[i]).length = n) (h : R (enc xs[i])) :
    True ∧ 0 ≤ (i : Int) ∧ ∃ c, (xs.map enc)[(i : Int).toNat]? = some c ∧ c.length = n ∧ R c :=
  ⟨trivial, by omega, _, by simp [hi], hl, h⟩

end Go.Proofs.YtllpenkgaomdfaaDoor.Vm
/- Data: what an argument's reading says of it. -/
set_option linter.all false
namespace Go.Proofs.YtllpenkgaomdfaaDoor.Vm
open Go

/-- all cells of the blocks that are there -/
def oldS (w : World) : Nat → Nat → Prop := fun b _ => b < w.heap.size

structure RelL (g : Gh) (w : World) (as : List AV) (cs : List Value) : Prop where
  len : as.length = cs.length
  rel : ∀ (j : Nat) (a : AV) (v : Value), as[j]? = some a → cs[j]? = some v → Rel g w a v

/-- a measure of data: at least so much -/
structure UOk (U : (H : Type) → DataW H → Nat) : Prop where
  str : ∀ H (b : List UInt8), b.length + 1 ≤ U H (.lit (.string b))
  lit : ∀ H l, 1 ≤ U H (.lit l)
  nil : ∀ H, 1 ≤ U H .nil
  slice : ∀ H (es sp : List (DataW H)), (es.map (U H)).sum + 1 ≤ U H (.slice es sp)
  agg : ∀ H (ps : List (DataW H)), (ps.map (U H)).sum + 1 ≤ U H (.agg ps)

/-- whatever a reading of type t takes, it is some x of α's -/
structure Opens (P : Program) (U : (H : Type) → DataW H → Nat) (t : TypeId) (α : Type) (n : Nat) (enc : α → List AV) (ok : α → Prop) (bulk : α → Nat) : Prop where
  size : P.cellsOf t = n
  pos : 0 < n
  len : ∀ x, (enc x).length = n
  pure : ∀ x, ∀ a ∈ enc x, a.pure = true
  op : ∀ {H : Type} (eh : TypeId × Value → H) (w : World) (base : Nat) (held : Bool) (fuel : Nat) (cs : List Value) (d : DataW H) (ps : List MemPlace),
    DataW.trod eh P w base (fun _ => true) held fuel t cs = some (d, ps) → (∀ n ∈ DataW.weights P t d, n ≤ reachBytes) → ∃ x, RelL (stG (oldS w)) w (enc x) cs ∧ ok x ∧ bulk x ≤ U H d

section
variable {P : Program} {U : (H : Type) → DataW H → Nat}

theorem relL_one {g : Gh} {w : World} {a : AV} {v : Value} (h : Rel g w a v) : RelL g w [a] [v] := ⟨rfl, fun j x u hx hu => by
  cases j with
  | zero => cases hx; cases hu; exact h
  | succ j => simp at hx⟩

theorem opens_int (hU : UOk U) {t : TypeId} {k : IntKind} (ht : P.underlying t = some (.int k)) (hc : P.cellsOf t = 1) : Opens P U t Int 1 (fun n => [.int k n]) (fun n => k.min ≤ n ∧ n ≤ k.max) (fun _ => 1) where
  size := hc
  pos := by omega
  len _ := rfl
  pure x a h := by simp at h; subst h; rfl
  op eh w base held fuel cs d ps h _ := by
    obtain ⟨n, rfl, h2, h3⟩ := DataW.trod_int ht h
    cases h2
    exact ⟨n, relL_one (.int _ _), by simpa [Lit.wf, Bool.and_eq_true, decide_eq_true_eq] using h3, hU.lit _ _⟩

theorem opens_bool (hU : UOk U) {t : TypeId} (ht : P.underlying t = some .bool) (hc : P.cellsOf t = 1) : Opens P U t Bool 1 (fun b => [.bool b]) (fun _ => True) (fun _ => 1) where
  size := hc
  pos := by omega
  len _ := rfl
  pure x a h := by simp at h; subst h; rfl
  op eh w base held fuel cs d ps h _ := by
    obtain ⟨b, rfl, h2⟩ := DataW.trod_bool ht h
    cases h2
    exact ⟨b, relL_one (.bool _), trivial, hU.lit _ _⟩

theorem opens_str (hU : UOk U) {t : TypeId} (ht : P.underlying t = some .string) (hc : P.cellsOf t = 1) : Opens P U t (List UInt8) 1 (fun s => [.str s]) (fun s => s.length ≤ reachBytes) (fun s => s.length + 1) where
  size := hc
  pos := by omega
  len _ := rfl
  pure x a h := by simp at h; subst h; rfl
  op eh w base held fuel cs d ps h hwt := by
    obtain ⟨s, rfl, h2, h3⟩ := DataW.trod_string ht h
    obtain ⟨⟨l⟩⟩ := s
    cases h2
    exact ⟨l, relL_one (.str l), hwt _ (by simp [DataW.weights]), hU.str _ _⟩

theorem Opens.map {t : TypeId} {α β : Type} {n : Nat} {enc : α → List AV} {ok : α → Prop} {bulk : α → Nat} (h : Opens P U t α n enc ok bulk) (f : α → β) {enc' : β → List AV} {ok' : β → Prop} {bulk' : β → Nat}
    (hl : ∀ y, (enc' y).length = n) (hp : ∀ y, ∀ a ∈ enc' y, a.pure = true) (he : ∀ x, enc' (f x) = enc x) (ho : ∀ x, ok x → ok' (f x)) (hb : ∀ x, bulk' (f x) ≤ bulk x) : Opens P U t β n enc' ok' bulk' where
  size := h.size
  pos := h.pos
  len := hl
  pure := hp
  op eh w base held fuel cs d ps hd hwt := by
    obtain ⟨x, h1, h2, h3⟩ := h.op eh w base held fuel cs d ps hd hwt
    exact ⟨f x, by rw [he]; exact h1, ho x h2, Nat.le_trans (hb x) h3⟩

/-- a struct's fields from one on -/
structure OpensF (P : Program) (U : (H : Type) → DataW H → Nat) (fs : List Field) (o : Nat) (β : Type) (n : Nat) (enc : β → List AV) (ok : β → Prop) (bulk : β → Nat) : Prop where
  len : ∀ x, (enc x).length = n
  pure : ∀ x, ∀ a ∈ enc x, a.pure = true
  op : ∀ {H : Type} (eh : TypeId × Value → H) (w : World) (base : Nat) (held : Bool) (m : Nat) (cs : List Value) (xs : List (DataW H × List MemPlace)), o + n ≤ cs.length → xs.length = fs.length →
    (∀ (i : Nat) (f : Field), fs[i]? = some f → DataW.trod eh P w base (fun _ => true) held m f.type ((cs.drop f.offset).take (P.cellsOf f.type)) = xs[i]?) → (∀ n ∈ DataW.weightsEach P (fs.map (·.type)) (xs.map (·.1)), n ≤ reachBytes) →
    ∃ x, RelL (stG (oldS w)) w (enc x) ((cs.drop o).take n) ∧ ok x ∧ bulk x ≤ (xs.map fun p => U H p.1).sum

theorem opens_nil {o : Nat} : OpensF P U [] o Unit 0 (fun _ => []) (fun _ => True) (fun _ => 0) where
  len _ := rfl
  pure _ a h := by simp at h
  op eh w base held m cs xs _ _ _ _ := ⟨(), ⟨by simp, fun j a v h => by simp at h⟩, trivial, Nat.zero_le _⟩

theorem opens_cons {f : Field} {fs : List Field} {α β : Type} {n1 n2 : Nat} {enc1 : α → List AV} {enc2 : β → List AV} {ok1 : α → Prop} {ok2 : β → Prop} {b1 : α → Nat} {b2 : β → Nat}
    (h1 : Opens P U f.type α n1 enc1 ok1 b1) (h2 : OpensF P U fs (f.offset + n1) β n2 enc2 ok2 b2) :
    OpensF P U (f :: fs) f.offset (α × β) (n1 + n2) (fun x => enc1 x.1 ++ enc2 x.2) (fun x => ok1 x.1 ∧ ok2 x.2) (fun x => b1 x.1 + b2 x.2) where
  len x := by rw [List.length_append, h1.len, h2.len]
  pure x a h := by
    rcases List.mem_append.1 h with h | h
    · exact h1.pure _ a h
    · exact h2.pure _ a h
  op eh w base held m cs xs hl hx hf hwt := by
    cases xs with
    | nil => simp at hx
    | cons y xs =>
      have hy := hf 0 f rfl
      simp only [List.getElem?_cons_zero] at hy
      obtain ⟨d, ps⟩ := y
      simp only [List.map_cons, DataW.weightsEach, List.mem_append] at hwt
      obtain ⟨x1, q1, q2, q3⟩ := h1.op eh w base held m _ d ps hy fun n hn => hwt n (.inl hn)
      obtain ⟨x2, r1, r2, r3⟩ := h2.op eh w base held m cs xs (by omega) (by simpa using hx) (fun i f' hi => hf (i + 1) f' (by simpa using hi)) fun n hn => hwt n (.inr hn)
      rw [h1.size] at q1
      have hsplit : (cs.drop f.offset).take (n1 + n2) = (cs.drop f.offset).take n1 ++ (cs.drop (f.offset + n1)).take n2 := by
        rw [List.take_add, List.drop_drop]
      refine ⟨(x1, x2), ?_, ⟨q2, r2⟩, ?_⟩
      · rw [hsplit]
        refine ⟨by rw [List.length_append, List.length_append, q1.len, r1.len], fun j a v ha hv => ?_⟩
        rw [List.getElem?_append] at ha hv
        rw [q1.len] at ha
        split at ha
        · rename_i hj; rw [if_pos hj] at hv; exact q1.rel _ _ _ ha hv
        · rename_i hj; rw [if_neg hj] at hv; exact r1.rel _ _ _ ha hv
      · simp only [List.map_cons, List.sum_cons]
        omega

theorem opens_struct (hU : UOk U) {t : TypeId} {fs : Array Field} {β : Type} {n : Nat} {enc : β → List AV} {ok : β → Prop} {bulk : β → Nat} (ht : P.underlying t = some (.struct fs)) (hc : P.cellsOf t = n) (h0 : 0 < n)
    (h : OpensF P U fs.toList 0 β n enc ok bulk) : Opens P U t β n enc ok (fun x => bulk x + 1) where
  size := hc
  pos := h0
  len := h.len
  pure := h.pure
  op eh w base held fuel cs d ps hd hwt := by
    obtain ⟨xs, m, _, h2, h3, h4, h5⟩ := DataW.trod_struct ht hd
    cases h2
    simp only [DataW.weights, ht] at hwt
    obtain ⟨x, q1, q2, q3⟩ := h.op eh w base held m cs xs (by omega) (by simpa using h4) (fun i f hi => h5 i f (by simpa using hi)) hwt
    rw [List.drop_zero, ← hc, ← h3, List.take_length] at q1
    refine ⟨x, q1, q2, ?_⟩
    have := hU.agg _ (xs.map (·.1))
    rw [List.map_map] at this
    exact Nat.le_trans (Nat.succ_le_succ q3) this

theorem opens_two (hU : UOk U) {t e : TypeId} {α : Type} {n : Nat} {enc : α → List AV} {ok : α → Prop} {bulk : α → Nat} (ht : P.underlying t = some (.array 2 e)) (hc : P.cellsOf t = n + n) (h : Opens P U e α n enc ok bulk) :
    Opens P U t (α × α) (n + n) (fun x => enc x.1 ++ enc x.2) (fun x => ok x.1 ∧ ok x.2) (fun x => bulk x.1 + bulk x.2 + 1) where
  size := hc
  pos := by have := h.pos; omega
  len x := by rw [List.length_append, h.len, h.len]
  pure x a hh := by
    rcases List.mem_append.1 hh with hh | hh
    · exact h.pure _ a hh
    · exact h.pure _ a hh
  op eh w base held fuel cs d ps hd hwt := by
    obtain ⟨xs, m, _, h2, h3, h4, h5⟩ := DataW.trod_array ht hd
    cases h2
    simp only [DataW.weights, ht] at hwt
    match xs, h4 with
    | [(d1, p1), (d2, p2)], _ =>
      have e1 := h5 0 (by omega)
      have e2 := h5 1 (by omega)
      rw [h.size] at e1 e2
      simp only [Nat.zero_mul, List.drop_zero, List.getElem?_cons_zero, Nat.one_mul, List.getElem?_cons_succ] at e1 e2
      simp only [List.map_cons, List.map_nil, DataW.weightsAll, List.mem_append, List.append_nil] at hwt
      obtain ⟨x1, q1, q2, q3⟩ := h.op eh w base held m _ d1 p1 e1 fun n hn => hwt n (.inl hn)
      obtain ⟨x2, r1, r2, r3⟩ := h.op eh w base held m _ d2 p2 e2 fun n hn => hwt n (.inr hn)
      have hsplit : cs = cs.take n ++ (cs.drop n).take n := by
        rw [← List.take_add, ← hc, ← h3, List.take_length]
      refine ⟨(x1, x2), ?_, ⟨q2, r2⟩, ?_⟩
      · rw [hsplit]
        refine ⟨by rw [List.length_append, List.length_append, q1.len, r1.len], fun j a v ha hv => ?_⟩
        rw [List.getElem?_append] at ha hv
        rw [q1.len] at ha
        split at ha
        · rename_i hj; rw [if_pos hj] at hv; exact q1.rel _ _ _ ha hv
        · rename_i hj; rw [if_neg hj] at hv; exact r1.rel _ _ _ ha hv
      · have := hU.agg _ [d1, d2]
        simp only [List.map_cons, List.map_nil, List.sum_cons, List.sum_nil] at this ⊢
        omega

theorem list_choose {α : Type} {p : Nat → α → Prop} : ∀ n, (∀ i, i < n → ∃ x, p i x) → ∃ xs : List α, xs.length = n ∧ ∀ i x, xs[i]? = some x → p i x := by
  intro n
  induction n with
  | zero => intro _; exact ⟨[], rfl, fun i x h => by simp at h⟩
  | succ n ih =>
    intro h
    obtain ⟨xs, h1, h2⟩ := ih fun i hi => h i (by omega)
    obtain ⟨x, hx⟩ := h n (by omega)
    refine ⟨xs ++ [x], by simp [h1], fun i y hy => ?_⟩
    rw [List.getElem?_append] at hy
    split at hy
    · exact h2 i y hy
    · rename_i hi
      have : i = n := by
        have := (List.getElem?_eq_some_iff.1 hy).1
        simp at this; omega
      subst this
      rw [h1, Nat.sub_self] at hy
      cases hy; exact hx

theorem sum_le {α : Type} {f g : α → Nat} : ∀ (l : List α), (∀ x ∈ l, f x ≤ g x) → (l.map f).sum ≤ (l.map g).sum := by
  intro l; induction l with
  | nil => intro _; exact Nat.le_refl _
  | cons x l ih =>
    intro h
    have h1 := h x (by simp)
    have h2 := ih fun y hy => h y (by simp [hy])
    simp only [List.map_cons, List.sum_cons]; omega

theorem sum_range {α : Type} {f : α → Nat} {g : Nat → Nat} : ∀ (xs : List α) (n : Nat), xs.length = n → (∀ i x, xs[i]? = some x → f x ≤ g i) → (xs.map f).sum ≤ ((List.range n).map g).sum := by
  intro xs n hl h
  have : xs.map f = (List.range n).map fun i => ((xs[i]?).map f).getD 0 := by
    apply List.ext_getElem?
    intro i
    by_cases hi : i < n
    · have hx := List.getElem?_eq_getElem (l := xs) (show i < xs.length by omega)
      simp [hi, hx]
    · simp [hi]; omega
  rw [this]
  refine sum_le _ fun i hi => ?_
  have hi := List.mem_range.1 hi
  have hx := List.getElem?_eq_getElem (l := xs) (show i < xs.length by omega)
  rw [hx]
  exact h i _ hx

theorem weightsAll_mem {H : Type} {e : TypeId} : ∀ (l : List (DataW H)) (n : Nat) (d : DataW H), d ∈ l → n ∈ DataW.weights P e d → n ∈ DataW.weightsAll P e l := by
  intro l
  induction l with
  | nil => intro n d hd; simp at hd
  | cons y l ih =>
    intro n d hd hn
    simp only [DataW.weightsAll, List.mem_append]
    rcases List.mem_cons.1 hd with rfl | hd
    · exact .inl hn
    · exact .inr (ih n d hd hn)
theorem opens_slice (hU : UOk U) {t e : TypeId} {α : Type} {n : Nat} {enc : α → List AV} {ok : α → Prop} {bulk : α → Nat} (ht : P.underlying t = some (.slice e)) (hc : P.cellsOf t = 1) (h : Opens P U e α n enc ok bulk) :
    Opens P U t (List α) 1 (fun xs => [.sl none false (xs.map enc)]) (fun xs => (∀ x ∈ xs, ok x) ∧ xs.length * P.bytesOf e ≤ reachBytes) (fun xs => (xs.map bulk).sum + 1) where
  size := hc
  pos := by omega
  len _ := rfl
  pure x a hh := by simp at hh; subst hh; rfl
  op eh w base held fuel cs d ps hd hwt := by
    rcases Go.Deep.open_slice ht hd with ⟨rfl, hx⟩ | ⟨a, len, cap, m, fu, D, Pl, rfl, hb, hl, hm, hmm, hx, hel⟩
    · cases hx
      exact ⟨[], relL_one (.slnil nofun nofun), ⟨fun x hx => by simp at hx, by simp⟩, hU.nil _⟩
    · cases hx
      simp only [if_true] at hmm
      subst hmm
      simp only [DataW.weights, ht, List.mem_cons, List.mem_append] at hwt
      obtain ⟨xs, hxl, hxs⟩ := list_choose (α := α) (p := fun i x => ∃ cs', w.cells? base (a.add (i * P.cellsOf e)) (P.cellsOf e) = some cs' ∧ RelL (stG (oldS w)) w (enc x) cs' ∧ ok x ∧ bulk x ≤ U _ (D i)) len fun i hi => by
        obtain ⟨cs', q1, q2⟩ := hel i (by omega)
        obtain ⟨x, r1, r2, r3⟩ := h.op eh w base held fu cs' _ _ q2 fun n hn => hwt n (.inr (.inl (weightsAll_mem _ n (D i) (List.mem_map.2 ⟨i, List.mem_range.2 hi, rfl⟩) hn)))
        exact ⟨x, cs', q1, r1, r2, r3⟩
      refine ⟨xs, relL_one ?_, ⟨fun x hx => ?_, by
        have := hwt _ (.inl rfl)
        rw [List.length_map, List.length_range] at this
        rw [hxl]
        exact Nat.le_trans (Nat.mul_le_mul_right _ (Nat.le_add_right _ _)) this⟩, ?_⟩
      · by_cases hc0 : m = 0
        · subst hc0
          have : xs = [] := List.eq_nil_of_length_eq_zero (by omega)
          subst this
          have : len = 0 := by omega
          subst this
          exact .slnil nofun nofun
        · have hsp : a = ⟨a.block, a.off, none⟩ := by
            obtain ⟨cs', q1, _⟩ := hel 0 (by omega)
            obtain ⟨_, q2, q3⟩ := World.cells?_some q1
            have q3 := q3 0 (by rw [h.size]; exact h.pos)
            rw [Nat.zero_mul, Addr.add_zero', Addr.add_zero'] at q3
            have hlt : 0 < cs'.length := by rw [q2, h.size]; exact h.pos
            rw [List.getElem?_eq_getElem hlt] at q3
            obtain ⟨b, o, sp⟩ := a
            cases sp with
            | none => rfl
            | some k =>
              unfold World.cell? at q3
              split at q3
              · simp at q3
              · exact nomatch q3
          obtain ⟨b, o, sp⟩ := a
          injection hsp with _ _ hsp
          subst hsp
          have hcell : ∀ i x j v, xs[i]? = some x → (enc x)[j]? = some v → ∃ u, w.cell? ⟨b, o + i * n + j, none⟩ = some u ∧ Rel (stG (oldS w)) w v u := fun i x j v hi hj => by
            obtain ⟨cs', q1, q2, _, _⟩ := hxs i x hi
            obtain ⟨_, q3, q4⟩ := World.cells?_some q1
            have hjl := (List.getElem?_eq_some_iff.1 hj).1
            rw [q2.len] at hjl
            have q4 := q4 j (by omega)
            rw [add_none, add_none, h.size, List.getElem?_eq_getElem hjl] at q4
            exact ⟨_, q4, q2.rel j v _ hj (List.getElem?_eq_getElem hjl)⟩
          have hget : ∀ i c, (xs.map enc)[i]? = some c → ∃ x, xs[i]? = some x ∧ c = enc x := fun i c hc => by
            rw [List.getElem?_map] at hc
            cases hi : xs[i]? with
            | none => rw [hi] at hc; exact nomatch hc
            | some x => rw [hi] at hc; cases hc; exact ⟨x, hi, rfl⟩
          have := Rel.sl (g := stG (oldS w)) (w := w) (nn := none) (full := false) (es := xs.map enc) (b := b) (o := o) (cap := m) (fun i j => (w.cell? ⟨b, o + i * n + j, none⟩).getD undef) nofun (by simp; omega) nofun
            (fun c hc x hx => by obtain ⟨y, _, rfl⟩ := List.mem_map.1 hc; exact h.pure y x hx)
            (fun i c j x hi hj => by
              obtain ⟨y, hy, rfl⟩ := hget i c hi
              obtain ⟨u, hu, _⟩ := hcell i y j x hy hj
              rw [h.len, hu]; rfl)
            (fun i c j x hi hj => by
              obtain ⟨y, hy, rfl⟩ := hget i c hi
              obtain ⟨u, hu, hr⟩ := hcell i y j x hy hj
              rw [hu]; exact hr)
            (fun i c j hi hj => by
              obtain ⟨y, hy, rfl⟩ := hget i c hi
              obtain ⟨u, hu, _⟩ := hcell i y j _ hy (List.getElem?_eq_getElem hj)
              show b < w.heap.size
              unfold World.cell? at hu
              split at hu
              · rename_i hh; exact (Array.getElem?_eq_some_iff.1 hh).1
              · exact nomatch hu)
          rw [List.length_map, hxl] at this
          exact this
      · obtain ⟨i, hi⟩ := List.getElem?_of_mem hx
        obtain ⟨_, _, _, r2, _⟩ := hxs i x hi
        exact r2
      · have h1 := sum_range (f := bulk) (g := fun i => U _ (D i)) xs len hxl fun i x hi => by
          obtain ⟨_, _, _, _, r3⟩ := hxs i x hi
          exact r3
        have h2 := hU.slice _ ((List.range len).map D) ((List.range (m - len)).map fun j => D (len + j))
        rw [List.map_map] at h2
        exact Nat.le_trans (Nat.succ_le_succ h1) h2

end
end Go.Proofs.YtllpenkgaomdfaaDoor.Vm
/- From a function's contract to what a row asks. -/
set_option linter.all false
namespace Go.Proofs.YtllpenkgaomdfaaDoor.Vm
open Go Go.ChangeShapes Go.WideShapes Go.ChangeAt Go.RowKit
variable [Tabs]

theorem below_of {g g' : Gh} {w w' : World} (h : Ext (fun b => w.heap.size ≤ b) g w g' w') : Below w.heap.size w w' :=
  ⟨h.low.os, h.low.tape, h.low.output, h.size, fun k hk => h.keep k (by omega)⟩

section
variable {H : Type} {eh : TypeId × Value → H} {P : Program}

theorem trodAll_stays (hl : laidOutB P = true) {W W' : World} (hb : Below W.heap.size W W') : ∀ {ts : List TypeId} {vs : List Value} {ds : List (DataW H)} {p : List MemPlace}, (∀ t ∈ ts, P.readableRec t = true ∧ t < P.types.size) →
    DataW.TrodAll eh P W 0 (fun _ => true) true ts vs ds p → (∀ x ∈ p, x.block < W.heap.size) → ∀ sp : Nat → Bool, (∀ x ∈ p, sp x.block = true) → DataW.TrodAll eh P W' 0 sp true ts vs ds p := by
  intro ts
  induction ts with
  | nil =>
    intro vs ds p _ h _ sp _
    obtain ⟨rfl, rfl, rfl⟩ := trodAll_nil h
    exact trodAll_mk0
  | cons t ts ih =>
    intro vs ds p ht h hlt sp hsp
    obtain ⟨v, vs1, d, ds1, a, b, rfl, rfl, rfl, h1, h2⟩ := trodAll_cons h
    refine trodAll_cons_mk (WideElems.Trod_stays hl (ht t (by simp)).1 (ht t (by simp)).2 h1 (fun x hx => hb.same (hlt x (by simp [hx]))) fun x hx => hsp x (by simp [hx])) (ih (fun t' h' => ht t' (by simp [h'])) h2 (fun x hx => hlt x (by simp [hx])) sp fun x hx => hsp x (by simp [hx]))

/-- what a law's row asks behind a call that has answered true and left old memory alone -/
theorem law_post (hl : laidOutB P = true) {f : Func} {s : ChangeSpec} {W W' : World} {args : Array Value} {ds gs : List (DataW H)} {before : List MemPlace} {tb : TypeId}
    (hpar : ∀ t ∈ f.params.toList, P.readableRec t = true ∧ t < P.types.size) (hvars : s.vars = []) (hres : (s.fn H (ds ++ gs)).results = [.lit (.bool true)]) (hargs : (s.fn H (ds ++ gs)).args = ds) (hv : (s.fn H (ds ++ gs)).vars = [])
    (hrt : f.resultTypes = #[tb]) (hb : P.underlying tb = some .bool) (hW : DataW.Whole eh P f.params.toList s.vars false W args.toList ds gs before) {g g' : Gh} (hE : Ext (fun b => W.heap.size ≤ b) g W g' W') :
    s.post eh P f false true false false W args (.bool true) W' := by
  have hW' := hW
  have hlt := fun x hx => hW'.lt x hx
  obtain ⟨p, q, hA, hV, hps, hfz, hnd⟩ := hW
  rw [hvars] at hV
  obtain ⟨rfl, rfl⟩ := trodVars_none hV
  rw [List.append_nil] at hps
  subst hps
  have hbel := below_of hE
  refine ⟨ds, [], before, [], before, [], hW', ?_, ?_, ?_, World.keptBut_mono (fun p hp => ⟨hp, .inr (.inl hp)⟩) (hbel.frame _), fun h => nomatch h⟩
  · rw [hres, hrt]
    exact trodAll_cons_mk (shut_bool hb _) trodAll_mk0
  · rw [hargs]
    exact trodAll_stays hl hbel hpar hA (fun x hx => hlt x hx) _ (fun x hx => by simpa using hlt x hx)
  · rw [hv, hvars]
    rfl

/-- arguments, one by one -/
theorem rel_args {g : Gh} {W : World} {as : List AV} {args : Array Value} (hl : as.length = args.size) (h : ∀ (i : Nat) (a : AV) (v : Value), as[i]? = some a → args.toList[i]? = some v → Rel g W a v) :
    ∀ (i : Nat) (a : AV) (v : Value), as[i]? = some a → args[i]? = some v → Rel g W a v := fun i a v ha hv => h i a v ha (by simpa using hv)

theorem okWide_cell {W : World} {r : Reach} {base : Nat} {t : TypeId} {v : Value} {d : TypeDesc} (hd : P.underlying t = some d) (hs : ∀ fs, d ≠ .struct fs) (ha : ∀ n e, d ≠ .array n e) (h : Value.okWide P W r base t v) : v.cells = #[v] := by
  unfold Value.okWide at h
  rw [hd] at h
  cases v with
  | agg cs =>
    exfalso
    cases d <;> first
      | exact hs _ rfl
      | exact ha _ _ rfl
      | (simp [Cell.okWide, Cell.ok, hd] at h)
  | _ => rfl

theorem okWide_struct {W : World} {r : Reach} {base : Nat} {t : TypeId} {v : Value} {fs : Array Field} (hd : P.underlying t = some (.struct fs)) (h : Value.okWide P W r base t v) : ∃ cs, v = .agg cs := by
  unfold Value.okWide at h
  rw [hd] at h
  obtain ⟨cs, rfl, _⟩ := h
  exact ⟨cs, rfl⟩

/-- an argument that is one cell -/
theorem arg_cell {U : (H : Type) → DataW H → Nat} {t : TypeId} {α : Type} {enc : α → AV} {ok : α → Prop} {bulk : α → Nat} (h : Opens P U t α 1 (fun x => [enc x]) ok bulk) {W : World} {r : Reach} {base : Nat} {v : Value} {d : DataW H} {p : List MemPlace} {de : TypeDesc}
    (hd : P.underlying t = some de) (hs : ∀ fs, de ≠ .struct fs) (ha : ∀ n e, de ≠ .array n e) (hval : Value.okWide P W r base t v) (ht : DataW.Trod eh P W 0 (fun _ => true) true t v d p) (hwt : ∀ n ∈ DataW.weights P t d, n ≤ reachBytes) :
    ∃ x, Rel (stG (oldS W)) W (enc x) v ∧ ok x ∧ bulk x ≤ U H d := by
  obtain ⟨fuel, ht⟩ := ht
  rw [okWide_cell hd hs ha hval] at ht
  obtain ⟨x, h1, h2, h3⟩ := h.op eh W 0 true fuel _ d p ht hwt
  exact ⟨x, h1.rel 0 _ _ rfl rfl, h2, h3⟩

/-- an argument that is a struct -/
theorem arg_struct {U : (H : Type) → DataW H → Nat} {t : TypeId} {α : Type} {n : Nat} {enc : α → List AV} {ok : α → Prop} {bulk : α → Nat} (h : Opens P U t α n enc ok bulk) {W : World} {r : Reach} {base : Nat} {v : Value} {d : DataW H} {p : List MemPlace} {fs : Array Field}
    (hd : P.underlying t = some (.struct fs)) (hval : Value.okWide P W r base t v) (ht : DataW.Trod eh P W 0 (fun _ => true) true t v d p) (hwt : ∀ n ∈ DataW.weights P t d, n ≤ reachBytes) :
    ∃ x, Rel (stG (oldS W)) W (.agg (enc x)) v ∧ ok x ∧ bulk x ≤ U H d := by
  obtain ⟨cs, rfl⟩ := okWide_struct hd hval
  obtain ⟨fuel, ht⟩ := ht
  obtain ⟨x, h1, h2, h3⟩ := h.op eh W 0 true fuel _ d p ht hwt
  refine ⟨x, .agg (h1.len.trans (by simp [Value.cells])) fun i a u ha hu => h1.rel i a u ha ?_, h2, h3⟩
  show cs.toList[i]? = some u
  simpa using hu

/-- a call of a function that answers true -/
theorem law_calls {fid : FuncId} {W : World} {as : List AV} {args : Array Value} (htab : Tabs.ok (oldS W) W) (hc : PureCall P fid as (.bool true)) (hl : as.length = args.size) (hr : ∀ (i : Nat) (a : AV) (v : Value), as[i]? = some a → args[i]? = some v → Rel (stG (oldS W)) W a v) :
    Calls P fid args W fun e W' => e = .returned (.bool true) ∧ ∃ g g', Ext (fun b => W.heap.size ≤ b) g W g' W' :=
  (hc.2 (oldS W) W args (fun b x h => h) htab hl hr).mono fun e W' ⟨st', val, he, hE, _, hv⟩ => by
    have := rel_bool hv
    subst this
    exact ⟨he, _, _, hE⟩

end
end Go.Proofs.YtllpenkgaomdfaaDoor.Vm
