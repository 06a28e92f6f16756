/- New owned rows: literals, make, append. -/
import Derived.Test.YtfemjbmfpnpjfaaDoorAbsRows
namespace Go.Ab

variable {E : Env0} {X : Cx} {s s1 : St} {a : Act} {w : World}

/-- A draw changes nothing that is told. -/
theorem Ext.drew (X : Cx) (w : World) : Ext X w X w.drew := ⟨rfl, Nat.le_refl _, rfl, rfl, rfl, fun _ _ h => ⟨h, rfl⟩, fun b l k h => ⟨fun l' k' h' => (by rw [h] at h'; simp only [Option.some.injEq, Prod.mk.injEq] at h'; omega), fun _ _ => rfl⟩⟩
theorem Rel.drew (h : Rel E X s a w) : Rel E X s a w.drew :=
  h.bg (Ext.drew X w) rfl (fun l _ _ _ b k hx => ⟨hx, rfl⟩) (fun b l k hx => ⟨h.gdom b l k hx, h.oamb b l k hx⟩)

/-- A new row of elements, owned by the result. -/
theorem Rel.newOwn (h : Rel E X s a w) {xs : List D} {cap sz : Nat} {cur : Array Value} {e : TypeId} {lt : Bool} (hs : ∀ x ∈ xs, x.cells.length = sz) (hz : 0 < sz) (hne : xs ≠ []) (hsz : cur.size = cap * sz) (hc : xs.length ≤ cap) (hm : cap ≤ maxLen)
    (hr : ∀ (i : Nat) x, xs[i]? = some x → ∀ (j : Nat) c, x.cells[j]? = some c → ∃ u, cur[i * sz + j]? = some u ∧ Rep w X.imm c u) :
    ∃ X', X'.mu = X.mu ∧ Ext X w X' (w.alloc (.cells cur e)) ∧ Rel E X' s a (w.alloc (.cells cur e)) ∧ OwnOk (w.alloc (.cells cur e)) X' (.res 0) xs lt (.slice (some ⟨w.heap.size, 0, none⟩) xs.length cap) := by
  let X' : Cx := { X with G := fun b => if b = w.heap.size then some (.res 0, if lt then xs.length * sz else 0) else X.G b }
  have hE : Ext X w X' (w.alloc (.cells cur e)) := by
    refine ⟨rfl, by simp, rfl, rfl, rfl, fun b hb hx => ⟨?_, heap_alloc_old w _ b hb⟩, fun b l k hx => ⟨fun l' k' h' => ?_, fun o _ => cell?_of_heap (heap_alloc_old w _ b (h.gdom b l k hx)) o⟩⟩
    · have : b ≠ w.heap.size := by omega
      simp [X', this, hx]
    · have : b ≠ w.heap.size := by have := h.gdom b l k hx; omega
      simp only [X', this, if_false] at h'
      rw [hx] at h'
      simp only [Option.some.injEq, Prod.mk.injEq] at h'
      omega
  refine ⟨X', rfl, hE, h.bg hE rfl (fun l _ _ _ b k hx => ⟨?_, heap_alloc_old w _ b (h.gdom b l k hx)⟩) (fun b l k hx => ?_), .inr (.inr ⟨w.heap.size, cap, cur, e, sz, rfl, by simp [X'], heap_alloc_new w _, hs, hz, hne, hsz, hc, hm, fun i x hx j c hj => let ⟨u, h1, h2⟩ := hr i x hx j c hj; ⟨u, h1, hE.rep h2⟩⟩)⟩
  · have : b ≠ w.heap.size := by have := h.gdom b l k hx; omega
    simp [X', this, hx]
  · simp only [X'] at hx
    split at hx
    · rename_i hb
      refine ⟨by simp; omega, fun o => ?_⟩
      subst hb
      exact h.amb _ o (Nat.le_refl _)
    · refine ⟨by have := h.gdom b l k hx; simp; omega, h.oamb b l k hx⟩

theorem tyElem_u {P : Program} {t e : TypeId} (h : tyElem P t = some e) : P.underlying t = some (.slice e) := by
  unfold tyElem at h
  split at h
  · rename_i e' hu; cases h; exact hu
  · cases h
theorem tyZero_i {P : Program} {t : TypeId} {z : Value} (h : tyZero P t = some z) : ∃ i, P.info? t = some i ∧ i.zero = some z := by
  simpa [tyZero, Option.bind_eq_some_iff] using h
theorem tyBytes_i {P : Program} {t : TypeId} {b : Nat} (h : tyBytes P t = some b) : ∃ i, P.info? t = some i ∧ i.bytes = b := by
  simpa [tyBytes, Option.map_eq_some_iff] using h
theorem tySize_i {P : Program} {t : TypeId} {b : Nat} (h : tySize P t = some b) : ∃ i, P.info? t = some i ∧ i.size = b := by
  simpa [tySize, Option.map_eq_some_iff] using h

/-- A datum's cells in its value. -/
theorem rep_cells {w : World} {I : Nat → Nat → Prop} {x : D} {v : Value} (h : Rep w I x v) : v.cells.size = x.cells.length ∧ ∀ (j : Nat) c, x.cells[j]? = some c → Rep w I c (v.cells.getD j undef) := by
  have one : ∀ {y : D} {u : Value}, Rep w I y u → y.cells = [y] → u.cells = #[u] → u.cells.size = y.cells.length ∧ ∀ (j : Nat) c, y.cells[j]? = some c → Rep w I c (u.cells.getD j undef) := by
    intro y u hr h1 h2
    rw [h1, h2]
    refine ⟨rfl, fun j c hj => ?_⟩
    cases j with
    | zero => simp at hj; subst hj; exact hr
    | succ j => simp at hj
  cases h with
  | v _ h1 => exact one (.v _ h1) rfl (by cases v <;> first | rfl | cases h1)
  | empty a c => exact one (.empty a c) rfl rfl
  | list xs b off cap sz V hs hc hh hr => exact one (.list xs b off cap sz V hs hc hh hr) rfl rfl
  | agg cs vs hn hr => exact ⟨hn, hr⟩

theorem makeSlice_sound (h : Rel E X s a w) (o : Oper) {t e : TypeId} {l c : Operand} (ho : o.op = .makeSlice t l c) {n : Int} {z : Value} {x : D} {b : Nat} (he : tyElem E.P t = some e) (hl : plainC E s l = some (.v (.int .i64 n))) (hc : plainC E s c = some (.v (.int .i64 n)))
    (hz : tyZero E.P e = some z) (hx : freeze (constAV z) = some x) (hb : tyBytes E.P e = some b) (h0 : 0 ≤ n) (h1 : n ≤ 65536) (h2 : b ≤ 65536) (hok : elemsOk E.P e [x] = true) :
    Sound E X a w ((execOp a.eval o).run E.P w) (.own (List.replicate n.toNat x) false) s := by
  obtain ⟨i, hi, hzi⟩ := tyZero_i hz
  obtain ⟨i2, hi2, hbi⟩ := tyBytes_i hb
  rw [hi] at hi2; cases hi2
  obtain ⟨g, sz, hg, hs, hall⟩ := elemsOk_get hok
  obtain ⟨i3, hi3, hsi⟩ := tySize_i hs
  rw [hi] at hi3; cases hi3
  obtain ⟨hxl, _, hpos, _⟩ := hall x (by simp)
  have hm1 : n.toNat * b ≤ 65536 * 65536 := Nat.mul_le_mul (by omega) h2
  have e1 : (b : Int) * n = ((n.toNat * b : Nat) : Int) := by rw [Int.natCast_mul, Int.toNat_of_nonneg h0, Int.mul_comm]
  have e2 : (i.bytes : Int) * n ≤ 281474976710656 := by rw [hbi, e1]; omega
  have hrun := run_make (P := E.P) w t e i z (tyElem_u he) hi hzi .i64 .i64 n n h0 (Int.le_refl _) e2 (by omega)
  have hrun' : (execOp a.eval o).run E.P w = .ok (.value (.slice (some ⟨w.heap.size, 0, none⟩) n.toNat n.toNat)) (w.alloc (.cells (madeCells z.cells (n.toNat * sz)) e)) := by
    simp only [execOp, ho, h.val hl, h.val hc, Sem.run_bind, hrun, Result.andThen_ok, hsi]
    rfl
  have hrepz : ∀ I, Rep w I x z := fun I => const_freeze hx
  by_cases hn : n.toNat = 0
  · -- nothing is owned
    have hE : Ext X w X (w.alloc (.cells (madeCells z.cells (n.toNat * sz)) e)) := by
      refine ⟨rfl, by simp, rfl, rfl, rfl, fun b hb hx => ⟨hx, heap_alloc_old w _ b hb⟩, fun b l k hx => ⟨fun l' k' h' => (by rw [hx] at h'; simp only [Option.some.injEq, Prod.mk.injEq] at h'; omega), fun o _ => cell?_of_heap (heap_alloc_old w _ b (h.gdom b l k hx)) o⟩⟩
    refine ⟨_, _, X, hrun', ⟨[], by simp⟩, hE, h.bg hE rfl (fun l _ _ _ b k hx => ⟨hx, heap_alloc_old w _ b (h.gdom b l k hx)⟩) (fun b l k hx => ⟨by have := h.gdom b l k hx; simp; omega, h.oamb b l k hx⟩), ?_⟩
    rw [hn]
    exact .inl ⟨rfl, _, rfl⟩
  · have hzc : z.cells.size = sz := by rw [(rep_cells (hrepz X.imm)).1, hxl]
    obtain ⟨X', hmu, hE, hR, hO⟩ := h.newOwn (e := e) (lt := false) (xs := List.replicate n.toNat x) (cap := n.toNat) (sz := sz) (cur := madeCells z.cells (n.toNat * sz))
      (fun y hy => by rw [(List.mem_replicate.1 hy).2]; exact hxl) hpos (by simp [hn]) (size_madeCells _ _) (by simp) (by unfold maxLen; omega) (fun i' y hy j c hj => by
        have hlt : i' < n.toNat := by have := (List.getElem?_eq_some_iff.1 hy).1; simpa using this
        have hyx : y = x := by rw [List.getElem?_replicate] at hy; simp [hlt] at hy; exact hy.symm
        subst hyx
        have hjl : j < sz := by rw [← hxl]; exact (List.getElem?_eq_some_iff.1 hj).1
        have hb2 : (i' + 1) * sz ≤ n.toNat * sz := Nat.mul_le_mul_right _ hlt
        rw [Nat.add_mul] at hb2
        have hk : i' * sz + j < n.toNat * sz := by omega
        refine ⟨z.cells.getD j undef, ?_, (rep_cells (hrepz X.imm)).2 j c hj⟩
        have hmod : (i' * sz + j) % z.cells.size = j := by rw [hzc, Nat.mul_comm, Nat.mul_add_mod]; exact Nat.mod_eq_of_lt hjl
        simp only [madeCells, Array.getElem?_map, Array.getElem?_range, hk, if_true, Option.map_some, hmod]
        have hjz : j < z.cells.size := by omega
        simp [Array.getD, hjz])
    refine ⟨_, _, X', hrun', ⟨[], by simp [hmu]⟩, hE, hR, ?_⟩
    have : (List.replicate n.toNat x).length = n.toNat := by simp
    rw [this] at hO
    exact hO

end Go.Ab
