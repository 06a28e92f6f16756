/- append. -/
import Derived.Test.YtfemjbmfpnpjfaaDoorAbsOwn
namespace Go.Ab

variable {E : Env0} {X : Cx} {s s1 : St} {a : Act} {w : World}

/-- The cells of the elements of a list that is read, one behind the other. -/
theorem rep_row {I : Nat → Nat → Prop} {ys : List D} {b off sz : Nat} {V : Nat → Nat → Value} (hs : ∀ x ∈ ys, x.cells.length = sz) (hz : 0 < sz)
    (hh : ∀ (i : Nat) x, ys[i]? = some x → ∀ (j : Nat) c, x.cells[j]? = some c → w.cell? ⟨b, off + i * sz + j, none⟩ = some (V i j) ∧ I b (off + i * sz + j))
    (hr : ∀ (i : Nat) x, ys[i]? = some x → ∀ (j : Nat) c, x.cells[j]? = some c → Rep w I c (V i j)) :
    ∃ news : List Value, news.length = ys.length * sz ∧ (∀ (k : Nat) v, news[k]? = some v → w.cell? ⟨b, off + k, none⟩ = some v) ∧
      (∀ (i : Nat) x, ys[i]? = some x → ∀ (j : Nat) c, x.cells[j]? = some c → ∃ u, news[i * sz + j]? = some u ∧ Rep w I c u) ∧ (∀ (k : Nat) v, news[k]? = some v → ∃ x c, x ∈ ys ∧ c ∈ x.cells ∧ Rep w I c v) := by
  have key : ∀ k, k < ys.length * sz → ∃ x, ys[k / sz]? = some x ∧ ∃ c, x.cells[k % sz]? = some c := by
    intro k hk
    have h1 : k / sz < ys.length := Nat.div_lt_of_lt_mul (by rw [Nat.mul_comm]; exact hk)
    have h2 : k % sz < ys[k / sz].cells.length := by rw [hs _ (List.getElem_mem _)]; exact Nat.mod_lt _ hz
    exact ⟨ys[k / sz], by simp [h1], _, List.getElem?_eq_getElem h2⟩
  refine ⟨(List.range (ys.length * sz)).map fun k => V (k / sz) (k % sz), by simp, fun k v hv => ?_, fun i x hx j c hj => ?_, fun k v hv => ?_⟩
  · simp only [List.getElem?_map, Option.map_eq_some_iff] at hv
    obtain ⟨k', hk', rfl⟩ := hv
    have hkl : k < ys.length * sz := by have := (List.getElem?_eq_some_iff.1 hk').1; simpa using this
    have : k' = k := by rw [List.getElem?_range hkl] at hk'; cases hk'; rfl
    subst this
    obtain ⟨x, hx, c, hc⟩ := key k' hkl
    have := (hh _ x hx _ c hc).1
    rw [Nat.add_assoc, Nat.mul_comm, Nat.div_add_mod] at this
    exact this
  · have hi : i < ys.length := (List.getElem?_eq_some_iff.1 hx).1
    have hj' : j < sz := by rw [← hs x (List.mem_of_getElem? hx)]; exact (List.getElem?_eq_some_iff.1 hj).1
    have hb : (i + 1) * sz ≤ ys.length * sz := Nat.mul_le_mul_right _ hi
    rw [Nat.add_mul] at hb
    have hk : i * sz + j < ys.length * sz := by omega
    have h1 : (i * sz + j) / sz = i := by rw [Nat.mul_comm, Nat.mul_add_div hz, Nat.div_eq_of_lt hj']; omega
    have h2 : (i * sz + j) % sz = j := by rw [Nat.mul_comm, Nat.mul_add_mod]; exact Nat.mod_eq_of_lt hj'
    exact ⟨V i j, by rw [List.getElem?_map, List.getElem?_range hk]; simp [h1, h2], hr i x hx j c hj⟩
  · simp only [List.getElem?_map, Option.map_eq_some_iff] at hv
    obtain ⟨k', hk', rfl⟩ := hv
    have hkl : k < ys.length * sz := by have := (List.getElem?_eq_some_iff.1 hk').1; simpa using this
    have : k' = k := by rw [List.getElem?_range hkl] at hk'; cases hk'; rfl
    subst this
    obtain ⟨x, hx, c, hc⟩ := key k' hkl
    exact ⟨x, c, List.mem_of_getElem? hx, List.mem_of_getElem? hc, hr _ x hx _ c hc⟩

theorem zero_run {P : Program} {w : World} {t e ty : TypeId} {i : TypeInfo} (ht : P.underlying t = some (.slice e)) (hi : P.info? e = some i) (v : Value) {ad : Option Addr} {n c m c2 : Nat} {ad2 : Option Addr} (hv : v = .slice ad n c) (hm : m = 0) (hle : n ≤ c) :
    (Builtin.append_ #[t, t] ty #[v, .slice ad2 m c2]).run P w = .ok v w := by
  subst hv hm
  have hfc : (Builtin.firstCells i.size 0 (.slice ad2 0 c2)).run P w = .ok #[] w := by
    cases ad2 with
    | none => exact run_firstCells_none w i.size 0 0 c2
    | some b => simp [Builtin.firstCells, loadCells, loadCellsFrom]
  cases ad with
  | none => simp [Builtin.append_, run_underlying ht, sizeOf, typeInfo, hi, Builtin.lenOf, hle, hfc]
  | some b => simp [Builtin.append_, run_underlying ht, sizeOf, typeInfo, hi, Builtin.lenOf, hle, hfc, storeCells]

/-- Where there is room: whatever type the array was made for. -/
theorem run_append_room' {P : Program} {w : World} (t ty e e1 : TypeId) (i : TypeInfo) (ht : P.underlying t = some (.slice e)) (hi : P.info? e = some i)
    (g sLen sCap : Nat) (cur : Array Value) (hg : w.heap[g]? = some (.cells cur e1 (0, 0)))
    (a : Addr) (m c : Nat) (news : List Value) (hl : news.length = m * i.size) (hnews : ∀ (j : Nat) u, news[j]? = some u → w.cell? (a.add j) = some u) (h1 : ∀ u ∈ news, u.oneCell' = true)
    (hroom : sLen + m ≤ sCap) (hfit : sLen * i.size + news.length ≤ cur.size) :
    (Builtin.append_ #[t, t] ty #[.slice (some ⟨g, 0, none⟩) sLen sCap, .slice (some a) m c]).run P w =
      .ok (.slice (some ⟨g, 0, none⟩) (sLen + m) sCap) (w.setRow g (cur.toList.take (sLen * i.size) ++ news ++ cur.toList.drop (sLen * i.size + news.length)).toArray) := by
  have hf := run_firstCells_some (P := P) w i.size m a m c news hl hnews
  have hst := run_storeCells_at P g (sLen * i.size) e1 news 0 cur w hg (by simpa using hfit) h1
  simp only [Nat.add_zero] at hst
  simp [Builtin.append_, run_underlying ht, sizeOf, typeInfo, hi, Builtin.lenOf, hroom, hf, add_lit, hst]

theorem append_core (h : Rel E X s a w) {t e ty : TypeId} {xs ys : List D} {lt : Bool} {v u : Value} {b : Nat} (hte : tyElem E.P t = some e) (hb : tyBytes E.P e = some b) (hb2 : b ≤ 65536) (hzo : zeroOk E.P e = true)
    (hx : elemsOk E.P e xs = true) (hy : elemsOk E.P e ys = true) (hlen : xs.length + ys.length ≤ maxElems) (ho : OwnOk w X (.res 0) xs lt v) (hu : Rep w X.imm (.list ys) u) :
    ∃ v' w1 X1, (Builtin.append_ #[t, t] ty #[v, u]).run E.P w = .ok v' w1 ∧ X1.mu = X.mu ∧ Ext X w X1 w1 ∧ Rel E X1 s a w1 ∧ OwnOk w1 X1 (.res 0) (xs ++ ys) lt v' := by
  have ht := tyElem_u hte
  obtain ⟨i, hi, hbi⟩ := tyBytes_i hb
  obtain ⟨g, sz, hg, hs, hallx⟩ := elemsOk_get hx
  obtain ⟨g', sz', hg', hs', hally⟩ := elemsOk_get hy
  rw [hs] at hs'; cases hs'
  obtain ⟨i3, hi3, hsi⟩ := tySize_i hs
  rw [hi] at hi3; cases hi3
  obtain ⟨z, hz, hzs⟩ : ∃ z, tyZero E.P e = some z ∧ z.cells.size = sz := by
    unfold zeroOk at hzo
    rw [hs] at hzo
    split at hzo
    · rename_i z n h1 h2; cases h2; exact ⟨z, h1, by simpa using hzo⟩
    · cases hzo
  obtain ⟨i4, hi4, hzi⟩ := tyZero_i hz
  rw [hi] at hi4; cases hi4
  unfold maxElems at hlen
  by_cases hy0 : ys = []
  · -- nothing is appended
    subst hy0
    have hu' : ∃ ad2 c2, u = .slice ad2 0 c2 := by
      cases hu with
      | empty a0 c0 => exact ⟨a0, c0, rfl⟩
      | list _ b off cap sz V hs hc hh hr => exact ⟨_, cap, rfl⟩
    obtain ⟨ad2, c2, rfl⟩ := hu'
    have hv : ∃ ad n c, v = .slice ad n c ∧ n ≤ c := by
      rcases ho with ⟨_, a0, rfl⟩ | ⟨_, _, a0, n0, rfl⟩ | ⟨b0, cap, cur, e1, sz1, rfl, _, _, _, _, _, _, h8, _⟩
      · exact ⟨a0, 0, 0, rfl, Nat.le_refl _⟩
      · exact ⟨a0, n0, n0, rfl, Nat.le_refl _⟩
      · exact ⟨_, _, cap, rfl, h8⟩
    obtain ⟨ad, n, c, hv1, hv2⟩ := hv
    exact ⟨v, w, X, zero_run ht hi v hv1 rfl hv2, rfl, Ext.refl X w, h, by rw [List.append_nil]; exact ho⟩
  · have hylen : 0 < ys.length := List.length_pos_iff.2 hy0
    obtain ⟨y0, hy0m⟩ := List.exists_mem_of_ne_nil _ hy0
    have hz0 : 0 < sz := (hally y0 hy0m).2.2.1
    obtain ⟨ub, uoff, ucap, hu1, news, hnl, hnc, hnr, hnone⟩ : ∃ ub uoff ucap, u = .slice (some ⟨ub, uoff, none⟩) ys.length ucap ∧ ∃ news : List Value, news.length = ys.length * sz ∧ (∀ (k : Nat) v, news[k]? = some v → w.cell? ⟨ub, uoff + k, none⟩ = some v) ∧
        (∀ (i : Nat) x, ys[i]? = some x → ∀ (j : Nat) c, x.cells[j]? = some c → ∃ u, news[i * sz + j]? = some u ∧ Rep w X.imm c u) ∧ (∀ v ∈ news, v.oneCell' = true) := by
      cases hu with
      | empty a0 c0 => exact absurd rfl hy0
      | list _ b0 off cap sz0 V hs0 hc0 hh hr =>
        have : sz0 = sz := by rw [← hs0 y0 hy0m, (hally y0 hy0m).1]
        subst this
        obtain ⟨news, h1, h2, h3, h4⟩ := rep_row hs0 hz0 hh hr
        refine ⟨b0, off, cap, rfl, news, h1, h2, h3, fun v hv => ?_⟩
        obtain ⟨k, hk, rfl⟩ := List.mem_iff_getElem.1 hv
        obtain ⟨x, c, hxm, hcm, hrc⟩ := h4 k news[k] (by simp [hk])
        have hca := (hally x hxm).2.2.2 c hcm
        revert hrc
        generalize news[k] = vv
        intro hrc
        cases hrc with
        | v _ h1 => exact h1
        | empty a c => rfl
        | list _ b off cap sz V hs hc hh hr => rfl
        | agg cs vs hn hr => cases hca
    subst hu1
    have h47 : (xs.length + ys.length) * b ≤ 140737488355328 := by
      have := Nat.mul_le_mul hlen hb2
      omega
    have hml : xs.length + ys.length ≤ maxLen := by unfold maxLen; omega
    have hnc' : ∀ (j : Nat) v, news[j]? = some v → w.cell? ((⟨ub, uoff, none⟩ : Addr).add j) = some v := fun j v hv => by rw [add_lit]; exact hnc j v hv
    -- the array is made anew
    have grow : ∀ (olds : List Value) (old : Nat), old < xs.length + ys.length → olds.length = xs.length * sz → (∀ (i : Nat) x, xs[i]? = some x → ∀ (j : Nat) c, x.cells[j]? = some c → ∃ u, olds[i * sz + j]? = some u ∧ Rep w X.imm c u) →
        ∃ X1, X1.mu = X.mu ∧ Ext X w X1 (w.drew.alloc (.cells (olds.toArray ++ news.toArray ++ Builtin.zeroCells z.cells (grownCap w (xs.length + ys.length) old e - (xs.length + ys.length))) e)) ∧
          Rel E X1 s a (w.drew.alloc (.cells (olds.toArray ++ news.toArray ++ Builtin.zeroCells z.cells (grownCap w (xs.length + ys.length) old e - (xs.length + ys.length))) e)) ∧
          OwnOk (w.drew.alloc (.cells (olds.toArray ++ news.toArray ++ Builtin.zeroCells z.cells (grownCap w (xs.length + ys.length) old e - (xs.length + ys.length))) e)) X1 (.res 0) (xs ++ ys) lt (.slice (some ⟨w.heap.size, 0, none⟩) (xs.length + ys.length) (grownCap w (xs.length + ys.length) old e)) := by
      intro olds old hold holen hor
      have hR := h.dropRes.drew
      have hE1 : Ext X w (X.remap φres) w.drew := Ext.trans h.gdom (Ext.remap X w φres) (Ext.drew _ w)
      have hge := grownCap_ge w (xs.length + ys.length) old e
      have hcm := grownCap_le_maxLen w (xs.length + ys.length) old e hml
      obtain ⟨X1, hmu, hE, hR1, hO⟩ := hR.newOwn (e := e) (lt := lt) (xs := xs ++ ys) (cap := grownCap w (xs.length + ys.length) old e) (sz := sz)
        (cur := olds.toArray ++ news.toArray ++ Builtin.zeroCells z.cells (grownCap w (xs.length + ys.length) old e - (xs.length + ys.length)))
        (fun x hx => by rcases List.mem_append.1 hx with hx | hx; exact (hallx x hx).1; exact (hally x hx).1) hz0 (by simp [hy0])
        (by simp only [Array.size_append, List.size_toArray, size_zeroCells, hzs, holen, hnl, ← Nat.add_mul]; congr 1; omega) (by simpa using hge) hcm (fun i' x hx' j c hj => by
          have hjs : j < sz := by
            have hm' := List.mem_of_getElem? hx'
            have := (List.getElem?_eq_some_iff.1 hj).1
            rcases List.mem_append.1 hm' with hm' | hm'
            · rw [(hallx _ hm').1] at this; exact this
            · rw [(hally _ hm').1] at this; exact this
          have hrep : ∀ {c u}, Rep w X.imm c u → Rep w.drew (X.remap φres).imm c u := fun hr => hE1.rep hr
          by_cases hlt : i' < xs.length
          · rw [List.getElem?_append_left hlt] at hx'
            obtain ⟨u, h1, h2⟩ := hor i' x hx' j c hj
            refine ⟨u, ?_, hrep h2⟩
            have hlo := (List.getElem?_eq_some_iff.1 h1).1
            rw [Array.append_assoc, Array.getElem?_append_left (by simpa using hlo)]
            simpa using h1
          · have hge' : xs.length ≤ i' := by omega
            rw [List.getElem?_append_right hge'] at hx'
            obtain ⟨u, h1, h2⟩ := hnr (i' - xs.length) x hx' j c hj
            refine ⟨u, ?_, hrep h2⟩
            have hln := (List.getElem?_eq_some_iff.1 h1).1
            have e1 : i' * sz + j = xs.length * sz + ((i' - xs.length) * sz + j) := by
              have : i' * sz = xs.length * sz + (i' - xs.length) * sz := by rw [← Nat.add_mul]; congr 1; omega
              omega
            rw [Array.getElem?_append_left (by simp [holen]; omega), e1, Array.getElem?_append_right (by simp [holen])]
            simp [holen]
            simpa using h1)
      refine ⟨X1, by simpa [Cx.remap] using hmu, Ext.trans h.gdom hE1 hE, hR1, ?_⟩
      have : (xs ++ ys).length = xs.length + ys.length := by simp
      rw [this] at hO
      exact hO
    have hfit : ∀ old, old < xs.length + ys.length → Builtin.nextslicecap (xs.length + ys.length) old * i.bytes ≤ 281474976710656 := fun old hold => growslice_fits hold (by rw [hbi]; exact h47)
    have h63 : ((xs.length + ys.length : Nat) : Int) ≤ 9223372036854775807 := by omega
    have noOld : xs = [] → ∀ (i : Nat) x, xs[i]? = some x → ∀ (j : Nat) c, x.cells[j]? = some c → ∃ u, ([] : List Value)[i * sz + j]? = some u ∧ Rep w X.imm c u := fun e i x hx => by rw [e] at hx; simp at hx
    rcases ho with ⟨hxe, a0, rfl⟩ | ⟨hlt, hrx, a0, n0, hv⟩ | ⟨b0, cap, cur, e1, sz1, rfl, hg1, hw1, hs1, hz1, hne1, hsz1, hc1, hm1, hr1⟩
    · obtain ⟨X1, hmu, hE, hR1, hO⟩ := grow [] 0 (by omega) (by rw [hxe]; simp) (noOld hxe)
      cases a0 with
      | none =>
        have hrun := run_append_nil (P := E.P) w t ty e i z ht hi hzi ⟨ub, uoff, none⟩ ys.length ucap news (by rw [hnl, hsi]) hnc' hylen (by rw [hxe] at h63; simpa using h63) (by rw [hbi]; rw [hxe] at h47; simp at h47; omega)
        have hx0 : xs.length = 0 := by rw [hxe]; rfl
        rw [hx0, Nat.zero_add] at hE hR1 hO
        simp only [Array.empty_append] at hE hR1 hO
        exact ⟨_, _, X1, hrun, hmu, hE, hR1, hO⟩
      | some ad =>
        have hx0 : xs.length = 0 := by rw [hxe]; rfl
        have hrun := run_append_grow (P := E.P) w t ty e i z ht hi hzi ad 0 0 [] (by simp) (fun j v hv => by simp at hv) ⟨ub, uoff, none⟩ ys.length ucap news (by rw [hnl, hsi]) hnc' (by omega) (by rw [hx0] at h63; exact h63) (by have := hfit 0 (by omega); rw [hx0] at this; exact this)
        rw [hx0] at hE hR1 hO
        exact ⟨_, _, X1, hrun, hmu, hE, hR1, hO⟩
    · by_cases hxe : xs = []
      · subst hxe
        have hv0 : v = .slice a0 0 0 := by
          have : n0 = 0 := by
            rw [hv] at hrx
            generalize hq : Value.slice a0 n0 n0 = q at hrx
            cases hrx with
            | empty a c => cases hq; rfl
            | list _ b off cap sz V hs hc hh hr => cases hq; rfl
          rw [hv, this]
        obtain ⟨X1, hmu, hE, hR1, hO⟩ := grow [] 0 (by simp; omega) (by simp) (noOld rfl)
        simp only [List.length_nil, Nat.zero_add] at hE hR1 hO h63 h47 hfit
        cases a0 with
        | none =>
          have hrun := run_append_nil (P := E.P) w t ty e i z ht hi hzi ⟨ub, uoff, none⟩ ys.length ucap news (by rw [hnl, hsi]) hnc' hylen h63 (by rw [hbi]; omega)
          rw [hv0]
          simp only [Array.empty_append] at hE hR1 hO
          exact ⟨_, _, X1, hrun, hmu, hE, hR1, hO⟩
        | some ad =>
          have hrun := run_append_grow (P := E.P) w t ty e i z ht hi hzi ad 0 0 [] (by simp) (fun j v hv => by simp at hv) ⟨ub, uoff, none⟩ ys.length ucap news (by rw [hnl, hsi]) hnc' (by omega) (by simpa using h63) (by have := hfit 0 (by omega); simpa using this)
          rw [hv0]
          simp only [Nat.zero_add] at hrun
          exact ⟨_, _, X1, hrun, hmu, hE, hR1, hO⟩
      · obtain ⟨x0, hx0m⟩ := List.exists_mem_of_ne_nil _ hxe
        generalize hq : v = q at hrx
        cases hrx with
        | empty a c => exact absurd rfl hxe
        | list _ b1 off1 cap1 sz1 V1 hs1 hc1 hh1 hr1 =>
          have hsz1 : sz1 = sz := by rw [← hs1 x0 hx0m, (hallx x0 hx0m).1]
          subst hsz1
          rw [hv] at hq
          cases hq
          obtain ⟨olds, g1, g2, g3, _⟩ := rep_row hs1 hz0 hh1 hr1
          obtain ⟨X1, hmu, hE, hR1, hO⟩ := grow olds xs.length (by omega) g1 g3
          have hrun := run_append_grow (P := E.P) w t ty e i z ht hi hzi ⟨b1, off1, none⟩ xs.length xs.length olds (by rw [g1, hsi]) (fun j v hv => by rw [add_lit]; exact g2 j v hv) ⟨ub, uoff, none⟩ ys.length ucap news (by rw [hnl, hsi]) hnc' (by omega) h63 (hfit _ (by omega))
          exact ⟨_, _, X1, hrun, hmu, hE, hR1, hO⟩
    · obtain ⟨x0, hx0m⟩ := List.exists_mem_of_ne_nil _ hne1
      have hszz : sz1 = sz := by rw [← hs1 x0 hx0m, (hallx x0 hx0m).1]
      subst hszz
      by_cases hroom : xs.length + ys.length ≤ cap
      · -- in place
        have hbnd : (xs.length + ys.length) * sz1 ≤ cap * sz1 := Nat.mul_le_mul_right _ hroom
        rw [Nat.add_mul] at hbnd
        have hrun := run_append_room' (P := E.P) (w := w) t ty e e1 i ht hi b0 xs.length cap cur hw1 ⟨ub, uoff, none⟩ ys.length ucap news (by rw [hnl, hsi]) hnc' hnone hroom (by rw [hsi, hnl, hsz1]; omega)
        rw [hsi] at hrun
        generalize hW : w.setRow b0 (cur.toList.take (xs.length * sz1) ++ news ++ cur.toList.drop (xs.length * sz1 + news.length)).toArray = w' at hrun
        have hother : ∀ k, k ≠ b0 → w'.heap[k]? = w.heap[k]? := fun k hk => by rw [← hW]; exact setRow_other w b0 k _ hk
        have hnew : w'.heap[b0]? = some (.cells (cur.toList.take (xs.length * sz1) ++ news ++ cur.toList.drop (xs.length * sz1 + news.length)).toArray e1 (0, 0)) := by rw [← hW]; exact setRow_heap w b0 cur _ e1 _ hw1
        have hget : ∀ j : Nat, (cur.toList.take (xs.length * sz1) ++ news ++ cur.toList.drop (xs.length * sz1 + news.length)).toArray[j]? = if xs.length * sz1 ≤ j ∧ j < xs.length * sz1 + news.length then news[j - xs.length * sz1]? else cur[j]? := fun j => by
          have := splice_get cur.toList news (xs.length * sz1) j (by simp; omega)
          simpa using this
        have hE : Ext X w (X.lockAt b0 (.res 0) (if lt then (xs.length + ys.length) * sz1 else 0)) w' := by
          refine ⟨rfl, by rw [← hW]; simp, by rw [← hW]; rfl, by rw [← hW]; rfl, by rw [← hW]; rfl, fun k hk hx' => ?_, fun k l n hx' => ⟨fun l' k' h' => ?_, fun q hq => ?_⟩⟩
          · have : k ≠ b0 := fun e => by rw [e, hg1] at hx'; cases hx'
            exact ⟨by simp [Cx.lockAt, this, hx'], hother k this⟩
          · simp only [Cx.lockAt] at h'
            split at h'
            · rename_i ek
              subst ek
              rw [hg1] at hx'
              simp only [Option.some.injEq, Prod.mk.injEq] at hx' h'
              obtain ⟨_, rfl⟩ := hx'
              obtain ⟨_, rfl⟩ := h'
              cases lt
              · simp
              · simp only [if_true]; exact Nat.mul_le_mul_right _ (by omega)
            · rw [hx'] at h'
              simp only [Option.some.injEq, Prod.mk.injEq] at h'
              omega
          · by_cases ek : k = b0
            · subst ek
              rw [hg1] at hx'
              simp only [Option.some.injEq, Prod.mk.injEq] at hx'
              obtain ⟨_, rfl⟩ := hx'
              have hq2 : q < xs.length * sz1 := by
                cases lt
                · simp at hq
                · simpa using hq
              rw [cell_of_row w' k q _ e1 (0, 0) hnew, hget, if_neg (by omega), cell_of_row w k q cur e1 (0, 0) hw1]
            · exact cell?_of_heap (hother k ek) q
        refine ⟨_, _, X.lockAt b0 (.res 0) (if lt then (xs.length + ys.length) * sz1 else 0), hrun, rfl, hE, h.bg hE rfl (fun l hl _ _ k n hx' => ?_) (fun k l n hx' => ?_), .inr (.inr ⟨b0, cap, _, e1, sz1, by simp, by simp [Cx.lockAt], hnew, fun x hx => ?_, hz0, by simp [hne1], by simp; omega, by simpa using hroom, hm1, fun i' x hx' j c hj => ?_⟩)⟩
        · have : k ≠ b0 := fun e => by rw [e, hg1] at hx'; simp only [Option.some.injEq, Prod.mk.injEq] at hx'; rw [← hx'.1] at hl; cases hl
          exact ⟨by simp [Cx.lockAt, this, hx'], hother k this⟩
        · simp only [Cx.lockAt] at hx'
          split at hx'
          · rename_i ek
            subst ek
            exact ⟨by rw [← hW]; simpa using h.gdom k _ _ hg1, h.oamb k _ _ hg1⟩
          · exact ⟨by rw [← hW]; simpa using h.gdom k _ _ hx', h.oamb k _ _ hx'⟩
        · rcases List.mem_append.1 hx with hx | hx
          · exact hs1 x hx
          · exact (hally x hx).1
        · have hjs : j < sz1 := by
            have hm' := List.mem_of_getElem? hx'
            have := (List.getElem?_eq_some_iff.1 hj).1
            rcases List.mem_append.1 hm' with hm' | hm'
            · rw [hs1 _ hm'] at this; exact this
            · rw [(hally _ hm').1] at this; exact this
          by_cases hlt : i' < xs.length
          · rw [List.getElem?_append_left hlt] at hx'
            obtain ⟨u, h1, h2⟩ := hr1 i' x hx' j c hj
            have hb3 : (i' + 1) * sz1 ≤ xs.length * sz1 := Nat.mul_le_mul_right _ hlt
            rw [Nat.add_mul] at hb3
            exact ⟨u, by rw [hget, if_neg (by omega)]; exact h1, hE.rep h2⟩
          · have hge' : xs.length ≤ i' := by omega
            rw [List.getElem?_append_right hge'] at hx'
            obtain ⟨u, h1, h2⟩ := hnr (i' - xs.length) x hx' j c hj
            have hln := (List.getElem?_eq_some_iff.1 h1).1
            have e3 : i' * sz1 = xs.length * sz1 + (i' - xs.length) * sz1 := by rw [← Nat.add_mul]; congr 1; omega
            refine ⟨u, ?_, hE.rep h2⟩
            rw [hget, if_pos ⟨by omega, by omega⟩, ← h1]
            congr 1
            omega
      · have hcl : ∀ (j : Nat) v, (cur.toList.take (xs.length * sz1))[j]? = some v → w.cell? ((⟨b0, 0, none⟩ : Addr).add j) = some v := fun j v hv => by
          rw [add_lit, Nat.zero_add, cell_of_row w b0 j cur e1 (0, 0) hw1]
          rw [List.getElem?_take] at hv
          split at hv
          · simpa using hv
          · cases hv
        have hlt2 : (cur.toList.take (xs.length * sz1)).length = xs.length * sz1 := by
          have : xs.length * sz1 ≤ cap * sz1 := Nat.mul_le_mul_right _ hc1
          simp; omega
        obtain ⟨X1, hmu, hE, hR1, hO⟩ := grow (cur.toList.take (xs.length * sz1)) cap (by omega) hlt2 (fun i' x hx' j c hj => by
          obtain ⟨u, h1, h2⟩ := hr1 i' x hx' j c hj
          have hi' : i' < xs.length := (List.getElem?_eq_some_iff.1 hx').1
          have hjs : j < sz1 := by rw [← hs1 x (List.mem_of_getElem? hx')]; exact (List.getElem?_eq_some_iff.1 hj).1
          have hb3 : (i' + 1) * sz1 ≤ xs.length * sz1 := Nat.mul_le_mul_right _ hi'
          rw [Nat.add_mul] at hb3
          exact ⟨u, by rw [List.getElem?_take, if_pos (by omega)]; simpa using h1, h2⟩)
        have hrun := run_append_grow (P := E.P) w t ty e i z ht hi hzi ⟨b0, 0, none⟩ xs.length cap (cur.toList.take (xs.length * sz1)) (by rw [hlt2, hsi]) hcl ⟨ub, uoff, none⟩ ys.length ucap news (by rw [hnl, hsi]) hnc' (by omega) h63 (hfit _ (by omega))
        exact ⟨_, _, X1, hrun, hmu, hE, hR1, hO⟩

end Go.Ab
