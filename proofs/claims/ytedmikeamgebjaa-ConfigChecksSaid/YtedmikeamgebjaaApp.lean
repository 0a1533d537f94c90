/- An append to a slice of ours that is full: a new row. -/
import Derived.Test.YtedmikeamgebjaaBase
set_option linter.unusedVariables false
set_option linter.unusedSimpArgs false
namespace Go.Proofs.Ytedmikeamgebjaa
open Go.RowKit
section
variable {P : Program}
/-- append of m elements that lie in memory to a slice of ours. -/
theorem run_append_full (w : World) (t ty e : TypeId) (i : TypeInfo) (z : Value) (size bytes : Nat) (ht : P.underlying t = some (.slice e)) (hi : P.info? e = some i) (hz : i.zero = some z)
    (hsize : i.size = size) (hby : i.bytes = bytes) (hzs : z.cells.size = size) (hsz : 0 < size)
    (ao : Option Addr) (n : Nat) (xs : List Value) (ob : Option Nat) (hown : Sl w e size (.slice ao n n) n xs ob)
    (ad : Addr) (m c : Nat) (news : List Value) (hl : news.length = m * size) (hnews : ∀ j u, news[j]? = some u → w.cell? (ad.add j) = some u) (h1 : ∀ u ∈ news, u.oneCell' = true)
    (hm : 0 < m) (h63 : n + m ≤ 9223372036854775807) (hbytes : (n + m) * bytes ≤ 140737488355328) :
    ∃ cap w', (Builtin.append_ #[t, t] ty #[.slice ao n n, .slice (some ad) m c]).run P w = .ok (.slice (some ⟨w.heap.size, 0, none⟩) (n + m) cap) w' ∧
      Sl w' e size (.slice (some ⟨w.heap.size, 0, none⟩) (n + m) cap) (n + m) (xs ++ news) (some w.heap.size) ∧ Mod [] w w' ∧ w.heap.size < w'.heap.size := by
  subst hsize hby
  have hxl := hown.1
  have hlen : (xs ++ news).length = (n + m) * i.size := by rw [List.length_append, hxl, hl, Nat.add_mul]
  -- a new row
  have new : ∀ (sc : Nat) (ws : List Value), Sl (w.drew.alloc (.cells ((xs ++ news).toArray ++ Builtin.zeroCells z.cells (grownCap w (n + m) sc e - (n + m))) e)) e i.size
      (.slice (some ⟨w.heap.size, 0, none⟩) (n + m) (grownCap w (n + m) sc e)) (n + m) (xs ++ news) (some w.heap.size) := by
    intro sc ws
    have hge := grownCap_ge w (n + m) sc e
    refine ⟨hlen, .inr ⟨_, 0, _, _, rfl, rfl, Blk.new w.drew e _, hge, ?_, ?_⟩⟩
    · simp only [Array.length_toList, Array.size_append, List.size_toArray, size_zeroCells, hzs, hlen, Nat.zero_add, ← Nat.add_mul]
      exact Nat.le_of_eq (by congr 1; omega)
    · simp only [Array.toList_append, List.drop_zero]
      rw [← hlen]
      exact List.take_left
  have modNew : ∀ o, Mod [] w (w.drew.alloc o) := fun o => ((Mod.refl _ _).drew).alloc o
  rcases hown.2 with ⟨hv, rfl, rfl⟩ | ⟨g, off, cap, all, rfl, hv, hb, hcap, hoff, htake⟩
  · simp only [Value.slice.injEq] at hv
    obtain ⟨rfl, _, _⟩ := hv
    have hx0 : xs = [] := List.length_eq_zero_iff.1 (by simpa using hxl)
    subst hx0
    have hr := run_append_nil (P := P) w t ty e i z ht hi hz ad m c news hl hnews hm (by omega) (by simp only [Nat.zero_add] at hbytes; omega)
    have hn := new 0 []
    simp only [Nat.zero_add, List.nil_append] at hn ⊢
    exact ⟨_, _, hr, hn, modNew _, by simp⟩
  · simp only [Value.slice.injEq] at hv
    obtain ⟨rfl, _, rfl⟩ := hv
    have hr := run_append_grow (P := P) w t ty e i z ht hi hz ⟨g, off, none⟩ n n xs hxl (fun j u hj => ?_) ad m c news hl hnews (by omega) (by omega) (growslice_fits (by omega) hbytes)
    · have hn := new n []
      have ea : xs.toArray ++ news.toArray = (xs ++ news).toArray := by simp
      rw [ea] at hr
      exact ⟨_, _, hr, hn, modNew _, by simp⟩
    · rw [← htake] at hj
      have hjl : j < n * i.size := by
        rcases Nat.lt_or_ge j (n * i.size) with h | h
        · exact h
        · rw [List.getElem?_take, if_neg (by omega)] at hj; cases hj
      rw [List.getElem?_take, if_pos hjl, List.getElem?_drop] at hj
      have ead : (⟨g, off, none⟩ : Addr).add j = ⟨g, off + j, none⟩ := by
        unfold Addr.add; split
        · rename_i h; subst h; rfl
        · rfl
      rw [ead, hb.cell, hj]
/-- At the operation. -/
theorem wp_append_full {o : Oper} {a : Act} {w : World} {K : Act → World → Prop} {Q : Exit → Act → World → Prop} (s x : Operand) (t : TypeId)
    (ho : o.op = .call { callee := .builtin .append, args := #[s, x], argTypes := #[t, t] })
    (e : TypeId) (i : TypeInfo) (z : Value) (size bytes : Nat) (ht : P.underlying t = some (.slice e)) (hi : P.info? e = some i) (hz : i.zero = some z)
    (hsize : i.size = size) (hby : i.bytes = bytes) (hzs : z.cells.size = size) (hsz : 0 < size)
    (ao : Option Addr) (n : Nat) (xs : List Value) (ob : Option Nat) (hs : a.eval s = .slice ao n n) (hown : Sl w e size (.slice ao n n) n xs ob)
    (ad : Addr) (m c : Nat) (news : List Value) (hx : a.eval x = .slice (some ad) m c) (hl : news.length = m * size) (hnews : ∀ j u, news[j]? = some u → w.cell? (ad.add j) = some u) (h1 : ∀ u ∈ news, u.oneCell' = true)
    (hm : 0 < m) (h63 : n + m ≤ 9223372036854775807) (hbytes : (n + m) * bytes ≤ 140737488355328)
    (h : ∀ cap w', Sl w' e size (.slice (some ⟨w.heap.size, 0, none⟩) (n + m) cap) (n + m) (xs ++ news) (some w.heap.size) → Mod [] w w' → w.heap.size < w'.heap.size → K (a.put o.dst (.slice (some ⟨w.heap.size, 0, none⟩) (n + m) cap)) w') : o.wp P a w K Q := by
  obtain ⟨cap, w', hr, h2, h3, h5⟩ := run_append_full (P := P) w t o.type e i z size bytes ht hi hz hsize hby hzs hsz ao n xs ob hown ad m c news hl hnews h1 hm h63 hbytes
  unfold Oper.wp execOp
  simp only [ho, resolve, invoke, builtin, Sem.run_bind, Sem.run_pure, Result.andThen_ok, List.map_toArray, List.map_cons, List.map_nil, hs, hx, hr]
  exact h cap w' h2 h3 h5
/-- At a step of a region that draws its order. -/
theorem step_append_full {ops : Array Oper} {o : Oper} {a : Act} {w : World} {K : Act → World → Prop} {Q : Exit → Act → World → Prop} {E : Prop} (hgd : o.guard = none) (s x : Operand) (t : TypeId)
    (ho : o.op = .call { callee := .builtin .append, args := #[s, x], argTypes := #[t, t] })
    (e : TypeId) (i : TypeInfo) (z : Value) (size bytes : Nat) (ht : P.underlying t = some (.slice e)) (hi : P.info? e = some i) (hz : i.zero = some z)
    (hsize : i.size = size) (hby : i.bytes = bytes) (hzs : z.cells.size = size) (hsz : 0 < size)
    (ao : Option Addr) (n : Nat) (xs : List Value) (ob : Option Nat) (hs : a.eval s = .slice ao n n) (hown : Sl w e size (.slice ao n n) n xs ob)
    (ad : Addr) (m c : Nat) (news : List Value) (hx : a.eval x = .slice (some ad) m c) (hl : news.length = m * size) (hnews : ∀ j u, news[j]? = some u → w.cell? (ad.add j) = some u) (h1 : ∀ u ∈ news, u.oneCell' = true)
    (hm : 0 < m) (h63 : n + m ≤ 9223372036854775807) (hbytes : (n + m) * bytes ≤ 140737488355328)
    (h : ∀ cap w', Sl w' e size (.slice (some ⟨w.heap.size, 0, none⟩) (n + m) cap) (n + m) (xs ++ news) (some w.heap.size) → Mod [] w w' → w.heap.size < w'.heap.size → K (a.put o.dst (.slice (some ⟨w.heap.size, 0, none⟩) (n + m) cap)) w') :
    if Region.wanted o (yielded ops a.tmps) = true then Oper.wp P o a w K Q else E := by
  have hw : Region.wanted o (yielded ops a.tmps) = true := by simp [Region.wanted, hgd]
  rw [if_pos hw]
  exact wp_append_full s x t ho e i z size bytes ht hi hz hsize hby hzs hsz ao n xs ob hs hown ad m c news hx hl hnews h1 hm h63 hbytes h
end
/-- A slice of ours that is cut at its own end. -/
theorem Sl.clip {w : World} {T : TypeId} {m n c : Nat} {ao : Option Addr} {xs : List Value} {ob : Option Nat} (h : Sl w T m (.slice ao n c) n xs ob) : Sl w T m (.slice ao n n) n xs ob := by
  refine ⟨h.1, ?_⟩
  rcases h.2 with ⟨hv, h2, h3⟩ | ⟨g, off, cap, all, h1, hv, h3, h4, h5, h6⟩
  · simp only [Value.slice.injEq] at hv
    obtain ⟨rfl, rfl, _⟩ := hv
    exact .inl ⟨rfl, rfl, h3⟩
  · simp only [Value.slice.injEq] at hv
    obtain ⟨rfl, _, rfl⟩ := hv
    exact .inr ⟨g, off, n, all, h1, rfl, h3, Nat.le_refl _, by have := Nat.mul_le_mul_right m h4; omega, h6⟩
/-- The first k elements of a slice of ours. -/
theorem Sl.fore {w : World} {T : TypeId} {m n c : Nat} {ao : Option Addr} {xs : List Value} {ob : Option Nat} (h : Sl w T m (.slice ao n c) n xs ob) (k : Nat) (hk : k ≤ n) : Sl w T m (.slice ao k c) k (xs.take (k * m)) ob := by
  have hle : k * m ≤ n * m := Nat.mul_le_mul_right m hk
  refine ⟨by rw [List.length_take, h.1]; omega, ?_⟩
  rcases h.2 with ⟨hv, h2, h3⟩ | ⟨g, off, cap, all, h1, hv, h3, h4, h5, h6⟩
  · simp only [Value.slice.injEq] at hv
    obtain ⟨rfl, rfl, rfl⟩ := hv
    obtain rfl : k = 0 := by omega
    exact .inl ⟨rfl, rfl, h3⟩
  · simp only [Value.slice.injEq] at hv
    obtain ⟨rfl, _, rfl⟩ := hv
    refine .inr ⟨g, off, c, all, h1, rfl, h3, by omega, h5, ?_⟩
    rw [← h6, List.take_take, Nat.min_eq_left hle]
/-- Only blocks of other types turn: the slice stays. -/
theorem Sl.far {w w' : World} {T : TypeId} {m : Nat} {v : Value} {n : Nat} {xs : List Value} {ob : Option Nat} {B : List Nat} (h : Sl w T m v n xs ob) (hm : Mod B w w') (hb : ∀ x ∈ B, ∃ T' cs, Blk w x T' cs ∧ T' ≠ T) : Sl w' T m v n xs ob := by
  refine h.mod hm fun g hg hB => ?_
  rcases h.2 with h2 | ⟨g', off, cap, all, h1, h2, h3, h4⟩
  · rw [h2.2.2] at hg; cases hg
  · rw [h1] at hg; injection hg with hg; subst hg
    obtain ⟨T', cs, h5, h6⟩ := hb _ hB
    unfold Blk at h3 h5
    rw [h3] at h5
    simp at h5
    exact h6 h5.2.symm
/-- The value v is a slice whose elements read as l, each of m cells. -/
def RSn {α : Type} (w : World) (m : Nat) (enc : α → List Value) (v : Value) (l : List α) : Prop :=
  ∃ ao cap, v = .slice ao l.length cap ∧ l.length ≤ cap ∧ l.length ≤ 9223372036854775807 ∧
    (l ≠ [] → ∃ b off, ao = some ⟨b, off, none⟩ ∧ b < w.heap.size ∧ ∀ i x, l[i]? = some x → ∀ j, j < m → w.cell? ⟨b, off + (i * m + j), none⟩ = (enc x)[j]?)
theorem RSn.mod {α : Type} {w w' : World} {m : Nat} {enc : α → List Value} {v : Value} {l : List α} (h : RSn w m enc v l) (hm : Mod [] w w') : RSn w' m enc v l := by
  obtain ⟨ao, cap, h1, h2, h3, h4⟩ := h
  refine ⟨ao, cap, h1, h2, h3, fun hl => ?_⟩
  obtain ⟨b, off, h5, h6, h7⟩ := h4 hl
  refine ⟨b, off, h5, Nat.lt_of_lt_of_le h6 hm.size, fun i x hx j hj => ?_⟩
  rw [← h7 i x hx j hj]
  exact World.cell?_of_block (w := w) (hm.block b h6 (by simp))
end Go.Proofs.Ytedmikeamgebjaa
