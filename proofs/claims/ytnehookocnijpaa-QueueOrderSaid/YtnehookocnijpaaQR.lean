/- What each function of the document's queue does, as two lists. -/
import Derived.Test.YtnehookocnijpaaProg
import Derived.Test.YtnehookocnijpaaBase
import Derived.Test.YtnehookocnijpaaQPure
import Derived.BigRegion
import Derived.Deep.RegionLawGrows
set_option linter.unusedVariables false
set_option linter.unusedSimpArgs false
namespace Go.Proofs.Ytnehookocnijpaa
open Go.RowKit
namespace QRef

def strs (l : List ByteArray) : List Value := l.map Value.string
structure RAt (w : World) (r : Nat) (n : Int) (a : AQ ByteArray) (v0 v1 : Value) (o0 o1 : Option Nat) : Prop where
  br : Blk w r 39 [.int .i64 n, v0, v1, .bool a.ft]
  s0 : Sl w 9 1 v0 a.lo.length (strs a.lo) o0
  s1 : Sl w 9 1 v1 a.hi.length (strs a.hi) o1
  d0 : o0 ≠ some r
  d1 : o1 ≠ some r
  d01 : ∀ g, o0 = some g → o1 ≠ some g
def foot (r : Nat) (o0 o1 : Option Nat) : List Nat := r :: (o0.toList ++ o1.toList)

set_option maxRecDepth 100000 in
set_option maxHeartbeats 400000 in
theorem class_any (h : Bool) (w : World) : Calls Try.prog 37 #[.bool h] w fun e w' => e = .returned (.int .i64 (bif h then 1 else 0)) ∧ w = w' := by
  cases h
  all_goals
    go_enter Try.func37, Try.ntmps37
    go_wp2
    go_ret
    exact ⟨rfl, rfl⟩

set_option maxRecDepth 100000 in
set_option maxHeartbeats 400000 in
theorem new_any (p : Int) (n : Nat) (hp0 : p ≤ 0 → n = 0) (hp1 : 0 ≤ p → p ≤ 64 → (n : Int) = p) (hp2 : 64 ≤ p → n = 64) (w : World) :
    Calls Try.prog 10 #[.int .i64 p] w fun e w' => e = .returned (.pointer (some ⟨w.heap.size, 0, none⟩)) ∧ RAt w' w.heap.size n ⟨[], [], false⟩ (.slice none 0 0) (.slice none 0 0) none none ∧ Mod [] w w' := by
  go_enter Try.func10, Try.ntmps10
  go_wp2_with (fail)
  all_goals
    go_ret
    refine ⟨rfl, ⟨?_, Sl.nil _ _ _, Sl.nil _ _ _, by simp, by simp, by simp⟩, (Mod.refl _ _).alloc _⟩
    refine Blk.eq (Blk.new _ _ _) ?_
    first | (simp; done) | (simp; omega)

theorem Sl.head_eq {w : World} {v : Value} {n : Nat} {xs : List Value} {ob : Option Nat} (h : Sl w 9 1 v n xs ob) : ∃ ao cap, v = .slice ao n cap ∧ n ≤ cap := by
  obtain ⟨ao, cap, h1, h2, _⟩ := h.form
  exact ⟨ao, cap, h1, h2⟩

set_option maxRecDepth 100000 in
set_option maxHeartbeats 400000 in
theorem len_any (r : Nat) (n : Int) (a : AQ ByteArray) (v0 v1 : Value) (o0 o1 : Option Nat) (h : Bool) (w : World) (hr : RAt w r n a v0 v1 o0 o1) :
    Calls Try.prog 19 #[.pointer (some ⟨r, 0, none⟩), .bool h] w fun e w' => e = .returned (.int .i64 (a.lane h).length) ∧ ∃ n, w' = w.drewN n := by
  have hq := hr.br.cell
  obtain ⟨a0, c0, rfl, hc0⟩ := Sl.head_eq hr.s0
  obtain ⟨a1, c1, rfl, hc1⟩ := Sl.head_eq hr.s1
  clear hr
  cases h
  · go_enter Try.func19, Try.ntmps19
    go_wp2_with (fail)
    go_quiet ((go_at_call 37; exact Calls.quiet_of_same ((class_any false _).mono fun e w' ⟨he, hw⟩ => ⟨he, hw.symm⟩)))
    go_wp2
    go_ret
    exact ⟨rfl, _, rfl⟩
  · go_enter Try.func19, Try.ntmps19
    go_wp2_with (fail)
    go_quiet ((go_at_call 37; exact Calls.quiet_of_same ((class_any true _).mono fun e w' ⟨he, hw⟩ => ⟨he, hw.symm⟩)))
    go_wp2
    go_ret
    exact ⟨rfl, _, rfl⟩

theorem Try.info9 : (Try.prog.info? 9).map (fun i => (i.zero, i.size, i.bytes)) = some (some (.string ⟨#[]⟩), 1, 16) := by kernel_rfl


theorem close_lo {w w1 : World} {r : Nat} {n : Int} {x : ByteArray} {a : AQ ByteArray} {v0 v1 v : Value} {o0 o1 : Option Nat} {g : Nat} (hr : RAt w r n a v0 v1 o0 o1)
    (hm : Mod o0.toList w w1) (hs : Sl w1 9 1 v (a.lo.length + 1) (strs a.lo ++ [.string x]) (some g)) (hob : o0 = some g ∨ w.heap.size ≤ g) :
    ∃ u p, RAt (w1.setCell ⟨r, 1, none⟩ v) r n { a with lo := a.lo ++ [x] } u v1 p o1 ∧ (p = o0 ∨ ∀ g, p = some g → w.heap.size ≤ g) ∧ Mod (foot r o0 o1) w (w1.setCell ⟨r, 1, none⟩ v) := by
  have hrl := hr.br.lt
  have hgr : g ≠ r := by
    rcases hob with h | h
    · intro e; exact hr.d0 (by rw [h, e])
    · omega
  have hb := hr.br.mod hm (by simpa using hr.d0)
  have hM : Mod [r] w1 (w1.setCell ⟨r, 1, none⟩ v) := (Mod.refl _ _).setCell _ (by simp)
  have hM2 : Mod (r :: o0.toList) w (w1.setCell ⟨r, 1, none⟩ v) := (hm.mono (by simp +contextual)).setCell _ (by simp)
  have h1 := hs.mod hM (by simp; exact hgr)
  have h2 := hr.s1.mod hM2 (by intro g' hg' hin; simp at hin; rcases hin with rfl | hin; exact hr.d1 hg'; exact hr.d01 g' hin hg')
  refine ⟨v, some g, ⟨hb.set 1 v, by simpa [strs] using h1, h2, by simp; exact hgr, hr.d1, ?_⟩, ?_, ?_⟩
  · intro g' hg' he
    simp at hg'; subst hg'
    rcases hob with h | h
    · exact hr.d01 g h he
    · have := hr.s1.lt g he
      omega
  · rcases hob with h | h
    · exact .inl h.symm
    · exact .inr (by intro g' hg'; simp at hg'; subst hg'; exact h)
  · exact hM2.mono (by simp [foot]; exact fun x hx => Or.inr (Or.inl hx))

set_option maxRecDepth 100000 in
set_option maxHeartbeats 800000 in
theorem put_lo (r : Nat) (n : Int) (x : ByteArray) (a : AQ ByteArray) (v0 v1 : Value) (o0 o1 : Option Nat) (w : World) (hr : RAt w r n a v0 v1 o0 o1) (hn : n ≤ 64) (hlt : (a.lo.length : Int) + a.hi.length < n) :
    Calls Try.prog 12 #[.pointer (some ⟨r, 0, none⟩), .string x, .bool false] w fun e w' => e = .returned (.int .i64 0) ∧
      ∃ v o, RAt w' r n { a with lo := a.lo ++ [x] } v v1 o o1 ∧ (o = o0 ∨ ∀ g, o = some g → w.heap.size ≤ g) ∧ Mod (foot r o0 o1) w w' := by
  have hq := hr.br.cell
  have fq := hr.br.frozen
  have hal := fun (k : Nat) (o : Obj) => ((hr.br.drewN k).alloc o).cell
  obtain ⟨i0, hi, hz0, hz1, hz2⟩ := info_parts Try.info9
  obtain ⟨a0, c0, rfl, hc0⟩ := Sl.head_eq hr.s0
  obtain ⟨a1, c1, rfl, hc1⟩ := Sl.head_eq hr.s1
  have HR := Lib.hid hr
  clear hr
  go_enter Try.func12, Try.ntmps12
  go_wp2_with (fail)
  go_quiet (fail)
  go_wp2_with (go_at_call 37; refine (class_any _ _).mono ?_; rintro e w' ⟨rfl, rfl⟩)
  go_region_law ((refine step_append_sl (by rfl) _ _ _ (by rfl) 9 i0 _ 1 16 Try.underlying36 hi hz0 hz1 hz2 rfl (by omega) (Value.slice a0 a.lo.length c0) a.lo.length (strs a.lo) o0 (by rfl) (by repeat (with_reducible first | exact HR.out.s0 | apply Sl.drew | apply Sl.drewN | apply Sl.alloc)) ⟨w.heap.size, 0, none⟩ 1 1 [.string x] (by rfl) (by rfl) (Blk.news (T := 9) (by repeat (with_reducible first | apply Blk.drew | apply Blk.drewN | exact Blk.new' (by simp)))) (by simp [Value.oneCell']) (by omega) (by omega) (by omega) ?_; intro g off cap w1 hsl hmod hob hlt; have hb1 := Blk.mod (b := r) (T := 39) (by repeat (with_reducible first | exact HR.out.br | apply Blk.drew | apply Blk.drewN | apply Blk.alloc)) hmod (by simpa using HR.out.d0); have hc1 := hb1.cell; have fc1 := hb1.frozen))
  all_goals
    have HS := Lib.hid hsl
    have HM := Lib.hid hmod
    have HO := Lib.hid hob
    clear hsl hmod hob
    go_wp2
    go_ret
    refine ⟨rfl, close_lo HR.out ?_ HS.out ?_⟩
    · exact Mod.then (B := o0.toList) (by repeat (with_reducible first | exact Mod.refl _ _ | refine Mod.drew ?_ | refine Mod.drewN ?_ _ | refine Mod.alloc ?_ _)) HM.out (by simp +contextual)
    · rcases HO.out with h | h
      · exact .inl h
      · exact .inr (by rw [h]; simp)

theorem close_hi {w w1 : World} {r : Nat} {n : Int} {x : ByteArray} {a : AQ ByteArray} {v0 v1 v : Value} {o0 o1 : Option Nat} {g : Nat} (hr : RAt w r n a v0 v1 o0 o1)
    (hm : Mod o1.toList w w1) (hs : Sl w1 9 1 v (a.hi.length + 1) (strs a.hi ++ [.string x]) (some g)) (hob : o1 = some g ∨ w.heap.size ≤ g) :
    ∃ u p, RAt (w1.setCell ⟨r, 2, none⟩ v) r n { a with hi := a.hi ++ [x] } v0 u o0 p ∧ (p = o1 ∨ ∀ g, p = some g → w.heap.size ≤ g) ∧ Mod (foot r o0 o1) w (w1.setCell ⟨r, 2, none⟩ v) := by
  have hrl := hr.br.lt
  have hgr : g ≠ r := by
    rcases hob with h | h
    · intro e; exact hr.d1 (by rw [h, e])
    · omega
  have hb := hr.br.mod hm (by simpa using hr.d1)
  have hM : Mod [r] w1 (w1.setCell ⟨r, 2, none⟩ v) := (Mod.refl _ _).setCell _ (by simp)
  have hM2 : Mod (r :: o1.toList) w (w1.setCell ⟨r, 2, none⟩ v) := (hm.mono (by simp +contextual)).setCell _ (by simp)
  have h1 := hs.mod hM (by simp; exact hgr)
  have h2 := hr.s0.mod hM2 (by intro g' hg' hin; simp at hin; rcases hin with rfl | hin; exact hr.d0 hg'; exact hr.d01 g' hg' hin)
  refine ⟨v, some g, ⟨hb.set 2 v, h2, by simpa [strs] using h1, hr.d0, by simp; exact hgr, ?_⟩, ?_, ?_⟩
  · intro g' hg' he
    simp at he; subst he
    rcases hob with h | h
    · exact hr.d01 g hg' h
    · have := hr.s0.lt g hg'
      omega
  · rcases hob with h | h
    · exact .inl h.symm
    · exact .inr (by intro g' hg'; simp at hg'; subst hg'; exact h)
  · exact hM2.mono (by simp [foot]; exact fun x hx => Or.inr (Or.inr hx))

set_option maxRecDepth 100000 in
set_option maxHeartbeats 800000 in
theorem put_hi (r : Nat) (n : Int) (x : ByteArray) (a : AQ ByteArray) (v0 v1 : Value) (o0 o1 : Option Nat) (w : World) (hr : RAt w r n a v0 v1 o0 o1) (hn : n ≤ 64) (hlt : (a.lo.length : Int) + a.hi.length < n) :
    Calls Try.prog 12 #[.pointer (some ⟨r, 0, none⟩), .string x, .bool true] w fun e w' => e = .returned (.int .i64 0) ∧
      ∃ v o, RAt w' r n { a with hi := a.hi ++ [x] } v0 v o0 o ∧ (o = o1 ∨ ∀ g, o = some g → w.heap.size ≤ g) ∧ Mod (foot r o0 o1) w w' := by
  have hq := hr.br.cell
  have fq := hr.br.frozen
  have hal := fun (k : Nat) (o : Obj) => ((hr.br.drewN k).alloc o).cell
  obtain ⟨i0, hi, hz0, hz1, hz2⟩ := info_parts Try.info9
  obtain ⟨a0, c0, rfl, hc0⟩ := Sl.head_eq hr.s0
  obtain ⟨a1, c1, rfl, hc1⟩ := Sl.head_eq hr.s1
  have HR := Lib.hid hr
  clear hr
  go_enter Try.func12, Try.ntmps12
  go_wp2_with (fail)
  go_quiet (fail)
  go_wp2_with (go_at_call 37; refine (class_any _ _).mono ?_; rintro e w' ⟨rfl, rfl⟩)
  go_region_law ((refine step_append_sl (by rfl) _ _ _ (by rfl) 9 i0 _ 1 16 Try.underlying36 hi hz0 hz1 hz2 rfl (by omega) (Value.slice a1 a.hi.length c1) a.hi.length (strs a.hi) o1 (by rfl) (by repeat (with_reducible first | exact HR.out.s1 | apply Sl.drew | apply Sl.drewN | apply Sl.alloc)) ⟨w.heap.size, 0, none⟩ 1 1 [.string x] (by rfl) (by rfl) (Blk.news (T := 9) (by repeat (with_reducible first | apply Blk.drew | apply Blk.drewN | exact Blk.new' (by simp)))) (by simp [Value.oneCell']) (by omega) (by omega) (by omega) ?_; intro g off cap w1 hsl hmod hob hlt; have hb1 := Blk.mod (b := r) (T := 39) (by repeat (with_reducible first | exact HR.out.br | apply Blk.drew | apply Blk.drewN | apply Blk.alloc)) hmod (by simpa using HR.out.d1); have hc1 := hb1.cell; have fc1 := hb1.frozen))
  all_goals
    have HS := Lib.hid hsl
    have HM := Lib.hid hmod
    have HO := Lib.hid hob
    clear hsl hmod hob
    go_wp2
    go_ret
    refine ⟨rfl, close_hi HR.out ?_ HS.out ?_⟩
    · exact Mod.then (B := o1.toList) (by repeat (with_reducible first | exact Mod.refl _ _ | refine Mod.drew ?_ | refine Mod.drewN ?_ _ | refine Mod.alloc ?_ _)) HM.out (by simp +contextual)
    · rcases HO.out with h | h
      · exact .inl h
      · exact .inr (by rw [h]; simp)

theorem Sl.tail {w : World} {g off cap n : Nat} {xs : List Value} {ob : Option Nat} (h : Sl w 9 1 (.slice (some ⟨g, off, none⟩) n cap) n xs ob) (hn : 0 < n) :
    Sl w 9 1 (.slice (some ⟨g, if cap = 1 then off else off + 1, none⟩) (n - 1) (cap - 1)) (n - 1) xs.tail ob := by
  have hl := h.1
  rcases h.2 with ⟨hx, _⟩ | ⟨g', off', cap', all, h1, hx, h3, h4, h5, h6⟩
  · cases hx
  · simp only [Value.slice.injEq, Option.some.injEq, Addr.mk.injEq] at hx
    obtain ⟨⟨rfl, rfl, _⟩, _, rfl⟩ := hx
    refine ⟨by rw [List.length_tail, hl]; omega, .inr ⟨g, _, cap - 1, all, h1, rfl, h3, by omega, ?_, ?_⟩⟩
    · split <;> omega
    · rw [← h6]
      by_cases hc : cap = 1
      · have : n = 1 := by omega
        subst this
        rw [if_pos hc]
        simp only [Nat.one_mul, Nat.sub_self, Nat.zero_mul, List.take_zero]
        cases all.drop off <;> simp
      · rw [if_neg hc, Nat.mul_one, Nat.mul_one, ← List.drop_one, List.drop_take, List.drop_drop]

theorem close_take_lo {w W : World} {r g off cap : Nat} {n : Int} {x : ByteArray} {l : List ByteArray} {a : AQ ByteArray} {v0 v1 u : Value} {o0 o1 : Option Nat}
    (hr : RAt w r n a (.slice (some ⟨g, off, none⟩) a.lo.length cap) v1 o0 o1) (h0 : a.lo = x :: l) (hu : u = .slice (some ⟨g, if cap = 1 then off else off + 1, none⟩) l.length (cap - 1)) (hW : W = ((w.setCell ⟨r, 1, none⟩ u).drew)) :
    ∃ v, RAt W r n { a with lo := l } v v1 o0 o1 ∧ Mod [r] w W := by
  subst hW
  have hM : Mod [r] w ((w.setCell ⟨r, 1, none⟩ u).drew) := ((Mod.refl _ _).setCell _ (by simp)).drew
  have hs := Sl.tail hr.s0 (by rw [h0]; simp)
  rw [h0] at hs
  simp only [List.length_cons, Nat.add_sub_cancel, strs, List.map_cons, List.tail_cons] at hs
  rw [← hu] at hs
  have hs' := hs.mod hM (by intro g' hg' hin; simp at hin; subst hin; exact hr.d0 hg')
  have hs2 := hr.s1.mod hM (by intro g' hg' hin; simp at hin; subst hin; exact hr.d1 hg')
  exact ⟨u, ⟨(hr.br.set 1 u).drew, hs', hs2, hr.d0, hr.d1, hr.d01⟩, hM⟩

theorem close_take_hi {w W : World} {r g off cap : Nat} {n : Int} {x : ByteArray} {l : List ByteArray} {a : AQ ByteArray} {v0 v1 u : Value} {o0 o1 : Option Nat}
    (hr : RAt w r n a v0 (.slice (some ⟨g, off, none⟩) a.hi.length cap) o0 o1) (h0 : a.hi = x :: l) (hu : u = .slice (some ⟨g, if cap = 1 then off else off + 1, none⟩) l.length (cap - 1)) (hW : W = ((w.setCell ⟨r, 2, none⟩ u).drew)) :
    ∃ v, RAt W r n { a with hi := l } v0 v o0 o1 ∧ Mod [r] w W := by
  subst hW
  have hM : Mod [r] w ((w.setCell ⟨r, 2, none⟩ u).drew) := ((Mod.refl _ _).setCell _ (by simp)).drew
  have hs := Sl.tail hr.s1 (by rw [h0]; simp)
  rw [h0] at hs
  simp only [List.length_cons, Nat.add_sub_cancel, strs, List.map_cons, List.tail_cons] at hs
  rw [← hu] at hs
  have hs' := hs.mod hM (by intro g' hg' hin; simp at hin; subst hin; exact hr.d1 hg')
  have hs2 := hr.s0.mod hM (by intro g' hg' hin; simp at hin; subst hin; exact hr.d0 hg')
  exact ⟨u, ⟨(hr.br.set 2 u).drew, hs2, hs', hr.d0, hr.d1, hr.d01⟩, hM⟩

set_option maxRecDepth 100000 in
set_option maxHeartbeats 400000 in
theorem take_lo_none (r : Nat) (n : Int) (a : AQ ByteArray) (goes : Bool) (v0 v1 : Value) (o0 o1 : Option Nat) (w : World) (hr : RAt w r n a v0 v1 o0 o1) (h0 : a.lo = []) :
    Calls Try.prog 15 #[.pointer (some ⟨r, 0, none⟩), .bool false, .bool goes] w fun e w' => e = .returned (.tuple #[.string ⟨#[]⟩, .bool false]) ∧ w' = w := by
  have hq := hr.br.cell
  obtain ⟨a0, c0, rfl, hc0⟩ := Sl.head_eq hr.s0
  obtain ⟨a1, c1, rfl, hc1⟩ := Sl.head_eq hr.s1
  rw [h0] at hq
  simp only [List.length_nil] at hq
  clear hr h0
  go_enter Try.func15, Try.ntmps15
  go_wp2_with (go_at_call 37; refine (class_any _ _).mono ?_; rintro e w' ⟨rfl, rfl⟩)
  go_ret2
  exact ⟨rfl, rfl⟩

set_option maxRecDepth 100000 in
set_option maxHeartbeats 800000 in
theorem take_lo (r : Nat) (n : Int) (a : AQ ByteArray) (x : ByteArray) (l : List ByteArray) (v0 v1 : Value) (o0 o1 : Option Nat) (w : World) (hr : RAt w r n a v0 v1 o0 o1) (h0 : a.lo = x :: l) :
    Calls Try.prog 15 #[.pointer (some ⟨r, 0, none⟩), .bool false, .bool false] w fun e w' => e = .returned (.tuple #[.string x, .bool true]) ∧ w' = w := by
  have hq := hr.br.cell
  obtain ⟨ao, cap, hv, hcap, hpos⟩ := hr.s0.form
  obtain ⟨g, off, rfl, hob⟩ := hpos (by rw [h0]; simp)
  subst hv
  have hc := hr.s0.cell 0 (by rw [h0]; simp)
  rw [h0] at hc
  simp only [Nat.add_zero, strs, List.map_cons, List.getElem?_cons_zero] at hc
  rw [h0] at hq
  simp only [List.length_cons] at hq
  have hn' : (((l.length : Int) + 1) == 0) = false := by rw [beq_eq_false_iff_ne]; omega
  have hn2 : (((l.length + 1 : Nat) : Int) == 0) = false := by rw [beq_eq_false_iff_ne]; omega
  obtain ⟨a2, c2, rfl, hc2⟩ := Sl.head_eq hr.s1
  clear hr h0 hob hpos
  go_enter Try.func15, Try.ntmps15
  go_wp2_with (go_at_call 37; refine (class_any _ _).mono ?_; rintro e w' ⟨rfl, rfl⟩)
  go_ret2
  exact ⟨rfl, rfl⟩

set_option maxRecDepth 100000 in
set_option maxHeartbeats 800000 in
theorem take_lo_goes (r : Nat) (n : Int) (a : AQ ByteArray) (x : ByteArray) (l : List ByteArray) (v0 v1 : Value) (o0 o1 : Option Nat) (w : World) (hr : RAt w r n a v0 v1 o0 o1) (h0 : a.lo = x :: l) (hL : l.length ≤ 64) :
    Calls Try.prog 15 #[.pointer (some ⟨r, 0, none⟩), .bool false, .bool true] w fun e w' => e = .returned (.tuple #[.string x, .bool true]) ∧ ∃ v, RAt w' r n { a with lo := l } v v1 o0 o1 ∧ Mod [r] w w' := by
  have hq := hr.br.cell
  have fq := hr.br.frozen
  obtain ⟨ao, cap, hv, hcap, hpos⟩ := hr.s0.form
  obtain ⟨g, off, rfl, hob⟩ := hpos (by rw [h0]; simp)
  subst hv
  have hc := hr.s0.cell 0 (by rw [h0]; simp)
  rw [h0] at hc hcap
  simp only [Nat.add_zero, strs, List.map_cons, List.getElem?_cons_zero] at hc
  rw [h0] at hq
  simp only [List.length_cons] at hq hcap
  have hn' : (((l.length : Int) + 1) == 0) = false := by rw [beq_eq_false_iff_ne]; omega
  have hn2 : (((l.length + 1 : Nat) : Int) == 0) = false := by rw [beq_eq_false_iff_ne]; omega
  obtain ⟨a2, c2, rfl, hc2⟩ := Sl.head_eq hr.s1
  have HR := Lib.hid hr
  have HB := Lib.hid hob
  have H0 := Lib.hid h0
  clear hr h0 hob hpos
  by_cases hc1 : cap = 1
  · have hl0 : l.length = 0 := by omega
    subst hc1
    go_enter Try.func15, Try.ntmps15
    go_wp2_with (go_at_call 37; refine (class_any _ _).mono ?_; rintro e w' ⟨rfl, rfl⟩)
    go_region
    go_wp2
    go_ret2
    refine ⟨rfl, close_take_lo (v0 := undef) HR.out H0.out ?_ (by rfl)⟩
    rw [if_pos rfl]; simp only [hl0]
  · have hc3 : ¬ (1 = cap) := fun h => hc1 h.symm
    go_enter Try.func15, Try.ntmps15
    go_wp2_with (go_at_call 37; refine (class_any _ _).mono ?_; rintro e w' ⟨rfl, rfl⟩)
    go_region
    go_wp2
    go_ret2
    refine ⟨rfl, close_take_lo (v0 := undef) HR.out H0.out ?_ (by rfl)⟩
    rw [if_neg hc1]

set_option maxRecDepth 100000 in
set_option maxHeartbeats 400000 in
theorem take_hi_none (r : Nat) (n : Int) (a : AQ ByteArray) (goes : Bool) (v0 v1 : Value) (o0 o1 : Option Nat) (w : World) (hr : RAt w r n a v0 v1 o0 o1) (h0 : a.hi = []) :
    Calls Try.prog 15 #[.pointer (some ⟨r, 0, none⟩), .bool true, .bool goes] w fun e w' => e = .returned (.tuple #[.string ⟨#[]⟩, .bool false]) ∧ w' = w := by
  have hq := hr.br.cell
  obtain ⟨a0, c0, rfl, hc0⟩ := Sl.head_eq hr.s0
  obtain ⟨a1, c1, rfl, hc1⟩ := Sl.head_eq hr.s1
  rw [h0] at hq
  simp only [List.length_nil] at hq
  clear hr h0
  go_enter Try.func15, Try.ntmps15
  go_wp2_with (go_at_call 37; refine (class_any _ _).mono ?_; rintro e w' ⟨rfl, rfl⟩)
  go_ret2
  exact ⟨rfl, rfl⟩

set_option maxRecDepth 100000 in
set_option maxHeartbeats 800000 in
theorem take_hi (r : Nat) (n : Int) (a : AQ ByteArray) (x : ByteArray) (l : List ByteArray) (v0 v1 : Value) (o0 o1 : Option Nat) (w : World) (hr : RAt w r n a v0 v1 o0 o1) (h0 : a.hi = x :: l) :
    Calls Try.prog 15 #[.pointer (some ⟨r, 0, none⟩), .bool true, .bool false] w fun e w' => e = .returned (.tuple #[.string x, .bool true]) ∧ w' = w := by
  have hq := hr.br.cell
  obtain ⟨ao, cap, hv, hcap, hpos⟩ := hr.s1.form
  obtain ⟨g, off, rfl, hob⟩ := hpos (by rw [h0]; simp)
  subst hv
  have hc := hr.s1.cell 0 (by rw [h0]; simp)
  rw [h0] at hc
  simp only [Nat.add_zero, strs, List.map_cons, List.getElem?_cons_zero] at hc
  rw [h0] at hq
  simp only [List.length_cons] at hq
  have hn' : (((l.length : Int) + 1) == 0) = false := by rw [beq_eq_false_iff_ne]; omega
  have hn2 : (((l.length + 1 : Nat) : Int) == 0) = false := by rw [beq_eq_false_iff_ne]; omega
  obtain ⟨a2, c2, rfl, hc2⟩ := Sl.head_eq hr.s0
  clear hr h0 hob hpos
  go_enter Try.func15, Try.ntmps15
  go_wp2_with (go_at_call 37; refine (class_any _ _).mono ?_; rintro e w' ⟨rfl, rfl⟩)
  go_ret2
  exact ⟨rfl, rfl⟩

set_option maxRecDepth 100000 in
set_option maxHeartbeats 800000 in
theorem take_hi_goes (r : Nat) (n : Int) (a : AQ ByteArray) (x : ByteArray) (l : List ByteArray) (v0 v1 : Value) (o0 o1 : Option Nat) (w : World) (hr : RAt w r n a v0 v1 o0 o1) (h0 : a.hi = x :: l) (hL : l.length ≤ 64) :
    Calls Try.prog 15 #[.pointer (some ⟨r, 0, none⟩), .bool true, .bool true] w fun e w' => e = .returned (.tuple #[.string x, .bool true]) ∧ ∃ v, RAt w' r n { a with hi := l } v0 v o0 o1 ∧ Mod [r] w w' := by
  have hq := hr.br.cell
  have fq := hr.br.frozen
  obtain ⟨ao, cap, hv, hcap, hpos⟩ := hr.s1.form
  obtain ⟨g, off, rfl, hob⟩ := hpos (by rw [h0]; simp)
  subst hv
  have hc := hr.s1.cell 0 (by rw [h0]; simp)
  rw [h0] at hc hcap
  simp only [Nat.add_zero, strs, List.map_cons, List.getElem?_cons_zero] at hc
  rw [h0] at hq
  simp only [List.length_cons] at hq hcap
  have hn' : (((l.length : Int) + 1) == 0) = false := by rw [beq_eq_false_iff_ne]; omega
  have hn2 : (((l.length + 1 : Nat) : Int) == 0) = false := by rw [beq_eq_false_iff_ne]; omega
  obtain ⟨a2, c2, rfl, hc2⟩ := Sl.head_eq hr.s0
  have HR := Lib.hid hr
  have HB := Lib.hid hob
  have H0 := Lib.hid h0
  clear hr h0 hob hpos
  by_cases hc1 : cap = 1
  · have hl0 : l.length = 0 := by omega
    subst hc1
    go_enter Try.func15, Try.ntmps15
    go_wp2_with (go_at_call 37; refine (class_any _ _).mono ?_; rintro e w' ⟨rfl, rfl⟩)
    go_region
    go_wp2
    go_ret2
    refine ⟨rfl, close_take_hi (v1 := undef) HR.out H0.out ?_ (by rfl)⟩
    rw [if_pos rfl]; simp only [hl0]
  · have hc3 : ¬ (1 = cap) := fun h => hc1 h.symm
    go_enter Try.func15, Try.ntmps15
    go_wp2_with (go_at_call 37; refine (class_any _ _).mono ?_; rintro e w' ⟨rfl, rfl⟩)
    go_region
    go_wp2
    go_ret2
    refine ⟨rfl, close_take_hi (v1 := undef) HR.out H0.out ?_ (by rfl)⟩
    rw [if_neg hc1]

set_option maxRecDepth 100000 in
set_option maxHeartbeats 400000 in
theorem put_no (r : Nat) (n : Int) (x : ByteArray) (a : AQ ByteArray) (h : Bool) (v0 v1 : Value) (o0 o1 : Option Nat) (w : World) (hr : RAt w r n a v0 v1 o0 o1) (hb : a.lo.length ≤ 64 ∧ a.hi.length ≤ 64) (hlt : n ≤ (a.lo.length : Int) + a.hi.length) :
    Calls Try.prog 12 #[.pointer (some ⟨r, 0, none⟩), .string x, .bool h] w fun e w' => e = .returned (.int .i64 8) ∧ RAt w' r n { a with ft := true } v0 v1 o0 o1 ∧ Mod [r] w w' := by
  have hq := hr.br.cell
  have fq := hr.br.frozen
  obtain ⟨a0, c0, rfl, hc0⟩ := Sl.head_eq hr.s0
  obtain ⟨a1, c1, rfl, hc1⟩ := Sl.head_eq hr.s1
  have hb1 := hb.1
  have hb2 := hb.2
  have HR := Lib.hid hr
  clear hr hb
  go_enter Try.func12, Try.ntmps12
  go_wp2_with (fail)
  go_quiet (fail)
  go_wp2_with (fail)
  go_ret
  have hM : Mod [r] w ((w.drewN nq).setCell ⟨r, 3, none⟩ (.bool true)) := by
    repeat (with_reducible first | exact Mod.refl _ _ | refine Mod.drew ?_ | refine Mod.drewN ?_ _ | refine Mod.setCell ?_ _ (by simp) | refine Mod.alloc ?_ _)
  refine ⟨rfl, ⟨((HR.out.br.drewN nq).set 3 _), HR.out.s0.mod hM ?_, HR.out.s1.mod hM ?_, HR.out.d0, HR.out.d1, HR.out.d01⟩, hM⟩
  · intro g' hg' hin; simp at hin; subst hin; exact HR.out.d0 hg'
  · intro g' hg' hin; simp at hin; subst hin; exact HR.out.d1 hg'

/-- The document's queue is these two lists; its slices lie in the blocks o0, o1. -/
def RRep (w : World) (r : Nat) (n : Int) (a : AQ ByteArray) (o0 o1 : Option Nat) : Prop := ∃ v0 v1, RAt w r n a v0 v1 o0 o1
theorem RRep.mod {w w' : World} {r : Nat} {n : Int} {a : AQ ByteArray} {o0 o1 : Option Nat} {B : List Nat} (h : RRep w r n a o0 o1) (m : Mod B w w') (hb : ∀ x ∈ foot r o0 o1, x ∉ B) : RRep w' r n a o0 o1 := by
  obtain ⟨v0, v1, h⟩ := h
  refine ⟨v0, v1, h.br.mod m (hb r (by simp [foot])), h.s0.mod m fun g hg => hb g (by simp [foot, hg]), h.s1.mod m fun g hg => hb g (by simp [foot, hg]), h.d0, h.d1, h.d01⟩
theorem RRep.lt {w : World} {r : Nat} {n : Int} {a : AQ ByteArray} {o0 o1 : Option Nat} (h : RRep w r n a o0 o1) : ∀ x ∈ foot r o0 o1, x < w.heap.size := by
  obtain ⟨v0, v1, h⟩ := h
  intro x hx
  simp only [foot, List.mem_cons, List.mem_append, Option.mem_toList] at hx
  rcases hx with rfl | hx | hx
  · exact h.br.lt
  · exact h.s0.lt x hx
  · exact h.s1.lt x hx
/-- The blocks are the elder ones, or new. -/
def Grew (w : World) (r : Nat) (o0 o1 p0 p1 : Option Nat) : Prop := ∀ x ∈ foot r p0 p1, x ∈ foot r o0 o1 ∨ w.heap.size ≤ x
theorem Grew.refl (w : World) (r : Nat) (o0 o1 : Option Nat) : Grew w r o0 o1 o0 o1 := fun x hx => .inl hx

theorem put_rep (r : Nat) (n : Nat) (x : ByteArray) (a : AQ ByteArray) (h : Bool) (o0 o1 : Option Nat) (w : World) (hr : RRep w r n a o0 o1) (hn : n ≤ 64) (hb : a.lo.length + a.hi.length ≤ 64) :
    Calls Try.prog 12 #[.pointer (some ⟨r, 0, none⟩), .string x, .bool h] w fun e w' => e = .returned (.int .i64 (AQ.putE n a)) ∧
      ∃ p0 p1, RRep w' r n (a.put n x h) p0 p1 ∧ Grew w r o0 o1 p0 p1 ∧ Mod (foot r o0 o1) w w' := by
  obtain ⟨v0, v1, hr⟩ := hr
  by_cases hlt : a.lo.length + a.hi.length < n
  · rw [AQ.putE, AQ.put, if_pos hlt, if_pos hlt]
    cases h with
    | false =>
      refine (put_lo r n x a v0 v1 o0 o1 w hr (by omega) (by omega)).mono fun e w' ⟨he, v, o, hr', ho, hm⟩ => ⟨he, o, o1, ⟨v, v1, hr'⟩, ?_, hm⟩
      intro y hy
      rcases ho with rfl | ho
      · exact .inl hy
      · simp only [foot, List.mem_cons, List.mem_append, Option.mem_toList] at hy ⊢
        rcases hy with hy | hy | hy
        · exact .inl (.inl hy)
        · exact .inr (ho y hy)
        · exact .inl (.inr (.inr hy))
    | true =>
      refine (put_hi r n x a v0 v1 o0 o1 w hr (by omega) (by omega)).mono fun e w' ⟨he, v, o, hr', ho, hm⟩ => ⟨he, o0, o, ⟨v0, v, hr'⟩, ?_, hm⟩
      intro y hy
      rcases ho with rfl | ho
      · exact .inl hy
      · simp only [foot, List.mem_cons, List.mem_append, Option.mem_toList] at hy ⊢
        rcases hy with hy | hy | hy
        · exact .inl (.inl hy)
        · exact .inl (.inr (.inl hy))
        · exact .inr (ho y hy)
  · rw [AQ.putE, AQ.put, if_neg hlt, if_neg hlt]
    refine (put_no r n x a h v0 v1 o0 o1 w hr (by omega) (by omega)).mono fun e w' ⟨he, hr', hm⟩ => ⟨he, o0, o1, ⟨v0, v1, hr'⟩, Grew.refl _ _ _ _, hm.mono (by simp [foot])⟩

theorem take_rep (r : Nat) (n : Nat) (a : AQ ByteArray) (h goes : Bool) (o0 o1 : Option Nat) (w : World) (hr : RRep w r n a o0 o1) (hb : a.lo.length + a.hi.length ≤ 64) :
    Calls Try.prog 15 #[.pointer (some ⟨r, 0, none⟩), .bool h, .bool goes] w fun e w' => e = .returned (.tuple #[.string ((a.lane h).head?.getD ⟨#[]⟩), .bool (!(a.lane h).isEmpty)]) ∧
      RRep w' r n (bif goes then a.take h else a) o0 o1 ∧ Mod (foot r o0 o1) w w' := by
  obtain ⟨v0, v1, hr⟩ := hr
  cases h with
  | false =>
    cases hx : a.lo with
    | nil =>
      refine (take_lo_none r n a goes v0 v1 o0 o1 w hr hx).mono fun e w' ⟨he, hw⟩ => ⟨by rw [he]; simp [AQ.lane, hx], ?_, by rw [hw]; exact Mod.refl _ _⟩
      have : (bif goes then a.take false else a) = a := by cases a; cases goes <;> simp_all [AQ.take]
      rw [this, hw]; exact ⟨v0, v1, hr⟩
    | cons y l =>
      cases goes with
      | false => exact (take_lo r n a y l v0 v1 o0 o1 w hr hx).mono fun e w' ⟨he, hw⟩ => ⟨by rw [he]; simp [AQ.lane, hx], by rw [hw]; exact ⟨v0, v1, hr⟩, by rw [hw]; exact Mod.refl _ _⟩
      | true =>
        refine (take_lo_goes r n a y l v0 v1 o0 o1 w hr hx (by rw [hx] at hb; simp at hb; omega)).mono fun e w' ⟨he, v, hr', hm⟩ => ⟨by rw [he]; simp [AQ.lane, hx], ⟨v, v1, ?_⟩, hm.mono (by simp [foot])⟩
        simpa [AQ.take, hx] using hr'
  | true =>
    cases hx : a.hi with
    | nil =>
      refine (take_hi_none r n a goes v0 v1 o0 o1 w hr hx).mono fun e w' ⟨he, hw⟩ => ⟨by rw [he]; simp [AQ.lane, hx], ?_, by rw [hw]; exact Mod.refl _ _⟩
      have : (bif goes then a.take true else a) = a := by cases a; cases goes <;> simp_all [AQ.take]
      rw [this, hw]; exact ⟨v0, v1, hr⟩
    | cons y l =>
      cases goes with
      | false => exact (take_hi r n a y l v0 v1 o0 o1 w hr hx).mono fun e w' ⟨he, hw⟩ => ⟨by rw [he]; simp [AQ.lane, hx], by rw [hw]; exact ⟨v0, v1, hr⟩, by rw [hw]; exact Mod.refl _ _⟩
      | true =>
        refine (take_hi_goes r n a y l v0 v1 o0 o1 w hr hx (by rw [hx] at hb; simp at hb; omega)).mono fun e w' ⟨he, v, hr', hm⟩ => ⟨by rw [he]; simp [AQ.lane, hx], ⟨v0, v, ?_⟩, hm.mono (by simp [foot])⟩
        simpa [AQ.take, hx] using hr'

end QRef
end Go.Proofs.Ytnehookocnijpaa
