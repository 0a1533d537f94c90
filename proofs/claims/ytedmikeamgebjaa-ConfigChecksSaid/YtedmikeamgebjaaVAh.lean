/- verify: what its small functions make of what is ahead. -/
import Derived.Test.YtedmikeamgebjaaVRight
import Derived.Test.YtedmikeamgebjaaVSpec
import Derived.Test.YtedmikeamgebjaaApp
import Derived.Deep.RegionLawGrows
import Derived.BigRegion
set_option linter.unusedVariables false
set_option linter.unusedSimpArgs false
namespace Go.Proofs.Ytedmikeamgebjaa
open Go.RowKit

theorem info122 : (Try.prog.info? 122).map (fun i => (i.zero, i.size, i.bytes)) = some (some (.agg #[(.int .i64 0), (.int .i64 0)]), 2, 16) := by kernel_rfl

set_option maxRecDepth 100000 in
set_option maxHeartbeats 400000 in
theorem v_logic (k : Int) (w : World) : Calls Try.prog 82 #[.int .i64 k] w fun e w' => e = .returned (.bool (logicP k)) ∧ Mod [] w w' := by
  go_enter Try.func82, Try.ntmps82
  go_wp2_with (go_at_call 87; refine (iec_may _ _ _).mono ?_; rintro e w1 ⟨rfl, hm⟩)
  go_ret
  refine ⟨rfl, ?_⟩
  repeat (with_reducible first | exact Mod.refl _ _ | refine Mod.drew ?_ | refine Mod.drewN ?_ _ | refine Mod.setCell ?_ _ (by simp) | refine Mod.alloc ?_ _ | refine Mod.trans ?_ (by assumption))

set_option maxRecDepth 100000 in
set_option maxHeartbeats 400000 in
theorem v_must (b : Bool) (w : World) : Calls Try.prog 81 #[.bool b] w fun e w' => e = .returned (.int .i64 (mustP b)) ∧ w = w' := by
  cases b
  all_goals
    go_enter Try.func81, Try.ntmps81
    go_wp2_with (fail)
    go_ret
    exact ⟨rfl, rfl⟩

set_option maxRecDepth 100000 in
set_option maxHeartbeats 400000 in
theorem v_with (k k' : Int) (ao : Option Addr) (n c : Nat) (w : World) : Calls Try.prog 80 #[.agg #[.int .i64 k, .slice ao n c], .int .i64 k'] w fun e w' => e = .returned (.agg #[.int .i64 k', .slice ao n c]) ∧ Mod [] w w' := by
  go_enter Try.func80, Try.ntmps80
  go_wp2_with (fail)
  refine bodyPost_ret (v := .agg #[.int .i64 k', .slice ao n c]) (by simp [results, Try.results80, go_sem]) rfl ⟨rfl, ?_⟩
  repeat (with_reducible first | exact Mod.refl _ _ | refine Mod.drew ?_ | refine Mod.drewN ?_ _ | refine Mod.setCell ?_ _ (by simp) | refine Mod.alloc ?_ _ | refine Mod.trans ?_ (by assumption))

set_option maxRecDepth 100000 in
set_option maxHeartbeats 400000 in
theorem v_made (op k : Int) (w : World) : Calls Try.prog 86 #[.int .i64 op, .int .i64 k] w fun e w' => e = .returned (.int .i64 (madeP op k)) ∧ w = w' := by
  by_cases h1 : 19 ≤ op
  · by_cases h2 : op ≤ 24
    · have e0 : madeP op k = 1 := by simp [madeP, h1, h2]
      rw [e0]; clear e0
      go_enter Try.func86, Try.ntmps86
      go_wp2_with (fail)
      go_ret
      exact ⟨rfl, rfl⟩
    · have e0 : madeP op k = k := by simp [madeP, h2]
      rw [e0]; clear e0
      go_enter Try.func86, Try.ntmps86
      go_wp2_with (fail)
      go_ret
      exact ⟨rfl, rfl⟩
  · have e0 : madeP op k = k := by simp [madeP, h1]
    rw [e0]; clear e0
    go_enter Try.func86, Try.ntmps86
    go_wp2_with (fail)
    go_ret
    exact ⟨rfl, rfl⟩

set_option maxRecDepth 100000 in
set_option maxHeartbeats 400000 in
theorem v_clip (ao : Option Addr) (n c : Nat) (hn : n ≤ c) (w : World) : Calls Try.prog 94 #[.slice ao n c] w fun e w' => e = .returned (.slice ao n n) ∧ w = w' := by
  go_enter Try.func94, Try.ntmps94
  go_wp2_with (fail)
  go_ret
  exact ⟨rfl, rfl⟩

def encB (b : Int × Int) : List Value := [.int .i64 b.1, .int .i64 b.2]
/-- The value v is a slice of the open brackets l. -/
def BSl (w : World) (v : Value) (l : List (Int × Int)) : Prop := ∃ ob, Sl w 122 2 v l.length (l.flatMap encB) ob
theorem BSl.nil (w : World) : BSl w (.slice none 0 0) [] := ⟨none, Sl.nil w 122 2⟩
theorem BSl.keep {w w' : World} {v : Value} {l : List (Int × Int)} (h : BSl w v l) (m : Mod [] w w') : BSl w' v l := h.imp fun _ h => h.mod m (by simp)
theorem BSl.far {w w' : World} {v : Value} {l : List (Int × Int)} {B : List Nat} (h : BSl w v l) (m : Mod B w w') (hb : ∀ x ∈ B, ∃ T' cs, Blk w x T' cs ∧ T' ≠ 122) : BSl w' v l := h.imp fun _ h => h.far m hb

set_option maxRecDepth 100000 in
set_option maxHeartbeats 800000 in
theorem v_ret (k op : Int) (ao : Option Addr) (n c : Nat) (w : World) (l : List (Int × Int)) (hl : l.length = n) : Calls Try.prog 83 #[.agg #[.int .i64 k, .slice ao n c], .int .i64 op] w fun e w' => e = .returned (.tuple #[.agg #[.int .i64 k, .slice ao n c], .int .i64 (retE op k l)]) ∧ Mod [] w w' := by
  have hn : (l ≠ []) = (0 < n) := by subst hl; simp [List.length_pos_iff]
  have e0 : retE op k l = if op ≠ 28 ∧ k ≠ 1 then 6 else if 0 < n then 3 else 0 := by simp [retE, hn]
  rw [e0]; clear e0 hn hl
  by_cases h1 : op = 28
  · subst h1
    simp only [ne_eq, not_true_eq_false, false_and, if_false]
    go_enter Try.func83, Try.ntmps83
    go_wp2_with (fail)
    all_goals
      refine bodyPost_ret (v := .tuple #[.agg #[.int .i64 k, .slice ao n c], .int .i64 (if 0 < n then 3 else 0)]) (by simp [results, Try.results83, go_sem, *]) rfl ⟨by simp [*], ?_⟩
      repeat (with_reducible first | exact Mod.refl _ _ | refine Mod.drew ?_ | refine Mod.drewN ?_ _ | refine Mod.setCell ?_ _ (by simp) | refine Mod.alloc ?_ _ | refine Mod.trans ?_ (by assumption))
  · have h2 : (op != 28) = true := by rw [bne_iff_ne]; exact h1
    by_cases h3 : k = 1
    · subst h3
      simp only [ne_eq, not_true_eq_false, and_false, if_false]

      go_enter Try.func83, Try.ntmps83
      go_wp2_with (fail)
      all_goals
        refine bodyPost_ret (v := .tuple #[.agg #[.int .i64 1, .slice ao n c], .int .i64 (if 0 < n then 3 else 0)]) (by simp [results, Try.results83, go_sem, *]) rfl ⟨by simp [*], ?_⟩
        repeat (with_reducible first | exact Mod.refl _ _ | refine Mod.drew ?_ | refine Mod.drewN ?_ _ | refine Mod.setCell ?_ _ (by simp) | refine Mod.alloc ?_ _ | refine Mod.trans ?_ (by assumption))
    · have h4 : (k != 1) = true := by rw [bne_iff_ne]; exact h3
      rw [if_pos ⟨h1, h3⟩]

      go_enter Try.func83, Try.ntmps83
      go_wp2_with (fail)
      refine bodyPost_ret (v := .tuple #[.agg #[.int .i64 k, .slice ao n c], .int .i64 6]) (by simp [results, Try.results83, go_sem]) rfl ⟨rfl, ?_⟩
      repeat (with_reducible first | exact Mod.refl _ _ | refine Mod.drew ?_ | refine Mod.drewN ?_ _ | refine Mod.setCell ?_ _ (by simp) | refine Mod.alloc ?_ _ | refine Mod.trans ?_ (by assumption))

set_option maxRecDepth 100000 in
set_option maxHeartbeats 800000 in
theorem v_pop (k : Int) (v : Value) (l : List (Int × Int)) (w : World) (hl : BSl w v l) (hd : l.length ≤ 8) : Calls Try.prog 85 #[.agg #[.int .i64 k, v]] w fun e w' => ∃ k' ao' n' c', e = .returned (.tuple #[.agg #[.int .i64 k', .slice ao' n' c'], .int .i64 (popE k l)]) ∧ (popE k l = 0 → ∃ x, l.getLast? = some x ∧ k' = madeP x.1 x.2 ∧ BSl w' (.slice ao' n' c') l.dropLast) ∧ Mod [] w w' := by
  obtain ⟨ob, hl⟩ := hl
  obtain ⟨ao, cap, rfl, hcap, hpos⟩ := hl.form
  rcases List.eq_nil_or_concat l with rfl | ⟨l0, x, rfl⟩
  · have e0 : popE k [] = 3 := rfl
    rw [e0]; clear e0 hpos hl
    simp only [List.length_nil]
    go_enter Try.func85, Try.ntmps85
    go_wp2_with (fail)
    refine bodyPost_ret (v := .tuple #[.agg #[.int .i64 k, .slice ao 0 cap], .int .i64 3]) (by simp [results, Try.results85, go_sem]) rfl ⟨k, _, _, _, rfl, by simp, ?_⟩
    repeat (with_reducible first | exact Mod.refl _ _ | refine Mod.drew ?_ | refine Mod.drewN ?_ _ | refine Mod.setCell ?_ _ (by simp) | refine Mod.alloc ?_ _ | refine Mod.trans ?_ (by assumption))
  · obtain ⟨xo, xk⟩ := x
    simp only [List.concat_eq_append] at *
    have hlen : (l0 ++ [(xo, xk)]).length = l0.length + 1 := by simp
    obtain ⟨g, off, rfl, rfl⟩ := hpos (by simp)
    rw [hlen] at hl hcap hd ⊢
    have hc0 := hl.cell (l0.length * 2) (by omega)
    have hc1 := hl.cell (l0.length * 2 + 1) (by omega)
    have hg := hl.lt g rfl
    rw [show l0.length * 2 = l0.length * 2 + 0 by omega, flat_get encB 2 (fun _ => rfl) (l0 ++ [(xo, xk)]) l0.length 0 (xo, xk) (by simp) (by omega)] at hc0
    rw [flat_get encB 2 (fun _ => rfl) (l0 ++ [(xo, xk)]) l0.length 1 (xo, xk) (by simp) (by omega)] at hc1
    simp only [encB, List.getElem?_cons_zero, List.getElem?_cons_succ, Nat.add_zero] at hc0 hc1
    rw [← Nat.add_assoc] at hc1
    have hfor := hl.fore l0.length (by omega)
    have e0 : popE k (l0 ++ [(xo, xk)]) = if xk ≠ k then 6 else 0 := by simp [popE]
    have e1 : (l0 ++ [(xo, xk)]).dropLast = l0 := by simp
    have e2 : ((l0 ++ [(xo, xk)]).flatMap encB).take (l0.length * 2) = l0.flatMap encB := by
      rw [List.flatMap_append, ← flat_length encB 2 (fun _ => rfl), List.take_left]
    rw [e2] at hfor
    rw [e0, e1]
    simp only [List.getLast?_append, List.getLast?_singleton, Option.or_some, Option.some.injEq]
    have HL := Lib.hid hfor
    generalize hm : l0.length = m at *
    clear hfor e0 e1 e2 hlen hl
    have hs : IntKind.i64.wrap (m : Int) = (m : Int) := IntWalk.i64_in _ (by omega)
    have hmc : m ≤ cap := by omega
    by_cases hk : xk = k
    · subst hk
      simp only [ne_eq, not_true_eq_false, if_false]
      go_enter Try.func85, Try.ntmps85
      go_wp2_with (fail)
      generalize hW : ((w.alloc (Obj.cells #[.int .i64 xk, .slice (some ⟨g, off, none⟩) (m + 1) cap] 102)).alloc (Obj.cells #[.int .i64 0, .slice none 0 0] 102)).alloc (Obj.cells #[.int .i64 xo, .int .i64 xk] 122) = W
      have ha : Blk W w.heap.size 102 [.int .i64 xk, .slice (some ⟨g, off, none⟩) (m + 1) cap] := by rw [← hW]; repeat (with_reducible first | exact Blk.new' rfl | (refine Blk.new' ?_; simp; done) | apply Blk.alloc)
      have ht : Blk W (w.heap.size + 1) 102 [.int .i64 0, .slice none 0 0] := by rw [← hW]; repeat (with_reducible first | exact Blk.new' rfl | (refine Blk.new' ?_; simp; done) | apply Blk.alloc)
      have hb : Blk W (w.heap.size + 1 + 1) 122 [.int .i64 xo, .int .i64 xk] := by rw [← hW]; repeat (with_reducible first | exact Blk.new' rfl | (refine Blk.new' ?_; simp; done) | apply Blk.alloc)
      have hm0 : Mod [] w W := by rw [← hW]; repeat (with_reducible first | exact Mod.refl _ _ | refine Mod.drew ?_ | refine Mod.drewN ?_ _ | refine Mod.setCell ?_ _ (by simp) | refine Mod.alloc ?_ _ | refine Mod.trans ?_ (by assumption))
      clear hW
      have qa := ha.cell
      have qb := hb.cell
      have qt := ht.cell
      have ft := ht.frozen
      go_region_held3 (fun w' => w'.cell? ⟨w.heap.size, 0, none⟩ = some (.int .i64 xk) ∧ w'.cell? ⟨w.heap.size, 1, none⟩ = some (.slice (some ⟨g, off, none⟩) (m + 1) cap) ∧ w'.cell? ⟨w.heap.size + 1 + 1, 0, none⟩ = some (.int .i64 xo) ∧ w'.cell? ⟨w.heap.size + 1 + 1, 1, none⟩ = some (.int .i64 xk)) (go_keep) ((go_at_call 86; refine (v_made _ _ _).mono ?_; rintro e w1 ⟨rfl, rfl⟩))
      all_goals
        go_wp2
        refine bodyPost_ret (v := .tuple #[.agg #[.int .i64 (madeP xo xk), .slice (some ⟨g, off, none⟩) m cap], .int .i64 0]) (by simp [results, Try.results85, go_sem, qt]) rfl ⟨_, _, _, _, rfl, fun _ => ⟨(xo, xk), by simp, rfl, some g, ?_⟩, ?_⟩
        · rw [hm]
          refine Sl.mod (B := []) HL.out ?_ (by simp)
          repeat (with_reducible first | exact Mod.refl _ _ | refine Mod.drew ?_ | refine Mod.drewN ?_ _ | refine Mod.setCell ?_ _ (by simp) | refine Mod.alloc ?_ _ | refine Mod.trans ?_ (by assumption))
        · repeat (with_reducible first | exact Mod.refl _ _ | refine Mod.drew ?_ | refine Mod.drewN ?_ _ | refine Mod.setCell ?_ _ (by simp) | refine Mod.alloc ?_ _ | refine Mod.trans ?_ (by assumption))
    · have hk' : (xk != k) = true := by rw [bne_iff_ne]; exact hk
      rw [if_pos hk]
      go_enter Try.func85, Try.ntmps85
      go_wp2_with (fail)
      refine bodyPost_ret (v := .tuple #[.agg #[.int .i64 k, .slice (some ⟨g, off, none⟩) (m + 1) cap], .int .i64 6]) (by simp [results, Try.results85, go_sem]) rfl ⟨k, _, _, _, rfl, by simp, ?_⟩
      repeat (with_reducible first | exact Mod.refl _ _ | refine Mod.drew ?_ | refine Mod.drewN ?_ _ | refine Mod.setCell ?_ _ (by simp) | refine Mod.alloc ?_ _ | refine Mod.trans ?_ (by assumption))

set_option maxRecDepth 100000 in
set_option maxHeartbeats 800000 in
theorem v_push (k op : Int) (v : Value) (l : List (Int × Int)) (w : World) (hl : BSl w v l) (hd : l.length ≤ 8) : Calls Try.prog 84 #[.agg #[.int .i64 k, v], .int .i64 op] w fun e w' => ∃ k' ao' n' c', e = .returned (.tuple #[.agg #[.int .i64 k', .slice ao' n' c'], .int .i64 (pushE op k l)]) ∧ (pushE op k l = 0 → k' = 0 ∧ BSl w' (.slice ao' n' c') (l ++ [(op, k)])) ∧ Mod [] w w' := by
  obtain ⟨ob, hl⟩ := hl
  obtain ⟨ao, cap, rfl, hcap, hpos⟩ := hl.form
  have hclip := hl.clip
  have HC := Lib.hid hclip
  have e1 : l.flatMap encB ++ [.int .i64 op, .int .i64 k] = (l ++ [(op, k)]).flatMap encB := by simp [encB]
  have e2 : l.length + 1 = (l ++ [(op, k)]).length := by simp
  have HE := Lib.hid (And.intro e1 e2)
  clear hl hclip hpos e1 e2
  by_cases hm : mayP op k = false
  · have e0 : pushE op k l = 6 := by simp [pushE, hm]
    rw [e0]
    clear e0
    generalize l.length = m at *
    have HM := Lib.hid hm
    clear hm
    go_enter Try.func84, Try.ntmps84
    go_wp2_with ((go_at_call 87; refine (iec_may _ _ _).mono ?_; rintro e w1 ⟨rfl, hm1⟩; rw [HM.out]; have hb := Blk.mod (b := w.heap.size) (T := 102) (cs := [.int .i64 k, .slice ao m cap]) (by repeat (with_reducible first | exact Blk.new' rfl | (refine Blk.new' ?_; simp; done) | apply Blk.alloc)) hm1 (by simp); have qb := hb.cell; have hb2 := Blk.mod (b := w.heap.size + 1) (T := 102) (cs := [.int .i64 0, .slice none 0 0]) (by repeat (with_reducible first | exact Blk.new' rfl | (refine Blk.new' ?_; simp; done) | apply Blk.alloc)) hm1 (by simp); have qb2 := hb2.cell; have fb2 := hb2.frozen))
    refine bodyPost_ret (v := .tuple #[.agg #[.int .i64 k, .slice ao m cap], .int .i64 6]) (by simp [results, Try.results84, go_sem, qb2]) rfl ⟨k, _, _, _, rfl, by simp, ?_⟩
    repeat (with_reducible first | exact Mod.refl _ _ | refine Mod.drew ?_ | refine Mod.drewN ?_ _ | refine Mod.setCell ?_ _ (by simp) | refine Mod.alloc ?_ _ | refine Mod.trans ?_ (by assumption))
  · have hm' : mayP op k = true := by simpa using hm
    have HM := Lib.hid hm'
    by_cases h8 : l.length = 8
    · have e0 : pushE op k l = 8 := by simp [pushE, hm', h8]
      rw [e0]
      clear e0 hm hm'
      rw [h8] at hcap ⊢
      go_enter Try.func84, Try.ntmps84
      go_wp2_with ((go_at_call 87; refine (iec_may _ _ _).mono ?_; rintro e w1 ⟨rfl, hm1⟩; rw [HM.out]; have hb := Blk.mod (b := w.heap.size) (T := 102) (cs := [.int .i64 k, .slice ao 8 cap]) (by repeat (with_reducible first | exact Blk.new' rfl | (refine Blk.new' ?_; simp; done) | apply Blk.alloc)) hm1 (by simp); have qb := hb.cell; have hb2 := Blk.mod (b := w.heap.size + 1) (T := 102) (cs := [.int .i64 0, .slice none 0 0]) (by repeat (with_reducible first | exact Blk.new' rfl | (refine Blk.new' ?_; simp; done) | apply Blk.alloc)) hm1 (by simp); have qb2 := hb2.cell; have fb2 := hb2.frozen))
      refine bodyPost_ret (v := .tuple #[.agg #[.int .i64 k, .slice ao 8 cap], .int .i64 8]) (by simp [results, Try.results84, go_sem, qb2]) rfl ⟨k, _, _, _, rfl, by simp, ?_⟩
      repeat (with_reducible first | exact Mod.refl _ _ | refine Mod.drew ?_ | refine Mod.drewN ?_ _ | refine Mod.setCell ?_ _ (by simp) | refine Mod.alloc ?_ _ | refine Mod.trans ?_ (by assumption))
    · have e0 : pushE op k l = 0 := by simp [pushE, hm', h8]
      rw [e0]
      clear e0 hm hm'
      generalize l.length = m at *
      have h8' : ((m : Int) == 8) = false := by rw [beq_eq_false_iff_ne]; omega
      go_enter Try.func84, Try.ntmps84
      go_wp2_with ((go_at_call 87; refine (iec_may _ _ _).mono ?_; rintro e w1 ⟨rfl, hm1⟩; rw [HM.out]; have hb := Blk.mod (b := w.heap.size) (T := 102) (cs := [.int .i64 k, .slice ao m cap]) (by repeat (with_reducible first | exact Blk.new' rfl | (refine Blk.new' ?_; simp; done) | apply Blk.alloc)) hm1 (by simp); have qb := hb.cell; have hb2 := Blk.mod (b := w.heap.size + 1) (T := 102) (cs := [.int .i64 0, .slice none 0 0]) (by repeat (with_reducible first | exact Blk.new' rfl | (refine Blk.new' ?_; simp; done) | apply Blk.alloc)) hm1 (by simp); have qb2 := hb2.cell; have fb2 := hb2.frozen))
      have ht : Blk w1 (w.heap.size + 1) 102 [.int .i64 0, .slice none 0 0] := hb2
      have hm0 : Mod [] w w1 := Mod.trans (by repeat (with_reducible first | exact Mod.refl _ _ | refine Mod.drew ?_ | refine Mod.drewN ?_ _ | refine Mod.setCell ?_ _ (by simp) | refine Mod.alloc ?_ _ | refine Mod.trans ?_ (by assumption))) hm1
      have hsl : Sl w1 122 2 (.slice ao m m) m (l.flatMap encB) ob := HC.out.mod hm0 (by simp)
      have hlt := hb2.lt
      have HS := Lib.hid hsl
      clear hsl hm1
      obtain ⟨i0, hi, hz0, hz1, hz2⟩ := info_parts info122
      go_region_held3 (fun w' => w'.cell? ⟨w.heap.size, 0, none⟩ = some (.int .i64 k) ∧ w'.cell? ⟨w.heap.size, 1, none⟩ = some (.slice ao m cap)) (go_keep) ((first | (go_at_call 94; refine (v_clip _ _ _ hcap _).mono ?_; rintro e w2 ⟨rfl, rfl⟩) | (refine step_append_full (by rfl) _ _ _ (by rfl) 122 i0 _ 2 16 Try.underlying100 hi hz0 hz1 hz2 rfl (by omega) ao m (l.flatMap encB) ob (by rfl) (by repeat (with_reducible first | exact HS.out | apply Sl.drew | apply Sl.drewN | apply Sl.alloc)) ⟨w1.heap.size, 0, none⟩ 1 1 [.int .i64 op, .int .i64 k] (by rfl) (by rfl) (Blk.news (T := 122) (by repeat (with_reducible first | apply Blk.drew | apply Blk.drewN | exact Blk.new' (by simp)))) (by simp [Value.oneCell']) (by omega) (by omega) (by omega) ?_; intro cp w2 hs2 hmod2 hlt2; have hb3 := Blk.mod (b := w.heap.size) (T := 102) (by repeat (with_reducible first | exact hb | apply Blk.drew | apply Blk.drewN | apply Blk.alloc)) hmod2 (by simp); have qb3 := hb3.cell; have ht3 := Blk.mod (b := w.heap.size + 1) (T := 102) (by repeat (with_reducible first | exact ht | apply Blk.drew | apply Blk.drewN | apply Blk.alloc)) hmod2 (by simp); have qt3 := ht3.cell; have ft3 := ht3.frozen)))
      all_goals
        have HM2 := Lib.hid hmod2
        have hs3 : Sl w2 122 2 (.slice (some ⟨w1.heap.size + 1, 0, none⟩) (m + 1) cp) (m + 1) (l.flatMap encB ++ [.int .i64 op, .int .i64 k]) (some (w1.heap.size + 1)) := by simpa using hs2
        have HS3 := Lib.hid hs3
        clear hs2 hs3 hmod2
        go_wp2
        refine bodyPost_ret (v := .tuple #[.agg #[.int .i64 0, .slice (some ⟨w1.heap.size + 1, 0, none⟩) (m + 1) cp], .int .i64 0]) (by simp [results, Try.results84, go_sem, qt3]) rfl ⟨_, _, _, _, rfl, fun _ => ⟨rfl, some (w1.heap.size + 1), ?_⟩, ?_⟩
        · rw [← HE.out.1, ← HE.out.2]
          refine HS3.out.mod (B := [w.heap.size + 1]) ?_ (by simp; omega)
          repeat (with_reducible first | exact Mod.refl _ _ | refine Mod.drew ?_ | refine Mod.drewN ?_ _ | refine Mod.setCell ?_ _ (by simp) | refine Mod.alloc ?_ _ | refine Mod.trans ?_ (by assumption))
        · have hmod2 := HM2.out
          repeat (with_reducible first | exact Mod.refl _ _ | refine Mod.drew ?_ | refine Mod.drewN ?_ _ | refine Mod.setCell ?_ _ (by simp) | refine Mod.alloc ?_ _ | refine Mod.trans ?_ (by assumption))
end Go.Proofs.Ytedmikeamgebjaa
