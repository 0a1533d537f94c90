/- verify: the law's first lines hold. -/
import Derived.Test.YtnehookocnijpaaVBytB
import Derived.ChangeKeysEq
set_option linter.unusedVariables false
set_option linter.unusedSimpArgs false
namespace Go.Proofs.Ytnehookocnijpaa
open Go.RowKit

set_option maxRecDepth 100000 in
set_option maxHeartbeats 1600000 in
theorem v_writes (v : Value) (l : List Ins) (w : World) (h : RSn w 5 encI v l) (hok : ∀ i ∈ l, i.Ok) : Calls Try.prog 33 #[v] w fun e w' => e = .returned (.agg (u64s (bytesP writesQ l)).toArray) ∧ Mod [] w w' := by
  have HA := Lib.hid (fun w1 (m : Mod [] w w1) => v_bytes50 v l w1 (h.mod m) hok)
  have hlen : (bytesP writesQ l).length = 4 := by
    unfold bytesP
    split
    · exact bytesTo_length _ _ _ _
    · rfl
  obtain ⟨o0, o1, o2, o3, ho⟩ := four hlen
  have HO := Lib.hid ho
  clear h hok hlen ho
  go_enter Try.func33, Try.ntmps33
  go_wp2_with (go_at_call 49; refine (HA.out _ (by repeat (with_reducible first | exact Mod.refl _ _ | refine Mod.drew ?_ | refine Mod.drewN ?_ _ | refine Mod.setCell ?_ _ (by first | (simp; done) | (simp; omega)) | refine Mod.alloc ?_ _ | refine Mod.trans ?_ (by assumption)))).mono ?_; rintro e w1 ⟨rfl, hm⟩; rw [HO.out]; have hb := Blk.mod (b := w.heap.size) (T := 69) (cs := [.int .u64 0, .int .u64 0, .int .u64 0, .int .u64 0]) (by repeat (with_reducible first | exact Blk.new' rfl | (refine Blk.new' ?_; simp; done) | apply Blk.set | apply Blk.alloc | assumption)) hm (by simp); have qb := hb.cell; have fb := hb.frozen; have lb := hb.lt; simp only [u64s, List.map_cons, List.map_nil])
  refine bodyPost_ret (v := .agg #[.int .u64 o0, .int .u64 o1, .int .u64 o2, .int .u64 o3]) (by simp [results, Try.results33, go_sem, *]) rfl ⟨by rw [HO.out]; rfl, ?_⟩
  repeat (with_reducible first | exact Mod.refl _ _ | refine Mod.drew ?_ | refine Mod.drewN ?_ _ | refine Mod.setCell ?_ _ (by first | (simp; done) | (simp; omega)) | refine Mod.alloc ?_ _ | refine Mod.trans ?_ (by assumption))

def prog1 : List Ins := [⟨1, 1, 0, 0, 0⟩, ⟨14, 3, 0, 0, 1⟩]
def prog2 : List Ins := [⟨1, 1, 0, 0, 0⟩, ⟨3, 1, 2, 3, 0⟩]
theorem prog1_1 : (allP prog1).1 = 6 := by decide +kernel
theorem prog1_2 : (allP prog1).2.1 = 1 := by decide +kernel
theorem prog2_1 : (allP prog2).1 = 0 := by decide +kernel
theorem prog2_k : kindsP prog2 (allP prog2).2.2 = [0, 1] := by decide +kernel
theorem prog2_b : bytesP writesQ prog2 = [0, 8, 0, 0] := by decide +kernel
theorem small_ok {op kind area at_ n : Int} (h : (0 ≤ op ∧ op ≤ 100) ∧ (0 ≤ kind ∧ kind ≤ 100) ∧ (0 ≤ area ∧ area ≤ 100) ∧ (0 ≤ at_ ∧ at_ ≤ 100) ∧ (0 ≤ n ∧ n ≤ 100)) : (⟨op, kind, area, at_, n⟩ : Ins).Ok := by
  constructor <;> (unfold In64; simp only; omega)
theorem prog1_ok : ∀ i ∈ prog1, i.Ok := by
  intro i hi
  simp only [prog1, List.mem_cons, List.not_mem_nil, or_false] at hi
  rcases hi with rfl | rfl <;> exact small_ok (by omega)
theorem prog2_ok : ∀ i ∈ prog2, i.Ok := by
  intro i hi
  simp only [prog2, List.mem_cons, List.not_mem_nil, or_false] at hi
  rcases hi with rfl | rfl <;> exact small_ok (by omega)
theorem rsn_two {W : World} {b : Nat} {i j : Ins} (h : Blk W b 65 (encI i ++ encI j)) : RSn W 5 encI (.slice (some ⟨b, 0, none⟩) 2 2) [i, j] := by
  refine ⟨_, 2, rfl, by simp, by simp, fun _ => ⟨b, 0, rfl, h.lt, fun q x hx m hm => ?_⟩⟩
  rw [h.cell, Nat.zero_add]
  match q, hx with
  | 0, hx =>
    simp at hx
    subst hx
    rw [Nat.zero_mul, Nat.zero_add, List.getElem?_append_left (by simpa [encI] using hm)]
  | 1, hx =>
    simp at hx
    subst hx
    rw [Nat.one_mul, List.getElem?_append_right (by simp [encI])]
    simp [encI]
  | q + 2, hx => simp at hx

theorem k2 (v : Value) (w : World) (h : RSn w 5 encI v prog2) : Calls Try.prog 31 #[v] w fun e w' => ∃ g off cap, e = .returned (.tuple #[.slice (some ⟨g, off, none⟩) 2 cap, .bool true]) ∧ Mod [] w w' ∧ w'.cell? ⟨g, off + 1, none⟩ = some (.int .i64 1) ∧ g < w'.heap.size ∧ 2 ≤ cap := by
  refine (v_kinds v prog2 w h prog2_ok).mono fun e w' h => ?_
  obtain ⟨sv, rfl, hm, _, hs⟩ := h
  obtain ⟨ob, hs⟩ := hs prog2_1
  rw [prog2_k] at hs
  obtain ⟨ao, cap, hv, hc, hf⟩ := hs.form
  obtain ⟨g, off, rfl, rfl⟩ := hf (by decide)
  subst hv
  refine ⟨g, off, cap, ?_, hm, ?_, hs.lt g rfl, hc⟩
  · rw [prog2_1]; rfl
  · rw [hs.cell 1 (by decide)]; rfl
theorem info68 : (Try.prog.info? 68).map (fun i => (i.zero, i.size, i.bytes)) = some (some (.int .u64 0), 1, 8) := by kernel_rfl
theorem eq4 (a b c d a' b' c' d' : Int) (w : World) : (Op.equalIn 10000 69 (.agg #[.int .u64 a, .int .u64 b, .int .u64 c, .int .u64 d]) (.agg #[.int .u64 a', .int .u64 b', .int .u64 c', .int .u64 d'])).run Try.prog w = .ok (a == a' && b == b' && c == c' && d == d') w := by
  obtain ⟨i0, hi, hz0, hz1, hz2⟩ := info_parts info68
  have u68 := Try.underlying68
  have hc : Try.prog.cellsOf 68 = 1 := by kernel_rfl
  rw [show (10000 : Nat) = 9999 + 1 from rfl, run_equalIn_array w 9999 _ _ Try.underlying69 hi, hc]
  simp only [show List.range 4 = [0, 1, 2, 3] from rfl, Op.eqItems]
  go_simp
  by_cases h1 : a = a' <;> by_cases h2 : b = b' <;> by_cases h3 : c = c' <;> by_cases h4 : d = d' <;> simp [h1, h2, h3, h4]
theorem eq4G : Try.prog.eqGuardType Try.prog.depth 69 = false := by kernel_rfl

set_option maxRecDepth 100000 in
set_option maxHeartbeats 1600000 in
theorem v_awake (w : World) : Calls Try.prog 28 #[] w fun e w' => e = .returned (.bool true) ∧ Mod [] w w' := by
  have hc := fun (v : Value) (w : World) (h : RSn w 5 encI v prog1) => v_check v prog1 w h prog1_ok
  simp only [prog1_1, prog1_2] at hc
  have hk := k2
  have hw := fun (v : Value) (w : World) (h : RSn w 5 encI v prog2) => v_writes v prog2 w h prog2_ok
  simp only [prog2_b] at hw
  have HC := Lib.hid hc
  have HK := Lib.hid hk
  have HW := Lib.hid hw
  clear hc hk hw
  go_enter Try.func28, Try.ntmps28
  go_wp2_with (fail)
  refine (HC.out _ _ (rsn_two (i := ⟨1, 1, 0, 0, 0⟩) (j := ⟨14, 3, 0, 0, 1⟩) (Blk.new' rfl))).mono ?_
  rintro e w1 ⟨rfl, hm1⟩
  go_wp2_with (fail)
  refine (HK.out _ _ (rsn_two (i := ⟨1, 1, 0, 0, 0⟩) (j := ⟨3, 1, 2, 3, 0⟩) (Blk.new' rfl))).mono ?_
  rintro e w2 ⟨g, off, cap, rfl, hm2, hc2, hg2, hcap⟩
  go_wp2_with (fail)
  refine (HW.out _ _ (rsn_two (i := ⟨1, 1, 0, 0, 0⟩) (j := ⟨3, 1, 2, 3, 0⟩) (Blk.new' rfl))).mono ?_
  rintro e w3 ⟨rfl, hm3⟩
  have hc3 : w3.cell? ⟨g, off + 1, none⟩ = some (.int .i64 1) := by
    rw [World.cell?_of_block (w := w2) ((Mod.trans ((Mod.refl [] w2).alloc _) hm3).block g hg2 (by simp))]
    exact hc2
  have hg3 : g < w3.heap.size := by have := hm3.size; simp at this; omega
  have hn3 : ¬ (w3.heap.size = g) := by omega
  have heq := eq4
  have hgd := eq4G
  simp only [u64s, List.map_cons, List.map_nil]
  go_wp2_with (fail)
  go_ret
  refine ⟨rfl, ?_⟩
  repeat (with_reducible first | exact Mod.refl _ _ | refine Mod.drew ?_ | refine Mod.drewN ?_ _ | refine Mod.setCell ?_ _ (by first | (simp; done) | (simp; omega)) | refine Mod.alloc ?_ _ | refine Mod.trans ?_ (by assumption))
end Go.Proofs.Ytnehookocnijpaa
