/- verify: all of a program. -/
import Derived.Test.YtedmikeamgebjaaVTab
import Derived.Test.YtedmikeamgebjaaReads
set_option linter.unusedVariables false
set_option linter.unusedSimpArgs false
namespace Go.Proofs.Ytedmikeamgebjaa
open Go.RowKit

theorem info99 : (Try.prog.info? 99).map (fun i => (i.zero, i.size, i.bytes)) = some (some (.pointer none), 1, 8) := by kernel_rfl

theorem next_deep {a : Ah} {i : Ins} (h : a.opn.length ≤ 8) (he : errP a i = 0) : (nextP a i).opn.length ≤ 8 := by
  unfold nextP
  split
  · exact h
  · split
    · exact h
    · split
      · rename_i h1 h2 h3
        have : errP a i = pushE i.at_ a.kind a.opn := by simp [errP, h3]
        rw [this] at he
        unfold pushE at he
        split at he
        · omega
        · split at he
          · omega
          · simp; omega
      · split
        · simp; omega
        · exact h

/-- Where the loop over the instructions stands. -/
def AllRel (w : World) (tb : Nat) (l : List Ins) (n : Nat) (v : Value) (wr : World) : Prop :=
  ∃ (k : Nat) (t : Tab) (ps : List (Option Nat)), k ≤ n ∧ v = .int .i64 (k : Int) ∧ TabAt wr tb t ps ∧ t.length = n + 1 ∧ goP n (l.drop k) k t = goP n l 0 (startT n) ∧ Mod [] w wr ∧ ∀ x ∈ tfoot tb ps, w.heap.size ≤ x
def AllQ (l : List Ins) (w : World) (e : Ending) (w' : World) : Prop :=
  ∃ tv, e = .returned (.tuple #[tv, .int .i64 (allP l).1, .int .i64 ((allP l).2.1 : Int)]) ∧ ((allP l).1 = 0 → ∃ tb ps, tv = .slice (some ⟨tb, 0, none⟩) (l.length + 1) (l.length + 1) ∧ TabAt w' tb (allP l).2.2 ps) ∧ Mod [] w w'
theorem il_right_at {i : Ins} {op kind area at_ n : Int} (h : (⟨op, kind, area, at_, n⟩ : Ins) = i) (w : World) (hi : i.Ok) : Calls Try.prog 60 #[.agg #[.int .i64 op, .int .i64 kind, .int .i64 area, .int .i64 at_, .int .i64 n]] w fun e w' => e = .returned (.bool (rightP i)) ∧ Mod [] w w' := by
  subst h
  exact il_right _ w hi
theorem TabAt.types {w : World} {tb : Nat} {t : Tab} {ps : List (Option Nat)} (h : TabAt w tb t ps) : ∀ x ∈ tfoot tb ps, ∃ T' cs, Blk w x T' cs ∧ T' ≠ 122 := by
  intro x hx
  rcases mem_tfoot.1 hx with rfl | ⟨j, hj⟩
  · exact ⟨99, _, h.blk, by decide⟩
  · obtain ⟨a, _, ao, n, c, h1, _⟩ := h.ptr hj
    exact ⟨102, _, h1, by decide⟩
theorem TabAt.lt {w : World} {tb : Nat} {t : Tab} {ps : List (Option Nat)} (h : TabAt w tb t ps) : ∀ x ∈ tfoot tb ps, x < w.heap.size := by
  intro x hx
  obtain ⟨T', cs, h1, _⟩ := h.types x hx
  exact h1.lt
/-- What holds in a round behind the instruction's own step. -/
structure St (w W : World) (tb T7 T8 : Nat) (t : Tab) (ps : List (Option Nat)) (I7 I8 : List Value) (v : Value) (l : List (Int × Int)) : Prop where
  tab : TabAt W tb t ps
  b7 : Blk W T7 54 I7
  b8 : Blk W T8 102 I8
  bs : BSl W v l
  mod : Mod [] w W
  old : ∀ x ∈ tfoot tb ps, w.heap.size ≤ x
  n7 : T7 ∉ tfoot tb ps
  n8 : T8 ∉ tfoot tb ps
theorem St.keep {w W W' : World} {tb T7 T8 : Nat} {t : Tab} {ps : List (Option Nat)} {I7 I8 : List Value} {v : Value} {l : List (Int × Int)} (h : St w W tb T7 T8 t ps I7 I8 v l) (m : Mod [] W W') : St w W' tb T7 T8 t ps I7 I8 v l :=
  ⟨h.tab.keep m, h.b7.mod m (by simp), h.b8.mod m (by simp), h.bs.keep m, h.mod.trans m, h.old, h.n7, h.n8⟩
theorem St.lead {w W W' : World} {tb T7 T8 : Nat} {t t' : Tab} {ps ps' : List (Option Nat)} {I7 I8 : List Value} {v : Value} {l : List (Int × Int)} (h : St w W tb T7 T8 t ps I7 I8 v l) (ht : TabAt W' tb t' ps')
    (hp : ∀ (j b : Nat), ps'[j]? = some (some b) → ps[j]? = some (some b) ∨ W.heap.size ≤ b) (m : Mod (tfoot tb ps) W W') : St w W' tb T7 T8 t' ps' I7 I8 v l := by
  have key : ∀ x, x ∈ tfoot tb ps' → x ∈ tfoot tb ps ∨ W.heap.size ≤ x := by
    intro x hx
    rcases mem_tfoot.1 hx with rfl | ⟨j, hj⟩
    · exact .inl (mem_tfoot.2 (.inl rfl))
    · rcases hp j x hj with h1 | h1
      · exact .inl (mem_tfoot.2 (.inr ⟨j, h1⟩))
      · exact .inr h1
  refine ⟨ht, h.b7.mod m h.n7, h.b8.mod m h.n8, h.bs.far m h.tab.types, h.mod.then m (fun x hx => .inr (h.old x hx)), ?_, ?_, ?_⟩
  · intro x hx
    rcases key x hx with h1 | h1
    · exact h.old x h1
    · have := h.mod.size; omega
  · intro hx
    rcases key _ hx with h1 | h1
    · exact h.n7 h1
    · have := h.b7.lt; omega
  · intro hx
    rcases key _ hx with h1 | h1
    · exact h.n8 h1
    · have := h.b8.lt; omega
theorem v_lead_at (tb : Nat) (t : Tab) (ps : List (Option Nat)) (x : Int) (to : Nat) (hx : x = (to : Int)) (a : Ah) (ao : Option Addr) (n c nn : Nat) (w : World) (h : TabAt w tb t ps) (hnn : t.length = nn) (hto : to < nn) (hb : BSl w (.slice ao n c) a.opn) (hn : a.opn.length = n) (hd : n ≤ 8) (h63 : nn ≤ 300) :
    Calls Try.prog 64 #[.slice (some ⟨tb, 0, none⟩) nn nn, .int .i64 x, .agg #[.int .i64 a.kind, .slice ao n c]] w fun e w' => e = .returned (.bool (leadB t to a)) ∧ ∃ ps', TabAt w' tb (leadT t to a) ps' ∧ (∀ (j b : Nat), ps'[j]? = some (some b) → ps[j]? = some (some b) ∨ w.heap.size ≤ b) ∧ Mod (tfoot tb ps) w w' := by
  subst hx
  exact v_lead tb t ps to a ao n c nn w h hnn hto hb hn hd h63
theorem leadT_length (t : Tab) (to : Nat) (a : Ah) : (leadT t to a).length = t.length := by
  unfold leadT
  split <;> simp
theorem v_jumps_at {i : Ins} {op kind area at_ n : Int} (h : (⟨op, kind, area, at_, n⟩ : Ins) = i) (w : World) : Calls Try.prog 61 #[.agg #[.int .i64 op, .int .i64 kind, .int .i64 area, .int .i64 at_, .int .i64 n]] w fun e w' => e = .returned (.bool (jumpsP i)) ∧ Mod [] w w' := by
  subst h
  exact v_jumps _ w
theorem v_on_at {i : Ins} {op kind area at_ n : Int} (h : (⟨op, kind, area, at_, n⟩ : Ins) = i) (w : World) : Calls Try.prog 63 #[.agg #[.int .i64 op, .int .i64 kind, .int .i64 area, .int .i64 at_, .int .i64 n]] w fun e w' => e = .returned (.bool (onP i)) ∧ Mod [] w w' := by
  subst h
  exact v_on _ w
theorem v_behind_at {i : Ins} {op kind area at_ n : Int} (h : (⟨op, kind, area, at_, n⟩ : Ins) = i) (a : Ah) (ao : Option Addr) (nn cap : Nat) (w : World) (hl : BSl w (.slice ao nn cap) a.opn) (hn : a.opn.length = nn) (hd : nn ≤ 8) :
    Calls Try.prog 62 #[.agg #[.int .i64 a.kind, .slice ao nn cap], .agg #[.int .i64 op, .int .i64 kind, .int .i64 area, .int .i64 at_, .int .i64 n]] w fun e w' =>
      ∃ k' ao' n' c', e = .returned (.tuple #[.agg #[.int .i64 k', .slice ao' n' c'], .int .i64 (errP a i)]) ∧ (errP a i = 0 → k' = (nextP a i).kind ∧ BSl w' (.slice ao' n' c') (nextP a i).opn) ∧ Mod [] w w' := by
  subst h
  exact v_behind a ao nn cap _ w hl hn (by omega)
theorem BSl.len {w : World} {ao : Option Addr} {n c : Nat} {l : List (Int × Int)} (h : BSl w (.slice ao n c) l) : l.length = n := by
  obtain ⟨ob, h⟩ := h
  obtain ⟨ao', c', e, _⟩ := h.form
  simp only [Value.slice.injEq] at e
  exact e.2.1.symm
theorem all_err {l : List Ins} {w w' : World} {c : Int} {k : Nat} {t : Tab} {tv : Value} (hall : allP l = (c, k, t)) (hc : c ≠ 0) (m : Mod [] w w') : AllQ l w (.returned (.tuple #[tv, .int .i64 c, .int .i64 (k : Int)])) w' := by
  unfold AllQ
  rw [hall]
  exact ⟨tv, rfl, fun h => absurd h hc, m⟩
theorem go_step {n : Nat} {l : List Ins} {k : Nat} {t : Tab} {i : Ins} (hi : l[k]? = some i) : goP n (l.drop k) k t = if (stepP n t k i).1 ≠ 0 then ((stepP n t k i).1, k, t) else goP n (l.drop (k + 1)) (k + 1) (stepP n t k i).2 := by
  obtain ⟨hk, rfl⟩ := List.getElem?_eq_some_iff.1 hi
  rw [List.drop_eq_getElem_cons hk, goP]

theorem start_tab {w : World} {tb nb : Nat} {n : Nat} (hb : Blk w tb 99 (((List.replicate (n + 1) (none : Option Nat)).set 0 (some nb)).map ptrV)) (ha : AhAt w nb ⟨0, []⟩) : TabAt w tb (startT n) ((List.replicate (n + 1) (none : Option Nat)).set 0 (some nb)) := by
  refine ⟨hb, by simp [startT], ?_, ?_, ?_⟩
  · intro j hj
    unfold startT at hj
    by_cases e : 0 = j
    · subst e; simp at hj
    · rw [List.getElem?_set_ne e] at hj ⊢
      have : j < n + 1 := by have := (List.getElem?_eq_some_iff.1 hj).1; simpa using this
      rw [List.getElem?_replicate, if_pos this]
  · intro j a hj
    unfold startT at hj
    by_cases e : 0 = j
    · subst e
      simp at hj
      subst hj
      exact ⟨nb, by simp, ha⟩
    · rw [List.getElem?_set_ne e, List.getElem?_replicate] at hj
      split at hj <;> simp at hj
  · intro j k b hj hk
    have key : ∀ j : Nat, ((List.replicate (n + 1) (none : Option Nat)).set 0 (some nb))[j]? = some (some b) → j = 0 := by
      intro j hj
      by_cases e : 0 = j
      · exact e.symm
      · rw [List.getElem?_set_ne e, List.getElem?_replicate] at hj
        split at hj <;> simp at hj
    rw [key j hj, key k hk]

theorem made_ptr (m : Nat) : (madeCells (Value.pointer none).cells (m * 1)).toList = (List.replicate m (none : Option Nat)).map ptrV := by
  have h := madeCells_flat [.pointer none] m
  have e : (Value.pointer none).cells = [Value.pointer none].toArray := rfl
  rw [e]
  simp only [List.length_singleton] at h
  rw [h]
  simp [ptrV, List.flatMap_replicate, List.flatten_replicate_singleton]

set_option maxRecDepth 100000 in
set_option maxHeartbeats 1600000 in
theorem v_all (v : Value) (l : List Ins) (w : World) (h : RSn w 5 encI v l) (hok : ∀ i ∈ l, i.Ok) : Calls Try.prog 53 #[v] w (AllQ l w) := by
  obtain ⟨ao, cap, rfl, hlc, hcm, hcells⟩ := h
  generalize hnl : l.length = n at *
  have hmx : n ≤ 9223372036854775807 := hcm
  have HC := Lib.hid (And.intro hcells hok)
  have HN := Lib.hid hnl
  clear hcells hok hcm hnl
  by_cases h200 : 200 < n
  · have h2 : (200 : Int) < (n : Int) := by omega
    have e0 : allP l = (2, 200, []) := by unfold allP; rw [HN.out, if_pos h200]
    unfold AllQ
    rw [e0]
    clear e0
    go_enter Try.func53, Try.ntmps53
    go_wp2_with (fail)
    refine bodyPost_ret (v := .tuple #[.slice none 0 0, .int .i64 2, .int .i64 200]) (by simp [results, Try.results53, go_sem]) rfl ⟨_, rfl, by simp, Mod.refl _ _⟩
  · have e0 : allP l = goP n l 0 (startT n) := by unfold allP; rw [HN.out, if_neg h200]
    have h2 : ¬ ((200 : Int) < (n : Int)) := by omega
    have hs : IntKind.i64.wrap ((n : Int) + 1) = (n : Int) + 1 := IntWalk.i64_in _ (by omega)
    have hcast : ((n + 1 : Nat) : Int) = (n : Int) + 1 := by omega
    have H0 := Lib.hid e0
    obtain ⟨i0, hi, hz0, hz1, hz2⟩ := info_parts info99
    clear e0 h200
    go_enter Try.func53, Try.ntmps53
    go_wp2_with (at_make; refine wpList_make_blk _ (by rfl) _ _ 85 (by rfl) 99 i0 _ 1 8 Try.underlying85 hi hz0 hz1 hz2 .i64 .i64 _ _ (n + 1) (by rfl) (by rfl) hcast.symm hcast.symm (by omega) (by omega) ?_; have hbt : Blk (w.alloc (.cells (madeCells (Value.pointer none).cells ((n + 1) * 1)) 99)) w.heap.size 99 ((List.replicate (n + 1) (none : Option Nat)).map ptrV) := by { rw [← made_ptr]; exact Blk.new _ _ _ }; have hMt : Mod [] w (w.alloc (.cells (madeCells (Value.pointer none).cells ((n + 1) * 1)) 99)) := (Mod.refl _ _).alloc _; generalize w.alloc (.cells (madeCells (Value.pointer none).cells ((n + 1) * 1)) 99) = W1 at hbt hMt ⊢; have qt0 : W1.cell? ⟨w.heap.size, 0, none⟩ = some (.pointer none) := by { rw [hbt.cell]; simp [ptrV] }; have ft0 := hbt.frozen; have lt0 := hbt.lt)
    go_loopw [24] (fun v wr => AllRel w w.heap.size l n v wr) (fun v _ => n - (intOf v).toNat)
    case atStart =>
      refine ⟨0, startT n, (List.replicate (n + 1) (none : Option Nat)).set 0 (some W1.heap.size), Nat.zero_le _, rfl, start_tab ?_ ?_, by simp [startT], by simp, ?_, ?_⟩
      · apply Blk.eq
        · apply Blk.alloc
          apply Blk.set
          exact hbt
        · rw [List.map_set]; rfl
      · refine ⟨none, 0, 0, ?_, BSl.nil _, rfl, by omega⟩
        exact Blk.new' (by simp)
      · repeat (with_reducible first | exact Mod.refl _ _ | refine Mod.drew ?_ | refine Mod.drewN ?_ _ | refine Mod.setCell ?_ _ (by first | (simp; done) | (simp; omega)) | refine Mod.alloc ?_ _ | refine Mod.trans ?_ (by assumption))
      · intro x hx
        rcases mem_tfoot.1 hx with rfl | ⟨j, hj⟩
        · exact Nat.le_refl _
        · by_cases e : 0 = j
          · subst e
            simp at hj
            omega
          · rw [List.getElem?_set_ne e, List.getElem?_replicate] at hj
            split at hj <;> simp at hj
    case round hrel =>
      obtain ⟨k, t, ps, hk, rfl, hT, htl, hgo, hM, hF⟩ := hrel
      clear hbt hMt qt0 ft0 lt0
      by_cases hlt : k < n
      · obtain ⟨i, hx⟩ : ∃ x, l[k]? = some x := ⟨_, List.getElem?_eq_getElem (by rw [HN.out]; exact hlt)⟩
        obtain ⟨b, off, rfl, hb, hcs⟩ := HC.out.1 (by intro h; rw [h] at hx; simp at hx)
        have hiok := HC.out.2 _ (List.mem_of_getElem? hx)
        have hgs := go_step (n := n) (t := t) hx
        obtain ⟨op, kind, area, at_, ni⟩ := i
        have hbl : b < wr.heap.size := Nat.lt_of_lt_of_le hb hM.size
        have c0 := hM.cell (hcs k _ hx 0 (by omega)) (by simp)
        have c1 := hM.cell (hcs k _ hx 1 (by omega)) (by simp)
        have c2 := hM.cell (hcs k _ hx 2 (by omega)) (by simp)
        have c3 := hM.cell (hcs k _ hx 3 (by omega)) (by simp)
        have c4 := hM.cell (hcs k _ hx 4 (by omega)) (by simp)
        simp only [encI, Nat.add_zero, ← Nat.add_assoc] at c0 c1 c2 c3 c4
        generalize hi5 : (⟨op, kind, area, at_, ni⟩ : Ins) = i at *
        have HI := Lib.hid (And.intro hiok (And.intro hi5 (And.intro hgs (And.intro hgo (And.intro hT (And.intro hM hF))))))
        clear hiok hgs hgo hcs hx hb
        obtain ⟨HOK, H5, HGS, HGO, HT, HM, HF⟩ : Hid i.Ok ∧ Hid ((⟨op, kind, area, at_, ni⟩ : Ins) = i) ∧ Hid (goP n (l.drop k) k t = if (stepP n t k i).1 ≠ 0 then ((stepP n t k i).1, k, t) else goP n (l.drop (k + 1)) (k + 1) (stepP n t k i).2) ∧ Hid (goP n (l.drop k) k t = goP n l 0 (startT n)) ∧ Hid (TabAt wr w.heap.size t ps) ∧ Hid (Mod [] w wr) ∧ Hid (∀ x ∈ tfoot w.heap.size ps, w.heap.size ≤ x) := ⟨Lib.hid HI.out.1, Lib.hid HI.out.2.1, Lib.hid HI.out.2.2.1, Lib.hid HI.out.2.2.2.1, Lib.hid HI.out.2.2.2.2.1, Lib.hid HI.out.2.2.2.2.2.1, Lib.hid HI.out.2.2.2.2.2.2⟩
        have HAL := Lib.hid (H0.out.trans (HGO.out.symm.trans HGS.out))
        have hlw : w.heap.size < wr.heap.size := hT.blk.lt
        clear HI hT hM hF hi5 HGS HGO
        cases hR : rightP i
        · have HR := Lib.hid hR
          clear hR
          go_wp2_with ((go_at_call 60; refine (il_right_at H5.out _ HOK.out).mono ?_; rintro e w1 ⟨rfl, hm1⟩; rw [HR.out]; have hM1 : Mod [] wr w1 := Mod.trans (by repeat (with_reducible first | exact Mod.refl _ _ | refine Mod.drew ?_ | refine Mod.drewN ?_ _ | refine Mod.setCell ?_ _ (by first | (simp; done) | (simp; omega)) | refine Mod.alloc ?_ _ | refine Mod.trans ?_ (by assumption))) hm1; have h7 := Blk.mod (b := wr.heap.size) (T := 54) (cs := [.int .i64 op, .int .i64 kind, .int .i64 area, .int .i64 at_, .int .i64 ni]) (by repeat (with_reducible first | exact Blk.new' rfl | (refine Blk.new' ?_; simp; done) | apply Blk.set | apply Blk.alloc)) hm1 (by simp); have q7 := h7.cell))
          refine bodyPost_ret (v := .tuple #[.slice none 0 0, .int .i64 3, .int .i64 (k : Int)]) (by simp [results, Try.results53, go_sem]) rfl (all_err (t := t) ?_ (by decide) (HM.out.trans hM1))
          have := HAL.out
          simpa [stepP, HR.out] using this
        · have HR := Lib.hid hR
          clear hR
          obtain ⟨x, hx⟩ : ∃ x, t[k]? = some x := ⟨_, List.getElem?_eq_getElem (by omega)⟩
          have HX := Lib.hid hx
          clear hx
          cases x with
          | none =>
            go_wp2_with ((go_at_call 60; refine (il_right_at H5.out _ HOK.out).mono ?_; rintro e w1 ⟨rfl, hm1⟩; rw [HR.out]; have hM1 : Mod [] wr w1 := Mod.trans (by repeat (with_reducible first | exact Mod.refl _ _ | refine Mod.drew ?_ | refine Mod.drewN ?_ _ | refine Mod.setCell ?_ _ (by first | (simp; done) | (simp; omega)) | refine Mod.alloc ?_ _ | refine Mod.trans ?_ (by assumption))) hm1; have h7 := Blk.mod (b := wr.heap.size) (T := 54) (cs := [.int .i64 op, .int .i64 kind, .int .i64 area, .int .i64 at_, .int .i64 ni]) (by repeat (with_reducible first | exact Blk.new' rfl | (refine Blk.new' ?_; simp; done) | apply Blk.set | apply Blk.alloc)) hm1 (by simp); have q7 := h7.cell); have hT1 := HT.out.keep hM1; have HT1 := Lib.hid hT1; have qk : w1.cell? ⟨w.heap.size, k, none⟩ = some (.pointer none) := (by rw [hT1.blk.cell, List.getElem?_map, hT1.non k HX.out]; rfl); clear hT1)
            refine ⟨⟨k + 1, t, ps, by omega, by simp, HT1.out, htl, ?_, HM.out.trans hM1, HF.out⟩, by simp [intOf]; omega⟩
            have := HAL.out
            rw [H0.out] at this
            simpa [stepP, HR.out, HX.out] using this.symm
          | some a =>
            obtain ⟨pb, hpb, hA⟩ := HT.out.som k a HX.out
            have HP := Lib.hid (And.intro hpb hA)
            clear hpb hA
            go_wp2_with ((go_at_call 60; refine (il_right_at H5.out _ HOK.out).mono ?_; rintro e w1 ⟨rfl, hm1⟩; rw [HR.out]; have hM1 : Mod [] wr w1 := Mod.trans (by repeat (with_reducible first | exact Mod.refl _ _ | refine Mod.drew ?_ | refine Mod.drewN ?_ _ | refine Mod.setCell ?_ _ (by first | (simp; done) | (simp; omega)) | refine Mod.alloc ?_ _ | refine Mod.trans ?_ (by assumption))) hm1; have h7 := Blk.mod (b := wr.heap.size) (T := 54) (cs := [.int .i64 op, .int .i64 kind, .int .i64 area, .int .i64 at_, .int .i64 ni]) (by repeat (with_reducible first | exact Blk.new' rfl | (refine Blk.new' ?_; simp; done) | apply Blk.set | apply Blk.alloc)) hm1 (by simp); have q7 := h7.cell); have hT1 := HT.out.keep hM1; have HT1 := Lib.hid hT1; have qk : w1.cell? ⟨w.heap.size, k, none⟩ = some (.pointer (some ⟨pb, 0, none⟩)) := (by rw [hT1.blk.cell, List.getElem?_map, HP.out.1]; rfl); clear hT1)
            obtain ⟨ao2, n2, c2', hbb, hbs, hbn, hb8⟩ := HP.out.2
            have HB := Lib.hid (And.intro hbb (And.intro hbs (And.intro hbn hb8)))
            have hpl : pb < wr.heap.size := hbb.lt
            clear hbb hbs hbn hb8
            refine (v_jumps_at H5.out _).mono ?_
            rintro e w2 ⟨rfl, hm2⟩
            have hM2 : Mod [] wr w2 := hM1.trans hm2
            have h7b := h7.mod hm2 (by simp)
            have q7b := h7b.cell
            have hT2 := HT1.out.keep hm2
            have HT2 := Lib.hid hT2
            have qk2 : w2.cell? ⟨w.heap.size, k, none⟩ = some (.pointer (some ⟨pb, 0, none⟩)) := by rw [hT2.blk.cell, List.getElem?_map, HP.out.1]; rfl
            have h72 := Lib.hid h7b
            have hlt7 := h7b.lt
            clear hT2 qk q7 h7 h7b HT1 hm1 hm2 hM1
            cases hJ : jumpsP i
            · have HJ := Lib.hid hJ
              clear hJ
              go_wp2_with (fail)
              have hB2 := HB.out.1.mod hM2 (by simp)
              have qp2 := hB2.cell
              have hki0 : (0 : Int) ≤ (k : Int) := by omega
              have hki1 : (k : Int) < (n : Int) + 1 := by omega
              have m1 : ¬ (w2.heap.size = w.heap.size) := by omega
              have m2 : ¬ (w2.heap.size = pb) := by omega
              have m3 : ¬ (w2.heap.size = wr.heap.size) := by omega
              by_cases he : errP a i = 0
              · have HE := Lib.hid he
                clear he
                first | (go_region_held3 (fun w' => w'.cell? ⟨w.heap.size, k, none⟩ = some (.pointer (some ⟨pb, 0, none⟩)) ∧ w'.cell? ⟨pb, 0, none⟩ = some (.int .i64 a.kind) ∧ w'.cell? ⟨pb, 1, none⟩ = some (.slice ao2 n2 c2') ∧ w'.cell? ⟨wr.heap.size, 0, none⟩ = some (.int .i64 op) ∧ w'.cell? ⟨wr.heap.size, 1, none⟩ = some (.int .i64 kind) ∧ w'.cell? ⟨wr.heap.size, 2, none⟩ = some (.int .i64 area) ∧ w'.cell? ⟨wr.heap.size, 3, none⟩ = some (.int .i64 at_) ∧ w'.cell? ⟨wr.heap.size, 4, none⟩ = some (.int .i64 ni)) (go_keep) ((go_at_call 62; refine (v_behind_at H5.out a ao2 n2 c2' _ (HB.out.2.1.keep (by repeat (with_reducible first | exact Mod.refl _ _ | refine Mod.drew ?_ | refine Mod.drewN ?_ _ | refine Mod.setCell ?_ _ (by first | (simp; done) | (simp; omega)) | refine Mod.alloc ?_ _ | refine Mod.trans ?_ (by assumption)))) HB.out.2.2.1 HB.out.2.2.2).mono ?_; rintro e w3 ⟨k', ao', n', c', rfl, hK, hm3⟩; rw [HE.out]; have hM3 : Mod [] wr w3 := Mod.trans (by repeat (with_reducible first | exact Mod.refl _ _ | refine Mod.drew ?_ | refine Mod.drewN ?_ _ | refine Mod.setCell ?_ _ (by first | (simp; done) | (simp; omega)) | refine Mod.alloc ?_ _ | refine Mod.trans ?_ (by assumption))) hm3; have qk3 : w3.cell? ⟨w.heap.size, k, none⟩ = some (.pointer (some ⟨pb, 0, none⟩)) := (by rw [(HT.out.keep hM3).blk.cell, List.getElem?_map, HP.out.1]; rfl); have qp3 := (HB.out.1.mod hM3 (by simp)).cell; have h73 := Blk.mod (b := wr.heap.size) (T := 54) (cs := [.int .i64 op, .int .i64 kind, .int .i64 area, .int .i64 at_, .int .i64 ni]) (by repeat (with_reducible first | exact h72.out | apply Blk.drew | apply Blk.drewN | apply Blk.alloc)) hm3 (by simp); have q73 := h73.cell; have hlt3 := h73.lt; have l31 : w.heap.size < w3.heap.size := (by omega); have l32 : pb < w3.heap.size := (by omega); have m31 : ¬ (w3.heap.size = w.heap.size) := (by omega); have m32 : ¬ (w3.heap.size = pb) := (by omega); have m33 : ¬ (w3.heap.size = wr.heap.size) := (by omega); (first | (have h83 := Blk.mod (Blk.new' (w := w2.drew) (b := w2.heap.size) (T := 102) (cs := [.int .i64 0, .slice none 0 0]) rfl) hm3 List.not_mem_nil; have q83 := h83.cell; have f83 := h83.frozen) | skip)))) | fail
                · obtain ⟨rfl, hbs4⟩ := hK HE.out
                  have hS4 : St w (w3.alloc (Obj.cells #[.int .i64 (nextP a i).kind, .slice ao' n' c'] 102)) w.heap.size wr.heap.size w3.heap.size t ps [.int .i64 op, .int .i64 kind, .int .i64 area, .int .i64 at_, .int .i64 ni] [.int .i64 (nextP a i).kind, .slice ao' n' c'] (.slice ao' n' c') (nextP a i).opn := by
                    have hM4 : Mod [] wr (w3.alloc (Obj.cells #[.int .i64 (nextP a i).kind, .slice ao' n' c'] 102)) := by repeat (with_reducible first | exact Mod.refl _ _ | refine Mod.drew ?_ | refine Mod.drewN ?_ _ | refine Mod.setCell ?_ _ (by first | (simp; done) | (simp; omega)) | refine Mod.alloc ?_ _ | refine Mod.trans ?_ (by assumption))
                    have hlt := HT.out.lt
                    refine ⟨HT.out.keep hM4, ?_, ?_, ?_, HM.out.trans hM4, HF.out, fun h => ?_, fun h => ?_⟩
                    · exact h73.alloc _
                    · exact Blk.new' rfl
                    · exact hbs4.keep ((Mod.refl _ _).alloc _)
                    · have := hlt _ h; omega
                    · have := hlt _ h; omega
                  have hl8 : n' ≤ 8 ∧ (nextP a i).opn.length = n' := by
                    have h1 := hbs4.len
                    have h2 := next_deep (a := a) (i := i) (by have := HB.out.2.2; omega) HE.out
                    omega
                  generalize w3.alloc (Obj.cells #[.int .i64 (nextP a i).kind, .slice ao' n' c'] 102) = W4 at hS4 ⊢
                  generalize w3.heap.size = T8 at hS4 ⊢
                  have HS4 := Lib.hid hS4
                  have q74 := hS4.b7.cell
                  have q84 := hS4.b8.cell
                  clear hS4
                  go_wp2_with (fail)
                  refine (v_on_at H5.out _).mono ?_
                  rintro e w5 ⟨rfl, hm5⟩
                  have hS5 := HS4.out.keep hm5
                  have HS5 := Lib.hid hS5
                  have q75 := hS5.b7.cell
                  have q85 := hS5.b8.cell
                  clear hS5 hm5
                  have hkp : IntKind.i64.wrap ((k : Int) + 1) = (k : Int) + 1 := IntWalk.i64_in _ (by omega)
                  cases hO : onP i
                  · have HO := Lib.hid hO
                    clear hO
                    go_wp2_with (fail)
                    refine (v_jumps_at H5.out _).mono ?_
                    rintro e w7 ⟨rfl, hm7⟩
                    rw [HJ.out]
                    have hS7 := HS5.out.keep hm7
                    have HS7 := Lib.hid hS7
                    have q77 := hS7.b7.cell
                    have q87 := hS7.b8.cell
                    clear hS7 hm7
                    go_wp2_with (fail)
                    refine ⟨⟨k + 1, t, ps, by omega, by simp, HS7.out.tab, by simp [leadT_length, htl], ?_, HS7.out.mod, HS7.out.old⟩, by simp [intOf]; omega⟩
                    have := HAL.out
                    skip
                    rw [H0.out] at this
                    simpa [stepP, HR.out, HX.out, HJ.out, HE.out, HO.out] using this.symm
                  · have HO := Lib.hid hO
                    clear hO
                    go_wp2_with (fail)
                    refine (v_lead_at w.heap.size t ps _ (k + 1) (by simp) (nextP a i) ao' n' c' (n + 1) _ HS5.out.tab htl (by omega) HS5.out.bs hl8.2 hl8.1 (by omega)).mono ?_
                    rintro e w6 ⟨rfl, ps6, hT6, hp6, hm6⟩
                    have hS6 := HS5.out.lead hT6 hp6 hm6
                    have HS6 := Lib.hid hS6
                    have q76 := hS6.b7.cell
                    have q86 := hS6.b8.cell
                    clear hS6 hT6 hp6 hm6
                    cases hL : leadB t (k + 1) (nextP a i)
                    · have HL := Lib.hid hL
                      clear hL
                      go_wp2_with (fail)
                      refine bodyPost_ret (v := .tuple #[.slice none 0 0, .int .i64 7, .int .i64 (k : Int)]) (by simp [results, Try.results53, go_sem]) rfl (all_err (t := t) ?_ (by decide) HS6.out.mod)
                      have := HAL.out
                      skip
                      simpa [stepP, HR.out, HX.out, HJ.out, HE.out, HO.out, HL.out] using this
                    · have HL := Lib.hid hL
                      clear hL
                      go_wp2_with (fail)
                      refine (v_jumps_at H5.out _).mono ?_
                      rintro e w7 ⟨rfl, hm7⟩
                      rw [HJ.out]
                      have hS7 := HS6.out.keep hm7
                      have HS7 := Lib.hid hS7
                      have q77 := hS7.b7.cell
                      have q87 := hS7.b8.cell
                      clear hS7 hm7
                      go_wp2_with (fail)
                      refine ⟨⟨k + 1, (leadT t (k + 1) (nextP a i)), ps6, by omega, by simp, HS7.out.tab, by simp [leadT_length, htl], ?_, HS7.out.mod, HS7.out.old⟩, by simp [intOf]; omega⟩
                      have := HAL.out
                      skip
                      rw [H0.out] at this
                      simpa [stepP, HR.out, HX.out, HJ.out, HE.out, HO.out, HL.out] using this.symm
                · obtain ⟨rfl, hbs4⟩ := hK HE.out
                  have hS4 : St w ((w3.setCell ⟨w2.heap.size, 0, none⟩ (.int .i64 (nextP a i).kind)).setCell ⟨w2.heap.size, 1, none⟩ (.slice ao' n' c')) w.heap.size wr.heap.size w2.heap.size t ps [.int .i64 op, .int .i64 kind, .int .i64 area, .int .i64 at_, .int .i64 ni] [.int .i64 (nextP a i).kind, .slice ao' n' c'] (.slice ao' n' c') (nextP a i).opn := by
                    have hM4 : Mod [] wr ((w3.setCell ⟨w2.heap.size, 0, none⟩ (.int .i64 (nextP a i).kind)).setCell ⟨w2.heap.size, 1, none⟩ (.slice ao' n' c')) := by repeat (with_reducible first | exact Mod.refl _ _ | refine Mod.drew ?_ | refine Mod.drewN ?_ _ | refine Mod.setCell ?_ _ (by first | (simp; done) | (simp; omega)) | refine Mod.alloc ?_ _ | refine Mod.trans ?_ (by assumption))
                    have hlt := HT.out.lt
                    refine ⟨HT.out.keep hM4, ?_, ?_, ?_, HM.out.trans hM4, HF.out, fun h => ?_, fun h => ?_⟩
                    · exact (h73.other _ (by simp; omega)).other _ (by simp; omega)
                    · exact (h83.set 0 _).set 1 _
                    · exact hbs4.far (B := [w2.heap.size]) (by repeat (with_reducible first | exact Mod.refl _ _ | refine Mod.drew ?_ | refine Mod.drewN ?_ _ | refine Mod.setCell ?_ _ (by first | (simp; done) | (simp; omega)) | refine Mod.alloc ?_ _ | refine Mod.trans ?_ (by assumption))) (fun x hx => ⟨102, _, by simp at hx; subst hx; exact h83, by decide⟩)
                    · have := hlt _ h; omega
                    · have := hlt _ h; omega
                  have hl8 : n' ≤ 8 ∧ (nextP a i).opn.length = n' := by
                    have h1 := hbs4.len
                    have h2 := next_deep (a := a) (i := i) (by have := HB.out.2.2; omega) HE.out
                    omega
                  generalize (w3.setCell ⟨w2.heap.size, 0, none⟩ (.int .i64 (nextP a i).kind)).setCell ⟨w2.heap.size, 1, none⟩ (.slice ao' n' c') = W4 at hS4 ⊢
                  generalize w2.heap.size = T8 at hS4 ⊢
                  have HS4 := Lib.hid hS4
                  have q74 := hS4.b7.cell
                  have q84 := hS4.b8.cell
                  clear hS4
                  go_wp2_with (fail)
                  refine (v_on_at H5.out _).mono ?_
                  rintro e w5 ⟨rfl, hm5⟩
                  have hS5 := HS4.out.keep hm5
                  have HS5 := Lib.hid hS5
                  have q75 := hS5.b7.cell
                  have q85 := hS5.b8.cell
                  clear hS5 hm5
                  have hkp : IntKind.i64.wrap ((k : Int) + 1) = (k : Int) + 1 := IntWalk.i64_in _ (by omega)
                  cases hO : onP i
                  · have HO := Lib.hid hO
                    clear hO
                    go_wp2_with (fail)
                    refine (v_jumps_at H5.out _).mono ?_
                    rintro e w7 ⟨rfl, hm7⟩
                    rw [HJ.out]
                    have hS7 := HS5.out.keep hm7
                    have HS7 := Lib.hid hS7
                    have q77 := hS7.b7.cell
                    have q87 := hS7.b8.cell
                    clear hS7 hm7
                    go_wp2_with (fail)
                    refine ⟨⟨k + 1, t, ps, by omega, by simp, HS7.out.tab, by simp [leadT_length, htl], ?_, HS7.out.mod, HS7.out.old⟩, by simp [intOf]; omega⟩
                    have := HAL.out
                    skip
                    rw [H0.out] at this
                    simpa [stepP, HR.out, HX.out, HJ.out, HE.out, HO.out] using this.symm
                  · have HO := Lib.hid hO
                    clear hO
                    go_wp2_with (fail)
                    refine (v_lead_at w.heap.size t ps _ (k + 1) (by simp) (nextP a i) ao' n' c' (n + 1) _ HS5.out.tab htl (by omega) HS5.out.bs hl8.2 hl8.1 (by omega)).mono ?_
                    rintro e w6 ⟨rfl, ps6, hT6, hp6, hm6⟩
                    have hS6 := HS5.out.lead hT6 hp6 hm6
                    have HS6 := Lib.hid hS6
                    have q76 := hS6.b7.cell
                    have q86 := hS6.b8.cell
                    clear hS6 hT6 hp6 hm6
                    cases hL : leadB t (k + 1) (nextP a i)
                    · have HL := Lib.hid hL
                      clear hL
                      go_wp2_with (fail)
                      refine bodyPost_ret (v := .tuple #[.slice none 0 0, .int .i64 7, .int .i64 (k : Int)]) (by simp [results, Try.results53, go_sem]) rfl (all_err (t := t) ?_ (by decide) HS6.out.mod)
                      have := HAL.out
                      skip
                      simpa [stepP, HR.out, HX.out, HJ.out, HE.out, HO.out, HL.out] using this
                    · have HL := Lib.hid hL
                      clear hL
                      go_wp2_with (fail)
                      refine (v_jumps_at H5.out _).mono ?_
                      rintro e w7 ⟨rfl, hm7⟩
                      rw [HJ.out]
                      have hS7 := HS6.out.keep hm7
                      have HS7 := Lib.hid hS7
                      have q77 := hS7.b7.cell
                      have q87 := hS7.b8.cell
                      clear hS7 hm7
                      go_wp2_with (fail)
                      refine ⟨⟨k + 1, (leadT t (k + 1) (nextP a i)), ps6, by omega, by simp, HS7.out.tab, by simp [leadT_length, htl], ?_, HS7.out.mod, HS7.out.old⟩, by simp [intOf]; omega⟩
                      have := HAL.out
                      skip
                      rw [H0.out] at this
                      simpa [stepP, HR.out, HX.out, HJ.out, HE.out, HO.out, HL.out] using this.symm
              · have hne : (errP a i != 0) = true := by rw [bne_iff_ne]; exact he
                have HNE := Lib.hid he
                clear he
                first | (go_region_held3 (fun w' => w'.cell? ⟨w.heap.size, k, none⟩ = some (.pointer (some ⟨pb, 0, none⟩)) ∧ w'.cell? ⟨pb, 0, none⟩ = some (.int .i64 a.kind) ∧ w'.cell? ⟨pb, 1, none⟩ = some (.slice ao2 n2 c2') ∧ w'.cell? ⟨wr.heap.size, 0, none⟩ = some (.int .i64 op) ∧ w'.cell? ⟨wr.heap.size, 1, none⟩ = some (.int .i64 kind) ∧ w'.cell? ⟨wr.heap.size, 2, none⟩ = some (.int .i64 area) ∧ w'.cell? ⟨wr.heap.size, 3, none⟩ = some (.int .i64 at_) ∧ w'.cell? ⟨wr.heap.size, 4, none⟩ = some (.int .i64 ni)) (go_keep) ((go_at_call 62; refine (v_behind_at H5.out a ao2 n2 c2' _ (HB.out.2.1.keep (by repeat (with_reducible first | exact Mod.refl _ _ | refine Mod.drew ?_ | refine Mod.drewN ?_ _ | refine Mod.setCell ?_ _ (by first | (simp; done) | (simp; omega)) | refine Mod.alloc ?_ _ | refine Mod.trans ?_ (by assumption)))) HB.out.2.2.1 HB.out.2.2.2).mono ?_; rintro e w3 ⟨k', ao', n', c', rfl, hK, hm3⟩; have hM3 : Mod [] wr w3 := Mod.trans (by repeat (with_reducible first | exact Mod.refl _ _ | refine Mod.drew ?_ | refine Mod.drewN ?_ _ | refine Mod.setCell ?_ _ (by first | (simp; done) | (simp; omega)) | refine Mod.alloc ?_ _ | refine Mod.trans ?_ (by assumption))) hm3; have qk3 : w3.cell? ⟨w.heap.size, k, none⟩ = some (.pointer (some ⟨pb, 0, none⟩)) := (by rw [(HT.out.keep hM3).blk.cell, List.getElem?_map, HP.out.1]; rfl); have qp3 := (HB.out.1.mod hM3 (by simp)).cell; have h73 := Blk.mod (b := wr.heap.size) (T := 54) (cs := [.int .i64 op, .int .i64 kind, .int .i64 area, .int .i64 at_, .int .i64 ni]) (by repeat (with_reducible first | exact h72.out | apply Blk.drew | apply Blk.drewN | apply Blk.alloc)) hm3 (by simp); have q73 := h73.cell; have hlt3 := h73.lt; have l31 : w.heap.size < w3.heap.size := (by omega); have l32 : pb < w3.heap.size := (by omega); have m31 : ¬ (w3.heap.size = w.heap.size) := (by omega); have m32 : ¬ (w3.heap.size = pb) := (by omega); have m33 : ¬ (w3.heap.size = wr.heap.size) := (by omega); (first | (have h83 := Blk.mod (Blk.new' (w := w2.drew) (b := w2.heap.size) (T := 102) (cs := [.int .i64 0, .slice none 0 0]) rfl) hm3 List.not_mem_nil; have q83 := h83.cell; have f83 := h83.frozen) | skip)))) | fail
                all_goals
                  clear hK
                  go_wp2_with (fail)
                  refine bodyPost_ret (v := .tuple #[.slice none 0 0, .int .i64 (errP a i), .int .i64 (k : Int)]) (by simp [results, Try.results53, go_sem]) rfl (all_err (t := t) ?_ HNE.out (HM.out.trans (b := wr) ?_))
                  · have := HAL.out
                    skip
                    simpa [stepP, HR.out, HX.out, HJ.out, HNE.out ] using this
                  · repeat (with_reducible first | exact Mod.refl _ _ | refine Mod.drew ?_ | refine Mod.drewN ?_ _ | refine Mod.setCell ?_ _ (by first | (simp; done) | (simp; omega)) | refine Mod.alloc ?_ _ | refine Mod.trans ?_ (by assumption))
            · have HJ := Lib.hid hJ
              clear hJ
              by_cases hj1 : at_ ≤ (k : Int)
              · go_wp2_with (fail)
                refine bodyPost_ret (v := .tuple #[.slice none 0 0, .int .i64 7, .int .i64 (k : Int)]) (by simp [results, Try.results53, go_sem]) rfl (all_err (t := t) ?_ (by decide) (HM.out.trans hM2))
                have := HAL.out
                have ea : i.at_ = at_ := by rw [← H5.out]
                simpa [stepP, HR.out, HX.out, HJ.out, ea, hj1] using this
              · by_cases hj2 : (n : Int) < at_
                · go_wp2_with (fail)
                  refine bodyPost_ret (v := .tuple #[.slice none 0 0, .int .i64 7, .int .i64 (k : Int)]) (by simp [results, Try.results53, go_sem]) rfl (all_err (t := t) ?_ (by decide) (HM.out.trans hM2))
                  have := HAL.out
                  have ea : i.at_ = at_ := by rw [← H5.out]
                  simpa [stepP, HR.out, HX.out, HJ.out, ea, hj2] using this
                · go_wp2_with (fail)
                  have hB2 := HB.out.1.mod hM2 (by simp)
                  have qp2 := hB2.cell
                  have hki0 : (0 : Int) ≤ (k : Int) := by omega
                  have hki1 : (k : Int) < (n : Int) + 1 := by omega
                  have m1 : ¬ (w2.heap.size = w.heap.size) := by omega
                  have m2 : ¬ (w2.heap.size = pb) := by omega
                  have m3 : ¬ (w2.heap.size = wr.heap.size) := by omega
                  by_cases he : errP a i = 0
                  · have HE := Lib.hid he
                    clear he
                    first | (go_region_held3 (fun w' => w'.cell? ⟨w.heap.size, k, none⟩ = some (.pointer (some ⟨pb, 0, none⟩)) ∧ w'.cell? ⟨pb, 0, none⟩ = some (.int .i64 a.kind) ∧ w'.cell? ⟨pb, 1, none⟩ = some (.slice ao2 n2 c2') ∧ w'.cell? ⟨wr.heap.size, 0, none⟩ = some (.int .i64 op) ∧ w'.cell? ⟨wr.heap.size, 1, none⟩ = some (.int .i64 kind) ∧ w'.cell? ⟨wr.heap.size, 2, none⟩ = some (.int .i64 area) ∧ w'.cell? ⟨wr.heap.size, 3, none⟩ = some (.int .i64 at_) ∧ w'.cell? ⟨wr.heap.size, 4, none⟩ = some (.int .i64 ni)) (go_keep) ((go_at_call 62; refine (v_behind_at H5.out a ao2 n2 c2' _ (HB.out.2.1.keep (by repeat (with_reducible first | exact Mod.refl _ _ | refine Mod.drew ?_ | refine Mod.drewN ?_ _ | refine Mod.setCell ?_ _ (by first | (simp; done) | (simp; omega)) | refine Mod.alloc ?_ _ | refine Mod.trans ?_ (by assumption)))) HB.out.2.2.1 HB.out.2.2.2).mono ?_; rintro e w3 ⟨k', ao', n', c', rfl, hK, hm3⟩; rw [HE.out]; have hM3 : Mod [] wr w3 := Mod.trans (by repeat (with_reducible first | exact Mod.refl _ _ | refine Mod.drew ?_ | refine Mod.drewN ?_ _ | refine Mod.setCell ?_ _ (by first | (simp; done) | (simp; omega)) | refine Mod.alloc ?_ _ | refine Mod.trans ?_ (by assumption))) hm3; have qk3 : w3.cell? ⟨w.heap.size, k, none⟩ = some (.pointer (some ⟨pb, 0, none⟩)) := (by rw [(HT.out.keep hM3).blk.cell, List.getElem?_map, HP.out.1]; rfl); have qp3 := (HB.out.1.mod hM3 (by simp)).cell; have h73 := Blk.mod (b := wr.heap.size) (T := 54) (cs := [.int .i64 op, .int .i64 kind, .int .i64 area, .int .i64 at_, .int .i64 ni]) (by repeat (with_reducible first | exact h72.out | apply Blk.drew | apply Blk.drewN | apply Blk.alloc)) hm3 (by simp); have q73 := h73.cell; have hlt3 := h73.lt; have l31 : w.heap.size < w3.heap.size := (by omega); have l32 : pb < w3.heap.size := (by omega); have m31 : ¬ (w3.heap.size = w.heap.size) := (by omega); have m32 : ¬ (w3.heap.size = pb) := (by omega); have m33 : ¬ (w3.heap.size = wr.heap.size) := (by omega); (first | (have h83 := Blk.mod (Blk.new' (w := w2.drew) (b := w2.heap.size) (T := 102) (cs := [.int .i64 0, .slice none 0 0]) rfl) hm3 List.not_mem_nil; have q83 := h83.cell; have f83 := h83.frozen) | skip)))) | fail
                    · obtain ⟨rfl, hbs4⟩ := hK HE.out
                      have hS4 : St w (w3.alloc (Obj.cells #[.int .i64 (nextP a i).kind, .slice ao' n' c'] 102)) w.heap.size wr.heap.size w3.heap.size t ps [.int .i64 op, .int .i64 kind, .int .i64 area, .int .i64 at_, .int .i64 ni] [.int .i64 (nextP a i).kind, .slice ao' n' c'] (.slice ao' n' c') (nextP a i).opn := by
                        have hM4 : Mod [] wr (w3.alloc (Obj.cells #[.int .i64 (nextP a i).kind, .slice ao' n' c'] 102)) := by repeat (with_reducible first | exact Mod.refl _ _ | refine Mod.drew ?_ | refine Mod.drewN ?_ _ | refine Mod.setCell ?_ _ (by first | (simp; done) | (simp; omega)) | refine Mod.alloc ?_ _ | refine Mod.trans ?_ (by assumption))
                        have hlt := HT.out.lt
                        refine ⟨HT.out.keep hM4, ?_, ?_, ?_, HM.out.trans hM4, HF.out, fun h => ?_, fun h => ?_⟩
                        · exact h73.alloc _
                        · exact Blk.new' rfl
                        · exact hbs4.keep ((Mod.refl _ _).alloc _)
                        · have := hlt _ h; omega
                        · have := hlt _ h; omega
                      have hl8 : n' ≤ 8 ∧ (nextP a i).opn.length = n' := by
                        have h1 := hbs4.len
                        have h2 := next_deep (a := a) (i := i) (by have := HB.out.2.2; omega) HE.out
                        omega
                      generalize w3.alloc (Obj.cells #[.int .i64 (nextP a i).kind, .slice ao' n' c'] 102) = W4 at hS4 ⊢
                      generalize w3.heap.size = T8 at hS4 ⊢
                      have HS4 := Lib.hid hS4
                      have q74 := hS4.b7.cell
                      have q84 := hS4.b8.cell
                      clear hS4
                      go_wp2_with (fail)
                      refine (v_on_at H5.out _).mono ?_
                      rintro e w5 ⟨rfl, hm5⟩
                      have hS5 := HS4.out.keep hm5
                      have HS5 := Lib.hid hS5
                      have q75 := hS5.b7.cell
                      have q85 := hS5.b8.cell
                      clear hS5 hm5
                      have hkp : IntKind.i64.wrap ((k : Int) + 1) = (k : Int) + 1 := IntWalk.i64_in _ (by omega)
                      cases hO : onP i
                      · have HO := Lib.hid hO
                        clear hO
                        go_wp2_with (fail)
                        refine (v_jumps_at H5.out _).mono ?_
                        rintro e w7 ⟨rfl, hm7⟩
                        rw [HJ.out]
                        have hS7 := HS5.out.keep hm7
                        have HS7 := Lib.hid hS7
                        have q77 := hS7.b7.cell
                        have q87 := hS7.b8.cell
                        clear hS7 hm7
                        go_wp2_with (fail)
                        refine (v_lead_at w.heap.size t ps _ at_.toNat (by omega) (nextP a i) ao' n' c' (n + 1) _ HS7.out.tab (by simp [leadT_length, htl]) (by omega) HS7.out.bs hl8.2 hl8.1 (by omega)).mono ?_
                        rintro e w8 ⟨rfl, ps8, hT8, hp8, hm8⟩
                        have HS8 := Lib.hid (HS7.out.lead hT8 hp8 hm8)
                        clear hT8 hp8 hm8
                        cases hL2 : leadB t at_.toNat (nextP a i)
                        · have HL2 := Lib.hid hL2
                          clear hL2
                          go_wp2_with (fail)
                          refine bodyPost_ret (v := .tuple #[.slice none 0 0, .int .i64 7, .int .i64 (k : Int)]) (by simp [results, Try.results53, go_sem]) rfl (all_err (t := t) ?_ (by decide) HS8.out.mod)
                          have := HAL.out
                          have ea : i.at_ = at_ := by rw [← H5.out]
                          have hj3 : ¬ (at_ ≤ (k : Int) ∨ (n : Int) < at_) := by omega
                          simpa [stepP, HR.out, HX.out, HJ.out, HE.out, HO.out, HL2.out, ea, hj3] using this
                        · have HL2 := Lib.hid hL2
                          clear hL2
                          go_wp2_with (fail)
                          refine ⟨⟨k + 1, leadT t at_.toNat (nextP a i), ps8, by omega, by simp, HS8.out.tab, by simp [leadT_length, htl], ?_, HS8.out.mod, HS8.out.old⟩, by simp [intOf]; omega⟩
                          have := HAL.out
                          have ea : i.at_ = at_ := by rw [← H5.out]
                          have hj3 : ¬ (at_ ≤ (k : Int) ∨ (n : Int) < at_) := by omega
                          rw [H0.out] at this
                          simpa [stepP, HR.out, HX.out, HJ.out, HE.out, HO.out, HL2.out, ea, hj3] using this.symm
                      · have HO := Lib.hid hO
                        clear hO
                        go_wp2_with (fail)
                        refine (v_lead_at w.heap.size t ps _ (k + 1) (by simp) (nextP a i) ao' n' c' (n + 1) _ HS5.out.tab htl (by omega) HS5.out.bs hl8.2 hl8.1 (by omega)).mono ?_
                        rintro e w6 ⟨rfl, ps6, hT6, hp6, hm6⟩
                        have hS6 := HS5.out.lead hT6 hp6 hm6
                        have HS6 := Lib.hid hS6
                        have q76 := hS6.b7.cell
                        have q86 := hS6.b8.cell
                        clear hS6 hT6 hp6 hm6
                        cases hL : leadB t (k + 1) (nextP a i)
                        · have HL := Lib.hid hL
                          clear hL
                          go_wp2_with (fail)
                          refine bodyPost_ret (v := .tuple #[.slice none 0 0, .int .i64 7, .int .i64 (k : Int)]) (by simp [results, Try.results53, go_sem]) rfl (all_err (t := t) ?_ (by decide) HS6.out.mod)
                          have := HAL.out
                          have ea : i.at_ = at_ := by rw [← H5.out]
                          have hj3 : ¬ (at_ ≤ (k : Int) ∨ (n : Int) < at_) := by omega
                          simpa [stepP, HR.out, HX.out, HJ.out, HE.out, HO.out, HL.out, ea, hj3] using this
                        · have HL := Lib.hid hL
                          clear hL
                          go_wp2_with (fail)
                          refine (v_jumps_at H5.out _).mono ?_
                          rintro e w7 ⟨rfl, hm7⟩
                          rw [HJ.out]
                          have hS7 := HS6.out.keep hm7
                          have HS7 := Lib.hid hS7
                          have q77 := hS7.b7.cell
                          have q87 := hS7.b8.cell
                          clear hS7 hm7
                          go_wp2_with (fail)
                          refine (v_lead_at w.heap.size (leadT t (k + 1) (nextP a i)) ps6 _ at_.toNat (by omega) (nextP a i) ao' n' c' (n + 1) _ HS7.out.tab (by simp [leadT_length, htl]) (by omega) HS7.out.bs hl8.2 hl8.1 (by omega)).mono ?_
                          rintro e w8 ⟨rfl, ps8, hT8, hp8, hm8⟩
                          have HS8 := Lib.hid (HS7.out.lead hT8 hp8 hm8)
                          clear hT8 hp8 hm8
                          cases hL2 : leadB (leadT t (k + 1) (nextP a i)) at_.toNat (nextP a i)
                          · have HL2 := Lib.hid hL2
                            clear hL2
                            go_wp2_with (fail)
                            refine bodyPost_ret (v := .tuple #[.slice none 0 0, .int .i64 7, .int .i64 (k : Int)]) (by simp [results, Try.results53, go_sem]) rfl (all_err (t := t) ?_ (by decide) HS8.out.mod)
                            have := HAL.out
                            have ea : i.at_ = at_ := by rw [← H5.out]
                            have hj3 : ¬ (at_ ≤ (k : Int) ∨ (n : Int) < at_) := by omega
                            simpa [stepP, HR.out, HX.out, HJ.out, HE.out, HO.out, HL.out, HL2.out, ea, hj3] using this
                          · have HL2 := Lib.hid hL2
                            clear hL2
                            go_wp2_with (fail)
                            refine ⟨⟨k + 1, leadT (leadT t (k + 1) (nextP a i)) at_.toNat (nextP a i), ps8, by omega, by simp, HS8.out.tab, by simp [leadT_length, htl], ?_, HS8.out.mod, HS8.out.old⟩, by simp [intOf]; omega⟩
                            have := HAL.out
                            have ea : i.at_ = at_ := by rw [← H5.out]
                            have hj3 : ¬ (at_ ≤ (k : Int) ∨ (n : Int) < at_) := by omega
                            rw [H0.out] at this
                            simpa [stepP, HR.out, HX.out, HJ.out, HE.out, HO.out, HL.out, HL2.out, ea, hj3] using this.symm
                    · obtain ⟨rfl, hbs4⟩ := hK HE.out
                      have hS4 : St w ((w3.setCell ⟨w2.heap.size, 0, none⟩ (.int .i64 (nextP a i).kind)).setCell ⟨w2.heap.size, 1, none⟩ (.slice ao' n' c')) w.heap.size wr.heap.size w2.heap.size t ps [.int .i64 op, .int .i64 kind, .int .i64 area, .int .i64 at_, .int .i64 ni] [.int .i64 (nextP a i).kind, .slice ao' n' c'] (.slice ao' n' c') (nextP a i).opn := by
                        have hM4 : Mod [] wr ((w3.setCell ⟨w2.heap.size, 0, none⟩ (.int .i64 (nextP a i).kind)).setCell ⟨w2.heap.size, 1, none⟩ (.slice ao' n' c')) := by repeat (with_reducible first | exact Mod.refl _ _ | refine Mod.drew ?_ | refine Mod.drewN ?_ _ | refine Mod.setCell ?_ _ (by first | (simp; done) | (simp; omega)) | refine Mod.alloc ?_ _ | refine Mod.trans ?_ (by assumption))
                        have hlt := HT.out.lt
                        refine ⟨HT.out.keep hM4, ?_, ?_, ?_, HM.out.trans hM4, HF.out, fun h => ?_, fun h => ?_⟩
                        · exact (h73.other _ (by simp; omega)).other _ (by simp; omega)
                        · exact (h83.set 0 _).set 1 _
                        · exact hbs4.far (B := [w2.heap.size]) (by repeat (with_reducible first | exact Mod.refl _ _ | refine Mod.drew ?_ | refine Mod.drewN ?_ _ | refine Mod.setCell ?_ _ (by first | (simp; done) | (simp; omega)) | refine Mod.alloc ?_ _ | refine Mod.trans ?_ (by assumption))) (fun x hx => ⟨102, _, by simp at hx; subst hx; exact h83, by decide⟩)
                        · have := hlt _ h; omega
                        · have := hlt _ h; omega
                      have hl8 : n' ≤ 8 ∧ (nextP a i).opn.length = n' := by
                        have h1 := hbs4.len
                        have h2 := next_deep (a := a) (i := i) (by have := HB.out.2.2; omega) HE.out
                        omega
                      generalize (w3.setCell ⟨w2.heap.size, 0, none⟩ (.int .i64 (nextP a i).kind)).setCell ⟨w2.heap.size, 1, none⟩ (.slice ao' n' c') = W4 at hS4 ⊢
                      generalize w2.heap.size = T8 at hS4 ⊢
                      have HS4 := Lib.hid hS4
                      have q74 := hS4.b7.cell
                      have q84 := hS4.b8.cell
                      clear hS4
                      go_wp2_with (fail)
                      refine (v_on_at H5.out _).mono ?_
                      rintro e w5 ⟨rfl, hm5⟩
                      have hS5 := HS4.out.keep hm5
                      have HS5 := Lib.hid hS5
                      have q75 := hS5.b7.cell
                      have q85 := hS5.b8.cell
                      clear hS5 hm5
                      have hkp : IntKind.i64.wrap ((k : Int) + 1) = (k : Int) + 1 := IntWalk.i64_in _ (by omega)
                      cases hO : onP i
                      · have HO := Lib.hid hO
                        clear hO
                        go_wp2_with (fail)
                        refine (v_jumps_at H5.out _).mono ?_
                        rintro e w7 ⟨rfl, hm7⟩
                        rw [HJ.out]
                        have hS7 := HS5.out.keep hm7
                        have HS7 := Lib.hid hS7
                        have q77 := hS7.b7.cell
                        have q87 := hS7.b8.cell
                        clear hS7 hm7
                        go_wp2_with (fail)
                        refine (v_lead_at w.heap.size t ps _ at_.toNat (by omega) (nextP a i) ao' n' c' (n + 1) _ HS7.out.tab (by simp [leadT_length, htl]) (by omega) HS7.out.bs hl8.2 hl8.1 (by omega)).mono ?_
                        rintro e w8 ⟨rfl, ps8, hT8, hp8, hm8⟩
                        have HS8 := Lib.hid (HS7.out.lead hT8 hp8 hm8)
                        clear hT8 hp8 hm8
                        cases hL2 : leadB t at_.toNat (nextP a i)
                        · have HL2 := Lib.hid hL2
                          clear hL2
                          go_wp2_with (fail)
                          refine bodyPost_ret (v := .tuple #[.slice none 0 0, .int .i64 7, .int .i64 (k : Int)]) (by simp [results, Try.results53, go_sem]) rfl (all_err (t := t) ?_ (by decide) HS8.out.mod)
                          have := HAL.out
                          have ea : i.at_ = at_ := by rw [← H5.out]
                          have hj3 : ¬ (at_ ≤ (k : Int) ∨ (n : Int) < at_) := by omega
                          simpa [stepP, HR.out, HX.out, HJ.out, HE.out, HO.out, HL2.out, ea, hj3] using this
                        · have HL2 := Lib.hid hL2
                          clear hL2
                          go_wp2_with (fail)
                          refine ⟨⟨k + 1, leadT t at_.toNat (nextP a i), ps8, by omega, by simp, HS8.out.tab, by simp [leadT_length, htl], ?_, HS8.out.mod, HS8.out.old⟩, by simp [intOf]; omega⟩
                          have := HAL.out
                          have ea : i.at_ = at_ := by rw [← H5.out]
                          have hj3 : ¬ (at_ ≤ (k : Int) ∨ (n : Int) < at_) := by omega
                          rw [H0.out] at this
                          simpa [stepP, HR.out, HX.out, HJ.out, HE.out, HO.out, HL2.out, ea, hj3] using this.symm
                      · have HO := Lib.hid hO
                        clear hO
                        go_wp2_with (fail)
                        refine (v_lead_at w.heap.size t ps _ (k + 1) (by simp) (nextP a i) ao' n' c' (n + 1) _ HS5.out.tab htl (by omega) HS5.out.bs hl8.2 hl8.1 (by omega)).mono ?_
                        rintro e w6 ⟨rfl, ps6, hT6, hp6, hm6⟩
                        have hS6 := HS5.out.lead hT6 hp6 hm6
                        have HS6 := Lib.hid hS6
                        have q76 := hS6.b7.cell
                        have q86 := hS6.b8.cell
                        clear hS6 hT6 hp6 hm6
                        cases hL : leadB t (k + 1) (nextP a i)
                        · have HL := Lib.hid hL
                          clear hL
                          go_wp2_with (fail)
                          refine bodyPost_ret (v := .tuple #[.slice none 0 0, .int .i64 7, .int .i64 (k : Int)]) (by simp [results, Try.results53, go_sem]) rfl (all_err (t := t) ?_ (by decide) HS6.out.mod)
                          have := HAL.out
                          have ea : i.at_ = at_ := by rw [← H5.out]
                          have hj3 : ¬ (at_ ≤ (k : Int) ∨ (n : Int) < at_) := by omega
                          simpa [stepP, HR.out, HX.out, HJ.out, HE.out, HO.out, HL.out, ea, hj3] using this
                        · have HL := Lib.hid hL
                          clear hL
                          go_wp2_with (fail)
                          refine (v_jumps_at H5.out _).mono ?_
                          rintro e w7 ⟨rfl, hm7⟩
                          rw [HJ.out]
                          have hS7 := HS6.out.keep hm7
                          have HS7 := Lib.hid hS7
                          have q77 := hS7.b7.cell
                          have q87 := hS7.b8.cell
                          clear hS7 hm7
                          go_wp2_with (fail)
                          refine (v_lead_at w.heap.size (leadT t (k + 1) (nextP a i)) ps6 _ at_.toNat (by omega) (nextP a i) ao' n' c' (n + 1) _ HS7.out.tab (by simp [leadT_length, htl]) (by omega) HS7.out.bs hl8.2 hl8.1 (by omega)).mono ?_
                          rintro e w8 ⟨rfl, ps8, hT8, hp8, hm8⟩
                          have HS8 := Lib.hid (HS7.out.lead hT8 hp8 hm8)
                          clear hT8 hp8 hm8
                          cases hL2 : leadB (leadT t (k + 1) (nextP a i)) at_.toNat (nextP a i)
                          · have HL2 := Lib.hid hL2
                            clear hL2
                            go_wp2_with (fail)
                            refine bodyPost_ret (v := .tuple #[.slice none 0 0, .int .i64 7, .int .i64 (k : Int)]) (by simp [results, Try.results53, go_sem]) rfl (all_err (t := t) ?_ (by decide) HS8.out.mod)
                            have := HAL.out
                            have ea : i.at_ = at_ := by rw [← H5.out]
                            have hj3 : ¬ (at_ ≤ (k : Int) ∨ (n : Int) < at_) := by omega
                            simpa [stepP, HR.out, HX.out, HJ.out, HE.out, HO.out, HL.out, HL2.out, ea, hj3] using this
                          · have HL2 := Lib.hid hL2
                            clear hL2
                            go_wp2_with (fail)
                            refine ⟨⟨k + 1, leadT (leadT t (k + 1) (nextP a i)) at_.toNat (nextP a i), ps8, by omega, by simp, HS8.out.tab, by simp [leadT_length, htl], ?_, HS8.out.mod, HS8.out.old⟩, by simp [intOf]; omega⟩
                            have := HAL.out
                            have ea : i.at_ = at_ := by rw [← H5.out]
                            have hj3 : ¬ (at_ ≤ (k : Int) ∨ (n : Int) < at_) := by omega
                            rw [H0.out] at this
                            simpa [stepP, HR.out, HX.out, HJ.out, HE.out, HO.out, HL.out, HL2.out, ea, hj3] using this.symm
                  · have hne : (errP a i != 0) = true := by rw [bne_iff_ne]; exact he
                    have HNE := Lib.hid he
                    clear he
                    first | (go_region_held3 (fun w' => w'.cell? ⟨w.heap.size, k, none⟩ = some (.pointer (some ⟨pb, 0, none⟩)) ∧ w'.cell? ⟨pb, 0, none⟩ = some (.int .i64 a.kind) ∧ w'.cell? ⟨pb, 1, none⟩ = some (.slice ao2 n2 c2') ∧ w'.cell? ⟨wr.heap.size, 0, none⟩ = some (.int .i64 op) ∧ w'.cell? ⟨wr.heap.size, 1, none⟩ = some (.int .i64 kind) ∧ w'.cell? ⟨wr.heap.size, 2, none⟩ = some (.int .i64 area) ∧ w'.cell? ⟨wr.heap.size, 3, none⟩ = some (.int .i64 at_) ∧ w'.cell? ⟨wr.heap.size, 4, none⟩ = some (.int .i64 ni)) (go_keep) ((go_at_call 62; refine (v_behind_at H5.out a ao2 n2 c2' _ (HB.out.2.1.keep (by repeat (with_reducible first | exact Mod.refl _ _ | refine Mod.drew ?_ | refine Mod.drewN ?_ _ | refine Mod.setCell ?_ _ (by first | (simp; done) | (simp; omega)) | refine Mod.alloc ?_ _ | refine Mod.trans ?_ (by assumption)))) HB.out.2.2.1 HB.out.2.2.2).mono ?_; rintro e w3 ⟨k', ao', n', c', rfl, hK, hm3⟩; have hM3 : Mod [] wr w3 := Mod.trans (by repeat (with_reducible first | exact Mod.refl _ _ | refine Mod.drew ?_ | refine Mod.drewN ?_ _ | refine Mod.setCell ?_ _ (by first | (simp; done) | (simp; omega)) | refine Mod.alloc ?_ _ | refine Mod.trans ?_ (by assumption))) hm3; have qk3 : w3.cell? ⟨w.heap.size, k, none⟩ = some (.pointer (some ⟨pb, 0, none⟩)) := (by rw [(HT.out.keep hM3).blk.cell, List.getElem?_map, HP.out.1]; rfl); have qp3 := (HB.out.1.mod hM3 (by simp)).cell; have h73 := Blk.mod (b := wr.heap.size) (T := 54) (cs := [.int .i64 op, .int .i64 kind, .int .i64 area, .int .i64 at_, .int .i64 ni]) (by repeat (with_reducible first | exact h72.out | apply Blk.drew | apply Blk.drewN | apply Blk.alloc)) hm3 (by simp); have q73 := h73.cell; have hlt3 := h73.lt; have l31 : w.heap.size < w3.heap.size := (by omega); have l32 : pb < w3.heap.size := (by omega); have m31 : ¬ (w3.heap.size = w.heap.size) := (by omega); have m32 : ¬ (w3.heap.size = pb) := (by omega); have m33 : ¬ (w3.heap.size = wr.heap.size) := (by omega); (first | (have h83 := Blk.mod (Blk.new' (w := w2.drew) (b := w2.heap.size) (T := 102) (cs := [.int .i64 0, .slice none 0 0]) rfl) hm3 List.not_mem_nil; have q83 := h83.cell; have f83 := h83.frozen) | skip)))) | fail
                    all_goals
                      clear hK
                      go_wp2_with (fail)
                      refine bodyPost_ret (v := .tuple #[.slice none 0 0, .int .i64 (errP a i), .int .i64 (k : Int)]) (by simp [results, Try.results53, go_sem]) rfl (all_err (t := t) ?_ HNE.out (HM.out.trans (b := wr) ?_))
                      · have := HAL.out
                        have ea : i.at_ = at_ := by rw [← H5.out]
                        have hj3 : ¬ (at_ ≤ (k : Int) ∨ (n : Int) < at_) := by omega
                        simpa [stepP, HR.out, HX.out, HJ.out, HNE.out , ea, hj3] using this
                      · repeat (with_reducible first | exact Mod.refl _ _ | refine Mod.drew ?_ | refine Mod.drewN ?_ _ | refine Mod.setCell ?_ _ (by first | (simp; done) | (simp; omega)) | refine Mod.alloc ?_ _ | refine Mod.trans ?_ (by assumption))
      · have hkn : k = n := by omega
        subst hkn
        have hdrop : l.drop k = [] := List.drop_of_length_le (by rw [HN.out]; omega)
        rw [hdrop] at hgo
        have hall := H0.out.trans hgo.symm
        have HT := Lib.hid (And.intro hT (And.intro hM hall))
        have qq := hT.blk.cell
        obtain ⟨x, hx⟩ : ∃ x, t[k]? = some x := ⟨_, List.getElem?_eq_getElem (by omega)⟩
        cases x with
        | none =>
          have q0 : wr.cell? ⟨w.heap.size, k, none⟩ = some (.pointer none) := by rw [hT.blk.cell, List.getElem?_map, hT.non k hx]; rfl
          have HX := Lib.hid hx
          clear hT hM hall hgo hdrop hx qq
          go_wp2_with (fail)
          have hall : allP l = (0, 0, t) := by rw [HT.out.2.2]; simp [goP, HX.out]
          refine bodyPost_ret (v := .tuple #[.slice (some ⟨w.heap.size, 0, none⟩) (k + 1) (k + 1), .int .i64 0, .int .i64 0]) (by simp [results, Try.results53, go_sem]) rfl ⟨_, by rw [hall]; rfl, fun _ => ⟨w.heap.size, ps, by rw [HN.out], by rw [hall]; exact HT.out.1⟩, HT.out.2.1⟩
        | some a =>
          obtain ⟨pb, hpb, ao2, n2, c2', hbb, hbs, hbn, hb8⟩ := hT.som k a hx
          have q0 : wr.cell? ⟨w.heap.size, k, none⟩ = some (.pointer (some ⟨pb, 0, none⟩)) := by rw [hT.blk.cell, List.getElem?_map, hpb]; rfl
          have qp := hbb.cell
          have HX := Lib.hid hx
          clear hT hM hall hgo hdrop hx qq hpb hbb hbs
          by_cases hz : 0 < n2
          · go_wp2_with (fail)
            have hall : allP l = (3, k, t) := by
              have : a.opn ≠ [] := by intro e; rw [e] at hbn; simp at hbn; omega
              rw [HT.out.2.2]; simp [goP, HX.out, this]
            refine bodyPost_ret (v := .tuple #[.slice none 0 0, .int .i64 3, .int .i64 (k : Int)]) (by simp [results, Try.results53, go_sem]) rfl (all_err (t := t) hall (by decide) HT.out.2.1)
          · go_wp2_with (fail)
            have hall : allP l = (0, 0, t) := by
              have : a.opn = [] := List.length_eq_zero_iff.1 (by omega)
              rw [HT.out.2.2]; simp [goP, HX.out, this]
            refine bodyPost_ret (v := .tuple #[.slice (some ⟨w.heap.size, 0, none⟩) (k + 1) (k + 1), .int .i64 0, .int .i64 0]) (by simp [results, Try.results53, go_sem]) rfl ⟨_, by rw [hall]; rfl, fun _ => ⟨w.heap.size, ps, by rw [HN.out], by rw [hall]; exact HT.out.1⟩, HT.out.2.1⟩
end Go.Proofs.Ytedmikeamgebjaa
