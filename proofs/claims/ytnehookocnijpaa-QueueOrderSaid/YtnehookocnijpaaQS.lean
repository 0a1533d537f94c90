/- What each function of the queue does, as two lists. -/
import Derived.Test.YtnehookocnijpaaProg
import Derived.Test.YtnehookocnijpaaBase
import Derived.Test.YtnehookocnijpaaQPure
import Derived.BigRegion
set_option linter.unusedVariables false
set_option linter.unusedSimpArgs false
namespace Go.Proofs.Ytnehookocnijpaa
open Go.RowKit
namespace QStr

/-- A cell's values. -/
def enc (x : ByteArray × Int) : List Value := [.string x.1, .int .i64 x.2]
theorem enc_len (x : ByteArray × Int) : (enc x).length = 2 := rfl
def head (c : Nat) (s : QS ByteArray) : List Value :=
  [.slice (some ⟨c, 0, none⟩) s.cs.length s.cs.length, .int .i64 s.free, .int .i64 s.f0, .int .i64 s.l0, .int .i64 s.n0, .int .i64 s.f1, .int .i64 s.l1, .int .i64 s.n1, .bool s.fault]
structure QAt (w : World) (q c : Nat) (s : QS ByteArray) : Prop where
  bq : Blk w q 77 (head c s)
  bc : Blk w c 79 (s.cs.flatMap enc)
  ne : q ≠ c
structure QRep (w : World) (q c : Nat) (n : Nat) (a : AQ ByteArray) (s : QS ByteArray) : Prop where
  at_ : QAt w q c s
  len : s.cs.length = n
  ft : s.fault = a.ft
  is : QIs s a.lo a.hi

theorem QAt.mod {w w' : World} {q c : Nat} {s : QS ByteArray} {B : List Nat} (h : QAt w q c s) (m : Mod B w w') (hq : q ∉ B) (hc : c ∉ B) : QAt w' q c s :=
  ⟨h.bq.mod m hq, h.bc.mod m hc, h.ne⟩
theorem QAt.drewN {w : World} {q c : Nat} {s : QS ByteArray} (h : QAt w q c s) (n : Nat) : QAt (w.drewN n) q c s := ⟨h.bq.drewN n, h.bc.drewN n, h.ne⟩
theorem QRep.mod {w w' : World} {q c n : Nat} {a : AQ ByteArray} {s : QS ByteArray} (h : QRep w q c n a s) (m : Mod [] w w') : QRep w' q c n a s := ⟨h.at_.mod m (by simp) (by simp), h.len, h.ft, h.is⟩
theorem QRep.modB {w w' : World} {q c n : Nat} {a : AQ ByteArray} {s : QS ByteArray} {B : List Nat} (h : QRep w q c n a s) (m : Mod B w w') (hq : q ∉ B) (hc : c ∉ B) : QRep w' q c n a s := ⟨h.at_.mod m hq hc, h.len, h.ft, h.is⟩
theorem QRep.le {w : World} {q c n : Nat} {a : AQ ByteArray} {s : QS ByteArray} (h : QRep w q c n a s) : a.lo.length + a.hi.length ≤ n := by
  obtain ⟨F, L0, L1, hi⟩ := h.is
  have := hi.len; have := hi.lane0.length; have := hi.lane1.length; have := h.len; omega
theorem QAt.cellq {w : World} {q c : Nat} {s : QS ByteArray} (h : QAt w q c s) (i : Nat) : w.cell? ⟨q, i, none⟩ = (head c s)[i]? := h.bq.cell i
theorem QAt.cellc {w : World} {q c : Nat} {s : QS ByteArray} (h : QAt w q c s) {k : Nat} {x : ByteArray} {nx : Int} (hk : s.cs[k]? = some (x, nx)) :
    w.cell? ⟨c, k * 2, none⟩ = some (.string x) ∧ w.cell? ⟨c, k * 2 + 1, none⟩ = some (.int .i64 nx) := by
  have h0 := flat_get enc 2 enc_len s.cs k 0 _ hk (by omega)
  have h1 := flat_get enc 2 enc_len s.cs k 1 _ hk (by omega)
  rw [Nat.add_zero] at h0
  rw [h.bc.cell, h.bc.cell, h0, h1]
  exact ⟨rfl, rfl⟩

set_option maxRecDepth 100000 in
set_option maxHeartbeats 400000 in
theorem lane_any (q : Nat) (h : Bool) (w : World) :
    Calls Try.prog 36 #[.pointer (some ⟨q, 0, none⟩), .bool h] w fun e w' => e = .returned (.pointer (some ⟨q, bif h then 5 else 2, none⟩)) ∧ w = w' := by
  cases h
  all_goals
    go_enter Try.func36, Try.ntmps36
    go_wp2
    go_ret
    exact ⟨rfl, rfl⟩

/-- Put, where there is no place. -/
theorem put_no (q c : Nat) (x : ByteArray) (h : Bool) (w : World) (s : QS ByteArray) (hs : QAt w q c s) (hf : s.free = -1) :
    Calls Try.prog 11 #[.pointer (some ⟨q, 0, none⟩), .string x, .bool h] w fun e w' => e = .returned (.int .i64 8) ∧ QAt w' q c { s with fault := true } ∧ Mod [q, c] w w' := by
  have hq := hs.cellq
  have fq := hs.bq.frozen
  unfold head at hq
  have hf' : (s.free == -1) = true := by simp [hf]
  have HS := Lib.hid hs
  clear hs hf
  go_enter Try.func11, Try.ntmps11
  go_wp2_with (fail)
  go_ret
  refine ⟨rfl, ⟨?_, ?_, HS.out.ne⟩, ?_⟩
  · exact HS.out.bq.set 8 _
  · exact HS.out.bc.other _ HS.out.ne
  · exact (Mod.refl _ _).setCell _ (by simp)

set_option maxRecDepth 100000 in
set_option maxHeartbeats 400000 in
/-- Put into an empty lane. -/
theorem put_first (q c : Nat) (x : ByteArray) (h : Bool) (w : World) (s : QS ByteArray) (k : Nat) (y : ByteArray) (nx : Int) (hs : QAt w q c s) (hf : s.free = (k : Int)) (hk : s.cs[k]? = some (y, nx))
    (hn : s.cs.length ≤ 64) (h0 : (bif h then s.n1 else s.n0) = 0) :
    Calls Try.prog 11 #[.pointer (some ⟨q, 0, none⟩), .string x, .bool h] w fun e w' => e = .returned (.int .i64 0) ∧
      QAt w' q c (bif h then { s with cs := s.cs.set k (x, -1), free := nx, f1 := (k : Int), l1 := (k : Int), n1 := 1 } else { s with cs := s.cs.set k (x, -1), free := nx, f0 := (k : Int), l0 := (k : Int), n0 := 1 }) ∧ Mod [q, c] w w' := by
  have hq := hs.cellq
  have fq := hs.bq.frozen
  have fc := hs.bc.frozen
  obtain ⟨hc0, hc1⟩ := hs.cellc hk
  have hkl := get_lt hk
  unfold head at hq
  rw [hf] at hq
  have hf' : ((k : Int) == -1) = false := by rw [beq_eq_false_iff_ne]; omega
  have hki : (k : Int) < (s.cs.length : Int) := by omega
  have hqc := hs.ne
  have hcq := hs.ne.symm
  have HS := Lib.hid hs
  have HK := Lib.hid hk
  clear hs hf hk
  cases h
  · simp only [cond_false] at h0 ⊢
    rw [h0] at hq
    clear h0
    go_enter Try.func11, Try.ntmps11
    go_wp2_with (go_at_call 36; refine (lane_any _ _ _).mono ?_; rintro e w' ⟨rfl, rfl⟩)
    go_ret
    refine ⟨rfl, ⟨?_, ?_, HS.out.ne⟩, ?_⟩
    · have := ((((((HS.out.bq.set 1 (.int .i64 nx)).other (a := ⟨c, k * 2, none⟩) (.string x) hcq).other (a := ⟨c, k * 2 + 1, none⟩) (.int .i64 (-1)) hcq).set 2 (.int .i64 k)).set 3 (.int .i64 k)).set 4 (.int .i64 1))
      simpa [head] using this
    · have := ((((((HS.out.bc.other (a := ⟨q, 1, none⟩) (.int .i64 nx) hqc).set (k * 2) (.string x)).set (k * 2 + 1) (.int .i64 (-1))).other (a := ⟨q, 2, none⟩) (.int .i64 k) hqc).other (a := ⟨q, 3, none⟩) (.int .i64 k) hqc).other (a := ⟨q, 4, none⟩) (.int .i64 1) hqc)
      have e : ((s.cs.flatMap enc).set (k * 2) (.string x)).set (k * 2 + 1) (.int .i64 (-1)) = _ := flat_set enc 2 enc_len s.cs k (x, -1) hkl
      rw [e] at this
      exact this
    · repeat refine Mod.setCell ?_ _ (by simp)
      exact Mod.refl _ _
  · simp only [cond_true] at h0 ⊢
    rw [h0] at hq
    clear h0
    go_enter Try.func11, Try.ntmps11
    go_wp2_with (go_at_call 36; refine (lane_any _ _ _).mono ?_; rintro e w' ⟨rfl, rfl⟩)
    go_ret
    refine ⟨rfl, ⟨?_, ?_, HS.out.ne⟩, ?_⟩
    · have := ((((((HS.out.bq.set 1 (.int .i64 nx)).other (a := ⟨c, k * 2, none⟩) (.string x) hcq).other (a := ⟨c, k * 2 + 1, none⟩) (.int .i64 (-1)) hcq).set 5 (.int .i64 k)).set 6 (.int .i64 k)).set 7 (.int .i64 1))
      simpa [head] using this
    · have := ((((((HS.out.bc.other (a := ⟨q, 1, none⟩) (.int .i64 nx) hqc).set (k * 2) (.string x)).set (k * 2 + 1) (.int .i64 (-1))).other (a := ⟨q, 5, none⟩) (.int .i64 k) hqc).other (a := ⟨q, 6, none⟩) (.int .i64 k) hqc).other (a := ⟨q, 7, none⟩) (.int .i64 1) hqc)
      have e : ((s.cs.flatMap enc).set (k * 2) (.string x)).set (k * 2 + 1) (.int .i64 (-1)) = _ := flat_set enc 2 enc_len s.cs k (x, -1) hkl
      rw [e] at this
      exact this
    · repeat refine Mod.setCell ?_ _ (by simp)
      exact Mod.refl _ _

set_option maxRecDepth 100000 in
set_option maxHeartbeats 800000 in
/-- Put behind another thing. -/
theorem put_lo_later (q c : Nat) (x : ByteArray) (w : World) (s : QS ByteArray) (k e : Nat) (y z : ByteArray) (nx m : Int) (hs : QAt w q c s) (hf : s.free = (k : Int)) (hk : s.cs[k]? = some (y, nx))
    (hn : s.cs.length ≤ 64) (hl : s.l0 = (e : Int)) (he : s.cs[e]? = some (z, m)) (hek : e ≠ k) (h0 : 0 < s.n0) (h1 : s.n0 ≤ 64) :
    Calls Try.prog 11 #[.pointer (some ⟨q, 0, none⟩), .string x, .bool false] w fun e' w' => e' = .returned (.int .i64 0) ∧
      QAt w' q c { s with cs := (s.cs.set k (x, -1)).set e (z, (k : Int)), free := nx, l0 := (k : Int), n0 := s.n0 + 1 } ∧ Mod [q, c] w w' := by
  have hq := hs.cellq
  have fq := hs.bq.frozen
  have fc := hs.bc.frozen
  obtain ⟨hc0, hc1⟩ := hs.cellc hk
  obtain ⟨hc2, hc3⟩ := hs.cellc he
  have hkl := get_lt hk
  have hel := get_lt he
  unfold head at hq
  rw [hf, hl] at hq
  have hf' : ((k : Int) == -1) = false := by rw [beq_eq_false_iff_ne]; omega
  have hn' : (s.n0 == 0) = false := by rw [beq_eq_false_iff_ne]; omega
  have hki : (k : Int) < (s.cs.length : Int) := by omega
  have hei : (e : Int) < (s.cs.length : Int) := by omega
  have a1 : ¬ (e * 2 + 1 = k * 2) := by omega
  have a2 : ¬ (e * 2 + 1 = k * 2 + 1) := by omega
  have a3 : ¬ (k * 2 = e * 2 + 1) := by omega
  have a4 : ¬ (k * 2 + 1 = e * 2 + 1) := by omega
  have hqc := hs.ne
  have hcq := hs.ne.symm
  have HS := Lib.hid hs
  have HK := Lib.hid hk
  have HE := Lib.hid he
  clear hs hf hk he hl hek
  go_enter Try.func11, Try.ntmps11
  go_wp2_with (go_at_call 36; refine (lane_any _ _ _).mono ?_; rintro e w' ⟨rfl, rfl⟩)
  go_region
  go_wp2
  go_ret
  refine ⟨rfl, ⟨?_, ?_, HS.out.ne⟩, ?_⟩
  · have := (((((((HS.out.bq.set 1 (.int .i64 nx)).other (a := ⟨c, k * 2, none⟩) (.string x) hcq).other (a := ⟨c, k * 2 + 1, none⟩) (.int .i64 (-1)) hcq).other (a := ⟨c, e * 2 + 1, none⟩) (.int .i64 k) hcq).set 3 (.int .i64 k)).set 4 (.int .i64 (s.n0 + 1)))).drew
    simpa [head] using this
  · have := (((((((HS.out.bc.other (a := ⟨q, 1, none⟩) (.int .i64 nx) hqc).set (k * 2) (.string x)).set (k * 2 + 1) (.int .i64 (-1))).set (e * 2 + 1) (.int .i64 k)).other (a := ⟨q, 3, none⟩) (.int .i64 k) hqc).other (a := ⟨q, 4, none⟩) (.int .i64 (s.n0 + 1)) hqc)).drew
    have e1 : ((s.cs.flatMap enc).set (k * 2) (.string x)).set (k * 2 + 1) (.int .i64 (-1)) = _ := flat_set enc 2 enc_len s.cs k (x, -1) hkl
    have e2 := flat_set_one enc 2 enc_len (s.cs.set k (x, -1)) e 1 (z, m) (z, (k : Int)) (.int .i64 k) (by rw [List.getElem?_set_ne (by omega)]; exact HE.out) (by omega) rfl
    rw [e1, e2] at this
    exact this
  · refine Mod.drew ?_
    repeat refine Mod.setCell ?_ _ (by simp)
    exact Mod.refl _ _

set_option maxRecDepth 100000 in
set_option maxHeartbeats 800000 in
/-- Put behind another thing. -/
theorem put_hi_later (q c : Nat) (x : ByteArray) (w : World) (s : QS ByteArray) (k e : Nat) (y z : ByteArray) (nx m : Int) (hs : QAt w q c s) (hf : s.free = (k : Int)) (hk : s.cs[k]? = some (y, nx))
    (hn : s.cs.length ≤ 64) (hl : s.l1 = (e : Int)) (he : s.cs[e]? = some (z, m)) (hek : e ≠ k) (h0 : 0 < s.n1) (h1 : s.n1 ≤ 64) :
    Calls Try.prog 11 #[.pointer (some ⟨q, 0, none⟩), .string x, .bool true] w fun e' w' => e' = .returned (.int .i64 0) ∧
      QAt w' q c { s with cs := (s.cs.set k (x, -1)).set e (z, (k : Int)), free := nx, l1 := (k : Int), n1 := s.n1 + 1 } ∧ Mod [q, c] w w' := by
  have hq := hs.cellq
  have fq := hs.bq.frozen
  have fc := hs.bc.frozen
  obtain ⟨hc0, hc1⟩ := hs.cellc hk
  obtain ⟨hc2, hc3⟩ := hs.cellc he
  have hkl := get_lt hk
  have hel := get_lt he
  unfold head at hq
  rw [hf, hl] at hq
  have hf' : ((k : Int) == -1) = false := by rw [beq_eq_false_iff_ne]; omega
  have hn' : (s.n1 == 0) = false := by rw [beq_eq_false_iff_ne]; omega
  have hki : (k : Int) < (s.cs.length : Int) := by omega
  have hei : (e : Int) < (s.cs.length : Int) := by omega
  have a1 : ¬ (e * 2 + 1 = k * 2) := by omega
  have a2 : ¬ (e * 2 + 1 = k * 2 + 1) := by omega
  have a3 : ¬ (k * 2 = e * 2 + 1) := by omega
  have a4 : ¬ (k * 2 + 1 = e * 2 + 1) := by omega
  have hqc := hs.ne
  have hcq := hs.ne.symm
  have HS := Lib.hid hs
  have HK := Lib.hid hk
  have HE := Lib.hid he
  clear hs hf hk he hl hek
  go_enter Try.func11, Try.ntmps11
  go_wp2_with (go_at_call 36; refine (lane_any _ _ _).mono ?_; rintro e w' ⟨rfl, rfl⟩)
  go_region
  go_wp2
  go_ret
  refine ⟨rfl, ⟨?_, ?_, HS.out.ne⟩, ?_⟩
  · have := (((((((HS.out.bq.set 1 (.int .i64 nx)).other (a := ⟨c, k * 2, none⟩) (.string x) hcq).other (a := ⟨c, k * 2 + 1, none⟩) (.int .i64 (-1)) hcq).other (a := ⟨c, e * 2 + 1, none⟩) (.int .i64 k) hcq).set 6 (.int .i64 k)).set 7 (.int .i64 (s.n1 + 1)))).drew
    simpa [head] using this
  · have := (((((((HS.out.bc.other (a := ⟨q, 1, none⟩) (.int .i64 nx) hqc).set (k * 2) (.string x)).set (k * 2 + 1) (.int .i64 (-1))).set (e * 2 + 1) (.int .i64 k)).other (a := ⟨q, 6, none⟩) (.int .i64 k) hqc).other (a := ⟨q, 7, none⟩) (.int .i64 (s.n1 + 1)) hqc)).drew
    have e1 : ((s.cs.flatMap enc).set (k * 2) (.string x)).set (k * 2 + 1) (.int .i64 (-1)) = _ := flat_set enc 2 enc_len s.cs k (x, -1) hkl
    have e2 := flat_set_one enc 2 enc_len (s.cs.set k (x, -1)) e 1 (z, m) (z, (k : Int)) (.int .i64 k) (by rw [List.getElem?_set_ne (by omega)]; exact HE.out) (by omega) rfl
    rw [e1, e2] at this
    exact this
  · refine Mod.drew ?_
    repeat refine Mod.setCell ?_ _ (by simp)
    exact Mod.refl _ _

/-- Put. -/
theorem put_any (q c : Nat) (x : ByteArray) (h : Bool) (w : World) (n : Nat) (a : AQ ByteArray) (hn : n ≤ 64) (hr : ∃ s, QRep w q c n a s) :
    Calls Try.prog 11 #[.pointer (some ⟨q, 0, none⟩), .string x, .bool h] w fun e w' => e = .returned (.int .i64 (AQ.putE n a)) ∧ (∃ s, QRep w' q c n (a.put n x h) s) ∧ Mod [q, c] w w' := by
  obtain ⟨s, hs, hl, hft, F, L0, L1, hi⟩ := hr
  have hI : QIs s a.lo a.hi := ⟨F, L0, L1, hi⟩
  by_cases hf : s.free = -1
  · have hfull := (hi.full hf).2
    refine (put_no q c x h w s hs hf).mono fun e w' ⟨he, hs', hm⟩ => ⟨?_, ⟨_, hs', hl, ?_, ?_⟩, hm⟩
    · rw [he, AQ.putE, if_neg (by omega)]
    · rw [AQ.put, if_neg (by omega)]
    · have := put_full hI true
      rw [AQ.put, if_neg (by omega)]; exact this
  · obtain ⟨k, F', y, nx, rfl, hk, hkl, hkc, _, _, _, _, hlt⟩ := hi.notFull hf
    have hlt' : a.lo.length + a.hi.length < n := by omega
    have hput : AQ.putE n a = 0 := by rw [AQ.putE, if_pos hlt']
    have hn0 := hi.n0
    have hn1 := hi.n1
    rw [hput, AQ.put, if_pos hlt']
    cases h with
    | false =>
      by_cases h0 : a.lo = []
      · refine (put_first q c x false w s k y nx hs hk hkc (by omega) (by simpa [h0] using hn0)).mono fun e w' ⟨he, hs', hm⟩ => ⟨he, ⟨_, hs', by simpa using hl, hft, ?_⟩, hm⟩
        rw [h0] at hI
        simpa [h0] using put_lo_first hI (x := x) hk hkc
      · obtain ⟨e, z, m, hl0, hel, hek, hec, hI'⟩ := Ytnehookocnijpaa.put_lo_later hI h0 (x := x) hk hkc
        have hpos := List.length_pos_iff.2 h0
        refine (put_lo_later q c x w s k e y z nx m hs hk hkc (by omega) hl0 hec hek (by omega) (by omega)).mono fun e w' ⟨he, hs', hm⟩ => ⟨he, ⟨_, hs', by simpa using hl, hft, hI'⟩, hm⟩
    | true =>
      by_cases h0 : a.hi = []
      · refine (put_first q c x true w s k y nx hs hk hkc (by omega) (by simpa [h0] using hn1)).mono fun e w' ⟨he, hs', hm⟩ => ⟨he, ⟨_, hs', by simpa using hl, hft, ?_⟩, hm⟩
        rw [h0] at hI
        simpa [h0] using put_hi_first hI (x := x) hk hkc
      · obtain ⟨e, z, m, hl0, hel, hek, hec, hI'⟩ := Ytnehookocnijpaa.put_hi_later hI h0 (x := x) hk hkc
        have hpos := List.length_pos_iff.2 h0
        refine (put_hi_later q c x w s k e y z nx m hs hk hkc (by omega) hl0 hec hek (by omega) (by omega)).mono fun e w' ⟨he, hs', hm⟩ => ⟨he, ⟨_, hs', by simpa using hl, hft, hI'⟩, hm⟩

set_option maxRecDepth 100000 in
set_option maxHeartbeats 400000 in
theorem len_any (q c : Nat) (h : Bool) (w : World) (s : QS ByteArray) (hs : QAt w q c s) :
    Calls Try.prog 18 #[.pointer (some ⟨q, 0, none⟩), .bool h] w fun e w' => e = .returned (.int .i64 (bif h then s.n1 else s.n0)) ∧ w = w' := by
  have hq := hs.cellq
  unfold head at hq
  clear hs
  cases h
  all_goals
    go_enter Try.func18, Try.ntmps18
    go_wp2_with (go_at_call 36; refine (lane_any _ _ _).mono ?_; rintro e w' ⟨rfl, rfl⟩)
    go_ret
    exact ⟨rfl, rfl⟩

set_option maxRecDepth 100000 in
set_option maxHeartbeats 800000 in
theorem peek_lo (q c : Nat) (w : World) (s : QS ByteArray) (k : Nat) (x : ByteArray) (nx : Int) (hs : QAt w q c s) (hk : s.cs[k]? = some (x, nx)) (hf : s.f0 = (k : Int)) (h0 : 0 < s.n0) (hn : s.cs.length ≤ 64) :
    Calls Try.prog 14 #[.pointer (some ⟨q, 0, none⟩), .bool false] w fun e' w' => e' = .returned (.tuple #[.string x, .bool true]) ∧ ∃ n, w' = w.drewN n := by
  have hq := hs.cellq
  obtain ⟨hc0, hc1⟩ := hs.cellc hk
  have hkl := get_lt hk
  have hki : (k : Int) < (s.cs.length : Int) := by omega
  have hn' : (s.n0 == 0) = false := by rw [beq_eq_false_iff_ne]; omega
  have HS := Lib.hid hs
  have HK := Lib.hid hk
  unfold head at hq
  rw [hf] at hq
  clear hs hk hf
  go_enter Try.func14, Try.ntmps14
  go_wp2_with (go_at_call 18; refine (len_any q c false _ s HS.out).mono ?_; rintro e w' ⟨rfl, rfl⟩)
  go_quiet ((go_at_call 36; exact Calls.quiet_of_same ((lane_any q false _).mono fun e w' ⟨he, hw⟩ => ⟨he, hw.symm⟩)))
  go_wp2
  go_ret2
  exact ⟨rfl, _, rfl⟩

set_option maxRecDepth 100000 in
set_option maxHeartbeats 400000 in
theorem peek_lo_none (q c : Nat) (w : World) (s : QS ByteArray) (hs : QAt w q c s) (h0 : s.n0 = 0) :
    Calls Try.prog 14 #[.pointer (some ⟨q, 0, none⟩), .bool false] w fun e' w' => e' = .returned (.tuple #[.string ⟨#[]⟩, .bool false]) ∧ ∃ n, w' = w.drewN n := by
  have hn' : (s.n0 == 0) = true := by rw [h0]; rfl
  have HS := Lib.hid hs
  clear hs h0
  go_enter Try.func14, Try.ntmps14
  go_wp2_with (go_at_call 18; refine (len_any q c false _ s HS.out).mono ?_; rintro e w' ⟨rfl, rfl⟩)
  go_ret2
  exact ⟨rfl, 0, rfl⟩

set_option maxRecDepth 100000 in
set_option maxHeartbeats 800000 in
theorem take_lo (q c : Nat) (w : World) (s : QS ByteArray) (k : Nat) (x : ByteArray) (nx : Int) (hs : QAt w q c s) (hk : s.cs[k]? = some (x, nx)) (hf : s.f0 = (k : Int)) (h0 : 0 < s.n0) (h1 : s.n0 ≤ 64) (hn : s.cs.length ≤ 64) :
    Calls Try.prog 13 #[.pointer (some ⟨q, 0, none⟩), .bool false] w fun e' w' => e' = .returned (.tuple #[.string x, .bool true]) ∧
      QAt w' q c { s with cs := s.cs.set k (⟨#[]⟩, s.free), free := (k : Int), f0 := nx, n0 := s.n0 - 1 } ∧ Mod [q, c] w w' := by
  have hq := hs.cellq
  have fq := hs.bq.frozen
  have fc := hs.bc.frozen
  obtain ⟨hc0, hc1⟩ := hs.cellc hk
  have hkl := get_lt hk
  have hki : (k : Int) < (s.cs.length : Int) := by omega
  have hqc := hs.ne
  have hcq := hs.ne.symm
  have HP := Lib.hid (peek_lo q c w s k x nx hs hk hf h0 hn)
  have HS := Lib.hid hs
  have HK := Lib.hid hk
  unfold head at hq
  rw [hf] at hq
  clear hs hk hf
  go_enter Try.func13, Try.ntmps13
  go_wp2_with (first | (go_at_call 14; refine HP.out.mono ?_; rintro e w' ⟨rfl, n, rfl⟩) | (go_at_call 36; refine (lane_any _ _ _).mono ?_; rintro e w' ⟨rfl, rfl⟩))
  go_region
  go_wp2
  go_ret2
  refine ⟨rfl, ⟨?_, ?_, HS.out.ne⟩, ?_⟩
  · apply Blk.eq
    · repeat (with_reducible first | exact HS.out.bq | apply Blk.drew | apply Blk.drewN | apply Blk.set | (apply Blk.other (hne := by assumption)) | apply Blk.alloc)
    · simp [head]
  · apply Blk.eq
    · repeat (with_reducible first | exact HS.out.bc | apply Blk.drew | apply Blk.drewN | apply Blk.set | (apply Blk.other (hne := by assumption)) | apply Blk.alloc)
    · exact flat_set enc 2 enc_len s.cs k (⟨#[]⟩, s.free) hkl
  · repeat (with_reducible first | exact Mod.refl _ _ | refine Mod.drew ?_ | refine Mod.drewN ?_ _ | refine Mod.setCell ?_ _ (by simp) | refine Mod.alloc ?_ _)

set_option maxRecDepth 100000 in
set_option maxHeartbeats 400000 in
theorem take_lo_none (q c : Nat) (w : World) (s : QS ByteArray) (hs : QAt w q c s) (h0 : s.n0 = 0) :
    Calls Try.prog 13 #[.pointer (some ⟨q, 0, none⟩), .bool false] w fun e' w' => e' = .returned (.tuple #[.string ⟨#[]⟩, .bool false]) ∧ ∃ n, w' = w.drewN n := by
  have HP := Lib.hid (peek_lo_none q c w s hs h0)
  clear hs h0
  go_enter Try.func13, Try.ntmps13
  go_wp2_with (go_at_call 14; refine HP.out.mono ?_; rintro e w' ⟨rfl, n, rfl⟩)
  go_ret2
  exact ⟨rfl, n, rfl⟩

set_option maxRecDepth 100000 in
set_option maxHeartbeats 800000 in
theorem peek_hi (q c : Nat) (w : World) (s : QS ByteArray) (k : Nat) (x : ByteArray) (nx : Int) (hs : QAt w q c s) (hk : s.cs[k]? = some (x, nx)) (hf : s.f1 = (k : Int)) (h0 : 0 < s.n1) (hn : s.cs.length ≤ 64) :
    Calls Try.prog 14 #[.pointer (some ⟨q, 0, none⟩), .bool true] w fun e' w' => e' = .returned (.tuple #[.string x, .bool true]) ∧ ∃ n, w' = w.drewN n := by
  have hq := hs.cellq
  obtain ⟨hc0, hc1⟩ := hs.cellc hk
  have hkl := get_lt hk
  have hki : (k : Int) < (s.cs.length : Int) := by omega
  have hn' : (s.n1 == 0) = false := by rw [beq_eq_false_iff_ne]; omega
  have HS := Lib.hid hs
  have HK := Lib.hid hk
  unfold head at hq
  rw [hf] at hq
  clear hs hk hf
  go_enter Try.func14, Try.ntmps14
  go_wp2_with (go_at_call 18; refine (len_any q c true _ s HS.out).mono ?_; rintro e w' ⟨rfl, rfl⟩)
  go_quiet ((go_at_call 36; exact Calls.quiet_of_same ((lane_any q true _).mono fun e w' ⟨he, hw⟩ => ⟨he, hw.symm⟩)))
  go_wp2
  go_ret2
  exact ⟨rfl, _, rfl⟩

set_option maxRecDepth 100000 in
set_option maxHeartbeats 400000 in
theorem peek_hi_none (q c : Nat) (w : World) (s : QS ByteArray) (hs : QAt w q c s) (h0 : s.n1 = 0) :
    Calls Try.prog 14 #[.pointer (some ⟨q, 0, none⟩), .bool true] w fun e' w' => e' = .returned (.tuple #[.string ⟨#[]⟩, .bool false]) ∧ ∃ n, w' = w.drewN n := by
  have hn' : (s.n1 == 0) = true := by rw [h0]; rfl
  have HS := Lib.hid hs
  clear hs h0
  go_enter Try.func14, Try.ntmps14
  go_wp2_with (go_at_call 18; refine (len_any q c true _ s HS.out).mono ?_; rintro e w' ⟨rfl, rfl⟩)
  go_ret2
  exact ⟨rfl, 0, rfl⟩

set_option maxRecDepth 100000 in
set_option maxHeartbeats 800000 in
theorem take_hi (q c : Nat) (w : World) (s : QS ByteArray) (k : Nat) (x : ByteArray) (nx : Int) (hs : QAt w q c s) (hk : s.cs[k]? = some (x, nx)) (hf : s.f1 = (k : Int)) (h0 : 0 < s.n1) (h1 : s.n1 ≤ 64) (hn : s.cs.length ≤ 64) :
    Calls Try.prog 13 #[.pointer (some ⟨q, 0, none⟩), .bool true] w fun e' w' => e' = .returned (.tuple #[.string x, .bool true]) ∧
      QAt w' q c { s with cs := s.cs.set k (⟨#[]⟩, s.free), free := (k : Int), f1 := nx, n1 := s.n1 - 1 } ∧ Mod [q, c] w w' := by
  have hq := hs.cellq
  have fq := hs.bq.frozen
  have fc := hs.bc.frozen
  obtain ⟨hc0, hc1⟩ := hs.cellc hk
  have hkl := get_lt hk
  have hki : (k : Int) < (s.cs.length : Int) := by omega
  have hqc := hs.ne
  have hcq := hs.ne.symm
  have HP := Lib.hid (peek_hi q c w s k x nx hs hk hf h0 hn)
  have HS := Lib.hid hs
  have HK := Lib.hid hk
  unfold head at hq
  rw [hf] at hq
  clear hs hk hf
  go_enter Try.func13, Try.ntmps13
  go_wp2_with (first | (go_at_call 14; refine HP.out.mono ?_; rintro e w' ⟨rfl, n, rfl⟩) | (go_at_call 36; refine (lane_any _ _ _).mono ?_; rintro e w' ⟨rfl, rfl⟩))
  go_region
  go_wp2
  go_ret2
  refine ⟨rfl, ⟨?_, ?_, HS.out.ne⟩, ?_⟩
  · apply Blk.eq
    · repeat (with_reducible first | exact HS.out.bq | apply Blk.drew | apply Blk.drewN | apply Blk.set | (apply Blk.other (hne := by assumption)) | apply Blk.alloc)
    · simp [head]
  · apply Blk.eq
    · repeat (with_reducible first | exact HS.out.bc | apply Blk.drew | apply Blk.drewN | apply Blk.set | (apply Blk.other (hne := by assumption)) | apply Blk.alloc)
    · exact flat_set enc 2 enc_len s.cs k (⟨#[]⟩, s.free) hkl
  · repeat (with_reducible first | exact Mod.refl _ _ | refine Mod.drew ?_ | refine Mod.drewN ?_ _ | refine Mod.setCell ?_ _ (by simp) | refine Mod.alloc ?_ _)

set_option maxRecDepth 100000 in
set_option maxHeartbeats 400000 in
theorem take_hi_none (q c : Nat) (w : World) (s : QS ByteArray) (hs : QAt w q c s) (h0 : s.n1 = 0) :
    Calls Try.prog 13 #[.pointer (some ⟨q, 0, none⟩), .bool true] w fun e' w' => e' = .returned (.tuple #[.string ⟨#[]⟩, .bool false]) ∧ ∃ n, w' = w.drewN n := by
  have HP := Lib.hid (peek_hi_none q c w s hs h0)
  clear hs h0
  go_enter Try.func13, Try.ntmps13
  go_wp2_with (go_at_call 14; refine HP.out.mono ?_; rintro e w' ⟨rfl, n, rfl⟩)
  go_ret2
  exact ⟨rfl, n, rfl⟩

set_option maxRecDepth 100000 in
set_option maxHeartbeats 400000 in
theorem room_any (q c : Nat) (w : World) (s : QS ByteArray) (hs : QAt w q c s) (h0 : 0 ≤ s.n0) (h1 : 0 ≤ s.n1) (h2 : s.n0 + s.n1 ≤ s.cs.length) (hn : s.cs.length ≤ 64) :
    Calls Try.prog 20 #[.pointer (some ⟨q, 0, none⟩)] w fun e w' => e = .returned (.int .i64 (s.cs.length - s.n1 - s.n0)) ∧ ∃ n, w' = w.drewN n := by
  have hq := hs.cellq
  have HS := Lib.hid hs
  have a1 : 0 ≤ (s.cs.length : Int) - s.n1 := by omega
  unfold head at hq
  clear hs
  go_enter Try.func20, Try.ntmps20
  go_wp2_with (fail)
  go_quiet ((go_at_call 18; exact Calls.quiet_of_same ((len_any q c _ _ s (HS.out.drewN _)).mono fun e w' ⟨he, hw⟩ => ⟨he, hw.symm⟩)))
  go_wp2
  go_ret
  exact ⟨rfl, _, rfl⟩

set_option maxRecDepth 100000 in
set_option maxHeartbeats 400000 in
theorem fault_any (q c : Nat) (w : World) (s : QS ByteArray) (hs : QAt w q c s) :
    Calls Try.prog 16 #[.pointer (some ⟨q, 0, none⟩)] w fun e w' => e = .returned (.bool s.fault) ∧ QAt w' q c { s with fault := false } ∧ Mod [q, c] w w' := by
  have hq := hs.cellq
  have fq := hs.bq.frozen
  have hqc := hs.ne
  unfold head at hq
  have HS := Lib.hid hs
  clear hs
  go_enter Try.func16, Try.ntmps16
  go_wp2_with (fail)
  go_ret
  refine ⟨rfl, ⟨?_, ?_, HS.out.ne⟩, ?_⟩
  · apply Blk.eq
    · repeat (with_reducible first | exact HS.out.bq | apply Blk.drew | apply Blk.drewN | apply Blk.set | (apply Blk.other (hne := by assumption)) | apply Blk.alloc)
    · simp [head]
  · repeat (with_reducible first | exact HS.out.bc | apply Blk.drew | apply Blk.drewN | apply Blk.set | (apply Blk.other (hne := by assumption)) | apply Blk.alloc)
  · repeat (with_reducible first | exact Mod.refl _ _ | refine Mod.drew ?_ | refine Mod.drewN ?_ _ | refine Mod.setCell ?_ _ (by simp) | refine Mod.alloc ?_ _)
/-- From m + 1 on the cells are laid anew. -/
structure Cleared (s : QS ByteArray) (n : Nat) (m : Int) : Prop where
  len : s.cs.length = n
  free : s.free = if m + 1 = n then -1 else m + 1
  cells : ∀ j : Nat, m < j → j < n → ∃ x, s.cs[j]? = some (x, if j + 1 = n then -1 else ((j + 1 : Nat) : Int))

def ClearRel (w : World) (q c n : Nat) (i : Value) (wr : World) : Prop :=
  ∃ (m : Int) (s : QS ByteArray), -1 ≤ m ∧ m < n ∧ i = .int .i64 m ∧ QAt wr q c s ∧ Cleared s n m ∧ Mod [q, c] w wr

theorem Cleared.step {s : QS ByteArray} {n k : Nat} (h : Cleared s n (k : Int)) (hk : k < n) (x : ByteArray) : Cleared { s with cs := s.cs.set k (x, s.free), free := (k : Int) } n ((k : Int) - 1) := by
  refine ⟨by simpa using h.len, by simp; omega, fun j hj hjn => ?_⟩
  by_cases e : j = k
  · subst e
    refine ⟨x, ?_⟩
    have := h.free
    have hl := h.len
    simp only
    rw [List.getElem?_set_self (by omega), this]
    by_cases e2 : j + 1 = n
    · rw [if_pos e2, if_pos (by omega)]
    · rw [if_neg e2, if_neg (by omega)]; simp
  · simp only
    rw [List.getElem?_set_ne (by omega)]
    exact h.cells j (by omega) hjn

set_option maxRecDepth 100000 in
set_option maxHeartbeats 800000 in
theorem clear_any (q c : Nat) (w : World) (s : QS ByteArray) (hs : QAt w q c s) (hn : s.cs.length ≤ 64) :
    Calls Try.prog 17 #[.pointer (some ⟨q, 0, none⟩)] w fun e w' => e = .returned (.tuple #[]) ∧ (∃ s', QAt w' q c s' ∧ s'.cs.length = s.cs.length ∧ s'.fault = false ∧ QIs s' [] []) ∧ Mod [q, c] w w' := by
  have hq := hs.cellq
  have fq := hs.bq.frozen
  have hqc := hs.ne
  unfold head at hq
  have HS := Lib.hid hs
  clear hs
  go_enter Try.func17, Try.ntmps17
  go_wp2_with (fail)
  go_loopw [2] (fun i wr => ClearRel w q c s.cs.length i wr) (fun i _ => (intOf i + 1).toNat)
  case atStart =>
    refine ⟨(s.cs.length : Int) - 1, { s with free := -1 }, by omega, by omega, rfl, ⟨?_, ?_, hqc⟩, ⟨rfl, by simp, fun j h1 h2 => by omega⟩, ?_⟩
    · exact HS.out.bq.set 1 _
    · exact HS.out.bc.other _ hqc
    · exact (Mod.refl _ _).setCell _ (by simp)
  case round =>
    obtain ⟨m, s1, h1, h2, rfl, hs1, hcl, hm⟩ := hrel
    clear hq fq
    have hq1 := hs1.cellq
    have fq1 := hs1.bq.frozen
    have fc1 := hs1.bc.frozen
    unfold head at hq1
    by_cases h0 : 0 ≤ m
    · obtain ⟨k, rfl⟩ := Int.eq_ofNat_of_zero_le h0
      have hkn : k < s1.cs.length := by rw [hcl.len]; omega
      obtain ⟨y, nx, hy⟩ : ∃ y nx, s1.cs[k]? = some (y, nx) := ⟨_, _, List.getElem?_eq_getElem hkn⟩
      obtain ⟨hc0, hc1⟩ := hs1.cellc hy
      have hki : (k : Int) < (s1.cs.length : Int) := by omega
      have hcq := hqc.symm
      have HS1 := Lib.hid hs1
      have HM := Lib.hid hm
      have HC := Lib.hid hcl
      have HY := Lib.hid hy
      clear hs1 hm hcl hy
      go_wp2_with (fail)
      go_region
      go_wp2
      go_roundw
      case rel =>
        refine ⟨(k : Int) - 1, { s1 with cs := s1.cs.set k (⟨#[]⟩, s1.free), free := (k : Int) }, by omega, by omega, rfl, ⟨?_, ?_, hqc⟩, HC.out.step (by omega) _, ?_⟩
        · apply Blk.eq
          · repeat (with_reducible first | exact HS1.out.bq | apply Blk.drew | apply Blk.drewN | apply Blk.set | (apply Blk.other (hne := by assumption)) | apply Blk.alloc)
          · simp [head]
        · apply Blk.eq
          · repeat (with_reducible first | exact HS1.out.bc | apply Blk.drew | apply Blk.drewN | apply Blk.set | (apply Blk.other (hne := by assumption)) | apply Blk.alloc)
          · exact flat_set enc 2 enc_len s1.cs k (⟨#[]⟩, s1.free) hkn
        · repeat (with_reducible first | exact HM.out | refine Mod.drew ?_ | refine Mod.drewN ?_ _ | refine Mod.setCell ?_ _ (by simp) | refine Mod.alloc ?_ _)
      case measure => first | (simp [intOf]; done) | (simp [intOf]; omega)
    · have HS1 := Lib.hid hs1
      have HM := Lib.hid hm
      have HC := Lib.hid hcl
      clear hs1 hm hcl
      go_wp2_with (fail)
      go_end0
      have hm1 : m = -1 := by omega
      refine ⟨rfl, ⟨{ s1 with f0 := -1, l0 := -1, n0 := 0, f1 := -1, l1 := -1, n1 := 0, fault := false }, ⟨?_, ?_, hqc⟩, HC.out.len, rfl, clear_is _ ?_ rfl rfl⟩, ?_⟩
      · apply Blk.eq
        · repeat (with_reducible first | exact HS1.out.bq | apply Blk.drew | apply Blk.drewN | apply Blk.set | (apply Blk.other (hne := by assumption)) | apply Blk.alloc)
        · simp [head]
      · repeat (with_reducible first | exact HS1.out.bc | apply Blk.drew | apply Blk.drewN | apply Blk.set | (apply Blk.other (hne := by assumption)) | apply Blk.alloc)
      · have h3 := HC.out.free
        have h4 := HC.out.len
        have := chain_up s1.cs s.cs.length 0 (by omega) (by omega) (fun j _ hj => HC.out.cells j (by omega) hj)
        simp only [Nat.sub_zero] at this
        rw [← h4] at this
        simp only
        rw [h3, hm1, ← h4]
        have e : (if (-1 : Int) + 1 = (s1.cs.length : Int) then (-1 : Int) else -1 + 1) = if 0 = s1.cs.length then -1 else ((0 : Nat) : Int) := by
          by_cases e : s1.cs.length = 0
          · simp [e]
          · rw [if_neg (by omega), if_neg (by omega)]; rfl
        rw [e]; exact this
      · repeat (with_reducible first | exact HM.out | refine Mod.drew ?_ | refine Mod.drewN ?_ _ | refine Mod.setCell ?_ _ (by simp) | refine Mod.alloc ?_ _)
theorem info79 : (Try.prog.info? 79).map (fun i => (i.zero, i.size, i.bytes)) = some (some (.agg #[.string ⟨#[]⟩, .int .i64 0]), 2, 24) := by kernel_rfl

def zero (n : Nat) : QS ByteArray := ⟨List.replicate n (⟨#[]⟩, 0), 0, 0, 0, 0, 0, 0, 0, false⟩
theorem at_new (w : World) (n : Nat) : QAt ((w.alloc (.cells (madeCells #[.string ⟨#[]⟩, .int .i64 0] (n * 2)) 79)).alloc
    (.cells #[.slice (some ⟨w.heap.size, 0, none⟩) n n, .int .i64 0, .int .i64 0, .int .i64 0, .int .i64 0, .int .i64 0, .int .i64 0, .int .i64 0, .bool false] 77)) (w.heap.size + 1) w.heap.size (zero n) := by
  refine ⟨?_, ?_, by omega⟩
  · have := Blk.new (w.alloc (.cells (madeCells #[.string ⟨#[]⟩, .int .i64 0] (n * 2)) 79)) 77 #[.slice (some ⟨w.heap.size, 0, none⟩) n n, .int .i64 0, .int .i64 0, .int .i64 0, .int .i64 0, .int .i64 0, .int .i64 0, .int .i64 0, .bool false]
    rw [World.size_alloc] at this
    simpa [head, zero] using this
  · refine Blk.alloc ?_ _
    have := Blk.new w 79 (madeCells #[.string ⟨#[]⟩, .int .i64 0] (n * 2))
    have e := madeCells_flat [.string ⟨#[]⟩, .int .i64 0] n
    simp only [List.length_cons, List.length_nil, Nat.zero_add] at e
    rw [e] at this
    refine Blk.eq this ?_
    simp only [zero]
    rw [List.flatMap_replicate, List.flatMap_replicate]
    rfl

set_option maxRecDepth 100000 in
set_option maxHeartbeats 800000 in
theorem new_any (p : Int) (n : Nat) (hp0 : p ≤ 0 → n = 0) (hp1 : 0 ≤ p → p ≤ 64 → (n : Int) = p) (hp2 : 64 ≤ p → n = 64) (w : World) :
    Calls Try.prog 9 #[.int .i64 p] w fun e w' => ∃ q c s, e = .returned (.pointer (some ⟨q, 0, none⟩)) ∧ w.heap.size ≤ q ∧ w.heap.size ≤ c ∧ QRep w' q c n ⟨[], [], false⟩ s ∧ Mod [] w w' := by
  have hn : n ≤ 64 := by omega
  obtain ⟨i0, hi, hz0, hz1, hz2⟩ := info_parts info79
  have HC := Lib.hid ((clear_any (w.heap.size + 1) w.heap.size _ (zero n) (at_new w n) (by simp [zero]; exact hn)))
  go_enter Try.func9, Try.ntmps9
  go_wp2_with (first
    | (at_make; refine wpList_make_blk _ rfl _ _ 72 rfl 79 i0 _ 2 24 Try.underlying72 hi hz0 hz1 hz2 .i64 .i64 _ _ n rfl rfl (by omega) (by omega) (by omega) (by omega) ?_))
  all_goals
    refine HC.out.mono ?_
    rintro e w' ⟨rfl, ⟨s', h1, h2, h3, h4⟩, hm⟩
    go_wp2_with (fail)
    go_ret
    refine ⟨w.heap.size + 1, w.heap.size, s', rfl, by omega, by omega, ⟨h1, by simpa [zero] using h2, h3, h4⟩, ?_⟩
    refine Mod.then (B := []) ((Mod.refl _ _).alloc _ |>.alloc _) hm (by simp)

theorem len_rep (q c : Nat) (h : Bool) (w : World) (n : Nat) (a : AQ ByteArray) (hr : ∃ s, QRep w q c n a s) :
    Calls Try.prog 18 #[.pointer (some ⟨q, 0, none⟩), .bool h] w fun e w' => e = .returned (.int .i64 (a.lane h).length) ∧ w = w' := by
  obtain ⟨s, hs, hl, hft, F, L0, L1, hi⟩ := hr
  refine (len_any q c h w s hs).mono fun e w' ⟨he, hw⟩ => ⟨?_, hw⟩
  rw [he]; cases h
  · simp [AQ.lane, hi.n0]
  · simp [AQ.lane, hi.n1]

theorem room_rep (q c : Nat) (w : World) (n : Nat) (a : AQ ByteArray) (hn : n ≤ 64) (hr : ∃ s, QRep w q c n a s) :
    Calls Try.prog 20 #[.pointer (some ⟨q, 0, none⟩)] w fun e w' => e = .returned (.int .i64 ((n : Int) - a.hi.length - a.lo.length)) ∧ ∃ n, w' = w.drewN n := by
  obtain ⟨s, hs, hl, hft, F, L0, L1, hi⟩ := hr
  have h0 := hi.n0
  have h1 := hi.n1
  have h2 := hi.lane0.length
  have h3 := hi.lane1.length
  have h4 := hi.len
  refine (room_any q c w s hs (by omega) (by omega) (by omega) (by omega)).mono fun e w' ⟨he, hw⟩ => ⟨?_, hw⟩
  rw [he, h0, h1, hl]

theorem fault_rep (q c : Nat) (w : World) (n : Nat) (a : AQ ByteArray) (hr : ∃ s, QRep w q c n a s) :
    Calls Try.prog 16 #[.pointer (some ⟨q, 0, none⟩)] w fun e w' => e = .returned (.bool a.ft) ∧ (∃ s, QRep w' q c n { a with ft := false } s) ∧ Mod [q, c] w w' := by
  obtain ⟨s, hs, hl, hft, hi⟩ := hr
  refine (fault_any q c w s hs).mono fun e w' ⟨he, hs', hm⟩ => ⟨by rw [he, hft], ⟨_, hs', hl, rfl, put_full hi false⟩, hm⟩

theorem clear_rep (q c : Nat) (w : World) (n : Nat) (a : AQ ByteArray) (hn : n ≤ 64) (hr : ∃ s, QRep w q c n a s) :
    Calls Try.prog 17 #[.pointer (some ⟨q, 0, none⟩)] w fun e w' => e = .returned (.tuple #[]) ∧ (∃ s, QRep w' q c n ⟨[], [], false⟩ s) ∧ Mod [q, c] w w' := by
  obtain ⟨s, hs, hl, hft, hi⟩ := hr
  refine (clear_any q c w s hs (by omega)).mono fun e w' ⟨he, ⟨s', h1, h2, h3, h4⟩, hm⟩ => ⟨he, ⟨s', h1, by omega, h3, h4⟩, hm⟩

theorem peek_rep (q c : Nat) (h : Bool) (w : World) (n : Nat) (a : AQ ByteArray) (hn : n ≤ 64) (hr : ∃ s, QRep w q c n a s) :
    Calls Try.prog 14 #[.pointer (some ⟨q, 0, none⟩), .bool h] w fun e w' => e = .returned (.tuple #[.string ((a.lane h).head?.getD ⟨#[]⟩), .bool (!(a.lane h).isEmpty)]) ∧ ∃ n, w' = w.drewN n := by
  obtain ⟨s, hs, hl, hft, F, L0, L1, hi⟩ := hr
  have hI : QIs s a.lo a.hi := ⟨F, L0, L1, hi⟩
  cases h with
  | false =>
    cases hx : a.lo with
    | nil =>
      refine (peek_lo_none q c w s hs (by rw [hi.n0, hx]; rfl)).mono fun e w' ⟨he, hw⟩ => ⟨by rw [he]; simp [AQ.lane, hx], hw⟩
    | cons x l =>
      rw [hx] at hI
      obtain ⟨k, nx, hf, hk, hkc, _⟩ := head_lo hI
      refine (peek_lo q c w s k x nx hs hkc hf (by have h9 := hi.n0; rw [hx] at h9; simp at h9; omega) (by omega)).mono fun e w' ⟨he, hw⟩ => ⟨by rw [he]; simp [AQ.lane, hx], hw⟩
  | true =>
    cases hx : a.hi with
    | nil =>
      refine (peek_hi_none q c w s hs (by rw [hi.n1, hx]; rfl)).mono fun e w' ⟨he, hw⟩ => ⟨by rw [he]; simp [AQ.lane, hx], hw⟩
    | cons x l =>
      rw [hx] at hI
      obtain ⟨k, nx, hf, hk, hkc, _⟩ := head_hi hI
      refine (peek_hi q c w s k x nx hs hkc hf (by have h9 := hi.n1; rw [hx] at h9; simp at h9; omega) (by omega)).mono fun e w' ⟨he, hw⟩ => ⟨by rw [he]; simp [AQ.lane, hx], hw⟩

theorem take_rep (q c : Nat) (h : Bool) (w : World) (n : Nat) (a : AQ ByteArray) (hn : n ≤ 64) (hr : ∃ s, QRep w q c n a s) :
    Calls Try.prog 13 #[.pointer (some ⟨q, 0, none⟩), .bool h] w fun e w' => e = .returned (.tuple #[.string ((a.lane h).head?.getD ⟨#[]⟩), .bool (!(a.lane h).isEmpty)]) ∧ (∃ s, QRep w' q c n (a.take h) s) ∧ Mod [q, c] w w' := by
  obtain ⟨s, hs, hl, hft, F, L0, L1, hi⟩ := hr
  have hI : QIs s a.lo a.hi := ⟨F, L0, L1, hi⟩
  have h2 := hi.lane0.length
  have h3 := hi.lane1.length
  have h4 := hi.len
  cases h with
  | false =>
    cases hx : a.lo with
    | nil =>
      refine (take_lo_none q c w s hs (by rw [hi.n0, hx]; rfl)).mono fun e w' ⟨he, m, hw⟩ => ⟨by rw [he]; simp [AQ.lane, hx], ⟨s, by rw [hw]; exact hs.drewN m, hl, hft, by simpa [AQ.take, hx] using hI⟩, by rw [hw]; exact (Mod.refl _ _).drewN m⟩
    | cons x l =>
      rw [hx] at hI
      obtain ⟨k, nx, hf, hk, hkc, hq⟩ := head_lo hI
      refine (take_lo q c w s k x nx hs hkc hf (by have h9 := hi.n0; rw [hx] at h9; simp at h9; omega) (by rw [hi.n0]; omega) (by omega)).mono fun e w' ⟨he, hs', hm⟩ => ⟨by rw [he]; simp [AQ.lane, hx], ⟨_, hs', by simpa using hl, hft, by simpa [AQ.take, hx] using hq ⟨#[]⟩⟩, hm⟩
  | true =>
    cases hx : a.hi with
    | nil =>
      refine (take_hi_none q c w s hs (by rw [hi.n1, hx]; rfl)).mono fun e w' ⟨he, m, hw⟩ => ⟨by rw [he]; simp [AQ.lane, hx], ⟨s, by rw [hw]; exact hs.drewN m, hl, hft, by simpa [AQ.take, hx] using hI⟩, by rw [hw]; exact (Mod.refl _ _).drewN m⟩
    | cons x l =>
      rw [hx] at hI
      obtain ⟨k, nx, hf, hk, hkc, hq⟩ := head_hi hI
      refine (take_hi q c w s k x nx hs hkc hf (by have h9 := hi.n1; rw [hx] at h9; simp at h9; omega) (by rw [hi.n1]; omega) (by omega)).mono fun e w' ⟨he, hs', hm⟩ => ⟨by rw [he]; simp [AQ.lane, hx], ⟨_, hs', by simpa using hl, hft, by simpa [AQ.take, hx] using hq ⟨#[]⟩⟩, hm⟩


end QStr
end Go.Proofs.Ytnehookocnijpaa
