/- QueueRuns: the walk. -/
import Derived.Test.YtnehookocnijpaaQL
import Derived.Test.YtnehookocnijpaaReads
set_option linter.unusedVariables false
set_option linter.unusedSimpArgs false
namespace Go.Proofs.Ytnehookocnijpaa
open Go.RowKit

def encAct (a : Int × Bool × ByteArray) : List Value := [.int .u8 a.1, .bool a.2.1, .string a.2.2]

structure Two (w wr : World) (n q c r : Nat) (a : AQ ByteArray) (o0 o1 : Option Nat) : Prop where
  hq : w.heap.size ≤ q
  hc : w.heap.size ≤ c
  hr : ∀ x ∈ QRef.foot r o0 o1, w.heap.size ≤ x ∧ x ≠ q ∧ x ≠ c
  rq : ∃ s, QStr.QRep wr q c n a s
  rr : QRef.RRep wr r n a o0 o1
  mod : Mod [] w wr

theorem Two.le {w wr : World} {n q c r : Nat} {a : AQ ByteArray} {o0 o1 : Option Nat} (h : Two w wr n q c r a o0 o1) : a.lo.length + a.hi.length ≤ n := by
  obtain ⟨s, hs⟩ := h.rq
  exact hs.le
theorem qrep_keep {w W : World} {n q c : Nat} {a : AQ ByteArray} (h : ∃ s, QStr.QRep w q c n a s) (m : Mod [] w W) : ∃ s, QStr.QRep W q c n a s := by
  obtain ⟨s, hs⟩ := h
  exact ⟨s, hs.mod m⟩
theorem rlen_keep {w : World} {r : Nat} {n : Int} {a : AQ ByteArray} {o0 o1 : Option Nat} (h : QRef.RRep w r n a o0 o1) (b : Bool) (m : Nat) :
    Calls Try.prog 19 #[.pointer (some ⟨r, 0, none⟩), .bool b] (w.drewN m) fun e w' => e = .returned (.int .i64 (a.lane b).length) ∧ ∃ n, w' = (w.drewN m).drewN n := by
  obtain ⟨v0, v1, h⟩ := h.mod (B := []) (Mod.drewN (Mod.refl _ _) m) (by simp)
  exact QRef.len_any r n a v0 v1 o0 o1 b _ h
theorem room_keep {w : World} {q c n : Nat} {a : AQ ByteArray} (hn : n ≤ 64) (h : ∃ s, QStr.QRep w q c n a s) :
    Calls Try.prog 20 #[.pointer (some ⟨q, 0, none⟩)] w fun e w' => e = .returned (.int .i64 ((n : Int) - (a.lane true).length - (a.lane false).length)) ∧ ∃ n, w' = w.drewN n :=
  QStr.room_rep q c w n a hn h
theorem Two.mod' {w wr W : World} {n q c r : Nat} {a : AQ ByteArray} {o0 o1 : Option Nat} (h : Two w wr n q c r a o0 o1) (m : Mod [] wr W) : Two w W n q c r a o0 o1 :=
  ⟨h.hq, h.hc, h.hr, qrep_keep h.rq m, h.rr.mod m (by simp), h.mod.trans m⟩
/-- Both have turned: the queue, then the document's. -/
theorem Two.both {w wr W W1 W2 : World} {n q c r : Nat} {a a2 : AQ ByteArray} {o0 o1 p0 p1 : Option Nat} (h : Two w wr n q c r a o0 o1) (m : Mod [] wr W) (hq : ∃ s, QStr.QRep W1 q c n a2 s) (hm1 : Mod [q, c] W W1)
    (hr2 : QRef.RRep W2 r n a2 p0 p1) (hg : QRef.Grew W1 r o0 o1 p0 p1) (hm2 : Mod (QRef.foot r o0 o1) W1 W2) : Two w W2 n q c r a2 p0 p1 := by
  obtain ⟨s, hs⟩ := hq
  have hqn : ∀ x ∈ QRef.foot r o0 o1, x ≠ q ∧ x ≠ c := fun x hx => (h.hr x hx).2
  have h1 := h.mod.size
  have h2 := m.size
  have h3 := hm1.size
  have hql := hs.at_.bq.lt
  have hcl := hs.at_.bc.lt
  refine ⟨h.hq, h.hc, fun x hx => ?_, ⟨s, hs.modB hm2 (fun hx => (hqn q hx).1 rfl) (fun hx => (hqn c hx).2 rfl)⟩, hr2, ?_⟩
  · rcases hg x hx with hg | hg
    · exact h.hr x hg
    · exact ⟨by omega, by omega, by omega⟩
  · have hB : ∀ x ∈ [q, c], x ∈ ([] : List Nat) ∨ w.heap.size ≤ x := by
      have := h.hq; have := h.hc
      simp; omega
    exact ((h.mod.trans m).then hm1 hB).then hm2 (fun x hx => .inr (h.hr x hx).1)
theorem peeked {w W W1 : World} {q c n : Nat} {a : AQ ByteArray} (h : ∃ s, QStr.QRep w q c n a s) (m : Mod [] w W) (h1 : ∃ n, W1 = W.drewN n) : (∃ s, QStr.QRep W1 q c n a s) ∧ Mod [q, c] W W1 := by
  obtain ⟨k, rfl⟩ := h1
  exact ⟨qrep_keep (qrep_keep h m) (Mod.drewN (Mod.refl _ _) _), Mod.drewN (Mod.refl _ _) _⟩
theorem rep_fault {w : World} {r : Nat} {n : Int} {a : AQ ByteArray} {o0 o1 : Option Nat} (h : QRef.RRep w r n a o0 o1) : w.cell? ⟨r, 3, none⟩ = some (.bool a.ft) := by
  obtain ⟨v0, v1, h⟩ := h
  exact h.br.cell 3
theorem rep_frozen {w : World} {r : Nat} {n : Int} {a : AQ ByteArray} {o0 o1 : Option Nat} (h : QRef.RRep w r n a o0 o1) : w.frozen? ⟨r, 3, none⟩ = false := by
  obtain ⟨v0, v1, h⟩ := h
  exact h.br.frozen 3
theorem rep_unfault {w : World} {r : Nat} {n : Int} {a : AQ ByteArray} {o0 o1 : Option Nat} (h : QRef.RRep w r n a o0 o1) : QRef.RRep (w.setCell ⟨r, 3, none⟩ (.bool false)) r n { a with ft := false } o0 o1 := by
  obtain ⟨v0, v1, h⟩ := h
  have hM : Mod [r] w (w.setCell ⟨r, 3, none⟩ (.bool false)) := (Mod.refl _ _).setCell _ (by simp)
  exact ⟨v0, v1, h.br.set 3 _, h.s0.mod hM (by intro g hg hin; simp at hin; subst hin; exact h.d0 hg), h.s1.mod hM (by intro g hg hin; simp at hin; subst hin; exact h.d1 hg), h.d0, h.d1, h.d01⟩
theorem QRef.Mod_cell (w : World) (r i : Nat) (o0 o1 : Option Nat) (v : Value) : Mod (QRef.foot r o0 o1) w (w.setCell ⟨r, i, none⟩ v) := (Mod.refl _ _).setCell _ (by simp [QRef.foot])
theorem Two.clear {w wr W W1 W2 : World} {n q c r : Nat} {a a2 : AQ ByteArray} {o0 o1 : Option Nat} (h : Two w wr n q c r a o0 o1) (m : Mod [] wr W) (hq : ∃ s, QStr.QRep W1 q c n a2 s) (hm1 : Mod [q, c] W W1)
    (hr2 : QRef.RAt W2 W1.heap.size n a2 (.slice none 0 0) (.slice none 0 0) none none) (hm2 : Mod [] W1 W2) : Two w W2 n q c W1.heap.size a2 none none := by
  obtain ⟨s, hs⟩ := hq
  have h1 := h.mod.size
  have h2 := m.size
  have h3 := hm1.size
  have hql := hs.at_.bq.lt
  have hcl := hs.at_.bc.lt
  refine ⟨h.hq, h.hc, fun x hx => ?_, ⟨s, hs.mod hm2⟩, ⟨_, _, hr2⟩, ?_⟩
  · simp [QRef.foot] at hx
    omega
  · have hB : ∀ x ∈ [q, c], x ∈ ([] : List Nat) ∨ w.heap.size ≤ x := by
      have := h.hq; have := h.hc
      simp; omega
    exact ((h.mod.trans m).then hm1 hB).trans hm2
def QRel (w : World) (n len q c : Nat) (v6 v25 : Value) (wr : World) : Prop :=
  ∃ k r a o0 o1, k ≤ len ∧ v25 = .int .i64 ((k : Nat) : Int) ∧ v6 = .pointer (some ⟨r, 0, none⟩) ∧ Two w wr n q c r a o0 o1

set_option maxRecDepth 100000 in
set_option maxHeartbeats 1600000 in
theorem queueRuns_walk (p : Int) (v : Value) (l : List (Int × Bool × ByteArray)) (w : World) (hl : RSl w 3 encAct v l) (hok : ∀ x ∈ l, 0 ≤ x.1 ∧ x.1 ≤ 255) :
    Calls Try.prog 3 #[.int .i64 p, v] w fun e w' => e = .returned (.bool true) ∧ Mod [] w w' := by
  obtain ⟨n, hp0, hp1, hp2, hn⟩ : ∃ n : Nat, (p ≤ 0 → n = 0) ∧ (0 ≤ p → p ≤ 64 → (n : Int) = p) ∧ (64 ≤ p → n = 64) ∧ n ≤ 64 := by
    by_cases h0 : p ≤ 0
    · exact ⟨0, by omega, by omega, by omega, by omega⟩
    · by_cases h1 : p ≤ 64
      · exact ⟨p.toNat, by omega, by omega, by omega, by omega⟩
      · exact ⟨64, by omega, by omega, by omega, by omega⟩
  have HL := Lib.hid hl
  obtain ⟨ao, cap, rfl, hcap, hmax, hcell⟩ := hl
  have HC := Lib.hid hcell
  have HOK := Lib.hid hok
  clear hcell hok
  unfold maxLen at hmax
  by_cases hlong : 200 < l.length
  · go_enter Try.func3, Try.ntmps3
    go_wp2_with (go_at_call 8; refine (queue_awake _).mono ?_; rintro e w1 ⟨rfl, hm⟩)
    go_ret
    exact ⟨rfl, hm⟩
  · have hlen : l.length ≤ 200 := by omega
    go_enter Try.func3, Try.ntmps3
    go_wp2_with (fail)
    refine (queue_awake _).mono ?_
    rintro e w1 ⟨rfl, hm1⟩
    have HM1 := Lib.hid hm1
    clear hm1
    go_wp2_with (fail)
    refine (QStr.new_any p n hp0 hp1 hp2 _).mono ?_
    rintro e w2 ⟨q, c, s0, rfl, hq, hc, hrq, hm2⟩
    have hw1 := HM1.out.size
    have HRQ := Lib.hid hrq
    have HM2 := Lib.hid hm2
    clear hrq hm2
    go_wp2_with (fail)
    refine (QRef.new_any p n hp0 hp1 hp2 _).mono ?_
    rintro e w3 ⟨rfl, hrr, hm3⟩
    have HRR := Lib.hid hrr
    have HM3 := Lib.hid hm3
    clear hrr hm3
    go_wp2_with (fail)
    go_loopw [6, 25] (fun v6 v25 wr => QRel w n l.length q c v6 v25 wr) (fun _ i _ => l.length - (intOf i).toNat)
    case atStart =>
      refine ⟨0, w2.heap.size, ⟨[], [], false⟩, none, none, Nat.zero_le _, rfl, rfl, by omega, by omega, ?_, ⟨s0, HRQ.out.mod HM3.out⟩, ⟨_, _, HRR.out⟩, (HM1.out.trans HM2.out).trans HM3.out⟩
      intro x hx
      have h1 := HM1.out.size
      have h2 := HM2.out.size
      have hq2 := HRQ.out.at_.bq.lt
      have hc2 := HRQ.out.at_.bc.lt
      simp [QRef.foot] at hx
      omega
    case round =>
      obtain ⟨k, r, a, o0, o1, hk, rfl, rfl, hT⟩ := hrel
      have HT := Lib.hid hT
      clear hT
      by_cases hlt : k < l.length
      · have hlt' : (k : Int) < (l.length : Int) := by omega
        obtain ⟨b, off, hao, hb, hcells⟩ := HC.out (by intro h; rw [h] at hlt; simp at hlt)
        subst hao
        obtain ⟨x, hx⟩ : ∃ x, l[k]? = some x := ⟨_, List.getElem?_eq_getElem hlt⟩
        obtain ⟨wh, hi, xs⟩ := x
        have hbl := World.block_lt_of_cell? w ⟨b, off + (k * 3 + 0), none⟩ (hcells k _ hx 0 (by omega))
        have hc0 := HT.out.mod.cell (hcells k _ hx 0 (by omega)) (by simp)
        have hc1 := HT.out.mod.cell (hcells k _ hx 1 (by omega)) (by simp)
        have hc2 := HT.out.mod.cell (hcells k _ hx 2 (by omega)) (by simp)
        simp only [Nat.add_zero, ← Nat.add_assoc] at hc0 hc1 hc2
        have hwh := HOK.out _ (List.mem_of_getElem? hx)
        have hw0 : 0 ≤ wh := hwh.1
        have hw1 : wh ≤ 255 := hwh.2
        have HX := Lib.hid hx
        clear hcells hx hwh
        have hm5 : wh % 5 = 0 ∨ wh % 5 = 1 ∨ wh % 5 = 2 ∨ wh % 5 = 3 ∨ wh % 5 = 4 := by omega
        rcases hm5 with c0 | c0 | c0 | c0 | c0
        · skip
          have C0 := Lib.hid c0
          clear c0
          have t0 : (wh % 5 == 0) = true := by rw [C0.out]; rfl
          have t1 : (wh % 5 == 1) = false := by rw [C0.out]; rfl
          have t2 : (wh % 5 == 2) = false := by rw [C0.out]; rfl
          have t3 : (wh % 5 == 3) = false := by rw [C0.out]; rfl
          have t4 : (wh % 5 == 4) = false := by rw [C0.out]; rfl
          have hqlt : q < wr.heap.size := by obtain ⟨s, hs⟩ := HT.out.rq; exact hs.at_.bq.lt
          have hclt : c < wr.heap.size := by obtain ⟨s, hs⟩ := HT.out.rq; exact hs.at_.bc.lt
          go_wp2_with (fail)
          go_region_held3 (fun w' => w'.cell? ⟨wr.heap.size, 1, none⟩ = some (.bool hi) ∧ w'.cell? ⟨wr.heap.size, 2, none⟩ = some (.string xs)) (go_keep) ((first | (go_at_call 11; refine (QStr.put_any q c xs hi _ n a hn (qrep_keep HT.out.rq (by repeat (with_reducible first | exact Mod.refl _ _ | refine Mod.drew ?_ | refine Mod.drewN ?_ _ | refine Mod.alloc ?_ _)))).mono ?_; rintro e W1 ⟨rfl, hq1, hm1⟩; have hb1 := Blk.mod (b := wr.heap.size) (T := 29) (cs := [.int .u8 wh, .bool hi, .string xs]) (by repeat (with_reducible first | apply Blk.drew | apply Blk.drewN | exact Blk.new' rfl)) hm1 (by simp; omega); have hA1 := hb1.cell) | (go_at_call 12; refine (QRef.put_rep r n xs a hi o0 o1 _ ((HT.out.rr.mod (B := []) (by repeat (with_reducible first | exact Mod.refl _ _ | refine Mod.drew ?_ | refine Mod.drewN ?_ _ | refine Mod.alloc ?_ _)) (by simp)).mod hm1 (fun x hx => by have := HT.out.hr x hx; simp; omega)) hn (by have := HT.out.le; omega)).mono ?_; rintro e W2 ⟨rfl, p0, p1, hr2, hg2, hm2⟩; have hb2 := hb1.mod hm2 (fun hx => by have := HT.out.rr.lt _ hx; omega); have hA2 := hb2.cell)))
          have HT2 := Lib.hid (HT.out.both (by repeat (with_reducible first | exact Mod.refl _ _ | refine Mod.drew ?_ | refine Mod.drewN ?_ _ | refine Mod.alloc ?_ _)) hq1 hm1 hr2 hg2 hm2)
          clear hq1 hm1 hr2 hg2 hm2 hb1 hA1 hA2
          have HB2 := Lib.hid hb2
          clear hb2
          generalize ha2 : a.put n xs hi = a2 at *
          clear ha2
          go_wp2_with (fail)
          have HQ2 := Lib.hid HT2.out.rq
          have HR2 := Lib.hid HT2.out.rr
          have a1 : ((a2.lane true).length : Int) + ((a2.lane false).length : Int) ≤ (n : Int) := by have h0 := HT2.out.le; simp [AQ.lane]; omega
          have a3 : 0 ≤ (n : Int) - ((a2.lane true).length : Int) := by omega
          obtain ⟨v0, v1, hra⟩ := HT2.out.rr
          have hr0 : W2.cell? ⟨r, 0, none⟩ = some (.int .i64 n) := hra.br.cell 0
          clear hra
          go_quiet ((first | (go_at_call 18; exact Calls.quiet_of_same ((QStr.len_rep q c _ _ n a2 (qrep_keep HQ2.out (Mod.drewN (Mod.refl _ _) _))).mono fun e w' ⟨he, hw⟩ => ⟨he, hw.symm⟩)) | (go_at_call 19; exact Calls.quiet_of (rlen_keep HR2.out _ _)) | (go_at_call 20; exact Calls.quiet_of (room_keep hn (qrep_keep HQ2.out (Mod.drewN (Mod.refl _ _) _))))))
          go_wp2
          go_roundw
          case rel => exact ⟨k + 1, r, a2, p0, p1, by omega, by go_num, rfl, HT2.out.mod' (Mod.drewN (Mod.refl _ _) _)⟩
          case measure => first | (simp [intOf]; done) | (simp [intOf]; omega)
        · skip
          have C0 := Lib.hid c0
          clear c0
          have t0 : (wh % 5 == 0) = false := by rw [C0.out]; rfl
          have t1 : (wh % 5 == 1) = true := by rw [C0.out]; rfl
          have t2 : (wh % 5 == 2) = false := by rw [C0.out]; rfl
          have t3 : (wh % 5 == 3) = false := by rw [C0.out]; rfl
          have t4 : (wh % 5 == 4) = false := by rw [C0.out]; rfl
          have hqlt : q < wr.heap.size := by obtain ⟨s, hs⟩ := HT.out.rq; exact hs.at_.bq.lt
          have hclt : c < wr.heap.size := by obtain ⟨s, hs⟩ := HT.out.rq; exact hs.at_.bc.lt
          go_wp2_with (first | (go_at_call 13; refine (QStr.take_rep q c hi _ n a hn (qrep_keep HT.out.rq (by repeat (with_reducible first | exact Mod.refl _ _ | refine Mod.drew ?_ | refine Mod.drewN ?_ _ | refine Mod.alloc ?_ _)))).mono ?_; rintro e W1 ⟨rfl, hq1, hm1⟩; have hb1 := Blk.mod (b := wr.heap.size) (T := 29) (cs := [.int .u8 wh, .bool hi, .string xs]) (by repeat (with_reducible first | apply Blk.drew | apply Blk.drewN | exact Blk.new' rfl)) hm1 (by simp; omega); have hA1 := hb1.cell) | (go_at_call 15; refine (QRef.take_rep r n a hi true o0 o1 _ ((HT.out.rr.mod (B := []) (by repeat (with_reducible first | exact Mod.refl _ _ | refine Mod.drew ?_ | refine Mod.drewN ?_ _ | refine Mod.alloc ?_ _)) (by simp)).mod hm1 (fun x hx => by have := HT.out.hr x hx; simp; omega)) (by have := HT.out.le; omega)).mono ?_; rintro e W2 ⟨rfl, hr2, hm2⟩; have hb2 := hb1.mod hm2 (fun hx => by have := HT.out.rr.lt _ hx; omega); have hA2 := hb2.cell))
          have HT2 := Lib.hid (HT.out.both (by repeat (with_reducible first | exact Mod.refl _ _ | refine Mod.drew ?_ | refine Mod.drewN ?_ _ | refine Mod.alloc ?_ _)) hq1 hm1 hr2 (QRef.Grew.refl _ _ _ _) hm2)
          clear hq1 hm1 hr2 hm2 hb1 hA1 hA2
          have HB2 := Lib.hid hb2
          clear hb2
          obtain ⟨p0, p1, hp0e, hp1e⟩ : ∃ p0 p1, p0 = o0 ∧ p1 = o1 := ⟨_, _, rfl, rfl⟩
          subst hp0e hp1e
          generalize ha2 : a.take hi = a2 at *
          clear ha2
          have HQ2 := Lib.hid HT2.out.rq
          have HR2 := Lib.hid HT2.out.rr
          have a1 : ((a2.lane true).length : Int) + ((a2.lane false).length : Int) ≤ (n : Int) := by have h0 := HT2.out.le; simp [AQ.lane]; omega
          have a3 : 0 ≤ (n : Int) - ((a2.lane true).length : Int) := by omega
          obtain ⟨v0, v1, hra⟩ := HT2.out.rr
          have hr0 : W2.cell? ⟨r, 0, none⟩ = some (.int .i64 n) := hra.br.cell 0
          clear hra
          go_quiet ((first | (go_at_call 18; exact Calls.quiet_of_same ((QStr.len_rep q c _ _ n a2 (qrep_keep HQ2.out (Mod.drewN (Mod.refl _ _) _))).mono fun e w' ⟨he, hw⟩ => ⟨he, hw.symm⟩)) | (go_at_call 19; exact Calls.quiet_of (rlen_keep HR2.out _ _)) | (go_at_call 20; exact Calls.quiet_of (room_keep hn (qrep_keep HQ2.out (Mod.drewN (Mod.refl _ _) _))))))
          go_wp2
          go_roundw
          case rel => exact ⟨k + 1, r, a2, p0, p1, by omega, by go_num, rfl, HT2.out.mod' (Mod.drewN (Mod.refl _ _) _)⟩
          case measure => first | (simp [intOf]; done) | (simp [intOf]; omega)
        · skip
          have C0 := Lib.hid c0
          clear c0
          have t0 : (wh % 5 == 0) = false := by rw [C0.out]; rfl
          have t1 : (wh % 5 == 1) = false := by rw [C0.out]; rfl
          have t2 : (wh % 5 == 2) = true := by rw [C0.out]; rfl
          have t3 : (wh % 5 == 3) = false := by rw [C0.out]; rfl
          have t4 : (wh % 5 == 4) = false := by rw [C0.out]; rfl
          have hqlt : q < wr.heap.size := by obtain ⟨s, hs⟩ := HT.out.rq; exact hs.at_.bq.lt
          have hclt : c < wr.heap.size := by obtain ⟨s, hs⟩ := HT.out.rq; exact hs.at_.bc.lt
          go_wp2_with (first | (go_at_call 14; refine (QStr.peek_rep q c hi _ n a hn (qrep_keep HT.out.rq (by repeat (with_reducible first | exact Mod.refl _ _ | refine Mod.drew ?_ | refine Mod.drewN ?_ _ | refine Mod.alloc ?_ _)))).mono ?_; rintro e W1 ⟨rfl, hq1⟩; obtain ⟨hq1, hm1⟩ := peeked HT.out.rq (by repeat (with_reducible first | exact Mod.refl _ _ | refine Mod.drew ?_ | refine Mod.drewN ?_ _ | refine Mod.alloc ?_ _)) hq1; have hb1 := Blk.mod (b := wr.heap.size) (T := 29) (cs := [.int .u8 wh, .bool hi, .string xs]) (by repeat (with_reducible first | apply Blk.drew | apply Blk.drewN | exact Blk.new' rfl)) hm1 (by simp; omega); have hA1 := hb1.cell) | (go_at_call 15; refine (QRef.take_rep r n a hi false o0 o1 _ ((HT.out.rr.mod (B := []) (by repeat (with_reducible first | exact Mod.refl _ _ | refine Mod.drew ?_ | refine Mod.drewN ?_ _ | refine Mod.alloc ?_ _)) (by simp)).mod hm1 (fun x hx => by have := HT.out.hr x hx; simp; omega)) (by have := HT.out.le; omega)).mono ?_; rintro e W2 ⟨rfl, hr2, hm2⟩; have hb2 := hb1.mod hm2 (fun hx => by have := HT.out.rr.lt _ hx; omega); have hA2 := hb2.cell))
          have HT2 := Lib.hid (HT.out.both (by repeat (with_reducible first | exact Mod.refl _ _ | refine Mod.drew ?_ | refine Mod.drewN ?_ _ | refine Mod.alloc ?_ _)) hq1 hm1 hr2 (QRef.Grew.refl _ _ _ _) hm2)
          clear hq1 hm1 hr2 hm2 hb1 hA1 hA2
          have HB2 := Lib.hid hb2
          clear hb2
          obtain ⟨p0, p1, hp0e, hp1e⟩ : ∃ p0 p1, p0 = o0 ∧ p1 = o1 := ⟨_, _, rfl, rfl⟩
          subst hp0e hp1e
          obtain ⟨a2, ha2⟩ : ∃ a2, a2 = a := ⟨_, rfl⟩
          subst ha2
          have HQ2 := Lib.hid HT2.out.rq
          have HR2 := Lib.hid HT2.out.rr
          have a1 : ((a2.lane true).length : Int) + ((a2.lane false).length : Int) ≤ (n : Int) := by have h0 := HT2.out.le; simp [AQ.lane]; omega
          have a3 : 0 ≤ (n : Int) - ((a2.lane true).length : Int) := by omega
          obtain ⟨v0, v1, hra⟩ := HT2.out.rr
          have hr0 : W2.cell? ⟨r, 0, none⟩ = some (.int .i64 n) := hra.br.cell 0
          clear hra
          go_quiet ((first | (go_at_call 18; exact Calls.quiet_of_same ((QStr.len_rep q c _ _ n a2 (qrep_keep HQ2.out (Mod.drewN (Mod.refl _ _) _))).mono fun e w' ⟨he, hw⟩ => ⟨he, hw.symm⟩)) | (go_at_call 19; exact Calls.quiet_of (rlen_keep HR2.out _ _)) | (go_at_call 20; exact Calls.quiet_of (room_keep hn (qrep_keep HQ2.out (Mod.drewN (Mod.refl _ _) _))))))
          go_wp2
          go_roundw
          case rel => exact ⟨k + 1, r, a2, p0, p1, by omega, by go_num, rfl, HT2.out.mod' (Mod.drewN (Mod.refl _ _) _)⟩
          case measure => first | (simp [intOf]; done) | (simp [intOf]; omega)
        · skip
          have C0 := Lib.hid c0
          clear c0
          have t0 : (wh % 5 == 0) = false := by rw [C0.out]; rfl
          have t1 : (wh % 5 == 1) = false := by rw [C0.out]; rfl
          have t2 : (wh % 5 == 2) = false := by rw [C0.out]; rfl
          have t3 : (wh % 5 == 3) = true := by rw [C0.out]; rfl
          have t4 : (wh % 5 == 4) = false := by rw [C0.out]; rfl
          have hqlt : q < wr.heap.size := by obtain ⟨s, hs⟩ := HT.out.rq; exact hs.at_.bq.lt
          have hclt : c < wr.heap.size := by obtain ⟨s, hs⟩ := HT.out.rq; exact hs.at_.bc.lt
          go_wp2_with (fail)
          have hc3 := fun (o : Obj) => rep_fault (HT.out.rr.mod (B := []) ((Mod.refl _ _).alloc o) (by simp))
          go_region_held3 (fun w' => w'.cell? ⟨r, 3, none⟩ = some (.bool a.ft)) (go_keep) ((first | (go_at_call 16; refine (QStr.fault_rep q c _ n a (qrep_keep HT.out.rq (by repeat (with_reducible first | exact Mod.refl _ _ | refine Mod.drew ?_ | refine Mod.drewN ?_ _ | refine Mod.alloc ?_ _)))).mono ?_; rintro e W1 ⟨rfl, hq1, hm1⟩; have hR1 := (HT.out.rr.mod (B := []) (by repeat (with_reducible first | exact Mod.refl _ _ | refine Mod.drew ?_ | refine Mod.drewN ?_ _ | refine Mod.alloc ?_ _)) (by simp)).mod hm1 (fun x hx => by have := HT.out.hr x hx; simp; omega); have hr3 := rep_fault hR1)))
          have hfr := rep_frozen hR1
          have HR1 := Lib.hid hR1
          have HQ1 := Lib.hid hq1
          have HMM := Lib.hid hm1
          clear hR1 hq1 hm1
          go_wp2_with (fail)
          have HT2 := Lib.hid (HT.out.both (by repeat (with_reducible first | exact Mod.refl _ _ | refine Mod.drew ?_ | refine Mod.drewN ?_ _ | refine Mod.alloc ?_ _)) HQ1.out HMM.out (rep_unfault HR1.out) (QRef.Grew.refl _ _ _ _) (QRef.Mod_cell W1 r 3 o0 o1 _))
          obtain ⟨p0, p1, hp0e, hp1e⟩ : ∃ p0 p1, p0 = o0 ∧ p1 = o1 := ⟨_, _, rfl, rfl⟩
          subst hp0e hp1e
          generalize ha2 : ({ a with ft := false } : AQ ByteArray) = a2 at *
          clear ha2
          generalize hW2 : W1.setCell _ _ = W2 at *
          clear hW2
          have HQ2 := Lib.hid HT2.out.rq
          have HR2 := Lib.hid HT2.out.rr
          have a1 : ((a2.lane true).length : Int) + ((a2.lane false).length : Int) ≤ (n : Int) := by have h0 := HT2.out.le; simp [AQ.lane]; omega
          have a3 : 0 ≤ (n : Int) - ((a2.lane true).length : Int) := by omega
          obtain ⟨v0, v1, hra⟩ := HT2.out.rr
          have hr0 : W2.cell? ⟨r, 0, none⟩ = some (.int .i64 n) := hra.br.cell 0
          clear hra
          go_quiet ((first | (go_at_call 18; exact Calls.quiet_of_same ((QStr.len_rep q c _ _ n a2 (qrep_keep HQ2.out (Mod.drewN (Mod.refl _ _) _))).mono fun e w' ⟨he, hw⟩ => ⟨he, hw.symm⟩)) | (go_at_call 19; exact Calls.quiet_of (rlen_keep HR2.out _ _)) | (go_at_call 20; exact Calls.quiet_of (room_keep hn (qrep_keep HQ2.out (Mod.drewN (Mod.refl _ _) _))))))
          go_wp2
          go_roundw
          case rel => exact ⟨k + 1, r, a2, p0, p1, by omega, by go_num, rfl, HT2.out.mod' (Mod.drewN (Mod.refl _ _) _)⟩
          case measure => first | (simp [intOf]; done) | (simp [intOf]; omega)
        · skip
          have C0 := Lib.hid c0
          clear c0
          have t0 : (wh % 5 == 0) = false := by rw [C0.out]; rfl
          have t1 : (wh % 5 == 1) = false := by rw [C0.out]; rfl
          have t2 : (wh % 5 == 2) = false := by rw [C0.out]; rfl
          have t3 : (wh % 5 == 3) = false := by rw [C0.out]; rfl
          have t4 : (wh % 5 == 4) = true := by rw [C0.out]; rfl
          have hqlt : q < wr.heap.size := by obtain ⟨s, hs⟩ := HT.out.rq; exact hs.at_.bq.lt
          have hclt : c < wr.heap.size := by obtain ⟨s, hs⟩ := HT.out.rq; exact hs.at_.bc.lt
          go_wp2_with (first | (go_at_call 17; refine (QStr.clear_rep q c _ n a hn (qrep_keep HT.out.rq (by repeat (with_reducible first | exact Mod.refl _ _ | refine Mod.drew ?_ | refine Mod.drewN ?_ _ | refine Mod.alloc ?_ _)))).mono ?_; rintro e W1 ⟨rfl, hq1, hm1⟩) | (go_at_call 10; refine (QRef.new_any p n hp0 hp1 hp2 _).mono ?_; rintro e W2 ⟨rfl, hr2, hm2⟩))
          have HT2 := Lib.hid (HT.out.clear (by repeat (with_reducible first | exact Mod.refl _ _ | refine Mod.drew ?_ | refine Mod.drewN ?_ _ | refine Mod.alloc ?_ _)) hq1 hm1 hr2 hm2)
          clear hq1 hm1 hr2 hm2
          generalize ha2 : (⟨[], [], false⟩ : AQ ByteArray) = a2 at *
          clear ha2
          generalize hr' : W1.heap.size = r2 at *
          clear hr'
          obtain ⟨p0, p1, hp0e, hp1e⟩ : ∃ p0 p1 : Option Nat, p0 = none ∧ p1 = none := ⟨_, _, rfl, rfl⟩
          have HE := Lib.hid (And.intro hp0e hp1e)
          have HQ2 := Lib.hid HT2.out.rq
          have HR2 := Lib.hid HT2.out.rr
          have a1 : ((a2.lane true).length : Int) + ((a2.lane false).length : Int) ≤ (n : Int) := by have h0 := HT2.out.le; simp [AQ.lane]; omega
          have a3 : 0 ≤ (n : Int) - ((a2.lane true).length : Int) := by omega
          obtain ⟨v0, v1, hra⟩ := HT2.out.rr
          have hr0 : W2.cell? ⟨r2, 0, none⟩ = some (.int .i64 n) := hra.br.cell 0
          clear hra
          go_quiet ((first | (go_at_call 18; exact Calls.quiet_of_same ((QStr.len_rep q c _ _ n a2 (qrep_keep HQ2.out (Mod.drewN (Mod.refl _ _) _))).mono fun e w' ⟨he, hw⟩ => ⟨he, hw.symm⟩)) | (go_at_call 19; exact Calls.quiet_of (rlen_keep HR2.out _ _)) | (go_at_call 20; exact Calls.quiet_of (room_keep hn (qrep_keep HQ2.out (Mod.drewN (Mod.refl _ _) _))))))
          go_wp2
          go_roundw
          case rel => exact ⟨k + 1, r2, a2, none, none, by omega, by go_num, rfl, HT2.out.mod' (Mod.drewN (Mod.refl _ _) _)⟩
          case measure => first | (simp [intOf]; done) | (simp [intOf]; omega)
      · go_wp2_with (fail)
        go_ret
        exact ⟨rfl, HT.out.mod⟩
end Go.Proofs.Ytnehookocnijpaa
