/- For every program the law VerifyBytes returns true, and what came in reads as it did. Conditions: none. -/
import Derived.Test.YtnehookocnijpaaRows
import Derived.Test.YtnehookocnijpaaVLaw5
import Derived.Test.YtnehookocnijpaaReads
set_option linter.unusedVariables false
set_option linter.unusedSimpArgs false
/-! Bits set one by one -/
namespace Go.Proofs.Ytnehookocnijpaa
open Go.RowKit

theorem ofInt_wrap (v : BitVec 64) : BitVec.ofInt 64 (IntKind.u64.wrap (v.toNat : Int)) = v := by
  have h : IntKind.u64.wrap (v.toNat : Int) = (v.toNat : Int) := by
    have := v.isLt
    simp only [IntKind.wrap, IntKind.signed, IntKind.bits]
    simp
    omega
  rw [h, BitVec.ofInt_natCast]
  simp
theorem or_assoc64 (y a b : Int) : bits .or .u64 (bits .or .u64 y a) b = bits .or .u64 y (bits .or .u64 a b) := by
  show IntKind.u64.wrap (((BitVec.ofInt 64 (IntKind.u64.wrap ((BitVec.ofInt 64 y ||| BitVec.ofInt 64 a).toNat : Int))) ||| BitVec.ofInt 64 b).toNat : Int) = IntKind.u64.wrap ((BitVec.ofInt 64 y ||| BitVec.ofInt 64 (IntKind.u64.wrap ((BitVec.ofInt 64 a ||| BitVec.ofInt 64 b).toNat : Int))).toNat : Int)
  rw [ofInt_wrap, ofInt_wrap, BitVec.or_assoc]
def bitP (k : Int) : Int := IntKind.u64.wrap (2 ^ k.toNat)
def orBits (y at_ : Int) : Nat → Int
  | 0 => y
  | k + 1 => bits .or .u64 (orBits y at_ k) (bitP (at_ + (k : Int)))
theorem bits2 : ∀ a : Fin 64, (a.1 + 2 ≤ 64 → bits .or .u64 (IntKind.u64.wrap (2 ^ a.1)) (IntKind.u64.wrap (2 ^ (a.1 + 1))) = IntKind.u64.wrap (3 * 2 ^ a.1)) := by decide +kernel
theorem bits4 : ∀ a : Fin 64, (a.1 + 4 ≤ 64 → bits .or .u64 (bits .or .u64 (bits .or .u64 (IntKind.u64.wrap (2 ^ a.1)) (IntKind.u64.wrap (2 ^ (a.1 + 1)))) (IntKind.u64.wrap (2 ^ (a.1 + 2)))) (IntKind.u64.wrap (2 ^ (a.1 + 3))) = IntKind.u64.wrap (15 * 2 ^ a.1)) := by decide +kernel
theorem bits5 : ∀ a : Fin 64, (a.1 + 5 ≤ 64 → bits .or .u64 (bits .or .u64 (bits .or .u64 (bits .or .u64 (IntKind.u64.wrap (2 ^ a.1)) (IntKind.u64.wrap (2 ^ (a.1 + 1)))) (IntKind.u64.wrap (2 ^ (a.1 + 2)))) (IntKind.u64.wrap (2 ^ (a.1 + 3)))) (IntKind.u64.wrap (2 ^ (a.1 + 4))) = IntKind.u64.wrap (31 * 2 ^ a.1)) := by decide +kernel
theorem bitP_nat (a k : Nat) : bitP ((a : Int) + (k : Int)) = IntKind.u64.wrap (2 ^ (a + k)) := by
  unfold bitP
  rw [show ((a : Int) + (k : Int)).toNat = a + k by omega]
theorem orBits_1 (y : Int) (a : Nat) : orBits y a 1 = bits .or .u64 y (IntKind.u64.wrap (2 ^ a)) := by
  simp only [orBits]
  rw [bitP_nat]
  rfl
theorem orBits_2 (y : Int) (a : Nat) (h : a + 2 ≤ 64) : orBits y a 2 = bits .or .u64 y (IntKind.u64.wrap (3 * 2 ^ a)) := by
  simp only [orBits]
  rw [bitP_nat, bitP_nat, or_assoc64, ← bits2 ⟨a, by omega⟩ h]
  rfl
theorem orBits_4 (y : Int) (a : Nat) (h : a + 4 ≤ 64) : orBits y a 4 = bits .or .u64 y (IntKind.u64.wrap (15 * 2 ^ a)) := by
  simp only [orBits]
  rw [bitP_nat, bitP_nat, bitP_nat, bitP_nat, or_assoc64, or_assoc64, or_assoc64, ← bits4 ⟨a, by omega⟩ h]
  simp only [or_assoc64]
  rfl
theorem orBits_5 (y : Int) (a : Nat) (h : a + 5 ≤ 64) : orBits y a 5 = bits .or .u64 y (IntKind.u64.wrap (31 * 2 ^ a)) := by
  simp only [orBits]
  rw [bitP_nat, bitP_nat, bitP_nat, bitP_nat, bitP_nat, or_assoc64, or_assoc64, or_assoc64, or_assoc64, ← bits5 ⟨a, by omega⟩ h]
  simp only [or_assoc64]
  rfl
end Go.Proofs.Ytnehookocnijpaa
/-! The reference's bytes -/
namespace Go.Proofs.Ytnehookocnijpaa
open Go.RowKit

theorem or_mask {i : Ins} (hr : rightP i = true) (ha : i.area ≠ 0) (y : Int) (nn : Nat) (hn : lenP i = (nn : Int)) : orBits y i.at_ nn = bits .or .u64 y (maskP i) := by
  obtain ⟨_, ⟨h1, h2⟩, hs, h59⟩ := right_area hr ha
  obtain ⟨a, ea⟩ : ∃ a : Nat, i.at_ = (a : Int) := ⟨i.at_.toNat, by omega⟩
  by_cases h34 : i.op = 34 ∨ i.op = 35
  · have e : lenP i = 5 := by simp [lenP, h34]
    obtain rfl : nn = 5 := by omega
    rw [mask34 h34, ea, orBits_5 y a (by have := h59 h34; omega), Int.toNat_natCast]
  by_cases h36 : i.op = 36
  · have e : lenP i = 1 := by simp [lenP, h36]
    obtain rfl : nn = 1 := by omega
    rw [mask36 h36, ea, orBits_1 y a, Int.toNat_natCast]
  have h4 : i.op ≠ 34 := fun h => h34 (.inl h)
  have h5 : i.op ≠ 35 := fun h => h34 (.inr h)
  have e : lenP i = sizeP i.kind := by simp [lenP, h34, h36]
  obtain ⟨_, hle⟩ := hs h4 h5 h36
  rw [masks h4 h5 h36, ea, Int.toNat_natCast]
  have hsz : sizeP i.kind = 1 ∨ sizeP i.kind = 2 ∨ sizeP i.kind = 4 ∨ sizeP i.kind = 0 := by
    unfold sizeP
    repeat' split
    all_goals omega
  rcases hsz with h | h | h | h
  · obtain rfl : nn = 1 := by omega
    rw [h, orBits_1, show IntKind.u64.wrap (IntKind.u64.wrap (2 ^ (1 : Int).toNat) - 1) = 1 from rfl, Int.one_mul]
  · obtain rfl : nn = 2 := by omega
    rw [h, orBits_2 y a (by omega), show IntKind.u64.wrap (IntKind.u64.wrap (2 ^ (2 : Int).toNat) - 1) = 3 from rfl]
  · obtain rfl : nn = 4 := by omega
    rw [h, orBits_4 y a (by omega), show IntKind.u64.wrap (IntKind.u64.wrap (2 ^ (4 : Int).toNat) - 1) = 15 from rfl]
  · omega
def TCells (w : World) (b0 off0 : Nat) (t : Tab) : Prop := ∀ k x, t[k]? = some x → w.cell? ⟨b0, off0 + k * 3, none⟩ = some (.bool (encA x).f0) ∧ w.cell? ⟨b0, off0 + k * 3 + 1, none⟩ = some (.int .i64 (encA x).f1)
theorem TCells.mod {w w' : World} {b0 off0 : Nat} {t : Tab} {B : List Nat} (h : TCells w b0 off0 t) (hb : b0 < w.heap.size) (m : Mod B w w') (hn : b0 ∉ B) : TCells w' b0 off0 t := by
  intro k x hx
  obtain ⟨h1, h2⟩ := h k x hx
  have e := m.block b0 hb hn
  exact ⟨by rw [World.cell?_of_block (w := w) e]; exact h1, by rw [World.cell?_of_block (w := w) e]; exact h2⟩
def RRel (asked : Ins → Bool) (w : World) (b0 off0 : Nat) (t : Tab) (l : List Ins) (n : Nat) (v : Value) (wr : World) : Prop :=
  ∃ (k : Nat), k ≤ n ∧ v = .int .i64 (k : Int) ∧ Blk wr w.heap.size 69 (u64s [0, 0, 0, 0]) ∧ Blk wr (w.heap.size + 1) 69 (u64s (bytesTo asked l t k)) ∧ TCells wr b0 off0 t ∧ b0 < wr.heap.size ∧ Mod [] w wr
def IRel (W0 : World) (ob idx nn : Nat) (o : List Int) (y at_ : Int) (v : Value) (wr : World) : Prop :=
  ∃ j : Nat, j ≤ nn ∧ v = .int .i64 (j : Int) ∧ Mod [ob] W0 wr ∧ Blk wr ob 69 (u64s (o.set idx (orBits y at_ j)))

theorem irel_step {W0 wr : World} {ob idx nn j : Nat} {o : List Int} {y at_ : Int} (hM : Mod [ob] W0 wr) (hB : Blk wr ob 69 (u64s (o.set idx (orBits y at_ j)))) (hj : j < nn) :
    IRel W0 ob idx nn o y at_ (.int .i64 ((j : Int) + 1)) ((wr.setCell ⟨ob, idx, none⟩ (.int .u64 (bits .or .u64 (orBits y at_ j) (IntKind.u64.wrap (2 ^ (at_ + (j : Int)).toNat))))).drew) := by
  refine ⟨j + 1, by omega, by simp, (hM.setCell _ (.inl (by simp))).drew, ?_⟩
  have h := (hB.set idx (.int .u64 (orBits y at_ (j + 1)))).drew
  unfold u64s at h ⊢
  rw [← List.map_set (f := Value.int .u64), List.set_set] at h
  exact h

set_option maxRecDepth 100000 in
set_option maxHeartbeats 16000000 in
theorem r_bytes (wb : Bool) (asked : Ins → Bool) (hasked : asked = if wb then writesQ else readsQ) (v : Value) (l : List Ins) (w : World) (h : RSn w 5 encI v l) (hok : ∀ i ∈ l, i.Ok) :
    Calls Try.prog 34 #[v, .bool wb] w fun e w' => e = .returned (.agg (u64s (bytesP asked l)).toArray) ∧ Mod [] w w' := by
  have HA := Lib.hid (fun w1 (m : Mod [] w w1) => r_all v l w1 (h.mod m) hok)
  obtain ⟨ao, cap, rfl, hlc, hcm, hcells⟩ := h
  by_cases he : (allP l).1 = 0
  · have hlen := allP_len he
    have hl200 : l.length ≤ 200 := by
      unfold allP at he
      split at he
      · simp at he
      · omega
    have e0 : bytesP asked l = bytesTo asked l (allP l).2.2 l.length := by simp [bytesP, he]
    rw [e0]
    clear e0
    have HRT := Lib.hid (allP_right he)
    have HE := Lib.hid he
    clear he
    have HC := Lib.hid hcells
    have HQ := Lib.hid hasked
    clear hcells hok hasked
    go_enter Try.func34, Try.ntmps34
    go_wp2_with (go_at_call 30; refine (HA.out _ (by repeat (with_reducible first | exact Mod.refl _ _ | refine Mod.drew ?_ | refine Mod.drewN ?_ _ | refine Mod.setCell ?_ _ (by first | (simp; done) | (simp; omega)) | refine Mod.alloc ?_ _ | refine Mod.trans ?_ (by assumption)))).mono ?_; rintro e w1 ⟨v0, rfl, hm, hv0⟩; rw [HE.out]; obtain ⟨b0, off0, c0, rfl, hc0, hb0, hcell0⟩ := hv0 HE.out; have hb4 := Blk.mod (b := w.heap.size) (T := 69) (cs := [.int .u64 0, .int .u64 0, .int .u64 0, .int .u64 0]) (by repeat (with_reducible first | exact Blk.new' rfl | (refine Blk.new' ?_; simp; done) | apply Blk.set | apply Blk.alloc | assumption)) hm (by simp); have hb5 := Blk.mod (b := w.heap.size + 1) (T := 69) (cs := [.int .u64 0, .int .u64 0, .int .u64 0, .int .u64 0]) (by repeat (with_reducible first | exact Blk.new' rfl | (refine Blk.new' ?_; simp; done) | apply Blk.set | apply Blk.alloc | assumption)) hm (by simp))
    generalize ht : (allP l).2.2 = t at *
    have HT0 : Hid (TCells w1 b0 off0 t) := Lib.hid hcell0
    have hne0 : b0 ≠ w.heap.size + 1 := by
      rintro rfl
      obtain ⟨x0, hx0⟩ : ∃ x, t[0]? = some x := ⟨_, List.getElem?_eq_getElem (by omega)⟩
      have := (HT0.out 0 x0 hx0).1
      rw [hb5.cell] at this
      have hlt := (List.getElem?_eq_some_iff.1 this).1
      simp only [List.length_cons, List.length_nil] at hlt
      have : off0 + 0 * 3 = 0 ∨ off0 + 0 * 3 = 1 ∨ off0 + 0 * 3 = 2 ∨ off0 + 0 * 3 = 3 := by omega
      rcases this with h | h | h | h <;> (rw [h] at this; simp at this)
    have hM0 : Mod [] w w1 := Mod.trans (by repeat (with_reducible first | exact Mod.refl _ _ | refine Mod.drew ?_ | refine Mod.drewN ?_ _ | refine Mod.setCell ?_ _ (by first | (simp; done) | (simp; omega)) | refine Mod.alloc ?_ _ | refine Mod.trans ?_ (by assumption))) hm
    clear hv0 hcell0 hm
    generalize hn : l.length = n at *
    go_loopw [9] (fun v9 wr => RRel asked w b0 off0 t l n v9 wr) (fun v _ => n - (intOf v).toNat)
    case atStart => exact ⟨0, Nat.zero_le _, rfl, hb4, hb5, HT0.out, hb0, hM0⟩
    case round =>
      obtain ⟨wo, rfl⟩ : ∃ wo : World, wo = wr := ⟨_, rfl⟩
      obtain ⟨k, hk, rfl, hB4, hB5, hT, hb0r, hM⟩ := hrel
      clear hb4 hb5
      have HB := Lib.hid (And.intro hB4 hB5)
      have HTM := Lib.hid (And.intro hT hM)
      have hb4l := hB4.lt
      have hb5l := hB5.lt
      clear hB4 hB5
      by_cases hlt : k < n
      · obtain ⟨i, hx⟩ : ∃ x, l[k]? = some x := ⟨_, List.getElem?_eq_getElem (by omega)⟩
        obtain ⟨x, hxt⟩ : ∃ x, t[k]? = some x := ⟨_, List.getElem?_eq_getElem (by omega)⟩
        obtain ⟨b, off, rfl, hb, hcs⟩ := HC.out (by intro h; rw [h] at hx; simp at hx)
        have HMEM := Lib.hid (List.mem_of_getElem? hx)
        have hbn : bytesTo asked l t (k + 1) = putP asked (bytesTo asked l t k) x i := by
          rw [bytesTo, hx]
          simp [List.getD, hxt]
        have hbl : b < wo.heap.size := Nat.lt_of_lt_of_le hb hM.size
        obtain ⟨op, kind, area, at_, ni⟩ := i
        have c0' := hM.cell (hcs k _ hx 0 (by omega)) (by simp)
        have c1 := hM.cell (hcs k _ hx 1 (by omega)) (by simp)
        have c2 := hM.cell (hcs k _ hx 2 (by omega)) (by simp)
        have c3 := hM.cell (hcs k _ hx 3 (by omega)) (by simp)
        have c4 := hM.cell (hcs k _ hx 4 (by omega)) (by simp)
        simp only [encI, Nat.add_zero, ← Nat.add_assoc] at c0' c1 c2 c3 c4
        have HX := Lib.hid hxt
        have HBN := Lib.hid hbn
        have DONE : ∀ (W' : World), Mod [] wo W' → bytesTo asked l t (k + 1) = bytesTo asked l t k → RRel asked w b0 off0 t l n (.int .i64 ((k : Int) + 1)) W' := fun W' m e =>
          ⟨k + 1, by omega, by simp, HB.out.1.mod m (by simp), by rw [e]; exact HB.out.2.mod m (by simp), HTM.out.1.mod hb0r m (by simp), Nat.lt_of_lt_of_le hb0r m.size, HTM.out.2.trans m⟩
        have HD := Lib.hid DONE
        have qt := (hT k x hxt).1
        clear DONE hx hbn hcs hb hT hxt
        cases x with
        | none =>
          simp only [encA, P.z62] at qt
          go_wp2_with (fail)
          refine ⟨HD.out _ (by repeat (with_reducible first | exact Mod.refl _ _ | refine Mod.drew ?_ | refine Mod.drewN ?_ _ | refine Mod.setCell ?_ _ (by first | (simp; done) | (simp; omega)) | refine Mod.alloc ?_ _ | refine Mod.trans ?_ (by assumption))) (by rw [HBN.out]; simp [putP]), by simp [intOf]; omega⟩
        | some a =>
          simp only [encA] at qt
          by_cases ha : area = 0
          · subst ha
            go_wp2_with (fail)
            refine ⟨HD.out _ (by repeat (with_reducible first | exact Mod.refl _ _ | refine Mod.drew ?_ | refine Mod.drewN ?_ _ | refine Mod.setCell ?_ _ (by first | (simp; done) | (simp; omega)) | refine Mod.alloc ?_ _ | refine Mod.trans ?_ (by assumption))) (by rw [HBN.out]; simp [putP]), by simp [intOf]; omega⟩
          · have ha' : (area == 0) = false := by rw [beq_eq_false_iff_ne]; exact ha
            have hlo := bytesTo_length asked l t k
            obtain ⟨⟨ha1, ha2⟩, ⟨ht1, ht2⟩, hsz, h59⟩ := right_area (HRT.out _ (HMEM.out)) (by simpa using ha)
            have hor := or_mask (HRT.out _ (HMEM.out)) (by simpa using ha)
            simp only at ha1 ha2 ht1 ht2 hsz h59 hor
            have HOR := Lib.hid hor
            have hidx : area.toNat - 1 < 4 := by omega
            obtain ⟨y, hy⟩ : ∃ y, (bytesTo asked l t k)[area.toNat - 1]? = some y := ⟨_, List.getElem?_eq_getElem (by omega)⟩
            have hset0 : (bytesTo asked l t k).set (area.toNat - 1) y = bytesTo asked l t k := by
              apply List.ext_getElem?
              intro m
              rw [List.getElem?_set]
              split
              · rename_i h; subst h; rw [if_pos (by omega), hy]
              · rfl
            have HY := Lib.hid hset0
            have FIN : asked ⟨op, kind, area, at_, ni⟩ = true → ∀ (nn : Nat), lenP ⟨op, kind, area, at_, ni⟩ = (nn : Int) → ∀ (W3 W' : World), Mod [] wo W3 → Mod [w.heap.size + 1] W3 W' → Blk W' (w.heap.size + 1) 69 (u64s ((bytesTo asked l t k).set (area.toNat - 1) (orBits y at_ nn))) → RRel asked w b0 off0 t l n (.int .i64 ((k : Int) + 1)) W' := by
              intro has nn hnn W3 W' m3 m' hb'
              have e1 : bytesTo asked l t (k + 1) = (bytesTo asked l t k).set (area.toNat - 1) (orBits y at_ nn) := by
                rw [HBN.out]
                unfold putP
                have e2 : (area - 1).toNat = area.toNat - 1 := by omega
                rw [if_neg (by simp [ha, has])]
                simp only [e2, List.getD, hy, Option.getD_some]
                rw [HOR.out y nn hnn]
              have mm := Mod.then (HTM.out.2.trans m3) m' (fun x hx => by simp at hx; subst hx; exact .inr (by omega))
              refine ⟨k + 1, by omega, by simp, (HB.out.1.mod m3 (by simp)).mod m' (by simp), by rw [e1]; exact hb', (HTM.out.1.mod hb0r m3 (by simp)).mod (Nat.lt_of_lt_of_le hb0r m3.size) m' (by simpa using hne0), Nat.lt_of_lt_of_le (Nat.lt_of_lt_of_le hb0r m3.size) m'.size, mm⟩
            have HF := Lib.hid FIN
            have hz := fun w => r_size kind w
            have hz1 := (sizeP_range kind).1
            have hz2 := (sizeP_range kind).2
            clear FIN hy hset0 hor
            by_cases h34 : op = 34
            · subst h34
              have hln : lenP ⟨34, kind, area, at_, ni⟩ = ((5 : Nat) : Int) := rfl
              have has : asked ⟨34, kind, area, at_, ni⟩ = true := by rw [HQ.out]; cases wb <;> rfl
              have HFF := Lib.hid (HF.out has 5 hln)
              have HZ := Lib.hid hz
              have h59' := h59 (.inl rfl)
              clear hz hsz has hln h59
              generalize sizeP kind = s at *
              go_wp2_with ((go_at_call 48; refine (HZ.out _).mono ?_; rintro e w3 ⟨rfl, hm3⟩; have h11 := Blk.mod (b := wo.heap.size) (T := 65) (cs := [.int .i64 34, .int .i64 kind, .int .i64 area, .int .i64 at_, .int .i64 ni]) (by repeat (with_reducible first | exact Blk.new' rfl | (refine Blk.new' ?_; simp; done) | apply Blk.set | apply Blk.alloc | assumption)) hm3 (by simp); have q11 := h11.cell; have l11 := h11.lt))
              generalize hT10 : wo.heap.size = T10 at *
              have hM3 : Mod [] wo w3 := Mod.trans (by repeat (with_reducible first | exact Mod.refl _ _ | refine Mod.drew ?_ | refine Mod.drewN ?_ _ | refine Mod.setCell ?_ _ (by first | (simp; done) | (simp; omega)) | refine Mod.alloc ?_ _ | refine Mod.trans ?_ (by assumption))) hm3
              have g5 := HB.out.2.mod hM3 (by simp)
              have G10 := Lib.hid h11
              have hT10 : T10 ≠ w.heap.size + 1 := by omega
              have hobw : w.heap.size + 1 < w3.heap.size := g5.lt
              go_loopw [13] (fun v wr => IRel w3 (w.heap.size + 1) (area.toNat - 1) 5 (bytesTo asked l t k) y at_ v wr) (fun v _ => 5 - (intOf v).toNat)
              case atStart =>
                refine ⟨0, by omega, rfl, Mod.refl _ _, ?_⟩
                rw [orBits, HY.out]
                exact g5
              case round =>
                obtain ⟨j, hj, rfl, hMj, hBj⟩ := hrel
                have q11 := (G10.out.mod hMj (by simpa using hT10)).cell
                have l11 := (G10.out.mod hMj (by simpa using hT10)).lt
                have lob := hBj.lt
                by_cases hjl : j < 5
                · have cj : wr.cell? ⟨w.heap.size + 1, area.toNat - 1, none⟩ = some (.int .u64 (orBits y at_ j)) := by
                    rw [hBj.cell]
                    simp [u64s, hlo, hidx]
                  have fj := hBj.frozen
                  have HBJ := Lib.hid (And.intro hMj hBj)
                  have hs1 : IntKind.i64.wrap (area - 1) = area - 1 := IntWalk.i64_in _ (by omega)
                  have hs2 : IntKind.i64.wrap (at_ + (j : Int)) = at_ + (j : Int) := IntWalk.i64_in _ (by omega)
                  have j1 : (0 : Int) ≤ area - 1 := by omega
                  have j2 : area - 1 < 4 := by omega
                  have j4 : area < 5 := by omega
                  have j5 : (0 : Int) ≤ at_ + (j : Int) := by omega
                  clear hMj hBj
                  go_wp2_with (fail)
                  go_still_tail 15, (by kernel_rfl)
                  change wpList _ _ _ _ _ wr.drew
                  go_wp2
                  exact ⟨irel_step HBJ.out.1 HBJ.out.2 hjl, by simp [intOf]; omega⟩
                · have hjn : j = 5 := by omega
                  have HBJ := Lib.hid (And.intro hMj (hjn ▸ hBj))
                  have hjn2 : ¬ ((j : Int) < (5 : Int)) := by omega
                  clear hMj hBj hjn
                  go_wp2_with (fail)
                  exact ⟨HFF.out w3 wr hM3 HBJ.out.1 HBJ.out.2, by simp [intOf]; omega⟩
            by_cases h35 : op = 35
            · subst h35
              have hln : lenP ⟨35, kind, area, at_, ni⟩ = ((5 : Nat) : Int) := rfl
              have has : asked ⟨35, kind, area, at_, ni⟩ = true := by rw [HQ.out]; cases wb <;> rfl
              have HFF := Lib.hid (HF.out has 5 hln)
              have HZ := Lib.hid hz
              have h59' := h59 (.inr rfl)
              clear hz hsz has hln h59
              generalize sizeP kind = s at *
              go_wp2_with ((go_at_call 48; refine (HZ.out _).mono ?_; rintro e w3 ⟨rfl, hm3⟩; have h11 := Blk.mod (b := wo.heap.size) (T := 65) (cs := [.int .i64 35, .int .i64 kind, .int .i64 area, .int .i64 at_, .int .i64 ni]) (by repeat (with_reducible first | exact Blk.new' rfl | (refine Blk.new' ?_; simp; done) | apply Blk.set | apply Blk.alloc | assumption)) hm3 (by simp); have q11 := h11.cell; have l11 := h11.lt))
              generalize hT10 : wo.heap.size = T10 at *
              have hM3 : Mod [] wo w3 := Mod.trans (by repeat (with_reducible first | exact Mod.refl _ _ | refine Mod.drew ?_ | refine Mod.drewN ?_ _ | refine Mod.setCell ?_ _ (by first | (simp; done) | (simp; omega)) | refine Mod.alloc ?_ _ | refine Mod.trans ?_ (by assumption))) hm3
              have g5 := HB.out.2.mod hM3 (by simp)
              have G10 := Lib.hid h11
              have hT10 : T10 ≠ w.heap.size + 1 := by omega
              have hobw : w.heap.size + 1 < w3.heap.size := g5.lt
              go_loopw [13] (fun v wr => IRel w3 (w.heap.size + 1) (area.toNat - 1) 5 (bytesTo asked l t k) y at_ v wr) (fun v _ => 5 - (intOf v).toNat)
              case atStart =>
                refine ⟨0, by omega, rfl, Mod.refl _ _, ?_⟩
                rw [orBits, HY.out]
                exact g5
              case round =>
                obtain ⟨j, hj, rfl, hMj, hBj⟩ := hrel
                have q11 := (G10.out.mod hMj (by simpa using hT10)).cell
                have l11 := (G10.out.mod hMj (by simpa using hT10)).lt
                have lob := hBj.lt
                by_cases hjl : j < 5
                · have cj : wr.cell? ⟨w.heap.size + 1, area.toNat - 1, none⟩ = some (.int .u64 (orBits y at_ j)) := by
                    rw [hBj.cell]
                    simp [u64s, hlo, hidx]
                  have fj := hBj.frozen
                  have HBJ := Lib.hid (And.intro hMj hBj)
                  have hs1 : IntKind.i64.wrap (area - 1) = area - 1 := IntWalk.i64_in _ (by omega)
                  have hs2 : IntKind.i64.wrap (at_ + (j : Int)) = at_ + (j : Int) := IntWalk.i64_in _ (by omega)
                  have j1 : (0 : Int) ≤ area - 1 := by omega
                  have j2 : area - 1 < 4 := by omega
                  have j4 : area < 5 := by omega
                  have j5 : (0 : Int) ≤ at_ + (j : Int) := by omega
                  clear hMj hBj
                  go_wp2_with (fail)
                  go_still_tail 15, (by kernel_rfl)
                  change wpList _ _ _ _ _ wr.drew
                  go_wp2
                  exact ⟨irel_step HBJ.out.1 HBJ.out.2 hjl, by simp [intOf]; omega⟩
                · have hjn : j = 5 := by omega
                  have HBJ := Lib.hid (And.intro hMj (hjn ▸ hBj))
                  have hjn2 : ¬ ((j : Int) < (5 : Int)) := by omega
                  clear hMj hBj hjn
                  go_wp2_with (fail)
                  exact ⟨HFF.out w3 wr hM3 HBJ.out.1 HBJ.out.2, by simp [intOf]; omega⟩
            by_cases h36 : op = 36
            · subst h36
              have hln : lenP ⟨36, kind, area, at_, ni⟩ = ((1 : Nat) : Int) := rfl
              have has : asked ⟨36, kind, area, at_, ni⟩ = true := by rw [HQ.out]; cases wb <;> rfl
              have HFF := Lib.hid (HF.out has 1 hln)
              have HZ := Lib.hid hz
              clear hz hsz has hln h59
              generalize sizeP kind = s at *
              go_wp2_with ((go_at_call 48; refine (HZ.out _).mono ?_; rintro e w3 ⟨rfl, hm3⟩; have h11 := Blk.mod (b := wo.heap.size) (T := 65) (cs := [.int .i64 36, .int .i64 kind, .int .i64 area, .int .i64 at_, .int .i64 ni]) (by repeat (with_reducible first | exact Blk.new' rfl | (refine Blk.new' ?_; simp; done) | apply Blk.set | apply Blk.alloc | assumption)) hm3 (by simp); have q11 := h11.cell; have l11 := h11.lt))
              generalize hT10 : wo.heap.size = T10 at *
              have hM3 : Mod [] wo w3 := Mod.trans (by repeat (with_reducible first | exact Mod.refl _ _ | refine Mod.drew ?_ | refine Mod.drewN ?_ _ | refine Mod.setCell ?_ _ (by first | (simp; done) | (simp; omega)) | refine Mod.alloc ?_ _ | refine Mod.trans ?_ (by assumption))) hm3
              have g5 := HB.out.2.mod hM3 (by simp)
              have G10 := Lib.hid h11
              have hT10 : T10 ≠ w.heap.size + 1 := by omega
              have hobw : w.heap.size + 1 < w3.heap.size := g5.lt
              go_loopw [13] (fun v wr => IRel w3 (w.heap.size + 1) (area.toNat - 1) 1 (bytesTo asked l t k) y at_ v wr) (fun v _ => 1 - (intOf v).toNat)
              case atStart =>
                refine ⟨0, by omega, rfl, Mod.refl _ _, ?_⟩
                rw [orBits, HY.out]
                exact g5
              case round =>
                obtain ⟨j, hj, rfl, hMj, hBj⟩ := hrel
                have q11 := (G10.out.mod hMj (by simpa using hT10)).cell
                have l11 := (G10.out.mod hMj (by simpa using hT10)).lt
                have lob := hBj.lt
                by_cases hjl : j < 1
                · have cj : wr.cell? ⟨w.heap.size + 1, area.toNat - 1, none⟩ = some (.int .u64 (orBits y at_ j)) := by
                    rw [hBj.cell]
                    simp [u64s, hlo, hidx]
                  have fj := hBj.frozen
                  have HBJ := Lib.hid (And.intro hMj hBj)
                  have hs1 : IntKind.i64.wrap (area - 1) = area - 1 := IntWalk.i64_in _ (by omega)
                  have hs2 : IntKind.i64.wrap (at_ + (j : Int)) = at_ + (j : Int) := IntWalk.i64_in _ (by omega)
                  have j1 : (0 : Int) ≤ area - 1 := by omega
                  have j2 : area - 1 < 4 := by omega
                  have j4 : area < 5 := by omega
                  have j5 : (0 : Int) ≤ at_ + (j : Int) := by omega
                  clear hMj hBj
                  go_wp2_with (fail)
                  go_still_tail 15, (by kernel_rfl)
                  change wpList _ _ _ _ _ wr.drew
                  go_wp2
                  exact ⟨irel_step HBJ.out.1 HBJ.out.2 hjl, by simp [intOf]; omega⟩
                · have hjn : j = 1 := by omega
                  have HBJ := Lib.hid (And.intro hMj (hjn ▸ hBj))
                  have hjn2 : ¬ ((j : Int) < (1 : Int)) := by omega
                  clear hMj hBj hjn
                  go_wp2_with (fail)
                  exact ⟨HFF.out w3 wr hM3 HBJ.out.1 HBJ.out.2, by simp [intOf]; omega⟩
            obtain ⟨⟨hs1, hs2⟩, hle⟩ := hsz h34 h35 h36
            have hln0 : lenP ⟨op, kind, area, at_, ni⟩ = sizeP kind := by simp [lenP, h34, h35, h36]
            obtain ⟨ss, hss⟩ : ∃ ss : Nat, sizeP kind = (ss : Int) := ⟨(sizeP kind).toNat, by omega⟩
            have hopr := right_op (HRT.out _ (HMEM.out))
            simp only at hopr
            rw [hss] at hz hln0 hs1 hs2 hle
            have HZ := Lib.hid hz
            clear hz hsz h59 hz1 hz2 hss
            have g34 : (op == 34) = false := eqF h34
            have g35 : (op == 35) = false := eqF h35
            have g36 : (op == 36) = false := eqF h36
            have hlt34 : op < 34 := by omega
            have hge : decide (34 ≤ op) = false := by simp; omega
            by_cases a3 : 3 ≤ op
            · by_cases a6 : op ≤ 6
              · have hst : storesP ⟨op, kind, area, at_, ni⟩ = true := decide_eq_true (show 3 ≤ op ∧ op ≤ 6 by omega)
                cases wb
                · skip
                  have has : asked ⟨op, kind, area, at_, ni⟩ = false := by rw [HQ.out]; simp [writesQ, readsQ, hst, hge]
                  have HAS := Lib.hid has
                  clear has hln0 hst hge
                  go_wp2_with ((go_at_call 48; refine (HZ.out _).mono ?_; rintro e w3 ⟨rfl, hm3⟩; have h11 := Blk.mod (b := wo.heap.size) (T := 65) (cs := [.int .i64 op, .int .i64 kind, .int .i64 area, .int .i64 at_, .int .i64 ni]) (by repeat (with_reducible first | exact Blk.new' rfl | (refine Blk.new' ?_; simp; done) | apply Blk.set | apply Blk.alloc | assumption)) hm3 (by simp); have q11 := h11.cell; have l11 := h11.lt))
                  refine ⟨HD.out _ (by repeat (with_reducible first | exact Mod.refl _ _ | refine Mod.drew ?_ | refine Mod.drewN ?_ _ | refine Mod.setCell ?_ _ (by first | (simp; done) | (simp; omega)) | refine Mod.alloc ?_ _ | refine Mod.trans ?_ (by assumption))) (by rw [HBN.out]; simp [putP, HAS.out]), by simp [intOf]; omega⟩
                · skip
                  have has : asked ⟨op, kind, area, at_, ni⟩ = true := by rw [HQ.out]; simp [writesQ, readsQ, hst, hge]
                  have HFF := Lib.hid (HF.out has ss hln0)
                  clear has hln0 hst hge
                  go_wp2_with ((go_at_call 48; refine (HZ.out _).mono ?_; rintro e w3 ⟨rfl, hm3⟩; have h11 := Blk.mod (b := wo.heap.size) (T := 65) (cs := [.int .i64 op, .int .i64 kind, .int .i64 area, .int .i64 at_, .int .i64 ni]) (by repeat (with_reducible first | exact Blk.new' rfl | (refine Blk.new' ?_; simp; done) | apply Blk.set | apply Blk.alloc | assumption)) hm3 (by simp); have q11 := h11.cell; have l11 := h11.lt))
                  generalize hT10 : wo.heap.size = T10 at *
                  have hM3 : Mod [] wo w3 := Mod.trans (by repeat (with_reducible first | exact Mod.refl _ _ | refine Mod.drew ?_ | refine Mod.drewN ?_ _ | refine Mod.setCell ?_ _ (by first | (simp; done) | (simp; omega)) | refine Mod.alloc ?_ _ | refine Mod.trans ?_ (by assumption))) hm3
                  have g5 := HB.out.2.mod hM3 (by simp)
                  have G10 := Lib.hid h11
                  have hT10 : T10 ≠ w.heap.size + 1 := by omega
                  have hobw : w.heap.size + 1 < w3.heap.size := g5.lt
                  go_loopw [13] (fun v wr => IRel w3 (w.heap.size + 1) (area.toNat - 1) ss (bytesTo asked l t k) y at_ v wr) (fun v _ => ss - (intOf v).toNat)
                  case atStart =>
                    refine ⟨0, by omega, rfl, Mod.refl _ _, ?_⟩
                    rw [orBits, HY.out]
                    exact g5
                  case round =>
                    obtain ⟨j, hj, rfl, hMj, hBj⟩ := hrel
                    have q11 := (G10.out.mod hMj (by simpa using hT10)).cell
                    have l11 := (G10.out.mod hMj (by simpa using hT10)).lt
                    have lob := hBj.lt
                    by_cases hjl : j < ss
                    · have cj : wr.cell? ⟨w.heap.size + 1, area.toNat - 1, none⟩ = some (.int .u64 (orBits y at_ j)) := by
                        rw [hBj.cell]
                        simp [u64s, hlo, hidx]
                      have fj := hBj.frozen
                      have HBJ := Lib.hid (And.intro hMj hBj)
                      have hs1 : IntKind.i64.wrap (area - 1) = area - 1 := IntWalk.i64_in _ (by omega)
                      have hs2 : IntKind.i64.wrap (at_ + (j : Int)) = at_ + (j : Int) := IntWalk.i64_in _ (by omega)
                      have j1 : (0 : Int) ≤ area - 1 := by omega
                      have j2 : area - 1 < 4 := by omega
                      have j4 : area < 5 := by omega
                      have j5 : (0 : Int) ≤ at_ + (j : Int) := by omega
                      clear hMj hBj
                      go_wp2_with (fail)
                      go_still_tail 15, (by kernel_rfl)
                      change wpList _ _ _ _ _ wr.drew
                      go_wp2
                      exact ⟨irel_step HBJ.out.1 HBJ.out.2 hjl, by simp [intOf]; omega⟩
                    · have hjn : j = ss := by omega
                      have HBJ := Lib.hid (And.intro hMj (hjn ▸ hBj))
                      have hjn2 : ¬ ((j : Int) < (ss : Int)) := by omega
                      clear hMj hBj hjn
                      go_wp2_with (fail)
                      exact ⟨HFF.out w3 wr hM3 HBJ.out.1 HBJ.out.2, by simp [intOf]; omega⟩
              · have hst : storesP ⟨op, kind, area, at_, ni⟩ = false := decide_eq_false (show ¬ (3 ≤ op ∧ op ≤ 6) by omega)
                have d6 : decide (op ≤ 6) = false := decide_eq_false a6
                cases wb
                · skip
                  have has : asked ⟨op, kind, area, at_, ni⟩ = true := by rw [HQ.out]; simp [writesQ, readsQ, hst, hge]
                  have HFF := Lib.hid (HF.out has ss hln0)
                  clear has hln0 hst hge
                  go_wp2_with ((go_at_call 48; refine (HZ.out _).mono ?_; rintro e w3 ⟨rfl, hm3⟩; have h11 := Blk.mod (b := wo.heap.size) (T := 65) (cs := [.int .i64 op, .int .i64 kind, .int .i64 area, .int .i64 at_, .int .i64 ni]) (by repeat (with_reducible first | exact Blk.new' rfl | (refine Blk.new' ?_; simp; done) | apply Blk.set | apply Blk.alloc | assumption)) hm3 (by simp); have q11 := h11.cell; have l11 := h11.lt))
                  generalize hT10 : wo.heap.size = T10 at *
                  have hM3 : Mod [] wo w3 := Mod.trans (by repeat (with_reducible first | exact Mod.refl _ _ | refine Mod.drew ?_ | refine Mod.drewN ?_ _ | refine Mod.setCell ?_ _ (by first | (simp; done) | (simp; omega)) | refine Mod.alloc ?_ _ | refine Mod.trans ?_ (by assumption))) hm3
                  have g5 := HB.out.2.mod hM3 (by simp)
                  have G10 := Lib.hid h11
                  have hT10 : T10 ≠ w.heap.size + 1 := by omega
                  have hobw : w.heap.size + 1 < w3.heap.size := g5.lt
                  go_loopw [13] (fun v wr => IRel w3 (w.heap.size + 1) (area.toNat - 1) ss (bytesTo asked l t k) y at_ v wr) (fun v _ => ss - (intOf v).toNat)
                  case atStart =>
                    refine ⟨0, by omega, rfl, Mod.refl _ _, ?_⟩
                    rw [orBits, HY.out]
                    exact g5
                  case round =>
                    obtain ⟨j, hj, rfl, hMj, hBj⟩ := hrel
                    have q11 := (G10.out.mod hMj (by simpa using hT10)).cell
                    have l11 := (G10.out.mod hMj (by simpa using hT10)).lt
                    have lob := hBj.lt
                    by_cases hjl : j < ss
                    · have cj : wr.cell? ⟨w.heap.size + 1, area.toNat - 1, none⟩ = some (.int .u64 (orBits y at_ j)) := by
                        rw [hBj.cell]
                        simp [u64s, hlo, hidx]
                      have fj := hBj.frozen
                      have HBJ := Lib.hid (And.intro hMj hBj)
                      have hs1 : IntKind.i64.wrap (area - 1) = area - 1 := IntWalk.i64_in _ (by omega)
                      have hs2 : IntKind.i64.wrap (at_ + (j : Int)) = at_ + (j : Int) := IntWalk.i64_in _ (by omega)
                      have j1 : (0 : Int) ≤ area - 1 := by omega
                      have j2 : area - 1 < 4 := by omega
                      have j4 : area < 5 := by omega
                      have j5 : (0 : Int) ≤ at_ + (j : Int) := by omega
                      clear hMj hBj
                      go_wp2_with (fail)
                      go_still_tail 15, (by kernel_rfl)
                      change wpList _ _ _ _ _ wr.drew
                      go_wp2
                      exact ⟨irel_step HBJ.out.1 HBJ.out.2 hjl, by simp [intOf]; omega⟩
                    · have hjn : j = ss := by omega
                      have HBJ := Lib.hid (And.intro hMj (hjn ▸ hBj))
                      have hjn2 : ¬ ((j : Int) < (ss : Int)) := by omega
                      clear hMj hBj hjn
                      go_wp2_with (fail)
                      exact ⟨HFF.out w3 wr hM3 HBJ.out.1 HBJ.out.2, by simp [intOf]; omega⟩
                · skip
                  have has : asked ⟨op, kind, area, at_, ni⟩ = false := by rw [HQ.out]; simp [writesQ, readsQ, hst, hge]
                  have HAS := Lib.hid has
                  clear has hln0 hst hge
                  go_wp2_with ((go_at_call 48; refine (HZ.out _).mono ?_; rintro e w3 ⟨rfl, hm3⟩; have h11 := Blk.mod (b := wo.heap.size) (T := 65) (cs := [.int .i64 op, .int .i64 kind, .int .i64 area, .int .i64 at_, .int .i64 ni]) (by repeat (with_reducible first | exact Blk.new' rfl | (refine Blk.new' ?_; simp; done) | apply Blk.set | apply Blk.alloc | assumption)) hm3 (by simp); have q11 := h11.cell; have l11 := h11.lt))
                  refine ⟨HD.out _ (by repeat (with_reducible first | exact Mod.refl _ _ | refine Mod.drew ?_ | refine Mod.drewN ?_ _ | refine Mod.setCell ?_ _ (by first | (simp; done) | (simp; omega)) | refine Mod.alloc ?_ _ | refine Mod.trans ?_ (by assumption))) (by rw [HBN.out]; simp [putP, HAS.out]), by simp [intOf]; omega⟩
            · have hst : storesP ⟨op, kind, area, at_, ni⟩ = false := decide_eq_false (show ¬ (3 ≤ op ∧ op ≤ 6) by omega)
              cases wb
              · skip
                have has : asked ⟨op, kind, area, at_, ni⟩ = true := by rw [HQ.out]; simp [writesQ, readsQ, hst, hge]
                have HFF := Lib.hid (HF.out has ss hln0)
                clear has hln0 hst hge
                go_wp2_with ((go_at_call 48; refine (HZ.out _).mono ?_; rintro e w3 ⟨rfl, hm3⟩; have h11 := Blk.mod (b := wo.heap.size) (T := 65) (cs := [.int .i64 op, .int .i64 kind, .int .i64 area, .int .i64 at_, .int .i64 ni]) (by repeat (with_reducible first | exact Blk.new' rfl | (refine Blk.new' ?_; simp; done) | apply Blk.set | apply Blk.alloc | assumption)) hm3 (by simp); have q11 := h11.cell; have l11 := h11.lt))
                generalize hT10 : wo.heap.size = T10 at *
                have hM3 : Mod [] wo w3 := Mod.trans (by repeat (with_reducible first | exact Mod.refl _ _ | refine Mod.drew ?_ | refine Mod.drewN ?_ _ | refine Mod.setCell ?_ _ (by first | (simp; done) | (simp; omega)) | refine Mod.alloc ?_ _ | refine Mod.trans ?_ (by assumption))) hm3
                have g5 := HB.out.2.mod hM3 (by simp)
                have G10 := Lib.hid h11
                have hT10 : T10 ≠ w.heap.size + 1 := by omega
                have hobw : w.heap.size + 1 < w3.heap.size := g5.lt
                go_loopw [13] (fun v wr => IRel w3 (w.heap.size + 1) (area.toNat - 1) ss (bytesTo asked l t k) y at_ v wr) (fun v _ => ss - (intOf v).toNat)
                case atStart =>
                  refine ⟨0, by omega, rfl, Mod.refl _ _, ?_⟩
                  rw [orBits, HY.out]
                  exact g5
                case round =>
                  obtain ⟨j, hj, rfl, hMj, hBj⟩ := hrel
                  have q11 := (G10.out.mod hMj (by simpa using hT10)).cell
                  have l11 := (G10.out.mod hMj (by simpa using hT10)).lt
                  have lob := hBj.lt
                  by_cases hjl : j < ss
                  · have cj : wr.cell? ⟨w.heap.size + 1, area.toNat - 1, none⟩ = some (.int .u64 (orBits y at_ j)) := by
                      rw [hBj.cell]
                      simp [u64s, hlo, hidx]
                    have fj := hBj.frozen
                    have HBJ := Lib.hid (And.intro hMj hBj)
                    have hs1 : IntKind.i64.wrap (area - 1) = area - 1 := IntWalk.i64_in _ (by omega)
                    have hs2 : IntKind.i64.wrap (at_ + (j : Int)) = at_ + (j : Int) := IntWalk.i64_in _ (by omega)
                    have j1 : (0 : Int) ≤ area - 1 := by omega
                    have j2 : area - 1 < 4 := by omega
                    have j4 : area < 5 := by omega
                    have j5 : (0 : Int) ≤ at_ + (j : Int) := by omega
                    clear hMj hBj
                    go_wp2_with (fail)
                    go_still_tail 15, (by kernel_rfl)
                    change wpList _ _ _ _ _ wr.drew
                    go_wp2
                    exact ⟨irel_step HBJ.out.1 HBJ.out.2 hjl, by simp [intOf]; omega⟩
                  · have hjn : j = ss := by omega
                    have HBJ := Lib.hid (And.intro hMj (hjn ▸ hBj))
                    have hjn2 : ¬ ((j : Int) < (ss : Int)) := by omega
                    clear hMj hBj hjn
                    go_wp2_with (fail)
                    exact ⟨HFF.out w3 wr hM3 HBJ.out.1 HBJ.out.2, by simp [intOf]; omega⟩
              · skip
                have has : asked ⟨op, kind, area, at_, ni⟩ = false := by rw [HQ.out]; simp [writesQ, readsQ, hst, hge]
                have HAS := Lib.hid has
                clear has hln0 hst hge
                go_wp2_with ((go_at_call 48; refine (HZ.out _).mono ?_; rintro e w3 ⟨rfl, hm3⟩; have h11 := Blk.mod (b := wo.heap.size) (T := 65) (cs := [.int .i64 op, .int .i64 kind, .int .i64 area, .int .i64 at_, .int .i64 ni]) (by repeat (with_reducible first | exact Blk.new' rfl | (refine Blk.new' ?_; simp; done) | apply Blk.set | apply Blk.alloc | assumption)) hm3 (by simp); have q11 := h11.cell; have l11 := h11.lt))
                refine ⟨HD.out _ (by repeat (with_reducible first | exact Mod.refl _ _ | refine Mod.drew ?_ | refine Mod.drewN ?_ _ | refine Mod.setCell ?_ _ (by first | (simp; done) | (simp; omega)) | refine Mod.alloc ?_ _ | refine Mod.trans ?_ (by assumption))) (by rw [HBN.out]; simp [putP, HAS.out]), by simp [intOf]; omega⟩
      · have hkn : k = n := by omega
        subst hkn
        obtain ⟨o0, o1, o2, o3, ho⟩ := four (bytesTo_length asked l t k)
        have hb4 : Blk wo w.heap.size 69 [.int .u64 0, .int .u64 0, .int .u64 0, .int .u64 0] := HB.out.1
        have hb5 : Blk wo (w.heap.size + 1) 69 [.int .u64 o0, .int .u64 o1, .int .u64 o2, .int .u64 o3] := by
          have := HB.out.2
          rw [ho] at this
          exact this
        have q4 := hb4.cell
        have q5 := hb5.cell
        have f4 := hb4.frozen
        have HO := Lib.hid ho
        clear hb4 hb5 ho hT
        go_wp2_with (fail)
        go_wp2_with (fail)
        refine bodyPost_ret (v := .agg #[.int .u64 o0, .int .u64 o1, .int .u64 o2, .int .u64 o3]) (by simp [results, Try.results34, go_sem, *]) rfl ⟨by first | (rw [HO.out]; rfl) | (rw [ht, hn, HO.out]; rfl), ?_⟩
        have hMe := HTM.out.2
        repeat (with_reducible first | exact Mod.refl _ _ | refine Mod.drew ?_ | refine Mod.drewN ?_ _ | refine Mod.setCell ?_ _ (by first | (simp; done) | (simp; omega)) | refine Mod.alloc ?_ _ | refine Mod.trans ?_ (by assumption))
  · have e0 : bytesP asked l = [0, 0, 0, 0] := by simp [bytesP, he]
    have hne : ((allP l).1 != 0) = true := by rw [bne_iff_ne]; exact he
    rw [e0]
    clear e0 he hcells hok
    go_enter Try.func34, Try.ntmps34
    go_wp2_with (go_at_call 30; refine (HA.out _ (by repeat (with_reducible first | exact Mod.refl _ _ | refine Mod.drew ?_ | refine Mod.drewN ?_ _ | refine Mod.setCell ?_ _ (by first | (simp; done) | (simp; omega)) | refine Mod.alloc ?_ _ | refine Mod.trans ?_ (by assumption)))).mono ?_; rintro e w1 ⟨tv, rfl, hm, _⟩; have hb4 := Blk.mod (b := w.heap.size) (T := 69) (cs := [.int .u64 0, .int .u64 0, .int .u64 0, .int .u64 0]) (by repeat (with_reducible first | exact Blk.new' rfl | (refine Blk.new' ?_; simp; done) | apply Blk.set | apply Blk.alloc | assumption)) hm (by simp); have hb5 := Blk.mod (b := w.heap.size + 1) (T := 69) (cs := [.int .u64 0, .int .u64 0, .int .u64 0, .int .u64 0]) (by repeat (with_reducible first | exact Blk.new' rfl | (refine Blk.new' ?_; simp; done) | apply Blk.set | apply Blk.alloc | assumption)) hm (by simp); have q4 := hb4.cell; have q5 := hb5.cell; have f4 := hb4.frozen)
    refine bodyPost_ret (v := .agg #[.int .u64 0, .int .u64 0, .int .u64 0, .int .u64 0]) (by simp [results, Try.results34, go_sem, *]) rfl ⟨rfl, ?_⟩
    repeat (with_reducible first | exact Mod.refl _ _ | refine Mod.drew ?_ | refine Mod.drewN ?_ _ | refine Mod.setCell ?_ _ (by first | (simp; done) | (simp; omega)) | refine Mod.alloc ?_ _ | refine Mod.trans ?_ (by assumption))
end Go.Proofs.Ytnehookocnijpaa
/-! The walk of the law -/
namespace Go.Proofs.Ytnehookocnijpaa
open Go.RowKit

set_option maxRecDepth 100000 in
set_option maxHeartbeats 8000000 in
theorem v_bytes52 (v : Value) (l : List Ins) (w : World) (h : RSn w 5 encI v l) (hok : ∀ i ∈ l, i.Ok) : Calls Try.prog 49 #[v, .func (.func 52) #[] #[]] w fun e w' => e = .returned (.agg (u64s (bytesP readsQ l)).toArray) ∧ Mod [] w w' := by
  have hvw := fun (i : Ins) (w : World) => v_reads1 i w
  have HA := Lib.hid (fun w1 (m : Mod [] w w1) => v_all v l w1 (h.mod m) hok)
  obtain ⟨ao, cap, rfl, hlc, hcm, hcells⟩ := h
  have HW := Lib.hid hvw
  clear hvw
  generalize hF : readsQ = asked at *
  clear hF
  by_cases he : (allP l).1 = 0
  · have hlen := allP_len he
    have hl200 : l.length ≤ 200 := by
      unfold allP at he
      split at he
      · simp at he
      · omega
    have e0 : bytesP asked l = bytesTo asked l (allP l).2.2 l.length := by simp [bytesP, he]
    rw [e0]
    clear e0
    have HRT := Lib.hid (allP_right he)
    have HE := Lib.hid he
    clear he
    have HC := Lib.hid hcells
    clear hcells
    have HOK := Lib.hid hok
    clear hok
    go_enter Try.func49, Try.ntmps49
    go_wp2_with (go_at_call 41; refine (HA.out _ (by repeat (with_reducible first | exact Mod.refl _ _ | refine Mod.drew ?_ | refine Mod.drewN ?_ _ | refine Mod.setCell ?_ _ (by first | (simp; done) | (simp; omega)) | refine Mod.alloc ?_ _ | refine Mod.trans ?_ (by assumption)))).mono ?_; rintro e w1 ⟨tv, rfl, hK, hm⟩; rw [HE.out]; obtain ⟨tb, ps, rfl, hT⟩ := hK HE.out; have htb := hT.blk.lt; have hb4 := Blk.mod (b := w.heap.size) (T := 69) (cs := [.int .u64 0, .int .u64 0, .int .u64 0, .int .u64 0]) (by repeat (with_reducible first | exact Blk.new' rfl | (refine Blk.new' ?_; simp; done) | apply Blk.set | apply Blk.alloc | assumption)) hm (by simp); have hb5 := Blk.mod (b := w.heap.size + 1) (T := 69) (cs := [.int .u64 0, .int .u64 0, .int .u64 0, .int .u64 0]) (by repeat (with_reducible first | exact Blk.new' rfl | (refine Blk.new' ?_; simp; done) | apply Blk.set | apply Blk.alloc | assumption)) hm (by simp))
    generalize ht : (allP l).2.2 = t at *
    have HT0 := Lib.hid hT
    have hM0 : Mod [] w w1 := Mod.trans (by repeat (with_reducible first | exact Mod.refl _ _ | refine Mod.drew ?_ | refine Mod.drewN ?_ _ | refine Mod.setCell ?_ _ (by first | (simp; done) | (simp; omega)) | refine Mod.alloc ?_ _ | refine Mod.trans ?_ (by assumption))) hm
    clear hK hT hm
    have HN : Hid (l.length = l.length) := Lib.hid rfl
    generalize hn : l.length = n at *
    go_loopw [23] (fun v23 wr => BRel asked w tb t ps l n v23 wr) (fun v _ => n - (intOf v).toNat)
    case atStart => exact ⟨0, Nat.zero_le _, rfl, hb4, hb5, HT0.out, hM0⟩
    case round hrel =>
      obtain ⟨k, hk, rfl, hB4, hB5, hT, hM⟩ := hrel
      clear hb4 hb5
      have HB := Lib.hid (And.intro hB4 hB5)
      have HTM := Lib.hid (And.intro hT hM)
      have htb2 := hT.blk.lt
      have hb4l := hB4.lt
      have hb5l := hB5.lt
      clear hB4 hB5
      by_cases hlt : k < n
      · obtain ⟨i, hx⟩ : ∃ x, l[k]? = some x := ⟨_, List.getElem?_eq_getElem (by omega)⟩
        obtain ⟨x, hxt⟩ : ∃ x, t[k]? = some x := ⟨_, List.getElem?_eq_getElem (by omega)⟩
        obtain ⟨b, off, rfl, hb, hcs⟩ := HC.out (by intro h; rw [h] at hx; simp at hx)
        have hiok := HOK.out _ (List.mem_of_getElem? hx)
        have HMEM := Lib.hid (List.mem_of_getElem? hx)
        have hbn : bytesTo asked l t (k + 1) = putP asked (bytesTo asked l t k) x i := by
          rw [bytesTo, hx]
          simp [List.getD, hxt]
        have hbl : b < wr.heap.size := Nat.lt_of_lt_of_le hb hM.size
        obtain ⟨op, kind, area, at_, ni⟩ := i
        have c0 := hM.cell (hcs k _ hx 0 (by omega)) (by simp)
        have c1 := hM.cell (hcs k _ hx 1 (by omega)) (by simp)
        have c2 := hM.cell (hcs k _ hx 2 (by omega)) (by simp)
        have c3 := hM.cell (hcs k _ hx 3 (by omega)) (by simp)
        have c4 := hM.cell (hcs k _ hx 4 (by omega)) (by simp)
        simp only [encI, Nat.add_zero, ← Nat.add_assoc] at c0 c1 c2 c3 c4
        have HX := Lib.hid hxt
        have HBN := Lib.hid hbn
        have HI := Lib.hid hiok
        clear hx hbn hiok hcs hb
        have DONE : ∀ (W' : World), Mod [] wr W' → bytesTo asked l t (k + 1) = bytesTo asked l t k → BRel asked w tb t ps l n (.int .i64 ((k : Int) + 1)) W' := fun W' m e =>
          ⟨k + 1, by omega, by simp, HB.out.1.mod m (by simp), by rw [e]; exact HB.out.2.mod m (by simp), HTM.out.1.keep m, HTM.out.2.trans m⟩
        have HD := Lib.hid DONE
        clear DONE
        cases x with
        | none =>
          have qk : wr.cell? ⟨tb, k, none⟩ = some (.pointer none) := by rw [hT.blk.cell, List.getElem?_map, hT.non k HX.out]; rfl
          clear hT hxt
          go_wp2_with (fail)
          refine ⟨HD.out _ (by repeat (with_reducible first | exact Mod.refl _ _ | refine Mod.drew ?_ | refine Mod.drewN ?_ _ | refine Mod.setCell ?_ _ (by first | (simp; done) | (simp; omega)) | refine Mod.alloc ?_ _ | refine Mod.trans ?_ (by assumption))) (by rw [HBN.out]; simp [putP]), by simp [intOf]; omega⟩
        | some a =>
          obtain ⟨pb, hpb, hA⟩ := hT.som k a HX.out
          have qk : wr.cell? ⟨tb, k, none⟩ = some (.pointer (some ⟨pb, 0, none⟩)) := by rw [hT.blk.cell, List.getElem?_map, hpb]; rfl
          clear hT hxt hpb hA
          by_cases ha : area = 0
          · subst ha
            go_wp2_with (fail)
            refine ⟨HD.out _ (by repeat (with_reducible first | exact Mod.refl _ _ | refine Mod.drew ?_ | refine Mod.drewN ?_ _ | refine Mod.setCell ?_ _ (by first | (simp; done) | (simp; omega)) | refine Mod.alloc ?_ _ | refine Mod.trans ?_ (by assumption))) (by rw [HBN.out]; simp [putP]), by simp [intOf]; omega⟩
          · have ha' : (area == 0) = false := by rw [beq_eq_false_iff_ne]; exact ha
            have HC50 := Lib.hid (HW.out ⟨op, kind, area, at_, ni⟩)
            unfold Ins.v at HC50
            cases hask : asked ⟨op, kind, area, at_, ni⟩
            · have HAS := Lib.hid hask
              clear hask
              go_wp2_with (go_at_call 52; refine (HC50.out _).mono ?_; rintro e w2 ⟨rfl, hm2⟩; rw [HAS.out])
              refine ⟨HD.out _ (by repeat (with_reducible first | exact Mod.refl _ _ | refine Mod.drew ?_ | refine Mod.drewN ?_ _ | refine Mod.setCell ?_ _ (by first | (simp; done) | (simp; omega)) | refine Mod.alloc ?_ _ | refine Mod.trans ?_ (by assumption))) (by rw [HBN.out]; simp [putP, HAS.out]), by simp [intOf]; omega⟩
            · have HAS := Lib.hid hask
              clear hask
              have hlo := bytesTo_length asked l t k
              obtain ⟨⟨ha1, ha2⟩, ⟨ht1, ht2⟩, hsz, h59⟩ := right_area (HRT.out _ (HMEM.out)) (by simpa using ha)
              simp only at ha1 ha2 ht1 ht2 hsz h59
              obtain ⟨y, hy⟩ : ∃ y, (bytesTo asked l t k)[area.toNat - 1]? = some y := ⟨_, List.getElem?_eq_getElem (by omega)⟩
              have hput : ∀ (W3 : World), Mod [] wr W3 → ∀ z : Value, z = .int .u64 (bits .or .u64 y (maskP ⟨op, kind, area, at_, ni⟩)) → BRel asked w tb t ps l n (.int .i64 ((k : Int) + 1)) (W3.drew.setCell ⟨w.heap.size + 1, area.toNat - 1, none⟩ z) := by
                intro W3 m z hz
                subst hz
                have e1 : bytesTo asked l t (k + 1) = (bytesTo asked l t k).set (area.toNat - 1) (bits .or .u64 y (maskP ⟨op, kind, area, at_, ni⟩)) := by
                  rw [HBN.out]
                  unfold putP
                  have e2 : (area - 1).toNat = area.toNat - 1 := by omega
                  rw [if_neg (by simp [ha, HAS.out])]
                  simp only [e2, List.getD, hy, Option.getD_some]
                have b5 := (HB.out.2.mod m (by simp))
                have mm : Mod [w.heap.size + 1] W3 (W3.drew.setCell ⟨w.heap.size + 1, area.toNat - 1, none⟩ (.int .u64 (bits .or .u64 y (maskP ⟨op, kind, area, at_, ni⟩)))) := Mod.setCell ((Mod.refl _ _).drew) _ (.inl (by simp))
                refine ⟨k + 1, by omega, by simp, ((HB.out.1.mod m (by simp)).mod mm (by simp)), ?_, (HTM.out.1.keep m).other mm (fun x hx => ?_), ?_⟩
                · rw [e1]
                  have := (b5.drew).set (area.toNat - 1) (.int .u64 (bits .or .u64 y (maskP ⟨op, kind, area, at_, ni⟩)))
                  unfold u64s at this ⊢
                  rw [List.map_set]
                  exact this
                · simp at hx
                  subst hx
                  exact ⟨69, _, b5, by decide, by decide, by decide⟩
                · exact Mod.then (HTM.out.2.trans m) mm (fun x hx => by simp at hx; subst hx; exact .inr (by omega))
              have HP := Lib.hid hput
              have HY := Lib.hid hy
              have hz := fun w => iec_size kind w
              have hz1 := (sizeP_range kind).1
              have hz2 := (sizeP_range kind).2
              clear hput hy
              by_cases h34 : op = 34
              · subst h34
                have hmk := mask34 (i := ⟨34, kind, area, at_, ni⟩) (.inl rfl)
                simp only at hmk
                have HMK := Lib.hid hmk
                have HZ := Lib.hid hz
                clear hz hmk
                generalize sizeP kind = s at *
                clear hsz h59
                go_wp2_with ((first | (go_at_call 52; refine (HC50.out _).mono ?_; rintro e w2 ⟨rfl, hm2⟩; rw [HAS.out]; have h10 := Blk.mod (b := wr.heap.size) (T := 65) (cs := [.int .i64 34, .int .i64 kind, .int .i64 area, .int .i64 at_, .int .i64 ni]) (by repeat (with_reducible first | exact Blk.new' rfl | (refine Blk.new' ?_; simp; done) | apply Blk.set | apply Blk.alloc | assumption)) hm2 (by simp); have q10 := h10.cell; have l10 := h10.lt; have hm20 : Mod [] wr w2 := Mod.trans (by repeat (with_reducible first | exact Mod.refl _ _ | refine Mod.drew ?_ | refine Mod.drewN ?_ _ | refine Mod.setCell ?_ _ (by first | (simp; done) | (simp; omega)) | refine Mod.alloc ?_ _ | refine Mod.trans ?_ (by assumption))) hm2) | (go_at_call 62; refine (HZ.out _).mono ?_; rintro e w3 ⟨rfl, hm3⟩; have h11 := h10.mod hm3 (by simp); have q11 := h11.cell; have l11 := h11.lt; have hmm : Mod [] wr w3 := hm20.trans hm3; have g5 := (HB.out.2.mod hmm (by simp)); have g5c : w3.cell? ⟨w.heap.size + 1, area.toNat - 1, none⟩ = some (.int .u64 y) := (by rw [g5.cell]; simp [u64s, HY.out]); have g5f := g5.frozen; have l5 := g5.lt)))
                generalize wr.heap.size = T10 at *
                have hs1 : IntKind.i64.wrap (area - 1) = area - 1 := IntWalk.i64_in _ (by omega)
                have j1 : (0 : Int) ≤ area - 1 := by omega
                have j2 : area - 1 < 4 := by omega
                have j4 : area < 5 := by omega
                go_still_tail 13, (by kernel_rfl)
                change wpList _ _ _ _ _ w3.drew
                go_wp2
                refine ⟨HP.out _ hmm _ (by rw [HMK.out]), by simp [intOf]; omega⟩
              by_cases h35 : op = 35
              · subst h35
                have hmk := mask34 (i := ⟨35, kind, area, at_, ni⟩) (.inr rfl)
                simp only at hmk
                have HMK := Lib.hid hmk
                have HZ := Lib.hid hz
                clear hz hmk
                generalize sizeP kind = s at *
                clear hsz h59
                go_wp2_with ((first | (go_at_call 52; refine (HC50.out _).mono ?_; rintro e w2 ⟨rfl, hm2⟩; rw [HAS.out]; have h10 := Blk.mod (b := wr.heap.size) (T := 65) (cs := [.int .i64 35, .int .i64 kind, .int .i64 area, .int .i64 at_, .int .i64 ni]) (by repeat (with_reducible first | exact Blk.new' rfl | (refine Blk.new' ?_; simp; done) | apply Blk.set | apply Blk.alloc | assumption)) hm2 (by simp); have q10 := h10.cell; have l10 := h10.lt; have hm20 : Mod [] wr w2 := Mod.trans (by repeat (with_reducible first | exact Mod.refl _ _ | refine Mod.drew ?_ | refine Mod.drewN ?_ _ | refine Mod.setCell ?_ _ (by first | (simp; done) | (simp; omega)) | refine Mod.alloc ?_ _ | refine Mod.trans ?_ (by assumption))) hm2) | (go_at_call 62; refine (HZ.out _).mono ?_; rintro e w3 ⟨rfl, hm3⟩; have h11 := h10.mod hm3 (by simp); have q11 := h11.cell; have l11 := h11.lt; have hmm : Mod [] wr w3 := hm20.trans hm3; have g5 := (HB.out.2.mod hmm (by simp)); have g5c : w3.cell? ⟨w.heap.size + 1, area.toNat - 1, none⟩ = some (.int .u64 y) := (by rw [g5.cell]; simp [u64s, HY.out]); have g5f := g5.frozen; have l5 := g5.lt)))
                generalize wr.heap.size = T10 at *
                have hs1 : IntKind.i64.wrap (area - 1) = area - 1 := IntWalk.i64_in _ (by omega)
                have j1 : (0 : Int) ≤ area - 1 := by omega
                have j2 : area - 1 < 4 := by omega
                have j4 : area < 5 := by omega
                go_still_tail 13, (by kernel_rfl)
                change wpList _ _ _ _ _ w3.drew
                go_wp2
                refine ⟨HP.out _ hmm _ (by rw [HMK.out]), by simp [intOf]; omega⟩
              by_cases h36 : op = 36
              · subst h36
                have hmk := mask36 (i := ⟨36, kind, area, at_, ni⟩) rfl
                simp only at hmk
                have HMK := Lib.hid hmk
                have HZ := Lib.hid hz
                clear hz hmk
                generalize sizeP kind = s at *
                clear hsz h59
                go_wp2_with ((first | (go_at_call 52; refine (HC50.out _).mono ?_; rintro e w2 ⟨rfl, hm2⟩; rw [HAS.out]; have h10 := Blk.mod (b := wr.heap.size) (T := 65) (cs := [.int .i64 36, .int .i64 kind, .int .i64 area, .int .i64 at_, .int .i64 ni]) (by repeat (with_reducible first | exact Blk.new' rfl | (refine Blk.new' ?_; simp; done) | apply Blk.set | apply Blk.alloc | assumption)) hm2 (by simp); have q10 := h10.cell; have l10 := h10.lt; have hm20 : Mod [] wr w2 := Mod.trans (by repeat (with_reducible first | exact Mod.refl _ _ | refine Mod.drew ?_ | refine Mod.drewN ?_ _ | refine Mod.setCell ?_ _ (by first | (simp; done) | (simp; omega)) | refine Mod.alloc ?_ _ | refine Mod.trans ?_ (by assumption))) hm2) | (go_at_call 62; refine (HZ.out _).mono ?_; rintro e w3 ⟨rfl, hm3⟩; have h11 := h10.mod hm3 (by simp); have q11 := h11.cell; have l11 := h11.lt; have hmm : Mod [] wr w3 := hm20.trans hm3; have g5 := (HB.out.2.mod hmm (by simp)); have g5c : w3.cell? ⟨w.heap.size + 1, area.toNat - 1, none⟩ = some (.int .u64 y) := (by rw [g5.cell]; simp [u64s, HY.out]); have g5f := g5.frozen; have l5 := g5.lt)))
                generalize wr.heap.size = T10 at *
                have hs1 : IntKind.i64.wrap (area - 1) = area - 1 := IntWalk.i64_in _ (by omega)
                have j1 : (0 : Int) ≤ area - 1 := by omega
                have j2 : area - 1 < 4 := by omega
                have j4 : area < 5 := by omega
                go_still_tail 13, (by kernel_rfl)
                change wpList _ _ _ _ _ w3.drew
                go_wp2
                refine ⟨HP.out _ hmm _ (by rw [HMK.out]), by simp [intOf]; omega⟩
              · have g34 : (op == 34) = false := by rw [beq_eq_false_iff_ne]; exact h34
                have g35 : (op == 35) = false := by rw [beq_eq_false_iff_ne]; exact h35
                have g36 : (op == 36) = false := by rw [beq_eq_false_iff_ne]; exact h36
                obtain ⟨⟨hs1, hs2⟩, _⟩ := hsz h34 h35 h36
                have hmk := masks (i := ⟨op, kind, area, at_, ni⟩) h34 h35 h36
                simp only at hmk
                have HMK := Lib.hid hmk
                have HZ := Lib.hid hz
                clear hz hmk
                generalize sizeP kind = s at *
                clear hsz h59
                go_wp2_with ((first | (go_at_call 52; refine (HC50.out _).mono ?_; rintro e w2 ⟨rfl, hm2⟩; rw [HAS.out]; have h10 := Blk.mod (b := wr.heap.size) (T := 65) (cs := [.int .i64 op, .int .i64 kind, .int .i64 area, .int .i64 at_, .int .i64 ni]) (by repeat (with_reducible first | exact Blk.new' rfl | (refine Blk.new' ?_; simp; done) | apply Blk.set | apply Blk.alloc | assumption)) hm2 (by simp); have q10 := h10.cell; have l10 := h10.lt; have hm20 : Mod [] wr w2 := Mod.trans (by repeat (with_reducible first | exact Mod.refl _ _ | refine Mod.drew ?_ | refine Mod.drewN ?_ _ | refine Mod.setCell ?_ _ (by first | (simp; done) | (simp; omega)) | refine Mod.alloc ?_ _ | refine Mod.trans ?_ (by assumption))) hm2) | (go_at_call 62; refine (HZ.out _).mono ?_; rintro e w3 ⟨rfl, hm3⟩; have h11 := h10.mod hm3 (by simp); have q11 := h11.cell; have l11 := h11.lt; have hmm : Mod [] wr w3 := hm20.trans hm3; have g5 := (HB.out.2.mod hmm (by simp)); have g5c : w3.cell? ⟨w.heap.size + 1, area.toNat - 1, none⟩ = some (.int .u64 y) := (by rw [g5.cell]; simp [u64s, HY.out]); have g5f := g5.frozen; have l5 := g5.lt)))
                generalize wr.heap.size = T10 at *
                have hs1 : IntKind.i64.wrap (area - 1) = area - 1 := IntWalk.i64_in _ (by omega)
                have j1 : (0 : Int) ≤ area - 1 := by omega
                have j2 : area - 1 < 4 := by omega
                have j4 : area < 5 := by omega
                go_still_tail 13, (by kernel_rfl)
                change wpList _ _ _ _ _ w3.drew
                go_wp2
                refine ⟨HP.out _ hmm _ (by rw [HMK.out]), by simp [intOf]; omega⟩
      · have hkn : k = n := by omega
        subst hkn
        obtain ⟨o0, o1, o2, o3, ho⟩ := four (bytesTo_length asked l t k)
        have hb4 : Blk wr w.heap.size 69 [.int .u64 0, .int .u64 0, .int .u64 0, .int .u64 0] := HB.out.1
        have hb5 : Blk wr (w.heap.size + 1) 69 [.int .u64 o0, .int .u64 o1, .int .u64 o2, .int .u64 o3] := by
          have := HB.out.2
          rw [ho] at this
          exact this
        have q4 := hb4.cell
        have q5 := hb5.cell
        have f4 := hb4.frozen
        have HO := Lib.hid ho
        clear hT hb4 hb5 ho
        go_wp2_with (fail)
        go_wp2_with (fail)
        refine bodyPost_ret (v := .agg #[.int .u64 o0, .int .u64 o1, .int .u64 o2, .int .u64 o3]) (by simp [results, Try.results49, go_sem, *]) rfl ⟨by rw [HO.out]; rfl, ?_⟩
        have hMe := HTM.out.2
        repeat (with_reducible first | exact Mod.refl _ _ | refine Mod.drew ?_ | refine Mod.drewN ?_ _ | refine Mod.setCell ?_ _ (by first | (simp; done) | (simp; omega)) | refine Mod.alloc ?_ _ | refine Mod.trans ?_ (by assumption))
  · have e0 : bytesP asked l = [0, 0, 0, 0] := by simp [bytesP, he]
    have hne : ((allP l).1 != 0) = true := by rw [bne_iff_ne]; exact he
    rw [e0]
    clear e0 he hcells hok
    go_enter Try.func49, Try.ntmps49
    go_wp2_with (go_at_call 41; refine (HA.out _ (by repeat (with_reducible first | exact Mod.refl _ _ | refine Mod.drew ?_ | refine Mod.drewN ?_ _ | refine Mod.setCell ?_ _ (by first | (simp; done) | (simp; omega)) | refine Mod.alloc ?_ _ | refine Mod.trans ?_ (by assumption)))).mono ?_; rintro e w1 ⟨tv, rfl, hK, hm⟩; have hb4 := Blk.mod (b := w.heap.size) (T := 69) (cs := [.int .u64 0, .int .u64 0, .int .u64 0, .int .u64 0]) (by repeat (with_reducible first | exact Blk.new' rfl | (refine Blk.new' ?_; simp; done) | apply Blk.set | apply Blk.alloc | assumption)) hm (by simp); have hb5 := Blk.mod (b := w.heap.size + 1) (T := 69) (cs := [.int .u64 0, .int .u64 0, .int .u64 0, .int .u64 0]) (by repeat (with_reducible first | exact Blk.new' rfl | (refine Blk.new' ?_; simp; done) | apply Blk.set | apply Blk.alloc | assumption)) hm (by simp); have q4 := hb4.cell; have q5 := hb5.cell; have f4 := hb4.frozen)
    refine bodyPost_ret (v := .agg #[.int .u64 0, .int .u64 0, .int .u64 0, .int .u64 0]) (by simp [results, Try.results49, go_sem, *]) rfl ⟨rfl, ?_⟩
    repeat (with_reducible first | exact Mod.refl _ _ | refine Mod.drew ?_ | refine Mod.drewN ?_ _ | refine Mod.setCell ?_ _ (by first | (simp; done) | (simp; omega)) | refine Mod.alloc ?_ _ | refine Mod.trans ?_ (by assumption))
set_option maxRecDepth 100000 in
set_option maxHeartbeats 1600000 in
theorem v_readsf (v : Value) (l : List Ins) (w : World) (h : RSn w 5 encI v l) (hok : ∀ i ∈ l, i.Ok) : Calls Try.prog 35 #[v] w fun e w' => e = .returned (.agg (u64s (bytesP readsQ l)).toArray) ∧ Mod [] w w' := by
  have HA := Lib.hid (fun w1 (m : Mod [] w w1) => v_bytes52 v l w1 (h.mod m) hok)
  have hlen : (bytesP readsQ l).length = 4 := by
    unfold bytesP
    split
    · exact bytesTo_length _ _ _ _
    · rfl
  obtain ⟨o0, o1, o2, o3, ho⟩ := four hlen
  have HO := Lib.hid ho
  clear h hok hlen ho
  go_enter Try.func35, Try.ntmps35
  go_wp2_with (go_at_call 49; refine (HA.out _ (by repeat (with_reducible first | exact Mod.refl _ _ | refine Mod.drew ?_ | refine Mod.drewN ?_ _ | refine Mod.setCell ?_ _ (by first | (simp; done) | (simp; omega)) | refine Mod.alloc ?_ _ | refine Mod.trans ?_ (by assumption)))).mono ?_; rintro e w1 ⟨rfl, hm⟩; rw [HO.out]; have hb := Blk.mod (b := w.heap.size) (T := 69) (cs := [.int .u64 0, .int .u64 0, .int .u64 0, .int .u64 0]) (by repeat (with_reducible first | exact Blk.new' rfl | (refine Blk.new' ?_; simp; done) | apply Blk.set | apply Blk.alloc | assumption)) hm (by simp); have qb := hb.cell; have fb := hb.frozen; have lb := hb.lt; simp only [u64s, List.map_cons, List.map_nil])
  refine bodyPost_ret (v := .agg #[.int .u64 o0, .int .u64 o1, .int .u64 o2, .int .u64 o3]) (by simp [results, Try.results35, go_sem, *]) rfl ⟨by rw [HO.out]; rfl, ?_⟩
  repeat (with_reducible first | exact Mod.refl _ _ | refine Mod.drew ?_ | refine Mod.drewN ?_ _ | refine Mod.setCell ?_ _ (by first | (simp; done) | (simp; omega)) | refine Mod.alloc ?_ _ | refine Mod.trans ?_ (by assumption))

set_option maxRecDepth 100000 in
set_option maxHeartbeats 1600000 in
theorem bytes_walk (v : Value) (l : List Ins) (w : World) (h : RSn w 5 encI v l) (hok : ∀ i ∈ l, i.Ok) : Calls Try.prog 7 #[v] w fun e w' => e = .returned (.bool true) ∧ Mod [] w w' := by
  have HW := Lib.hid (fun w1 (m : Mod [] w w1) => v_writes v l w1 (h.mod m) hok)
  have HR := Lib.hid (fun w1 (m : Mod [] w w1) => v_readsf v l w1 (h.mod m) hok)
  have HBW := Lib.hid (fun w1 (m : Mod [] w w1) => r_bytes true writesQ rfl v l w1 (h.mod m) hok)
  have HBR := Lib.hid (fun w1 (m : Mod [] w w1) => r_bytes false readsQ rfl v l w1 (h.mod m) hok)
  have hl : ∀ asked, (bytesP asked l).length = 4 := by
    intro asked
    unfold bytesP
    split
    · exact bytesTo_length _ _ _ _
    · rfl
  obtain ⟨o0, o1, o2, o3, ho⟩ := four (hl writesQ)
  obtain ⟨p0, p1, p2, p3, hp⟩ := four (hl readsQ)
  have HO := Lib.hid ho
  have HP := Lib.hid hp
  obtain ⟨ao, cap, rfl, hlc, hmx, _⟩ := h
  clear hok ho hp hl
  have heq := eq4
  have hgd := eq4G
  by_cases h210 : 210 < l.length
  · have h2 : (210 : Int) < (l.length : Int) := by omega
    go_enter Try.func7, Try.ntmps7
    go_wp2_with (go_at_call 28; refine (v_awake _).mono ?_; rintro e w1 ⟨rfl, hm1⟩)
    go_ret
    exact ⟨rfl, hm1⟩
  have h2 : ¬ ((210 : Int) < (l.length : Int)) := by omega
  go_enter Try.func7, Try.ntmps7
  go_wp2_with (go_at_call 28; refine (v_awake _).mono ?_; rintro e w1 ⟨rfl, hm1⟩)
  refine (HW.out _ hm1).mono ?_
  rintro e w2 ⟨rfl, hm2⟩
  rw [HO.out]
  simp only [u64s, List.map_cons, List.map_nil]
  have hm12 := hm1.trans hm2
  go_wp2_with (fail)
  refine (HBW.out _ hm12).mono ?_
  rintro e w3 ⟨rfl, hm3⟩
  rw [HO.out]
  simp only [u64s, List.map_cons, List.map_nil]
  have hm13 := hm12.trans hm3
  go_wp2_with (fail)
  refine (HR.out _ hm13).mono ?_
  rintro e w4 ⟨rfl, hm4⟩
  rw [HP.out]
  simp only [u64s, List.map_cons, List.map_nil]
  have hm14 := hm13.trans hm4
  go_wp2_with (fail)
  refine (HBR.out _ hm14).mono ?_
  rintro e w5 ⟨rfl, hm5⟩
  rw [HP.out]
  simp only [u64s, List.map_cons, List.map_nil]
  have hm15 := hm14.trans hm5
  go_wp2_with (fail)
  go_ret
  exact ⟨by simp, hm15⟩
end Go.Proofs.Ytnehookocnijpaa
namespace Go.Proofs.Ytnehookocnijpaa
open Go.RowKit Go.ChangeShapes Go.WideShapes
instance : Inhabited Ins := ⟨⟨0, 0, 0, 0, 0⟩⟩
theorem cells65 : Try.prog.cellsOf 65 = 5 := by kernel_rfl
theorem cells3 : Try.prog.cellsOf 3 = 1 := by kernel_rfl
theorem cells2 : Try.prog.cellsOf 2 = 1 := by kernel_rfl
theorem RSl.toN {α : Type} {w : World} {m : Nat} {enc : α → List Value} {v : Value} {l : List α} (h : RSl w m enc v l) : RSn w m enc v l := by
  obtain ⟨ao, cap, h1, h2, h3, h4⟩ := h
  exact ⟨ao, cap, h1, h2, Nat.le_trans h2 h3, h4⟩
theorem trod_ins {H : Type} {enc : TypeId × Value → H} {w : World} {base : Nat} {spare : Nat → Bool} {held : Bool} (n : Nat) (cs : List Value) (y : DataW H × List MemPlace)
    (h : DataW.trod enc Try.prog w base spare held n 65 cs = some y) : ∃ x : Ins, cs = encI x ∧ x.Ok := by
  obtain ⟨c0, c1, c2, c3, c4, rfl⟩ := list5 (trod_len Try.underlying65 h 5 cells65)
  obtain ⟨n0, y0, h0⟩ := trod_field Try.underlying65 h 0 _ rfl 1 cells3
  obtain ⟨n1, y1, h1⟩ := trod_field Try.underlying65 h 1 _ rfl 1 cells3
  obtain ⟨n2, y2, h2⟩ := trod_field Try.underlying65 h 2 _ rfl 1 cells3
  obtain ⟨n3, y3, h3⟩ := trod_field Try.underlying65 h 3 _ rfl 1 cells3
  obtain ⟨n4, y4, h4⟩ := trod_field Try.underlying65 h 4 _ rfl 1 cells2
  obtain ⟨a, e0, _, wa⟩ := DataW.trod_int Try.underlying3 h0
  obtain ⟨b, e1, _, wb⟩ := DataW.trod_int Try.underlying3 h1
  obtain ⟨c, e2, _, wc⟩ := DataW.trod_int Try.underlying3 h2
  obtain ⟨d, e3, _, wd⟩ := DataW.trod_int Try.underlying3 h3
  obtain ⟨e, e4, _, we⟩ := DataW.trod_int Try.underlying2 h4
  simp at e0 e1 e2 e3 e4
  subst e0 e1 e2 e3 e4
  exact ⟨⟨a, b, c, d, e⟩, rfl, ⟨bounds_i64 wa, bounds_i64 wb, bounds_i64 wc, bounds_i64 wd, bounds_i64 we⟩⟩
end Go.Proofs.Ytnehookocnijpaa
namespace Go.Proofs.Ytnehookocnijpaa
open Go.ChangeShapes Go.WideShapes Go.ChangeAt Go.RowKit
open Go.ChangeMaps (open_string shut_string)
namespace VerifyBytesLaw
theorem own : ownKnob Try.prog.godebug = none := by kernel_rfl
theorem laidOut : laidOutB Try.prog = true := by kernel_rfl

set_option maxRecDepth 100000 in
theorem lifted (os : Os) (started : os.Started) (H : Type) (enc : TypeId × Value → H) :
    ReturnsInHanded {} Try.checked os 7 .any (Rows.verifyBytesSpec.pre6 enc Try.prog Try.f7 Rows.verifyBytesRow.domain false) (Rows.verifyBytesSpec.post enc Try.prog Try.f7 false true false false) := by
  refine returnsInHanded_of_change (C := Try.checked) own started (by kernel_rfl) Try.func7
    (ChangeSpec.witness6 (enc := enc) (C := Try.checked) false ⟨#[], #[.slice none 0 0], []⟩ 8 (by kernel_rfl) (by kernel_rfl) (by kernel_rfl) (by kernel_rfl)) ?_
  intro W base args ds gs before hval0 hW hcnd _
  have hval : ∀ (j : Nat) t v, Try.f7.params[j]? = some t → args[j]? = some v → Value.okWide Try.prog W .any base t v := hval0
  have hW' := hW
  obtain ⟨p, q, hA0, hV, rfl, hfz, hnd⟩ := hW
  have hA : DataW.TrodAll enc Try.prog W 0 (fun _ => true) true Try.f7.params.toList args.toList ds p := hA0
  rw [Try.params7] at hA hval
  obtain ⟨v0, vs0, d0, ds0, p0, q0, hargs, rfl, rfl, h0, r0⟩ := trodAll_cons hA
  obtain ⟨rfl, rfl, rfl⟩ := trodAll_nil r0
  obtain rfl : args = #[v0] := by cases args; simp_all
  obtain ⟨rfl, rfl⟩ := trodVars_none hV
  have k0 := h0
  have lt0 : ∀ x ∈ p0, x.block < W.heap.size := by obtain ⟨m, hm⟩ := k0; exact DataW.trod_lt m _ _ _ hm
  obtain ⟨b0, len0, cap0, rfl⟩ := okWide_slice Try.underlying53 (hval 0 53 v0 rfl rfl)
  obtain ⟨l0, hl0, hok0⟩ : ∃ l : List (Ins), RSl W 5 encI (.slice b0 len0 cap0) l ∧ ∀ x ∈ l, Ins.Ok x := by
    obtain ⟨fuel, hf⟩ := h0
    obtain ⟨v, l, hcs, hl, hok⟩ := open_rsl (enc := encI) (Ok := Ins.Ok) Try.underlying53 cells65 (by omega) trod_ins hf
    simp [Value.cells] at hcs
    rw [← hcs] at hl
    exact ⟨l, hl, hok⟩
  clear hA0 hval0
  refine (bytes_walk _ l0 W hl0.toN hok0).mono fun e W' ⟨he, hm⟩ => ?_
  have bel := hm.toBelow
  subst he
  exact ⟨_, rfl, _, _, _, [], _, [], hW', trodAll_mk1 (shut_bool Try.underlying4 _), (trodAll_cons_mk (Below.trod laidOut (by kernel_rfl) (of_decide_eq_true (by kernel_rfl)) k0 bel lt0) trodAll_mk0), rfl, bel.frame _, fun h => by cases h⟩
end VerifyBytesLaw

theorem verifyBytes_holds : Rows.VerifyBytesSaid :=
  OpenClaim.holds_of_wide 7 Try.f7 rfl rfl rfl rfl rfl rfl rfl ⟨rfl, rfl, rfl, rfl, rfl⟩ rfl rfl rfl rfl rfl (by kernel_rfl) Try.func7 (by kernel_rfl)
    (of_decide_eq_true (by kernel_rfl)) (by unfold Func.isWrapper; first | (rw [if_pos (by decide +kernel)]; kernel_rfl) | (rw [if_neg (by decide +kernel)]; exact ⟨rfl, rfl⟩))
    (fun os started H enc _ => VerifyBytesLaw.lifted os started H enc)
end Go.Proofs.Ytnehookocnijpaa
