/- verify: which bytes are touched, all instructions. -/
import Derived.Test.YtnehookocnijpaaVCheck
import Derived.Test.YtnehookocnijpaaVRefJ
set_option linter.unusedVariables false
set_option linter.unusedSimpArgs false
namespace Go.Proofs.Ytnehookocnijpaa
open Go.RowKit

def checkF (l : List Ins) : Option (Int × Int) := if l.all Ins.okB = true then some ((allP l).1, ((allP l).2.1 : Int)) else none
theorem checkF_some {l : List Ins} (h : ∀ i ∈ l, i.Ok) : checkF l = some ((allP l).1, ((allP l).2.1 : Int)) := by
  unfold checkF
  rw [if_pos (List.all_eq_true.2 fun i hi => Ins.okB_iff.2 (h i hi))]
theorem checkF_calls {l : List Ins} {r1 r2 : Int} {w : World} {v : Value} (h : checkF l = some (r1, r2)) (hv : RSn w 5 encI v l) : Calls Try.prog 29 #[v] w fun e w' => e = .returned (.tuple #[.int .i64 r1, .int .i64 r2]) ∧ Below w.heap.size w w' := by
  unfold checkF at h
  split at h
  · rename_i hok
    simp only [Option.some.injEq, Prod.mk.injEq] at h
    obtain ⟨rfl, rfl⟩ := h
    exact (v_check v l w hv (fun i hi => Ins.okB_iff.1 (List.all_eq_true.1 hok i hi))).mono fun e w' h => ⟨h.1, h.2.toBelow⟩
  · cases h
def storesP (i : Ins) : Bool := decide (3 ≤ i.op ∧ i.op ≤ 6)
def writesQ (i : Ins) : Bool := storesP i || decide (34 ≤ i.op)
def readsQ (i : Ins) : Bool := !storesP i

set_option maxRecDepth 100000 in
set_option maxHeartbeats 1600000 in
theorem v_stores (i : Ins) (w : World) : Calls Try.prog 51 #[i.v] w fun e w' => e = .returned (.bool (storesP i)) ∧ Mod [] w w' := by
  obtain ⟨op, kind, area, at_, n⟩ := i
  unfold Ins.v
  by_cases h1 : 3 ≤ op
  · by_cases h2 : op ≤ 6
    all_goals
      go_enter Try.func51, Try.ntmps51
      go_wp2_with (fail)
      go_ret
      refine ⟨by (show Ending.returned (.bool _) = _; congr 2; simp [storesP, h1, h2]), ?_⟩
      repeat (with_reducible first | exact Mod.refl _ _ | refine Mod.drew ?_ | refine Mod.drewN ?_ _ | refine Mod.setCell ?_ _ (by first | (simp; done) | (simp; omega)) | refine Mod.alloc ?_ _ | refine Mod.trans ?_ (by assumption))
  · go_enter Try.func51, Try.ntmps51
    go_wp2_with (fail)
    go_ret
    refine ⟨by (show Ending.returned (.bool _) = _; congr 2; simp [storesP]; omega), ?_⟩
    repeat (with_reducible first | exact Mod.refl _ _ | refine Mod.drew ?_ | refine Mod.drewN ?_ _ | refine Mod.setCell ?_ _ (by first | (simp; done) | (simp; omega)) | refine Mod.alloc ?_ _ | refine Mod.trans ?_ (by assumption))

set_option maxRecDepth 100000 in
set_option maxHeartbeats 1600000 in
theorem v_writes1 (i : Ins) (w : World) : Calls Try.prog 50 #[i.v] w fun e w' => e = .returned (.bool (writesQ i)) ∧ Mod [] w w' := by
  have hs := fun w => v_stores i w
  obtain ⟨op, kind, area, at_, n⟩ := i
  unfold Ins.v writesQ at *
  generalize storesP ⟨op, kind, area, at_, n⟩ = b at *
  cases b
  all_goals
    have HS := Lib.hid hs
    clear hs
    go_enter Try.func50, Try.ntmps50
    go_wp2_with (go_at_call 51; refine (HS.out _).mono ?_; rintro e w1 ⟨rfl, hm⟩; have hb := Blk.mod (b := w.heap.size) (T := 65) (cs := [.int .i64 op, .int .i64 kind, .int .i64 area, .int .i64 at_, .int .i64 n]) (by repeat (with_reducible first | exact Blk.new' rfl | (refine Blk.new' ?_; simp; done) | apply Blk.set | apply Blk.alloc | assumption)) hm (by simp); have qb := hb.cell)
    go_ret
    refine ⟨by (show Ending.returned (.bool _) = _; congr 2 <;> simp), ?_⟩
    repeat (with_reducible first | exact Mod.refl _ _ | refine Mod.drew ?_ | refine Mod.drewN ?_ _ | refine Mod.setCell ?_ _ (by first | (simp; done) | (simp; omega)) | refine Mod.alloc ?_ _ | refine Mod.trans ?_ (by assumption))

set_option maxRecDepth 100000 in
set_option maxHeartbeats 1600000 in
theorem v_reads1 (i : Ins) (w : World) : Calls Try.prog 52 #[i.v] w fun e w' => e = .returned (.bool (readsQ i)) ∧ Mod [] w w' := by
  have hs := fun w => v_stores i w
  obtain ⟨op, kind, area, at_, n⟩ := i
  unfold Ins.v readsQ at *
  generalize storesP ⟨op, kind, area, at_, n⟩ = b at *
  have HS := Lib.hid hs
  clear hs
  go_enter Try.func52, Try.ntmps52
  go_wp2_with (go_at_call 51; refine (HS.out _).mono ?_; rintro e w1 ⟨rfl, hm⟩)
  go_ret
  refine ⟨rfl, ?_⟩
  repeat (with_reducible first | exact Mod.refl _ _ | refine Mod.drew ?_ | refine Mod.drewN ?_ _ | refine Mod.setCell ?_ _ (by first | (simp; done) | (simp; omega)) | refine Mod.alloc ?_ _ | refine Mod.trans ?_ (by assumption))

def u64s (l : List Int) : List Value := l.map (Value.int .u64)
def lenP (i : Ins) : Int := if i.op = 34 ∨ i.op = 35 then 5 else if i.op = 36 then 1 else sizeP i.kind
def maskP (i : Ins) : Int := IntKind.u64.wrap (IntKind.u64.wrap (IntKind.u64.wrap (2 ^ (lenP i).toNat) - 1) * 2 ^ i.at_.toNat)
theorem mask34 {i : Ins} (h : i.op = 34 ∨ i.op = 35) : maskP i = IntKind.u64.wrap (31 * 2 ^ i.at_.toNat) := by
  have e : lenP i = 5 := by simp [lenP, h]
  unfold maskP
  rw [e]
  rfl
theorem mask36 {i : Ins} (h : i.op = 36) : maskP i = IntKind.u64.wrap (2 ^ i.at_.toNat) := by
  have e : lenP i = 1 := by simp [lenP, h]
  unfold maskP
  rw [e, show IntKind.u64.wrap (IntKind.u64.wrap (2 ^ (1 : Int).toNat) - 1) = 1 from rfl, Int.one_mul]
theorem masks {i : Ins} (h4 : i.op ≠ 34) (h5 : i.op ≠ 35) (h6 : i.op ≠ 36) : maskP i = IntKind.u64.wrap (IntKind.u64.wrap (IntKind.u64.wrap (2 ^ (sizeP i.kind).toNat) - 1) * 2 ^ i.at_.toNat) := by
  have e : lenP i = sizeP i.kind := by simp [lenP, h4, h5, h6]
  unfold maskP
  rw [e]
def putP (asked : Ins → Bool) (o : List Int) (x : Option Ah) (i : Ins) : List Int :=
  if x = none ∨ i.area = 0 ∨ asked i = false then o else o.set (i.area - 1).toNat (bits .or .u64 (o.getD (i.area - 1).toNat 0) (maskP i))
def bytesTo (asked : Ins → Bool) (l : List Ins) (t : Tab) : Nat → List Int
  | 0 => [0, 0, 0, 0]
  | k + 1 => match l[k]? with | none => bytesTo asked l t k | some i => putP asked (bytesTo asked l t k) (t.getD k none) i
def bytesP (asked : Ins → Bool) (l : List Ins) : List Int := if (allP l).1 = 0 then bytesTo asked l (allP l).2.2 l.length else [0, 0, 0, 0]
theorem putP_length (asked : Ins → Bool) (o : List Int) (x : Option Ah) (i : Ins) : (putP asked o x i).length = o.length := by
  unfold putP
  split
  · rfl
  · simp
theorem bytesTo_length (asked : Ins → Bool) (l : List Ins) (t : Tab) : ∀ k, (bytesTo asked l t k).length = 4
  | 0 => rfl
  | k + 1 => by
    rw [bytesTo]
    split
    · exact bytesTo_length asked l t k
    · rw [putP_length]; exact bytesTo_length asked l t k
theorem four {o : List Int} (h : o.length = 4) : ∃ a b c d, o = [a, b, c, d] := by
  match o, h with | [a, b, c, d], _ => exact ⟨a, b, c, d, rfl⟩
theorem goP_right {n : Nat} : ∀ (l : List Ins) (k : Nat) (t : Tab), (goP n l k t).1 = 0 → ∀ i ∈ l, rightP i = true
  | [], _, _, _, _, h => by cases h
  | i :: is, k, t, h0, j, hj => by
    unfold goP at h0
    split at h0
    · rename_i hne
      exact absurd h0 hne
    · rename_i hne
      rcases List.mem_cons.1 hj with rfl | hj
      · cases hr : rightP j
        · exfalso
          apply hne
          simp [stepP, hr]
        · rfl
      · exact goP_right is _ _ h0 j hj
theorem allP_right {l : List Ins} (h : (allP l).1 = 0) : ∀ i ∈ l, rightP i = true := by
  unfold allP at h
  split at h
  · simp at h
  · exact goP_right l _ _ h
theorem right_area {i : Ins} (h : rightP i = true) (ha : i.area ≠ 0) : (1 ≤ i.area ∧ i.area ≤ 4) ∧ (0 ≤ i.at_ ∧ i.at_ ≤ 63) ∧ (i.op ≠ 34 → i.op ≠ 35 → i.op ≠ 36 → (1 ≤ sizeP i.kind ∧ sizeP i.kind ≤ 4) ∧ i.at_ ≤ 64 - sizeP i.kind) ∧ (i.op = 34 ∨ i.op = 35 → i.at_ ≤ 59) := by
  have hz := sizeP_range i.kind
  have c7 : i.op = 34 ∨ i.op = 35 → classP i.op = 7 := by rintro (h | h) <;> rw [h] <;> rfl
  have c8 : i.op = 36 → classP i.op = 8 := by intro h; rw [h]; rfl
  unfold rightP standsP at h
  split at h
  · rename_i h1
    simp only [decide_eq_true_eq] at h
    have n1 : ¬ (i.op = 34 ∨ i.op = 35) := fun h => by have := c7 h; omega
    refine ⟨by omega, by omega, by omega, by omega⟩
  split at h
  · simp only [decide_eq_true_eq] at h
    have n1 : ¬ (i.op = 34 ∨ i.op = 35) := fun h => by have := c7 h; omega
    refine ⟨by omega, by omega, by omega, by omega⟩
  split at h
  · simp only [decide_eq_true_eq] at h; omega
  split at h
  · simp only [decide_eq_true_eq] at h; omega
  split at h
  · simp only [decide_eq_true_eq] at h; omega
  split at h
  · simp only [Bool.and_eq_true, decide_eq_true_eq] at h; omega
  split at h
  · rename_i h7
    simp only [decide_eq_true_eq] at h
    have n7 : i.op = 34 ∨ i.op = 35 := by
      unfold classP at h7
      revert h7
      repeat' split
      all_goals omega
    refine ⟨by omega, by omega, by omega, by omega⟩
  split at h
  · rename_i h8
    simp only [decide_eq_true_eq] at h
    have n8 : i.op = 36 := by
      unfold classP at h8
      revert h8
      repeat' split
      all_goals omega
    refine ⟨by omega, by omega, by omega, by omega⟩
  · cases h
def BRel (asked : Ins → Bool) (w : World) (tb : Nat) (t : Tab) (ps : List (Option Nat)) (l : List Ins) (n : Nat) (v23 : Value) (wr : World) : Prop :=
  ∃ (k : Nat), k ≤ n ∧ v23 = .int .i64 (k : Int) ∧ Blk wr w.heap.size 69 (u64s [0, 0, 0, 0]) ∧ Blk wr (w.heap.size + 1) 69 (u64s (bytesTo asked l t k)) ∧ TabAt wr tb t ps ∧ Mod [] w wr

set_option maxRecDepth 100000 in
set_option maxHeartbeats 8000000 in
theorem v_bytes50 (v : Value) (l : List Ins) (w : World) (h : RSn w 5 encI v l) (hok : ∀ i ∈ l, i.Ok) : Calls Try.prog 49 #[v, .func (.func 50) #[] #[]] w fun e w' => e = .returned (.agg (u64s (bytesP writesQ l)).toArray) ∧ Mod [] w w' := by
  have hvw := fun (i : Ins) (w : World) => v_writes1 i w
  have HA := Lib.hid (fun w1 (m : Mod [] w w1) => v_all v l w1 (h.mod m) hok)
  obtain ⟨ao, cap, rfl, hlc, hcm, hcells⟩ := h
  have HW := Lib.hid hvw
  clear hvw
  generalize hF : writesQ = asked at *
  clear hF
  by_cases he : (allP l).1 = 0
  · have hlen := allP_len he
    have hl200 : l.length ≤ 200 := by
      unfold allP at he
      split at he
      · simp at he
      · omega
    have e0 : bytesP asked l = bytesTo asked l (allP l).2.2 l.length := by simp [bytesP, he]
    rw [e0]
    clear e0
    have HRT := Lib.hid (allP_right he)
    have HE := Lib.hid he
    clear he
    have HC := Lib.hid hcells
    clear hcells
    have HOK := Lib.hid hok
    clear hok
    go_enter Try.func49, Try.ntmps49
    go_wp2_with (go_at_call 41; refine (HA.out _ (by repeat (with_reducible first | exact Mod.refl _ _ | refine Mod.drew ?_ | refine Mod.drewN ?_ _ | refine Mod.setCell ?_ _ (by first | (simp; done) | (simp; omega)) | refine Mod.alloc ?_ _ | refine Mod.trans ?_ (by assumption)))).mono ?_; rintro e w1 ⟨tv, rfl, hK, hm⟩; rw [HE.out]; obtain ⟨tb, ps, rfl, hT⟩ := hK HE.out; have htb := hT.blk.lt; have hb4 := Blk.mod (b := w.heap.size) (T := 69) (cs := [.int .u64 0, .int .u64 0, .int .u64 0, .int .u64 0]) (by repeat (with_reducible first | exact Blk.new' rfl | (refine Blk.new' ?_; simp; done) | apply Blk.set | apply Blk.alloc | assumption)) hm (by simp); have hb5 := Blk.mod (b := w.heap.size + 1) (T := 69) (cs := [.int .u64 0, .int .u64 0, .int .u64 0, .int .u64 0]) (by repeat (with_reducible first | exact Blk.new' rfl | (refine Blk.new' ?_; simp; done) | apply Blk.set | apply Blk.alloc | assumption)) hm (by simp))
    generalize ht : (allP l).2.2 = t at *
    have HT0 := Lib.hid hT
    have hM0 : Mod [] w w1 := Mod.trans (by repeat (with_reducible first | exact Mod.refl _ _ | refine Mod.drew ?_ | refine Mod.drewN ?_ _ | refine Mod.setCell ?_ _ (by first | (simp; done) | (simp; omega)) | refine Mod.alloc ?_ _ | refine Mod.trans ?_ (by assumption))) hm
    clear hK hT hm
    have HN : Hid (l.length = l.length) := Lib.hid rfl
    generalize hn : l.length = n at *
    go_loopw [23] (fun v23 wr => BRel asked w tb t ps l n v23 wr) (fun v _ => n - (intOf v).toNat)
    case atStart => exact ⟨0, Nat.zero_le _, rfl, hb4, hb5, HT0.out, hM0⟩
    case round hrel =>
      obtain ⟨k, hk, rfl, hB4, hB5, hT, hM⟩ := hrel
      clear hb4 hb5
      have HB := Lib.hid (And.intro hB4 hB5)
      have HTM := Lib.hid (And.intro hT hM)
      have htb2 := hT.blk.lt
      have hb4l := hB4.lt
      have hb5l := hB5.lt
      clear hB4 hB5
      by_cases hlt : k < n
      · obtain ⟨i, hx⟩ : ∃ x, l[k]? = some x := ⟨_, List.getElem?_eq_getElem (by omega)⟩
        obtain ⟨x, hxt⟩ : ∃ x, t[k]? = some x := ⟨_, List.getElem?_eq_getElem (by omega)⟩
        obtain ⟨b, off, rfl, hb, hcs⟩ := HC.out (by intro h; rw [h] at hx; simp at hx)
        have hiok := HOK.out _ (List.mem_of_getElem? hx)
        have HMEM := Lib.hid (List.mem_of_getElem? hx)
        have hbn : bytesTo asked l t (k + 1) = putP asked (bytesTo asked l t k) x i := by
          rw [bytesTo, hx]
          simp [List.getD, hxt]
        have hbl : b < wr.heap.size := Nat.lt_of_lt_of_le hb hM.size
        obtain ⟨op, kind, area, at_, ni⟩ := i
        have c0 := hM.cell (hcs k _ hx 0 (by omega)) (by simp)
        have c1 := hM.cell (hcs k _ hx 1 (by omega)) (by simp)
        have c2 := hM.cell (hcs k _ hx 2 (by omega)) (by simp)
        have c3 := hM.cell (hcs k _ hx 3 (by omega)) (by simp)
        have c4 := hM.cell (hcs k _ hx 4 (by omega)) (by simp)
        simp only [encI, Nat.add_zero, ← Nat.add_assoc] at c0 c1 c2 c3 c4
        have HX := Lib.hid hxt
        have HBN := Lib.hid hbn
        have HI := Lib.hid hiok
        clear hx hbn hiok hcs hb
        have DONE : ∀ (W' : World), Mod [] wr W' → bytesTo asked l t (k + 1) = bytesTo asked l t k → BRel asked w tb t ps l n (.int .i64 ((k : Int) + 1)) W' := fun W' m e =>
          ⟨k + 1, by omega, by simp, HB.out.1.mod m (by simp), by rw [e]; exact HB.out.2.mod m (by simp), HTM.out.1.keep m, HTM.out.2.trans m⟩
        have HD := Lib.hid DONE
        clear DONE
        cases x with
        | none =>
          have qk : wr.cell? ⟨tb, k, none⟩ = some (.pointer none) := by rw [hT.blk.cell, List.getElem?_map, hT.non k HX.out]; rfl
          clear hT hxt
          go_wp2_with (fail)
          refine ⟨HD.out _ (by repeat (with_reducible first | exact Mod.refl _ _ | refine Mod.drew ?_ | refine Mod.drewN ?_ _ | refine Mod.setCell ?_ _ (by first | (simp; done) | (simp; omega)) | refine Mod.alloc ?_ _ | refine Mod.trans ?_ (by assumption))) (by rw [HBN.out]; simp [putP]), by simp [intOf]; omega⟩
        | some a =>
          obtain ⟨pb, hpb, hA⟩ := hT.som k a HX.out
          have qk : wr.cell? ⟨tb, k, none⟩ = some (.pointer (some ⟨pb, 0, none⟩)) := by rw [hT.blk.cell, List.getElem?_map, hpb]; rfl
          clear hT hxt hpb hA
          by_cases ha : area = 0
          · subst ha
            go_wp2_with (fail)
            refine ⟨HD.out _ (by repeat (with_reducible first | exact Mod.refl _ _ | refine Mod.drew ?_ | refine Mod.drewN ?_ _ | refine Mod.setCell ?_ _ (by first | (simp; done) | (simp; omega)) | refine Mod.alloc ?_ _ | refine Mod.trans ?_ (by assumption))) (by rw [HBN.out]; simp [putP]), by simp [intOf]; omega⟩
          · have ha' : (area == 0) = false := by rw [beq_eq_false_iff_ne]; exact ha
            have HC50 := Lib.hid (HW.out ⟨op, kind, area, at_, ni⟩)
            unfold Ins.v at HC50
            cases hask : asked ⟨op, kind, area, at_, ni⟩
            · have HAS := Lib.hid hask
              clear hask
              go_wp2_with (go_at_call 50; refine (HC50.out _).mono ?_; rintro e w2 ⟨rfl, hm2⟩; rw [HAS.out])
              refine ⟨HD.out _ (by repeat (with_reducible first | exact Mod.refl _ _ | refine Mod.drew ?_ | refine Mod.drewN ?_ _ | refine Mod.setCell ?_ _ (by first | (simp; done) | (simp; omega)) | refine Mod.alloc ?_ _ | refine Mod.trans ?_ (by assumption))) (by rw [HBN.out]; simp [putP, HAS.out]), by simp [intOf]; omega⟩
            · have HAS := Lib.hid hask
              clear hask
              have hlo := bytesTo_length asked l t k
              obtain ⟨⟨ha1, ha2⟩, ⟨ht1, ht2⟩, hsz, h59⟩ := right_area (HRT.out _ (HMEM.out)) (by simpa using ha)
              simp only at ha1 ha2 ht1 ht2 hsz h59
              obtain ⟨y, hy⟩ : ∃ y, (bytesTo asked l t k)[area.toNat - 1]? = some y := ⟨_, List.getElem?_eq_getElem (by omega)⟩
              have hput : ∀ (W3 : World), Mod [] wr W3 → ∀ z : Value, z = .int .u64 (bits .or .u64 y (maskP ⟨op, kind, area, at_, ni⟩)) → BRel asked w tb t ps l n (.int .i64 ((k : Int) + 1)) (W3.drew.setCell ⟨w.heap.size + 1, area.toNat - 1, none⟩ z) := by
                intro W3 m z hz
                subst hz
                have e1 : bytesTo asked l t (k + 1) = (bytesTo asked l t k).set (area.toNat - 1) (bits .or .u64 y (maskP ⟨op, kind, area, at_, ni⟩)) := by
                  rw [HBN.out]
                  unfold putP
                  have e2 : (area - 1).toNat = area.toNat - 1 := by omega
                  rw [if_neg (by simp [ha, HAS.out])]
                  simp only [e2, List.getD, hy, Option.getD_some]
                have b5 := (HB.out.2.mod m (by simp))
                have mm : Mod [w.heap.size + 1] W3 (W3.drew.setCell ⟨w.heap.size + 1, area.toNat - 1, none⟩ (.int .u64 (bits .or .u64 y (maskP ⟨op, kind, area, at_, ni⟩)))) := Mod.setCell ((Mod.refl _ _).drew) _ (.inl (by simp))
                refine ⟨k + 1, by omega, by simp, ((HB.out.1.mod m (by simp)).mod mm (by simp)), ?_, (HTM.out.1.keep m).other mm (fun x hx => ?_), ?_⟩
                · rw [e1]
                  have := (b5.drew).set (area.toNat - 1) (.int .u64 (bits .or .u64 y (maskP ⟨op, kind, area, at_, ni⟩)))
                  unfold u64s at this ⊢
                  rw [List.map_set]
                  exact this
                · simp at hx
                  subst hx
                  exact ⟨69, _, b5, by decide, by decide, by decide⟩
                · exact Mod.then (HTM.out.2.trans m) mm (fun x hx => by simp at hx; subst hx; exact .inr (by omega))
              have HP := Lib.hid hput
              have HY := Lib.hid hy
              have hz := fun w => iec_size kind w
              have hz1 := (sizeP_range kind).1
              have hz2 := (sizeP_range kind).2
              clear hput hy
              by_cases h34 : op = 34
              · subst h34
                have hmk := mask34 (i := ⟨34, kind, area, at_, ni⟩) (.inl rfl)
                simp only at hmk
                have HMK := Lib.hid hmk
                have HZ := Lib.hid hz
                clear hz hmk
                generalize sizeP kind = s at *
                clear hsz h59
                go_wp2_with ((first | (go_at_call 50; refine (HC50.out _).mono ?_; rintro e w2 ⟨rfl, hm2⟩; rw [HAS.out]; have h10 := Blk.mod (b := wr.heap.size) (T := 65) (cs := [.int .i64 34, .int .i64 kind, .int .i64 area, .int .i64 at_, .int .i64 ni]) (by repeat (with_reducible first | exact Blk.new' rfl | (refine Blk.new' ?_; simp; done) | apply Blk.set | apply Blk.alloc | assumption)) hm2 (by simp); have q10 := h10.cell; have l10 := h10.lt; have hm20 : Mod [] wr w2 := Mod.trans (by repeat (with_reducible first | exact Mod.refl _ _ | refine Mod.drew ?_ | refine Mod.drewN ?_ _ | refine Mod.setCell ?_ _ (by first | (simp; done) | (simp; omega)) | refine Mod.alloc ?_ _ | refine Mod.trans ?_ (by assumption))) hm2) | (go_at_call 62; refine (HZ.out _).mono ?_; rintro e w3 ⟨rfl, hm3⟩; have h11 := h10.mod hm3 (by simp); have q11 := h11.cell; have l11 := h11.lt; have hmm : Mod [] wr w3 := hm20.trans hm3; have g5 := (HB.out.2.mod hmm (by simp)); have g5c : w3.cell? ⟨w.heap.size + 1, area.toNat - 1, none⟩ = some (.int .u64 y) := (by rw [g5.cell]; simp [u64s, HY.out]); have g5f := g5.frozen; have l5 := g5.lt)))
                generalize wr.heap.size = T10 at *
                have hs1 : IntKind.i64.wrap (area - 1) = area - 1 := IntWalk.i64_in _ (by omega)
                have j1 : (0 : Int) ≤ area - 1 := by omega
                have j2 : area - 1 < 4 := by omega
                have j4 : area < 5 := by omega
                go_still_tail 13, (by kernel_rfl)
                change wpList _ _ _ _ _ w3.drew
                go_wp2
                refine ⟨HP.out _ hmm _ (by rw [HMK.out]), by simp [intOf]; omega⟩
              by_cases h35 : op = 35
              · subst h35
                have hmk := mask34 (i := ⟨35, kind, area, at_, ni⟩) (.inr rfl)
                simp only at hmk
                have HMK := Lib.hid hmk
                have HZ := Lib.hid hz
                clear hz hmk
                generalize sizeP kind = s at *
                clear hsz h59
                go_wp2_with ((first | (go_at_call 50; refine (HC50.out _).mono ?_; rintro e w2 ⟨rfl, hm2⟩; rw [HAS.out]; have h10 := Blk.mod (b := wr.heap.size) (T := 65) (cs := [.int .i64 35, .int .i64 kind, .int .i64 area, .int .i64 at_, .int .i64 ni]) (by repeat (with_reducible first | exact Blk.new' rfl | (refine Blk.new' ?_; simp; done) | apply Blk.set | apply Blk.alloc | assumption)) hm2 (by simp); have q10 := h10.cell; have l10 := h10.lt; have hm20 : Mod [] wr w2 := Mod.trans (by repeat (with_reducible first | exact Mod.refl _ _ | refine Mod.drew ?_ | refine Mod.drewN ?_ _ | refine Mod.setCell ?_ _ (by first | (simp; done) | (simp; omega)) | refine Mod.alloc ?_ _ | refine Mod.trans ?_ (by assumption))) hm2) | (go_at_call 62; refine (HZ.out _).mono ?_; rintro e w3 ⟨rfl, hm3⟩; have h11 := h10.mod hm3 (by simp); have q11 := h11.cell; have l11 := h11.lt; have hmm : Mod [] wr w3 := hm20.trans hm3; have g5 := (HB.out.2.mod hmm (by simp)); have g5c : w3.cell? ⟨w.heap.size + 1, area.toNat - 1, none⟩ = some (.int .u64 y) := (by rw [g5.cell]; simp [u64s, HY.out]); have g5f := g5.frozen; have l5 := g5.lt)))
                generalize wr.heap.size = T10 at *
                have hs1 : IntKind.i64.wrap (area - 1) = area - 1 := IntWalk.i64_in _ (by omega)
                have j1 : (0 : Int) ≤ area - 1 := by omega
                have j2 : area - 1 < 4 := by omega
                have j4 : area < 5 := by omega
                go_still_tail 13, (by kernel_rfl)
                change wpList _ _ _ _ _ w3.drew
                go_wp2
                refine ⟨HP.out _ hmm _ (by rw [HMK.out]), by simp [intOf]; omega⟩
              by_cases h36 : op = 36
              · subst h36
                have hmk := mask36 (i := ⟨36, kind, area, at_, ni⟩) rfl
                simp only at hmk
                have HMK := Lib.hid hmk
                have HZ := Lib.hid hz
                clear hz hmk
                generalize sizeP kind = s at *
                clear hsz h59
                go_wp2_with ((first | (go_at_call 50; refine (HC50.out _).mono ?_; rintro e w2 ⟨rfl, hm2⟩; rw [HAS.out]; have h10 := Blk.mod (b := wr.heap.size) (T := 65) (cs := [.int .i64 36, .int .i64 kind, .int .i64 area, .int .i64 at_, .int .i64 ni]) (by repeat (with_reducible first | exact Blk.new' rfl | (refine Blk.new' ?_; simp; done) | apply Blk.set | apply Blk.alloc | assumption)) hm2 (by simp); have q10 := h10.cell; have l10 := h10.lt; have hm20 : Mod [] wr w2 := Mod.trans (by repeat (with_reducible first | exact Mod.refl _ _ | refine Mod.drew ?_ | refine Mod.drewN ?_ _ | refine Mod.setCell ?_ _ (by first | (simp; done) | (simp; omega)) | refine Mod.alloc ?_ _ | refine Mod.trans ?_ (by assumption))) hm2) | (go_at_call 62; refine (HZ.out _).mono ?_; rintro e w3 ⟨rfl, hm3⟩; have h11 := h10.mod hm3 (by simp); have q11 := h11.cell; have l11 := h11.lt; have hmm : Mod [] wr w3 := hm20.trans hm3; have g5 := (HB.out.2.mod hmm (by simp)); have g5c : w3.cell? ⟨w.heap.size + 1, area.toNat - 1, none⟩ = some (.int .u64 y) := (by rw [g5.cell]; simp [u64s, HY.out]); have g5f := g5.frozen; have l5 := g5.lt)))
                generalize wr.heap.size = T10 at *
                have hs1 : IntKind.i64.wrap (area - 1) = area - 1 := IntWalk.i64_in _ (by omega)
                have j1 : (0 : Int) ≤ area - 1 := by omega
                have j2 : area - 1 < 4 := by omega
                have j4 : area < 5 := by omega
                go_still_tail 13, (by kernel_rfl)
                change wpList _ _ _ _ _ w3.drew
                go_wp2
                refine ⟨HP.out _ hmm _ (by rw [HMK.out]), by simp [intOf]; omega⟩
              · have g34 : (op == 34) = false := by rw [beq_eq_false_iff_ne]; exact h34
                have g35 : (op == 35) = false := by rw [beq_eq_false_iff_ne]; exact h35
                have g36 : (op == 36) = false := by rw [beq_eq_false_iff_ne]; exact h36
                obtain ⟨⟨hs1, hs2⟩, _⟩ := hsz h34 h35 h36
                have hmk := masks (i := ⟨op, kind, area, at_, ni⟩) h34 h35 h36
                simp only at hmk
                have HMK := Lib.hid hmk
                have HZ := Lib.hid hz
                clear hz hmk
                generalize sizeP kind = s at *
                clear hsz h59
                go_wp2_with ((first | (go_at_call 50; refine (HC50.out _).mono ?_; rintro e w2 ⟨rfl, hm2⟩; rw [HAS.out]; have h10 := Blk.mod (b := wr.heap.size) (T := 65) (cs := [.int .i64 op, .int .i64 kind, .int .i64 area, .int .i64 at_, .int .i64 ni]) (by repeat (with_reducible first | exact Blk.new' rfl | (refine Blk.new' ?_; simp; done) | apply Blk.set | apply Blk.alloc | assumption)) hm2 (by simp); have q10 := h10.cell; have l10 := h10.lt; have hm20 : Mod [] wr w2 := Mod.trans (by repeat (with_reducible first | exact Mod.refl _ _ | refine Mod.drew ?_ | refine Mod.drewN ?_ _ | refine Mod.setCell ?_ _ (by first | (simp; done) | (simp; omega)) | refine Mod.alloc ?_ _ | refine Mod.trans ?_ (by assumption))) hm2) | (go_at_call 62; refine (HZ.out _).mono ?_; rintro e w3 ⟨rfl, hm3⟩; have h11 := h10.mod hm3 (by simp); have q11 := h11.cell; have l11 := h11.lt; have hmm : Mod [] wr w3 := hm20.trans hm3; have g5 := (HB.out.2.mod hmm (by simp)); have g5c : w3.cell? ⟨w.heap.size + 1, area.toNat - 1, none⟩ = some (.int .u64 y) := (by rw [g5.cell]; simp [u64s, HY.out]); have g5f := g5.frozen; have l5 := g5.lt)))
                generalize wr.heap.size = T10 at *
                have hs1 : IntKind.i64.wrap (area - 1) = area - 1 := IntWalk.i64_in _ (by omega)
                have j1 : (0 : Int) ≤ area - 1 := by omega
                have j2 : area - 1 < 4 := by omega
                have j4 : area < 5 := by omega
                go_still_tail 13, (by kernel_rfl)
                change wpList _ _ _ _ _ w3.drew
                go_wp2
                refine ⟨HP.out _ hmm _ (by rw [HMK.out]), by simp [intOf]; omega⟩
      · have hkn : k = n := by omega
        subst hkn
        obtain ⟨o0, o1, o2, o3, ho⟩ := four (bytesTo_length asked l t k)
        have hb4 : Blk wr w.heap.size 69 [.int .u64 0, .int .u64 0, .int .u64 0, .int .u64 0] := HB.out.1
        have hb5 : Blk wr (w.heap.size + 1) 69 [.int .u64 o0, .int .u64 o1, .int .u64 o2, .int .u64 o3] := by
          have := HB.out.2
          rw [ho] at this
          exact this
        have q4 := hb4.cell
        have q5 := hb5.cell
        have f4 := hb4.frozen
        have HO := Lib.hid ho
        clear hT hb4 hb5 ho
        go_wp2_with (fail)
        go_wp2_with (fail)
        refine bodyPost_ret (v := .agg #[.int .u64 o0, .int .u64 o1, .int .u64 o2, .int .u64 o3]) (by simp [results, Try.results49, go_sem, *]) rfl ⟨by rw [HO.out]; rfl, ?_⟩
        have hMe := HTM.out.2
        repeat (with_reducible first | exact Mod.refl _ _ | refine Mod.drew ?_ | refine Mod.drewN ?_ _ | refine Mod.setCell ?_ _ (by first | (simp; done) | (simp; omega)) | refine Mod.alloc ?_ _ | refine Mod.trans ?_ (by assumption))
  · have e0 : bytesP asked l = [0, 0, 0, 0] := by simp [bytesP, he]
    have hne : ((allP l).1 != 0) = true := by rw [bne_iff_ne]; exact he
    rw [e0]
    clear e0 he hcells hok
    go_enter Try.func49, Try.ntmps49
    go_wp2_with (go_at_call 41; refine (HA.out _ (by repeat (with_reducible first | exact Mod.refl _ _ | refine Mod.drew ?_ | refine Mod.drewN ?_ _ | refine Mod.setCell ?_ _ (by first | (simp; done) | (simp; omega)) | refine Mod.alloc ?_ _ | refine Mod.trans ?_ (by assumption)))).mono ?_; rintro e w1 ⟨tv, rfl, hK, hm⟩; have hb4 := Blk.mod (b := w.heap.size) (T := 69) (cs := [.int .u64 0, .int .u64 0, .int .u64 0, .int .u64 0]) (by repeat (with_reducible first | exact Blk.new' rfl | (refine Blk.new' ?_; simp; done) | apply Blk.set | apply Blk.alloc | assumption)) hm (by simp); have hb5 := Blk.mod (b := w.heap.size + 1) (T := 69) (cs := [.int .u64 0, .int .u64 0, .int .u64 0, .int .u64 0]) (by repeat (with_reducible first | exact Blk.new' rfl | (refine Blk.new' ?_; simp; done) | apply Blk.set | apply Blk.alloc | assumption)) hm (by simp); have q4 := hb4.cell; have q5 := hb5.cell; have f4 := hb4.frozen)
    refine bodyPost_ret (v := .agg #[.int .u64 0, .int .u64 0, .int .u64 0, .int .u64 0]) (by simp [results, Try.results49, go_sem, *]) rfl ⟨rfl, ?_⟩
    repeat (with_reducible first | exact Mod.refl _ _ | refine Mod.drew ?_ | refine Mod.drewN ?_ _ | refine Mod.setCell ?_ _ (by first | (simp; done) | (simp; omega)) | refine Mod.alloc ?_ _ | refine Mod.trans ?_ (by assumption))
end Go.Proofs.Ytnehookocnijpaa
