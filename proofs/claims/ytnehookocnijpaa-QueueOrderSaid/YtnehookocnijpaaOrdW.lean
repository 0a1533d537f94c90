/- QueueOrder: the walk. -/
import Derived.Test.YtnehookocnijpaaOSt
set_option linter.unusedVariables false
set_option linter.unusedSimpArgs false
namespace Go.Proofs.Ytnehookocnijpaa
open Go.RowKit

set_option maxRecDepth 100000 in
set_option maxHeartbeats 3200000 in
theorem queueOrder_walk (pl : Int) (v1 v2 : Value) (come take : List Bool) (w : World) (hp0 : 0 ≤ pl) (hp1 : pl ≤ 255) (hl1 : RSl w 1 encB v1 come) (hl2 : RSl w 1 encB v2 take) :
    Calls Try.prog 4 #[.int .u8 pl, v1, v2] w fun e w' => e = .returned (.bool true) ∧ Mod [] w w' := by
  obtain ⟨n, hpn⟩ : ∃ n : Nat, pl % 65 = (n : Int) := ⟨(pl % 65).toNat, by omega⟩
  have hn : n ≤ 64 := by omega
  obtain ⟨ao1, cap1, rfl, hcap1, hmax1, hcell1⟩ := hl1
  obtain ⟨ao2, cap2, rfl, hcap2, hmax2, hcell2⟩ := hl2
  have HC1 := Lib.hid hcell1
  have HC2 := Lib.hid hcell2
  have HPN := Lib.hid hpn
  clear hcell1 hcell2 hpn
  unfold maxLen at hmax1 hmax2
  obtain ⟨i9, hi9, hz0, hz1, hz2⟩ := info_parts info3
  by_cases hlong : 200 < come.length
  · go_enter Try.func4, Try.ntmps4
    go_wp2_with (go_at_call 8; refine (queue_awake _).mono ?_; rintro e w1 ⟨rfl, hm⟩)
    go_ret
    exact ⟨rfl, hm⟩
  by_cases hlong2 : come.length < take.length
  · go_enter Try.func4, Try.ntmps4
    go_wp2_with (go_at_call 8; refine (queue_awake _).mono ?_; rintro e w1 ⟨rfl, hm⟩)
    go_ret
    exact ⟨rfl, hm⟩
  go_enter Try.func4, Try.ntmps4
  go_wp2_with (fail)
  refine (queue_awake _).mono ?_
  rintro e w1 ⟨rfl, hm1⟩
  have HM1 := Lib.hid hm1
  clear hm1
  go_wp2_with (fail)
  rw [HPN.out]
  refine (QInt.new_any n n (by omega) (by omega) (by omega) _).mono ?_
  rintro e w2 ⟨q, c, s0, rfl, hq, hc, hrq, hm2⟩
  have hs1 := HM1.out.size
  have hs2 := hm2.size
  have hqlt := hrq.at_.bq.lt
  have hclt := hrq.at_.bc.lt
  have hqc := hrq.at_.ne
  have HRQ := Lib.hid hrq
  have HM2 := Lib.hid hm2
  clear hrq hm2
  go_wp2_with (fail)
  go_loopw [11, 40] (fun v11 v40 wr => ORel w n w2.heap.size q c (w2.heap.size + 1) (w2.heap.size + 2) come.length v11 v40 wr) (fun _ i _ => come.length - (intOf i).toNat)
  case atStart =>
    refine ⟨0, 0, ⟨[], [], false⟩, [], [], [], [], none, none, none, none, Nat.zero_le _, rfl, rfl, ⟨⟨?_, ?_, ⟨s0, HRQ.out.mod ?_⟩, ?_, ⟨_, _, ?_, Sl.nil _ _ _, Sl.nil _ _ _, by simp, by simp, by simp⟩, ?_, ⟨_, _, ?_, Sl.nil _ _ _, Sl.nil _ _ _, by simp, by simp, by simp⟩, ?_, trivial⟩, ?_, ?_⟩, ⟨rfl, rfl, by simp⟩, rfl, rfl⟩
    · exact ((Blk.new' (w := w2) (cs := [.pointer (some ⟨q, 0, none⟩)]) rfl).alloc _).alloc _
    · simp [Res.q, Res.p2, Res.blk, pfoot]; omega
    · exact (((Mod.refl _ _).alloc _).alloc _).alloc _
    · simp [Res.q, Res.p2, Res.blk, pfoot]; omega
    · exact Blk.new' (cs := [.slice none 0 0, .slice none 0 0]) (by simp)
    · simp [Res.q, Res.p2, Res.blk, pfoot]
    · exact (Blk.new' (w := w2.alloc (.cells #[.pointer (some ⟨q, 0, none⟩)] 44)) (cs := [.slice none 0 0, .slice none 0 0]) (by simp)).alloc _
    · simp
    · intro x hx
      simp [feet, Res.q, Res.p2, Res.blk, pfoot] at hx
      omega
    · exact ((((HM1.out.trans HM2.out).alloc _).alloc _).alloc _)
  case round =>
    obtain ⟨k, d, a, i0, i1, u0, u1, oi0, oi1, ou0, ou1, hk, rfl, rfl, hT, hI, hsum, hft⟩ := hrel
    generalize w2.heap.size + 2 = O at *
    generalize w2.heap.size + 1 = I at *
    generalize w2.heap.size = V at *
    have HT := Lib.hid hT
    have HI := Lib.hid hI
    have HF := Lib.hid hft
    clear hT hI hft
    by_cases hlt : k < come.length
    · have hlt' : (k : Int) < (come.length : Int) := by omega
      obtain ⟨b1, off1, hao1, hb1, hcells1⟩ := HC1.out (by intro h; rw [h] at hlt; simp at hlt)
      subst hao1
      obtain ⟨hb, hx⟩ : ∃ x, come[k]? = some x := ⟨_, List.getElem?_eq_getElem hlt⟩
      have hcc := HT.out.mod.cell (hcells1 k _ hx 0 (by omega)) (by simp)
      simp only [Nat.mul_one, Nat.add_zero] at hcc
      have HX := Lib.hid hx
      clear hcells1 hx
      by_cases htk : k < take.length
      · have htk' : (k : Int) < (take.length : Int) := by omega
        obtain ⟨b2, off2, hao2, hb2, hcells2⟩ := HC2.out (by intro h; rw [h] at htk; simp at htk)
        subst hao2
        obtain ⟨tb, hy⟩ : ∃ x, take[k]? = some x := ⟨_, List.getElem?_eq_getElem htk⟩
        have hct := HT.out.mod.cell (hcells2 k _ hy 0 (by omega)) (by simp)
        simp only [Nat.mul_one, Nat.add_zero] at hct
        clear hcells2 hy
        cases tb
        · skip
          have hvc := HT.out.v
          have hle := HI.out.le
          by_cases hroom : a.lo.length + a.hi.length < n
          · have hpE : AQ.putE n a = 0 := by rw [AQ.putE, if_pos hroom]
            have hr0 : (((n : Int) - (a.hi.length : Int) - (a.lo.length : Int)) == 0) = false := by rw [beq_eq_false_iff_ne]; omega
            have HPE := Lib.hid hpE
            clear hpE
            go_wp2_with (fail)
            refine (QInt.room_rep q c _ n a hn HT.out.rq).mono ?_
            rintro e Wr ⟨rfl, m1, rfl⟩
            go_wp2_with (fail)
            refine (QInt.put_any q c _ _ _ n a hn (HT.out.keep (Mod.drewN (Mod.refl _ _) m1)).rq).mono ?_
            rintro e W3 ⟨he, hq3, hm3⟩
            rw [HPE.out] at he
            obtain rfl := he
            have HT3 := Lib.hid ((HT.out.keep (Mod.drewN (Mod.refl _ _) m1)).turnq hq3 hm3)
            clear hq3 hm3 hvc
            obtain ⟨v0, v1, hpi⟩ := HT3.out.pi
            have hpc := hpi.b.cell
            have hpf := hpi.b.frozen
            have HPP := Lib.hid hpi
            clear hpi
            cases hb
            · obtain ⟨ao, cap, hv, hcap, hpos⟩ := HPP.out.s0.form
              subst hv
              go_wp2_with (at_builtin; refine wpList_append_sl (by rfl) _ _ _ (by rfl) 3 i9 _ 1 8 Try.underlying46 hi9 hz0 hz1 hz2 rfl (by omega) (Value.slice ao i0.length cap) i0.length (ints i0) oi0 (by rfl) (by repeat (with_reducible first | exact HPP.out.s0 | apply Sl.drew | apply Sl.drewN | apply Sl.alloc)) ⟨W3.heap.size, 0, none⟩ 1 1 [.int .i64 k] (by rfl) (by rfl) (Blk.news (T := 3) (by repeat (with_reducible first | apply Blk.drew | apply Blk.drewN | exact Blk.new' (by simp)))) (by simp [Value.oneCell']) (by omega) (by omega) (by omega) ?_; intro g goff cap2 W4 hsl hmod hob hlt; have hb1 := Blk.mod (b := I) (T := 47) (by repeat (with_reducible first | exact HPP.out.b | apply Blk.drew | apply Blk.drewN | apply Blk.alloc)) hmod (by simpa using HPP.out.d0); have hc1 := hb1.cell; have fc1 := hb1.frozen)
              have HSL := Lib.hid hsl
              have HMD := Lib.hid hmod
              have HOB := Lib.hid hob
              clear hsl hmod hob
              go_wp2_with (fail)
              have hM : Mod oi0.toList W3 W4 := Mod.then (B := oi0.toList) ((Mod.refl _ _).alloc _) HMD.out (by simp +contextual)
              have hOB : oi0 = some g ∨ W3.heap.size ≤ g := by
                rcases HOB.out with h | h
                · exact .inl h
                · exact .inr (by rw [h]; simp)
              obtain ⟨pk, hP, hG, hMM⟩ := put_foot0 HPP.out hM HSL.out hOB
              have HT5 := HT3.out.turni ⟨_, _, hP⟩ hG hMM
              go_roundw
              case rel => exact ⟨k + 1, d, _, _, _, _, _, _, _, _, _, by omega, by go_num, rfl, HT5, HI.out.put_lo hroom k, by simp; omega, by rw [← HF.out]; simp [AQ.put, hroom]⟩
              case measure => first | (simp [intOf]; done) | (simp [intOf]; omega)
            · obtain ⟨ao, cap, hv, hcap, hpos⟩ := HPP.out.s1.form
              subst hv
              go_wp2_with (at_builtin; refine wpList_append_sl (by rfl) _ _ _ (by rfl) 3 i9 _ 1 8 Try.underlying46 hi9 hz0 hz1 hz2 rfl (by omega) (Value.slice ao i1.length cap) i1.length (ints i1) oi1 (by rfl) (by repeat (with_reducible first | exact HPP.out.s1 | apply Sl.drew | apply Sl.drewN | apply Sl.alloc)) ⟨W3.heap.size, 0, none⟩ 1 1 [.int .i64 k] (by rfl) (by rfl) (Blk.news (T := 3) (by repeat (with_reducible first | apply Blk.drew | apply Blk.drewN | exact Blk.new' (by simp)))) (by simp [Value.oneCell']) (by omega) (by omega) (by omega) ?_; intro g goff cap2 W4 hsl hmod hob hlt; have hb1 := Blk.mod (b := I) (T := 47) (by repeat (with_reducible first | exact HPP.out.b | apply Blk.drew | apply Blk.drewN | apply Blk.alloc)) hmod (by simpa using HPP.out.d1); have hc1 := hb1.cell; have fc1 := hb1.frozen)
              have HSL := Lib.hid hsl
              have HMD := Lib.hid hmod
              have HOB := Lib.hid hob
              clear hsl hmod hob
              go_wp2_with (fail)
              have hM : Mod oi1.toList W3 W4 := Mod.then (B := oi1.toList) ((Mod.refl _ _).alloc _) HMD.out (by simp +contextual)
              have hOB : oi1 = some g ∨ W3.heap.size ≤ g := by
                rcases HOB.out with h | h
                · exact .inl h
                · exact .inr (by rw [h]; simp)
              obtain ⟨pk, hP, hG, hMM⟩ := put_foot1 HPP.out hM HSL.out hOB
              have HT5 := HT3.out.turni ⟨_, _, hP⟩ hG hMM
              go_roundw
              case rel => exact ⟨k + 1, d, _, _, _, _, _, _, _, _, _, by omega, by go_num, rfl, HT5, HI.out.put_hi hroom k, by simp; omega, by rw [← HF.out]; simp [AQ.put, hroom]⟩
              case measure => first | (simp [intOf]; done) | (simp [intOf]; omega)
          · have hpE : AQ.putE n a = 8 := by rw [AQ.putE, if_neg hroom]
            have hr0 : (((n : Int) - (a.hi.length : Int) - (a.lo.length : Int)) == 0) = true := by rw [beq_iff_eq]; omega
            have HPE := Lib.hid hpE
            clear hpE
            go_wp2_with (fail)
            refine (QInt.room_rep q c _ n a hn HT.out.rq).mono ?_
            rintro e Wr ⟨rfl, m1, rfl⟩
            go_wp2_with (fail)
            refine (QInt.put_any q c _ _ _ n a hn (HT.out.keep (Mod.drewN (Mod.refl _ _) m1)).rq).mono ?_
            rintro e W3 ⟨he, hq3, hm3⟩
            rw [HPE.out] at he
            obtain rfl := he
            have HT3 := Lib.hid ((HT.out.keep (Mod.drewN (Mod.refl _ _) m1)).turnq hq3 hm3)
            clear hq3 hm3 hvc
            go_wp2_with (fail)
            go_roundw
            case rel => exact ⟨k + 1, d + 1, _, _, _, _, _, _, _, _, _, by omega, by go_num, by go_num, HT3.out, HI.out.put_no hroom k hb, by omega, by first | (simp [AQ.put, hroom]; done) | (simp [AQ.put, hroom]; omega)⟩
            case measure => first | (simp [intOf]; done) | (simp [intOf]; omega)
        · have hvc0 := HT.out.v
          go_wp2_with (fail)
          refine (pull_any V q c n O a _ u0 u1 ou0 ou1 _ hn HT.out.sep3 (by have h0 := HI.out.e0; rw [h0] at hsum; simp at hsum; omega) (by have h0 := HI.out.e1; rw [h0] at hsum; simp at hsum; omega)).mono ?_
          rintro e W1 hpp
          have he := hpp.1
          obtain ⟨p0, p1, hT1⟩ := HT.out.pull hpp
          have hI1 := HI.out.pull ((k : Int) % 3 == 0)
          have hF1 := (take_ft a ((k : Int) % 3 == 0)).trans HF.out
          subst he
          clear hpp HT HI HF hvc0
          generalize a.take ((k : Int) % 3 == 0) = a at *
          generalize pulled _ _ false _ = u0 at *
          generalize pulled _ _ true _ = u1 at *
          have HT := Lib.hid hT1
          have HI := Lib.hid hI1
          have HF := Lib.hid hF1
          clear hT1 hI1 hF1
          have hvc := HT.out.v
          have hle := HI.out.le
          by_cases hroom : a.lo.length + a.hi.length < n
          · have hpE : AQ.putE n a = 0 := by rw [AQ.putE, if_pos hroom]
            have hr0 : (((n : Int) - (a.hi.length : Int) - (a.lo.length : Int)) == 0) = false := by rw [beq_eq_false_iff_ne]; omega
            have HPE := Lib.hid hpE
            clear hpE
            go_wp2_with (fail)
            refine (QInt.room_rep q c _ n a hn HT.out.rq).mono ?_
            rintro e Wr ⟨rfl, m1, rfl⟩
            go_wp2_with (fail)
            refine (QInt.put_any q c _ _ _ n a hn (HT.out.keep (Mod.drewN (Mod.refl _ _) m1)).rq).mono ?_
            rintro e W3 ⟨he, hq3, hm3⟩
            rw [HPE.out] at he
            obtain rfl := he
            have HT3 := Lib.hid ((HT.out.keep (Mod.drewN (Mod.refl _ _) m1)).turnq hq3 hm3)
            clear hq3 hm3 hvc
            obtain ⟨v0, v1, hpi⟩ := HT3.out.pi
            have hpc := hpi.b.cell
            have hpf := hpi.b.frozen
            have HPP := Lib.hid hpi
            clear hpi
            cases hb
            · obtain ⟨ao, cap, hv, hcap, hpos⟩ := HPP.out.s0.form
              subst hv
              go_wp2_with (at_builtin; refine wpList_append_sl (by rfl) _ _ _ (by rfl) 3 i9 _ 1 8 Try.underlying46 hi9 hz0 hz1 hz2 rfl (by omega) (Value.slice ao i0.length cap) i0.length (ints i0) oi0 (by rfl) (by repeat (with_reducible first | exact HPP.out.s0 | apply Sl.drew | apply Sl.drewN | apply Sl.alloc)) ⟨W3.heap.size, 0, none⟩ 1 1 [.int .i64 k] (by rfl) (by rfl) (Blk.news (T := 3) (by repeat (with_reducible first | apply Blk.drew | apply Blk.drewN | exact Blk.new' (by simp)))) (by simp [Value.oneCell']) (by omega) (by omega) (by omega) ?_; intro g goff cap2 W4 hsl hmod hob hlt; have hb1 := Blk.mod (b := I) (T := 47) (by repeat (with_reducible first | exact HPP.out.b | apply Blk.drew | apply Blk.drewN | apply Blk.alloc)) hmod (by simpa using HPP.out.d0); have hc1 := hb1.cell; have fc1 := hb1.frozen)
              have HSL := Lib.hid hsl
              have HMD := Lib.hid hmod
              have HOB := Lib.hid hob
              clear hsl hmod hob
              go_wp2_with (fail)
              have hM : Mod oi0.toList W3 W4 := Mod.then (B := oi0.toList) ((Mod.refl _ _).alloc _) HMD.out (by simp +contextual)
              have hOB : oi0 = some g ∨ W3.heap.size ≤ g := by
                rcases HOB.out with h | h
                · exact .inl h
                · exact .inr (by rw [h]; simp)
              obtain ⟨pk, hP, hG, hMM⟩ := put_foot0 HPP.out hM HSL.out hOB
              have HT5 := HT3.out.turni ⟨_, _, hP⟩ hG hMM
              go_roundw
              case rel => exact ⟨k + 1, d, _, _, _, _, _, _, _, _, _, by omega, by go_num, rfl, HT5, HI.out.put_lo hroom k, by simp; omega, by rw [← HF.out]; simp [AQ.put, hroom]⟩
              case measure => first | (simp [intOf]; done) | (simp [intOf]; omega)
            · obtain ⟨ao, cap, hv, hcap, hpos⟩ := HPP.out.s1.form
              subst hv
              go_wp2_with (at_builtin; refine wpList_append_sl (by rfl) _ _ _ (by rfl) 3 i9 _ 1 8 Try.underlying46 hi9 hz0 hz1 hz2 rfl (by omega) (Value.slice ao i1.length cap) i1.length (ints i1) oi1 (by rfl) (by repeat (with_reducible first | exact HPP.out.s1 | apply Sl.drew | apply Sl.drewN | apply Sl.alloc)) ⟨W3.heap.size, 0, none⟩ 1 1 [.int .i64 k] (by rfl) (by rfl) (Blk.news (T := 3) (by repeat (with_reducible first | apply Blk.drew | apply Blk.drewN | exact Blk.new' (by simp)))) (by simp [Value.oneCell']) (by omega) (by omega) (by omega) ?_; intro g goff cap2 W4 hsl hmod hob hlt; have hb1 := Blk.mod (b := I) (T := 47) (by repeat (with_reducible first | exact HPP.out.b | apply Blk.drew | apply Blk.drewN | apply Blk.alloc)) hmod (by simpa using HPP.out.d1); have hc1 := hb1.cell; have fc1 := hb1.frozen)
              have HSL := Lib.hid hsl
              have HMD := Lib.hid hmod
              have HOB := Lib.hid hob
              clear hsl hmod hob
              go_wp2_with (fail)
              have hM : Mod oi1.toList W3 W4 := Mod.then (B := oi1.toList) ((Mod.refl _ _).alloc _) HMD.out (by simp +contextual)
              have hOB : oi1 = some g ∨ W3.heap.size ≤ g := by
                rcases HOB.out with h | h
                · exact .inl h
                · exact .inr (by rw [h]; simp)
              obtain ⟨pk, hP, hG, hMM⟩ := put_foot1 HPP.out hM HSL.out hOB
              have HT5 := HT3.out.turni ⟨_, _, hP⟩ hG hMM
              go_roundw
              case rel => exact ⟨k + 1, d, _, _, _, _, _, _, _, _, _, by omega, by go_num, rfl, HT5, HI.out.put_hi hroom k, by simp; omega, by rw [← HF.out]; simp [AQ.put, hroom]⟩
              case measure => first | (simp [intOf]; done) | (simp [intOf]; omega)
          · have hpE : AQ.putE n a = 8 := by rw [AQ.putE, if_neg hroom]
            have hr0 : (((n : Int) - (a.hi.length : Int) - (a.lo.length : Int)) == 0) = true := by rw [beq_iff_eq]; omega
            have HPE := Lib.hid hpE
            clear hpE
            go_wp2_with (fail)
            refine (QInt.room_rep q c _ n a hn HT.out.rq).mono ?_
            rintro e Wr ⟨rfl, m1, rfl⟩
            go_wp2_with (fail)
            refine (QInt.put_any q c _ _ _ n a hn (HT.out.keep (Mod.drewN (Mod.refl _ _) m1)).rq).mono ?_
            rintro e W3 ⟨he, hq3, hm3⟩
            rw [HPE.out] at he
            obtain rfl := he
            have HT3 := Lib.hid ((HT.out.keep (Mod.drewN (Mod.refl _ _) m1)).turnq hq3 hm3)
            clear hq3 hm3 hvc
            go_wp2_with (fail)
            go_roundw
            case rel => exact ⟨k + 1, d + 1, _, _, _, _, _, _, _, _, _, by omega, by go_num, by go_num, HT3.out, HI.out.put_no hroom k hb, by omega, by first | (simp [AQ.put, hroom]; done) | (simp [AQ.put, hroom]; omega)⟩
            case measure => first | (simp [intOf]; done) | (simp [intOf]; omega)
      · have htk' : ¬ (k : Int) < (take.length : Int) := by omega
        have hvc := HT.out.v
        have hle := HI.out.le
        by_cases hroom : a.lo.length + a.hi.length < n
        · have hpE : AQ.putE n a = 0 := by rw [AQ.putE, if_pos hroom]
          have hr0 : (((n : Int) - (a.hi.length : Int) - (a.lo.length : Int)) == 0) = false := by rw [beq_eq_false_iff_ne]; omega
          have HPE := Lib.hid hpE
          clear hpE
          go_wp2_with (fail)
          refine (QInt.room_rep q c _ n a hn HT.out.rq).mono ?_
          rintro e Wr ⟨rfl, m1, rfl⟩
          go_wp2_with (fail)
          refine (QInt.put_any q c _ _ _ n a hn (HT.out.keep (Mod.drewN (Mod.refl _ _) m1)).rq).mono ?_
          rintro e W3 ⟨he, hq3, hm3⟩
          rw [HPE.out] at he
          obtain rfl := he
          have HT3 := Lib.hid ((HT.out.keep (Mod.drewN (Mod.refl _ _) m1)).turnq hq3 hm3)
          clear hq3 hm3 hvc
          obtain ⟨v0, v1, hpi⟩ := HT3.out.pi
          have hpc := hpi.b.cell
          have hpf := hpi.b.frozen
          have HPP := Lib.hid hpi
          clear hpi
          cases hb
          · obtain ⟨ao, cap, hv, hcap, hpos⟩ := HPP.out.s0.form
            subst hv
            go_wp2_with (at_builtin; refine wpList_append_sl (by rfl) _ _ _ (by rfl) 3 i9 _ 1 8 Try.underlying46 hi9 hz0 hz1 hz2 rfl (by omega) (Value.slice ao i0.length cap) i0.length (ints i0) oi0 (by rfl) (by repeat (with_reducible first | exact HPP.out.s0 | apply Sl.drew | apply Sl.drewN | apply Sl.alloc)) ⟨W3.heap.size, 0, none⟩ 1 1 [.int .i64 k] (by rfl) (by rfl) (Blk.news (T := 3) (by repeat (with_reducible first | apply Blk.drew | apply Blk.drewN | exact Blk.new' (by simp)))) (by simp [Value.oneCell']) (by omega) (by omega) (by omega) ?_; intro g goff cap2 W4 hsl hmod hob hlt; have hb1 := Blk.mod (b := I) (T := 47) (by repeat (with_reducible first | exact HPP.out.b | apply Blk.drew | apply Blk.drewN | apply Blk.alloc)) hmod (by simpa using HPP.out.d0); have hc1 := hb1.cell; have fc1 := hb1.frozen)
            have HSL := Lib.hid hsl
            have HMD := Lib.hid hmod
            have HOB := Lib.hid hob
            clear hsl hmod hob
            go_wp2_with (fail)
            have hM : Mod oi0.toList W3 W4 := Mod.then (B := oi0.toList) ((Mod.refl _ _).alloc _) HMD.out (by simp +contextual)
            have hOB : oi0 = some g ∨ W3.heap.size ≤ g := by
              rcases HOB.out with h | h
              · exact .inl h
              · exact .inr (by rw [h]; simp)
            obtain ⟨pk, hP, hG, hMM⟩ := put_foot0 HPP.out hM HSL.out hOB
            have HT5 := HT3.out.turni ⟨_, _, hP⟩ hG hMM
            go_roundw
            case rel => exact ⟨k + 1, d, _, _, _, _, _, _, _, _, _, by omega, by go_num, rfl, HT5, HI.out.put_lo hroom k, by simp; omega, by rw [← HF.out]; simp [AQ.put, hroom]⟩
            case measure => first | (simp [intOf]; done) | (simp [intOf]; omega)
          · obtain ⟨ao, cap, hv, hcap, hpos⟩ := HPP.out.s1.form
            subst hv
            go_wp2_with (at_builtin; refine wpList_append_sl (by rfl) _ _ _ (by rfl) 3 i9 _ 1 8 Try.underlying46 hi9 hz0 hz1 hz2 rfl (by omega) (Value.slice ao i1.length cap) i1.length (ints i1) oi1 (by rfl) (by repeat (with_reducible first | exact HPP.out.s1 | apply Sl.drew | apply Sl.drewN | apply Sl.alloc)) ⟨W3.heap.size, 0, none⟩ 1 1 [.int .i64 k] (by rfl) (by rfl) (Blk.news (T := 3) (by repeat (with_reducible first | apply Blk.drew | apply Blk.drewN | exact Blk.new' (by simp)))) (by simp [Value.oneCell']) (by omega) (by omega) (by omega) ?_; intro g goff cap2 W4 hsl hmod hob hlt; have hb1 := Blk.mod (b := I) (T := 47) (by repeat (with_reducible first | exact HPP.out.b | apply Blk.drew | apply Blk.drewN | apply Blk.alloc)) hmod (by simpa using HPP.out.d1); have hc1 := hb1.cell; have fc1 := hb1.frozen)
            have HSL := Lib.hid hsl
            have HMD := Lib.hid hmod
            have HOB := Lib.hid hob
            clear hsl hmod hob
            go_wp2_with (fail)
            have hM : Mod oi1.toList W3 W4 := Mod.then (B := oi1.toList) ((Mod.refl _ _).alloc _) HMD.out (by simp +contextual)
            have hOB : oi1 = some g ∨ W3.heap.size ≤ g := by
              rcases HOB.out with h | h
              · exact .inl h
              · exact .inr (by rw [h]; simp)
            obtain ⟨pk, hP, hG, hMM⟩ := put_foot1 HPP.out hM HSL.out hOB
            have HT5 := HT3.out.turni ⟨_, _, hP⟩ hG hMM
            go_roundw
            case rel => exact ⟨k + 1, d, _, _, _, _, _, _, _, _, _, by omega, by go_num, rfl, HT5, HI.out.put_hi hroom k, by simp; omega, by rw [← HF.out]; simp [AQ.put, hroom]⟩
            case measure => first | (simp [intOf]; done) | (simp [intOf]; omega)
        · have hpE : AQ.putE n a = 8 := by rw [AQ.putE, if_neg hroom]
          have hr0 : (((n : Int) - (a.hi.length : Int) - (a.lo.length : Int)) == 0) = true := by rw [beq_iff_eq]; omega
          have HPE := Lib.hid hpE
          clear hpE
          go_wp2_with (fail)
          refine (QInt.room_rep q c _ n a hn HT.out.rq).mono ?_
          rintro e Wr ⟨rfl, m1, rfl⟩
          go_wp2_with (fail)
          refine (QInt.put_any q c _ _ _ n a hn (HT.out.keep (Mod.drewN (Mod.refl _ _) m1)).rq).mono ?_
          rintro e W3 ⟨he, hq3, hm3⟩
          rw [HPE.out] at he
          obtain rfl := he
          have HT3 := Lib.hid ((HT.out.keep (Mod.drewN (Mod.refl _ _) m1)).turnq hq3 hm3)
          clear hq3 hm3 hvc
          go_wp2_with (fail)
          go_roundw
          case rel => exact ⟨k + 1, d + 1, _, _, _, _, _, _, _, _, _, by omega, by go_num, by go_num, HT3.out, HI.out.put_no hroom k hb, by omega, by first | (simp [AQ.put, hroom]; done) | (simp [AQ.put, hroom]; omega)⟩
          case measure => first | (simp [intOf]; done) | (simp [intOf]; omega)
    · have hke : k = come.length := by omega
      have hvc := HT.out.v
      have hle := HI.out.le
      obtain ⟨a2, ha2⟩ : ∃ a2 : AQ Int, { a with ft := false } = a2 := ⟨_, rfl⟩
      have hl3 : ((a2.lane true).length : Int) + ((a2.lane false).length : Int) ≤ (n : Int) := by rw [← ha2]; simp [AQ.lane]; omega
      have HA2 := Lib.hid ha2
      clear ha2
      have hw : IntKind.i64.wrap (((a2.lane true).length : Int) + ((a2.lane false).length : Int)) = ((a2.lane true).length : Int) + ((a2.lane false).length : Int) := IntWalk.i64_in _ (by omega)
      go_wp2_with (fail)
      go_region_held3 (fun w' => w'.cell? ⟨V, 0, none⟩ = some (.pointer (some ⟨q, 0, none⟩))) (go_keep) ((first | (go_at_call 26; refine (QInt.fault_rep q c _ n a (HT.out.keep (by repeat (with_reducible first | exact Mod.refl _ _ | refine Mod.drew ?_ | refine Mod.drewN ?_ _ | refine Mod.alloc ?_ _))).rq).mono ?_; rintro e W1 ⟨he, hq1, hm1⟩; rw [HF.out] at he; rw [HA2.out] at hq1; obtain rfl := he; have hT1 := (HT.out.keep (by repeat (with_reducible first | exact Mod.refl _ _ | refine Mod.drew ?_ | refine Mod.drewN ?_ _ | refine Mod.alloc ?_ _))).turnq hq1 hm1; have HT1 := Lib.hid hT1; have hvc1 := hT1.v; clear hq1 hm1 hT1) | (go_at_call 27; refine (QInt.len_rep q c _ _ n a2 HT1.out.rq).mono ?_; rintro e W2 ⟨rfl, rfl⟩)))
      clear hw hvc1 hvc
      have hI2 : OInv n a2 i0 i1 u0 u1 := by rw [← HA2.out]; exact ⟨HI.out.e0, HI.out.e1, HI.out.le⟩
      have HI2 := Lib.hid hI2
      clear hI2
      go_wp2_with (fail)
      go_loopg [17] (a2.lo.length + a2.hi.length) (fun m v wr => ∃ (a : AQ Int) (u0 u1 : List Int) (ou0 ou1 : Option Nat), m = a.lo.length + a.hi.length ∧ OSt w wr n V q c I O a i0 i1 u0 u1 oi0 oi1 ou0 ou1 ∧ OInv n a i0 i1 u0 u1)
      case atStart => exact ⟨a2, u0, u1, ou0, ou1, rfl, HT1.out, HI2.out⟩
      case round =>
        clear HT HI HF HT1 HI2 HA2 hl3 hle
        obtain ⟨a, u0, u1, ou0, ou1, hg, hT, hI⟩ := hrel
        have hvc := hT.v
        have hle := hI.le
        have HT := Lib.hid hT
        have HI := Lib.hid hI
        have HG := Lib.hid hg
        clear hT hI hg
        have hl3 : ((a.lane true).length : Int) + ((a.lane false).length : Int) ≤ (n : Int) := by simp [AQ.lane]; omega
        by_cases h0 : a.lo.length + a.hi.length = 0
        · have h1 : ¬ (0 : Int) < ((a.lane true).length : Int) + ((a.lane false).length : Int) := by simp [AQ.lane]; omega
          have hw : IntKind.i64.wrap (((a.lane true).length : Int) + ((a.lane false).length : Int)) = ((a.lane true).length : Int) + ((a.lane false).length : Int) := IntWalk.i64_in _ (by omega)
          go_wp2_with (fail)
          go_quiet ((go_at_call 27; exact Calls.quiet_of_same ((QInt.len_rep q c _ _ n a (HT.out.keep (Mod.drewN (Mod.refl _ _) _)).rq).mono fun e w' ⟨he, hw⟩ => ⟨he, hw.symm⟩)))
          clear hw
          go_wp2_with (fail)
          have hT2 := HT.out.keep (Mod.drewN (Mod.refl _ _) nq)
          clear HT hvc
          generalize wr.drewN nq = wr at *
          have hvc := hT2.v
          have HT := Lib.hid hT2
          clear hT2
          have hlo : a.lo = [] := List.length_eq_zero_iff.1 (by omega)
          have hhi : a.hi = [] := List.length_eq_zero_iff.1 (by omega)
          have hiu0 : i0 = u0 := by have := HI.out.e0; rw [this, hlo]; simp
          have hiu1 : i1 = u1 := by have := HI.out.e1; rw [this, hhi]; simp
          subst hiu0 hiu1
          obtain ⟨vi0, vi1, hpi⟩ := HT.out.pi
          obtain ⟨vo0, vo1, hpo⟩ := HT.out.po
          obtain ⟨ai0, ci0, rfl, hci0, hai0⟩ := hpi.s0.form
          obtain ⟨ai1, ci1, rfl, hci1, hai1⟩ := hpi.s1.form
          obtain ⟨ao0, co0, rfl, hco0, hao0⟩ := hpo.s0.form
          obtain ⟨ao1', co1, rfl, hco1, hao1'⟩ := hpo.s1.form
          have HLO := Lib.hid hlo
          have HHI := Lib.hid hhi
          have HPI := Lib.hid hpi
          have HPO := Lib.hid hpo
          clear hpi hpo hlo hhi
          generalize hwo : wr = wo at *
          clear hwo
          go_loopw [119] (fun v W => ∃ k : Nat, k ≤ 2 ∧ v = .int .i64 (k : Int) ∧ Mod [] wo W) (fun v _ => 2 - (intOf v).toNat)
          case atStart => exact ⟨0, by omega, rfl, Mod.refl _ _⟩
          case round =>
            obtain ⟨k2, hk2, rfl, hmm⟩ := hrel
            have hpi2 := (HPI.out.mod hmm (by simp)).b.cell
            have hpo2 := (HPO.out.mod hmm (by simp)).b.cell
            have HMM := Lib.hid hmm
            clear hmm
            have hk3 : k2 = 0 ∨ k2 = 1 ∨ k2 = 2 := by omega
            rcases hk3 with rfl | rfl | rfl
            · go_wp2_with (fail)
              go_quiet (fail)
              go_wp2_with (fail)
              have hm3 := HMM.out.trans (Mod.drewN (Mod.refl _ _) nq)
              clear HMM hpi2 hpo2
              generalize hW3 : wr.drewN nq = W3 at *
              clear hW3
              have HM3 := Lib.hid hm3
              clear hm3
              go_loopw [135] (fun v W => ∃ j : Nat, j ≤ i0.length ∧ v = .int .i64 (j : Int) ∧ Mod [] W3 W) (fun v _ => i0.length - (intOf v).toNat)
              case atStart => exact ⟨0, by omega, rfl, Mod.refl _ _⟩
              case round =>
                obtain ⟨j, hj, rfl, hmj⟩ := hrel
                have hmw := HM3.out.trans hmj
                have hpi3 := (HPI.out.mod hmw (by simp)).b.cell
                have hpo3 := (HPO.out.mod hmw (by simp)).b.cell
                have hlen3 : i0.length ≤ 200 := by omega
                by_cases hjl : j < i0.length
                · obtain ⟨gi, offi, rfl, _⟩ := hai0 (by omega)
                  obtain ⟨go, offo, rfl, _⟩ := hao0 (by omega)
                  have hjl' : (j : Int) < (i0.length : Int) := by omega
                  have hce : (ints i0)[j]? = some (.int .i64 i0[j]) := by simp [ints, List.getElem?_eq_getElem hjl]
                  have hci := (HPI.out.s0.cell j (by omega)).trans hce
                  have hco := (HPO.out.s0.cell j (by omega)).trans hce
                  have hci' := hmw.cell hci (by simp)
                  have hco' := hmw.cell hco (by simp)
                  generalize i0[j] = xj at hci' hco'
                  have HMJ := Lib.hid hmj
                  clear hci hco hce hmj hmw
                  go_wp2_with (fail)
                  go_quiet (fail)
                  go_wp2_with (fail)
                  go_roundw
                  case rel => exact ⟨j + 1, by omega, by go_num, HMJ.out.trans (Mod.drewN (Mod.refl _ _) _)⟩
                  case measure => first | (simp [intOf]; done) | (simp [intOf]; omega)
                · have HMJ := Lib.hid hmw
                  clear hmj hmw
                  go_wp2_with (fail)
                  go_roundw
                  case rel => exact ⟨1, by omega, by go_num, HMJ.out⟩
                  case measure => first | (simp [intOf]; done) | (simp [intOf]; omega)
            · go_wp2_with (fail)
              go_quiet (fail)
              go_wp2_with (fail)
              have hm3 := HMM.out.trans (Mod.drewN (Mod.refl _ _) nq)
              clear HMM hpi2 hpo2
              generalize hW3 : wr.drewN nq = W3 at *
              clear hW3
              have HM3 := Lib.hid hm3
              clear hm3
              go_loopw [135] (fun v W => ∃ j : Nat, j ≤ i1.length ∧ v = .int .i64 (j : Int) ∧ Mod [] W3 W) (fun v _ => i1.length - (intOf v).toNat)
              case atStart => exact ⟨0, by omega, rfl, Mod.refl _ _⟩
              case round =>
                obtain ⟨j, hj, rfl, hmj⟩ := hrel
                have hmw := HM3.out.trans hmj
                have hpi3 := (HPI.out.mod hmw (by simp)).b.cell
                have hpo3 := (HPO.out.mod hmw (by simp)).b.cell
                have hlen3 : i1.length ≤ 200 := by omega
                by_cases hjl : j < i1.length
                · obtain ⟨gi, offi, rfl, _⟩ := hai1 (by omega)
                  obtain ⟨go, offo, rfl, _⟩ := hao1' (by omega)
                  have hjl' : (j : Int) < (i1.length : Int) := by omega
                  have hce : (ints i1)[j]? = some (.int .i64 i1[j]) := by simp [ints, List.getElem?_eq_getElem hjl]
                  have hci := (HPI.out.s1.cell j (by omega)).trans hce
                  have hco := (HPO.out.s1.cell j (by omega)).trans hce
                  have hci' := hmw.cell hci (by simp)
                  have hco' := hmw.cell hco (by simp)
                  generalize i1[j] = xj at hci' hco'
                  have HMJ := Lib.hid hmj
                  clear hci hco hce hmj hmw
                  go_wp2_with (fail)
                  go_quiet (fail)
                  go_wp2_with (fail)
                  go_roundw
                  case rel => exact ⟨j + 1, by omega, by go_num, HMJ.out.trans (Mod.drewN (Mod.refl _ _) _)⟩
                  case measure => first | (simp [intOf]; done) | (simp [intOf]; omega)
                · have HMJ := Lib.hid hmw
                  clear hmj hmw
                  go_wp2_with (fail)
                  go_roundw
                  case rel => exact ⟨2, by omega, by go_num, HMJ.out⟩
                  case measure => first | (simp [intOf]; done) | (simp [intOf]; omega)
            · have hvc2 := (HT.out.keep HMM.out).v
              have hsum2 : (((i0.length : Int) + (i1.length : Int) + (d : Int)) == (come.length : Int)) = true := by rw [beq_iff_eq]; omega
              have hroom2 : (((n : Int) - (a.hi.length : Int) - (a.lo.length : Int)) == (n : Int)) = true := by rw [beq_iff_eq, HLO.out, HHI.out]; simp
              go_wp2_with (go_at_call 24; refine (QInt.room_rep q c _ n a hn (HT.out.keep HMM.out).rq).mono ?_; rintro e W9 ⟨rfl, m9, rfl⟩)
              go_ret
              exact ⟨rfl, (HT.out.mod.trans HMM.out).drewN _⟩
        · have h1 : (0 : Int) < ((a.lane true).length : Int) + ((a.lane false).length : Int) := by simp [AQ.lane]; omega
          have hw : IntKind.i64.wrap (((a.lane true).length : Int) + ((a.lane false).length : Int)) = ((a.lane true).length : Int) + ((a.lane false).length : Int) := IntWalk.i64_in _ (by omega)
          go_wp2_with (fail)
          go_quiet ((go_at_call 27; exact Calls.quiet_of_same ((QInt.len_rep q c _ _ n a (HT.out.keep (Mod.drewN (Mod.refl _ _) _)).rq).mono fun e w' ⟨he, hw⟩ => ⟨he, hw.symm⟩)))
          go_wp2_with (fail)
          have hT2 := HT.out.keep (Mod.drewN (Mod.refl _ _) nq)
          clear HT hvc
          generalize wr.drewN nq = wr at *
          have hvc := hT2.v
          have HT := Lib.hid hT2
          clear hT2
          go_quiet ((go_at_call 27; exact Calls.quiet_of_same ((QInt.len_rep q c _ _ n a (HT.out.keep (Mod.drewN (Mod.refl _ _) _)).rq).mono fun e w' ⟨he, hw⟩ => ⟨he, hw.symm⟩)))
          clear hw
          go_wp2_with (fail)
          have hT2 := HT.out.keep (Mod.drewN (Mod.refl _ _) nq)
          clear HT hvc
          generalize wr.drewN nq = wr at *
          have hvc := hT2.v
          have HT := Lib.hid hT2
          clear hT2
          refine (pull_any V q c n O a true u0 u1 ou0 ou1 _ hn HT.out.sep3 (by have h5 := HI.out.e0; have h6 := hsum; rw [h5] at h6; simp at h6; omega) (by have h5 := HI.out.e1; have h6 := hsum; rw [h5] at h6; simp at h6; omega)).mono ?_
          rintro e W2 hpp
          have he := hpp.1
          obtain ⟨p0, p1, hT3⟩ := HT.out.pull hpp
          have HT3 := Lib.hid hT3
          have HI3 := Lib.hid (HI.out.pull true)
          have hu0 : (pulled a true false u0).length ≤ 1000 := by have h5 := HI3.out.e0; have h6 := hsum; rw [h5] at h6; simp at h6; omega
          have hu1 : (pulled a true true u1).length ≤ 1000 := by have h5 := HI3.out.e1; have h6 := hsum; rw [h5] at h6; simp at h6; omega
          subst he
          clear hpp hT3 hvc
          go_wp2_with (fail)
          refine (pull_any V q c n O (a.take true) false _ _ p0 p1 _ hn HT3.out.sep3 hu0 hu1).mono ?_
          rintro e W3 hpp
          have he := hpp.1
          obtain ⟨p2, p3, hT4⟩ := HT3.out.pull hpp
          have hvc := hT4.v
          have HT4 := Lib.hid hT4
          have HI4 := Lib.hid (HI3.out.pull false)
          subst he
          clear hpp hT4
          obtain ⟨a4, ha4⟩ : ∃ a4 : AQ Int, (a.take true).take false = a4 := ⟨_, rfl⟩
          rw [ha4] at HT4 HI4
          have hle4 := HI4.out.le
          have hdec : a4.lo.length + a4.hi.length < a.lo.length + a.hi.length := by
            rw [← ha4]; simp [AQ.take]
            omega
          have h2 : ¬ (((a.lane true).length : Int) + ((a.lane false).length : Int) ≤ ((a4.lane true).length : Int) + ((a4.lane false).length : Int)) := by simp [AQ.lane]; omega
          have HA4 := Lib.hid ha4
          clear ha4
          have hw4 : IntKind.i64.wrap (((a4.lane true).length : Int) + ((a4.lane false).length : Int)) = ((a4.lane true).length : Int) + ((a4.lane false).length : Int) := IntWalk.i64_in _ (by simp [AQ.lane]; omega)
          go_wp2_with (fail)
          go_quiet ((go_at_call 27; exact Calls.quiet_of_same ((QInt.len_rep q c _ _ n a4 (HT4.out.keep (Mod.drewN (Mod.refl _ _) _)).rq).mono fun e w' ⟨he, hw⟩ => ⟨he, hw.symm⟩)))
          clear hw4
          go_wp2_with (fail)
          go_roundg (a4.lo.length + a4.hi.length)
          case measure => rw [HG.out]; exact hdec
          case rel => exact ⟨a4, _, _, p2, p3, rfl, HT4.out.keep (Mod.drewN (Mod.refl _ _) _), HI4.out⟩
end Go.Proofs.Ytnehookocnijpaa
