import Derived.Laws.BitsLemmas
import Derived.Lib.EndianBits
import Derived.Test.YtpmmiabcfnejmaaCQuantBack0
import Derived.Test.YtpmmiabcfnejmaaCQuantBack1
section
namespace Go.Proofs.Ytpmmiabcfnejmaa.H
open Go.RowKit Go.Proofs.YtpmmiabcfnejmaaW.PrintWords Go.Proofs.YtpmmiabcfnejmaaW.PrintLast Go.Proofs.YtpmmiabcfnejmaaW.PrintMore
attribute [local go_sem] max2_int min2_int max_two min_two max_three min_three max_four min_four   -- for this text's walks alone
set_option linter.unusedVariables false
set_option linter.unusedSimpArgs false
def triremeref03_value.l0 : Nat → ByteArray → Int → Int → Option (Int)
  | 0, _, _, _ => none
  | k + 1, x0, x3, x4 => if x4 < (x0.size : Int) then (if 0 ≤ x4 then (triremeref03_value.l0 k x0 (mn (wrap64 ((wrap64 (10 * x3)) + (((bt x0 x4) - 48) % 256))) 1125899906842625) (wrap64 (x4 + 1))) else (none)) else (some x3)
def triremeref03_value.f (k : Nat) (a0 : ByteArray) : Option (Int) := triremeref03_value.l0 k a0 0 0
theorem triremeref03_value.mono_l : ∀ k, (∀ y0 y1 y2, LeO (triremeref03_value.l0 k y0 y1 y2) (triremeref03_value.l0 (k + 1) y0 y1 y2))
  | 0 => fun _ _ _ r h => by simp [triremeref03_value.l0] at h
  | k + 1 => by
    have ih0 := triremeref03_value.mono_l k
    · intro y0 y1 y2
      unfold triremeref03_value.l0
      repeat' first
      | (with_reducible exact ih0 _ _ _)
      | (with_reducible exact LeO.refl _)
      | (with_reducible exact LeO.none _)
      | (with_reducible refine LeO.ite ?_ ?_)
      | (with_reducible refine LeO.bind ?_ (fun _ => ?_))
      | exact ih0 _ _ _
      | exact LeO.none _
      | refine LeO.ite ?_ ?_
      | refine LeO.bind ?_ (fun _ => ?_)
theorem triremeref03_value.mono : ∀ a0 k, LeO (triremeref03_value.f k a0) (triremeref03_value.f (k + 1) a0) := by
  intro a0 k
  have ih0 := triremeref03_value.mono_l k
  unfold triremeref03_value.f
  repeat' first
      | (with_reducible exact ih0 _ _ _)
      | (with_reducible exact LeO.refl _)
      | (with_reducible exact LeO.none _)
      | (with_reducible refine LeO.ite ?_ ?_)
      | (with_reducible refine LeO.bind ?_ (fun _ => ?_))
      | exact ih0 _ _ _
      | exact LeO.none _
      | refine LeO.ite ?_ ?_
      | refine LeO.bind ?_ (fun _ => ?_)
set_option maxHeartbeats 8000000 in
set_option maxRecDepth 100000 in
theorem triremeref03_value.calls (k : Nat) (a0 : ByteArray) (r : Int) (w : World) (h : triremeref03_value.f k a0 = some r) :
    Calls Try.prog 25 #[.string a0] w fun e w' => e = .returned (.int .i64 r) ∧ Below w.heap.size w w' := by
  have HB := Aside0.mk (Below.refl w.heap.size w)
  have H : (triremeref03_value.l0 k a0 0 0) = some r := h
  clear h
  have H' := Aside0.mk H
  clear H
  go_enter Try.func25, Try.ntmps25
  go_wp2
  go_loopg [3, 4] k (fun kq v3 v4 w' => ∃ (x3_1 : Int) (x4_1 : Int), v3 = .int .i64 x3_1 ∧ v4 = .int .i64 x4_1 ∧ Aside0 (triremeref03_value.l0 kq a0 x3_1 x4_1 = some r) ∧ Aside0 (kq ≤ k) ∧ Aside0 (Below w.heap.size w w'))
  case atStart => exact ⟨(0), (0), (by first | rfl | (simp; done) | (simp [*]; done)), (by first | rfl | (simp; done) | (simp [*]; done)), H', ⟨Nat.le_refl _⟩, ⟨by repeat (first | (with_reducible first | exact HB.out | apply below_alloc | apply pw_below_drewN | apply below_drew1) | exact HB.out)⟩⟩
  case round =>
    clear H'
    obtain ⟨x3_1, x4_1, rfl, rfl, HA, HK1, HB⟩ := hrel
    cases gk with
    | zero => exact absurd HA.out (by simp [triremeref03_value.l0])
    | succ k1 =>
      have H := HA.out
      clear HA
      simp only [triremeref03_value.l0] at H
      by_cases c2 : x4_1 < (a0.size : Int)
      · rw [if_pos c2] at H
        have c2b0 : decide (x4_1 < (a0.size : Int)) = true := decide_eq_true c2
        clear c2
        by_cases c3 : 0 ≤ x4_1
        · rw [if_pos c3] at H
          have c3b0 : decide (0 ≤ x4_1) = true := decide_eq_true c3
          clear c3
          obtain ⟨ji5, hji5⟩ : ∃ j_ : Int, (mn (wrap64 ((wrap64 (10 * x3_1)) + (((bt a0 x4_1) - 48) % 256))) 1125899906842625) = j_ := ⟨_, rfl⟩
          replace H : (triremeref03_value.l0 k1 a0 ji5 (wrap64 (x4_1 + 1))) = some r := by first | (rw [hji5] at H; exact H) | (simp only [hji5] at H ⊢; exact H)
          have hji5_ : (if 1125899906842625 < (wrap64 ((wrap64 (10 * x3_1)) + (((bt a0 x4_1) - 48) % 256))) then 1125899906842625 else (wrap64 ((wrap64 (10 * x3_1)) + (((bt a0 x4_1) - 48) % 256)))) = ji5 := hji5
          have H' := Aside0.mk H
          clear H
          have p4 : 0 ≤ (x4_1 : Int) := of_decide_eq_true (by first | (with_reducible assumption) | assumption)
          have q4 : x4_1 < (a0.size : Int) := of_decide_eq_true (by first | (with_reducible assumption) | assumption)
          have hx4 := bt_at a0 x4_1
          replace p4 := eq_true p4
          replace q4 := eq_true q4
          (try (have qz4 := q4; rw [ByteArray.size_extract, Nat.min_self] at qz4))
          go_wp2
          go_roundg k1
          case measure => have := HK1.out; omega
          case rel => exact ⟨(ji5), (wrap64 (x4_1 + 1)), (by first | rfl | (simp; done) | (simp only [← hji5] <;> (first | rfl | simp)) | (simp [*]; done)), (by first | rfl | (simp; done) | (simp [*]; done)), H', ⟨by have := HK1.out; omega⟩, ⟨by repeat (first | (with_reducible first | exact HB.out | apply below_alloc | apply pw_below_drewN | apply below_drew1) | exact HB.out)⟩⟩
        · rw [if_neg c3] at H
          exact absurd H (by simp)
      · rw [if_neg c2] at H
        have c2b0 : decide (x4_1 < (a0.size : Int)) = false := decide_eq_false c2
        clear c2
        obtain rfl := Option.some.inj H
        go_wp2
        go_ret
        exact ⟨by first | rfl | (simp [errW_none, errW_some] <;> rfl) | (simp [*, errW_none, errW_some] <;> rfl), by repeat (first | (with_reducible first | exact HB.out | apply below_alloc | apply pw_below_drewN | apply below_drew1) | exact HB.out)⟩
end Go.Proofs.Ytpmmiabcfnejmaa.H
end
section
namespace Go.Proofs.Ytpmmiabcfnejmaa.H
open Go.RowKit Go.Proofs.YtpmmiabcfnejmaaW.PrintWords Go.Proofs.YtpmmiabcfnejmaaW.PrintLast Go.Proofs.YtpmmiabcfnejmaaW.PrintMore
attribute [local go_sem] max2_int min2_int max_two min_two max_three min_three max_four min_four   -- for this text's walks alone
set_option linter.unusedVariables false
set_option linter.unusedSimpArgs false
def triremeref03_Number.j0 : Nat → ByteArray → Bool → Option (Int × Int)
  | 0, _, _ => none
  | k + 1, x0, x14 => if x14 = true then (some (0, 8)) else ((triremeref03_value.f k x0).bind fun t174 => (if t174 > 1125899906842624 then (some (0, 10)) else (some (t174, 0))))
def triremeref03_Number.f (k : Nat) (a0 : ByteArray) : Option (Int × Int) := if (a0.size : Int) = 0 then (triremeref03_Number.j0 k a0 true) else ((triremeref03_digits.f k a0).bind fun t173 => (triremeref03_Number.j0 k a0 (decide (t173 < (a0.size : Int)))))
theorem triremeref03_Number.mono_l : ∀ k, (∀ y0 y1, LeO (triremeref03_Number.j0 k y0 y1) (triremeref03_Number.j0 (k + 1) y0 y1))
  | 0 => fun _ _ r h => by simp [triremeref03_Number.j0] at h
  | k + 1 => by
    have ih0 := triremeref03_Number.mono_l k
    · intro y0 y1
      unfold triremeref03_Number.j0
      repeat' first
      | (with_reducible exact ih0 _ _)
      | (with_reducible exact triremeref03_digits.mono _ _)
      | (with_reducible exact triremeref03_value.mono _ _)
      | (with_reducible exact LeO.refl _)
      | (with_reducible exact LeO.none _)
      | (with_reducible refine LeO.ite ?_ ?_)
      | (with_reducible refine LeO.bind ?_ (fun _ => ?_))
      | exact ih0 _ _
      | exact triremeref03_digits.mono _ _
      | exact triremeref03_value.mono _ _
      | exact LeO.none _
      | refine LeO.ite ?_ ?_
      | refine LeO.bind ?_ (fun _ => ?_)
theorem triremeref03_Number.mono : ∀ a0 k, LeO (triremeref03_Number.f k a0) (triremeref03_Number.f (k + 1) a0) := by
  intro a0 k
  have ih0 := triremeref03_Number.mono_l k
  unfold triremeref03_Number.f
  repeat' first
      | (with_reducible exact ih0 _ _)
      | (with_reducible exact triremeref03_digits.mono _ _)
      | (with_reducible exact triremeref03_value.mono _ _)
      | (with_reducible exact LeO.refl _)
      | (with_reducible exact LeO.none _)
      | (with_reducible refine LeO.ite ?_ ?_)
      | (with_reducible refine LeO.bind ?_ (fun _ => ?_))
      | exact ih0 _ _
      | exact triremeref03_digits.mono _ _
      | exact triremeref03_value.mono _ _
      | exact LeO.none _
      | refine LeO.ite ?_ ?_
      | refine LeO.bind ?_ (fun _ => ?_)
set_option maxHeartbeats 8000000 in
set_option maxRecDepth 100000 in
theorem triremeref03_Number.calls (k : Nat) (a0 : ByteArray) (r1 : Int) (r2 : Int) (w : World) (h : triremeref03_Number.f k a0 = some (r1, r2)) :
    Calls Try.prog 14 #[.string a0] w fun e w' => e = .returned (.tuple #[.int .i64 r1, .int .i64 r2]) ∧ Below w.heap.size w w' := by
  have HB := Aside0.mk (Below.refl w.heap.size w)
  have H : (if (a0.size : Int) = 0 then (triremeref03_Number.j0 k a0 true) else ((triremeref03_digits.f k a0).bind fun t173 => (triremeref03_Number.j0 k a0 (decide (t173 < (a0.size : Int)))))) = some (r1, r2) := h
  clear h
  have HC2 := Aside0.mk H
  clear H
  go_enter Try.func14, Try.ntmps14
  go_upto_region 1 with (fail)
  go_cut [14] (fun v14 wc => ∃ (kq : Nat) (x14_1 : Bool), v14 = .bool x14_1 ∧ Aside0 (triremeref03_Number.j0 kq a0 x14_1 = some (r1, r2)) ∧ Aside0 (kq ≤ k) ∧ Aside0 (Below w.heap.size w wc))
  case first =>
    have H := HC2.out
    clear HC2
    by_cases c3 : (a0.size : Int) = 0
    · rw [if_pos c3] at H
      have c3b0 : ((a0.size : Int) == 0) = true := beq_iff_eq.mpr c3
      have c3b1 : ((a0.size : Int) != 0) = false := bne_eq_false_iff_eq.mpr c3
      clear c3
      (first | rw [c3b0] | (simp only [i64_w, i32_w]; rw [c3b0]) | skip)
      have H' := Aside0.mk H
      clear H
      go_wp2
      go_meet
      case rel => exact ⟨_, (true), (by first | rfl | (simp; done) | (simp [*]; done)), H', ⟨by first | omega | exact Nat.le_refl _⟩, ⟨by repeat (first | (with_reducible first | exact HB.out | apply below_alloc | apply pw_below_drewN | apply below_drew1) | exact HB.out)⟩⟩
    · rw [if_neg c3] at H
      have c3b0 : ((a0.size : Int) == 0) = false := beq_eq_false_iff_ne.mpr c3
      have c3b1 : ((a0.size : Int) != 0) = true := bne_iff_ne.mpr c3
      (first | rw [c3b0] | (simp only [i64_w, i32_w]; rw [c3b0]) | skip)
      replace H := Option.bind_eq_some_iff.mp H
      obtain ⟨t173, A40, H⟩ := H
      replace H : (triremeref03_Number.j0 k a0 (decide (t173 < (a0.size : Int)))) = some (r1, r2) := H
      have A4 := Aside0.mk A40
      clear A40
      have H' := Aside0.mk H
      clear H
      go_wp2_with (first | (go_at_call 24; (with_reducible refine (triremeref03_digits.calls k a0 t173 _ A4.out).mono ?_); rintro e w' ⟨rfl, ⟨nd, rfl⟩⟩))
      go_meet
      case rel => exact ⟨_, (decide (t173 < (a0.size : Int))), (by first | rfl | (simp; done) | (simp [*]; done)), H', ⟨by first | omega | exact Nat.le_refl _⟩, ⟨by repeat (first | (with_reducible first | exact HB.out | apply below_alloc | apply pw_below_drewN | apply below_drew1) | exact HB.out)⟩⟩
  case rest =>
    clear HC2
    try clear c1
    try clear p2
    try clear c3
    try clear c3b0
    try clear c3b1
    obtain ⟨kq, x14_1, rfl, HA, HJ1, HB⟩ := hcut
    cases kq with
    | zero => exact absurd HA.out (by simp [triremeref03_Number.j0])
    | succ kj1 =>
      have H := HA.out
      clear HA
      simp only [triremeref03_Number.j0] at H
      by_cases c5 : x14_1 = true
      · subst c5
        have H1 : (some (0, 8)) = some (r1, r2) := by rw [if_pos rfl] at H; exact H
        clear H
        have H := H1
        clear H1
        simp only [Option.some.injEq, Prod.mk.injEq] at H
        obtain ⟨rfl, rfl⟩ := H
        go_wp2
        go_ret2
        exact ⟨by first | rfl | (simp [errW_none, errW_some] <;> rfl) | (simp [*, errW_none, errW_some] <;> rfl), by repeat (first | (with_reducible first | exact HB.out | apply below_alloc | apply pw_below_drewN | apply below_drew1) | exact HB.out)⟩
      · replace c5 := Bool.eq_false_iff.mpr c5
        subst c5
        have H1 : ((triremeref03_value.f kj1 a0).bind fun t174 => (if t174 > 1125899906842624 then (some (0, 10)) else (some (t174, 0)))) = some (r1, r2) := by rw [if_neg (show ¬ (false = true) by decide)] at H; exact H
        clear H
        have H := H1
        clear H1
        replace H := Option.bind_eq_some_iff.mp H
        obtain ⟨t174, A60, H⟩ := H
        replace H : (if t174 > 1125899906842624 then (some (0, 10)) else (some (t174, 0))) = some (r1, r2) := H
        have A6 := Aside0.mk A60
        clear A60
        by_cases c7 : t174 > 1125899906842624
        · rw [if_pos c7] at H
          have c7b0 : decide (1125899906842624 < t174) = true := decide_eq_true c7
          clear c7
          simp only [Option.some.injEq, Prod.mk.injEq] at H
          obtain ⟨rfl, rfl⟩ := H
          go_wp2_with (first | ((first | ((with_reducible refine gate_callee (f := 25) rfl ?_); refine goesL_ (some 16) rfl rfl Try.func25 (by kernel_rfl) rfl #[.string a0] rfl (by (try simp only [List.map_toArray, List.map_cons, List.map_nil]); first | done | rfl | (simp only [List.length_drop, List.length_take]; rfl)) ?_; (with_reducible refine (triremeref03_value.calls kj1 a0 t174 _ A6.out).mono ?_); rintro e w8 ⟨rfl, hb⟩; refine ⟨_, rfl, ?_⟩) | (go_at_call 25; (with_reducible refine (triremeref03_value.calls kj1 a0 t174 _ A6.out).mono ?_); rintro e w8 ⟨rfl, hb⟩)); have n0_ := Aside0.mk (below_step (by repeat (first | (with_reducible first | exact HB.out | apply below_alloc | apply pw_below_drewN | apply below_drew1) | exact HB.out)) hb); clear HB; have HB := n0_; clear n0_; (try clear hb); (try clear hb2); (try clear hk); (try clear hi)))
          go_ret2
          exact ⟨by first | rfl | (simp [errW_none, errW_some] <;> rfl) | (simp [*, errW_none, errW_some] <;> rfl), by repeat (first | (with_reducible first | exact HB.out | apply below_alloc | apply pw_below_drewN | apply below_drew1) | exact HB.out)⟩
        · rw [if_neg c7] at H
          have c7b0 : decide (1125899906842624 < t174) = false := decide_eq_false c7
          clear c7
          simp only [Option.some.injEq, Prod.mk.injEq] at H
          obtain ⟨rfl, rfl⟩ := H
          go_wp2_with (first | ((first | ((with_reducible refine gate_callee (f := 25) rfl ?_); refine goesL_ (some 16) rfl rfl Try.func25 (by kernel_rfl) rfl #[.string a0] rfl (by (try simp only [List.map_toArray, List.map_cons, List.map_nil]); first | done | rfl | (simp only [List.length_drop, List.length_take]; rfl)) ?_; (with_reducible refine (triremeref03_value.calls kj1 a0 t174 _ A6.out).mono ?_); rintro e w9 ⟨rfl, hb⟩; refine ⟨_, rfl, ?_⟩) | (go_at_call 25; (with_reducible refine (triremeref03_value.calls kj1 a0 t174 _ A6.out).mono ?_); rintro e w9 ⟨rfl, hb⟩)); have n0_ := Aside0.mk (below_step (by repeat (first | (with_reducible first | exact HB.out | apply below_alloc | apply pw_below_drewN | apply below_drew1) | exact HB.out)) hb); clear HB; have HB := n0_; clear n0_; (try clear hb); (try clear hb2); (try clear hk); (try clear hi)))
          go_ret2
          exact ⟨by first | rfl | (simp [errW_none, errW_some] <;> rfl) | (simp [*, errW_none, errW_some] <;> rfl), by repeat (first | (with_reducible first | exact HB.out | apply below_alloc | apply pw_below_drewN | apply below_drew1) | exact HB.out)⟩
end Go.Proofs.Ytpmmiabcfnejmaa.H
end
section
namespace Go.Proofs.Ytpmmiabcfnejmaa.H
open Go.RowKit Go.Proofs.YtpmmiabcfnejmaaW.PrintWords Go.Proofs.YtpmmiabcfnejmaaW.PrintLast Go.Proofs.YtpmmiabcfnejmaaW.PrintMore
theorem wrap_small {i : Int} (h0 : -9223372036854775808 ≤ i) (h1 : i ≤ 9223372036854775807) : wrap64 i = i := by unfold wrap64; omega
theorem bytes_inj {a b : ByteArray} (h : a.data.toList = b.data.toList) : a = b := by
  cases a; cases b
  simp only at h
  rw [Array.toList_inj.mp h]
theorem toList_inj {a b : ByteArray} (h : a.toList = b.toList) : a = b := by
  rw [ByteArray.toList_eq, ByteArray.toList_eq] at h
  exact bytes_inj h
theorem drop_bt (s : ByteArray) (i : Nat) (h : i < s.size) : s.toList.drop i = (s[i]'h) :: s.toList.drop (i + 1) := by
  rw [ByteArray.toList_eq]
  rw [List.drop_eq_getElem_cons (by simpa using h)]
  rfl
theorem bt_nat (s : ByteArray) (i : Nat) (h : i < s.size) : bt s (i : Int) = ((s[i]'h).toNat : Int) := by
  unfold bt
  simp only [Int.toNat_natCast]
  rw [dif_pos h]
theorem ev_if {α : Type} {c : Prop} [Decidable c] {f g : Nat → Option α} {r : α} (h1 : c → Ev f r) (h2 : ¬ c → Ev g r) : Ev (fun k => if c then f k else g k) r := by
  by_cases h : c
  · simp only [h, if_true]; exact h1 h
  · simp only [h, if_false]; exact h2 h
def digB (c : UInt8) : Bool := decide (48 ≤ c.toNat) && decide (c.toNat ≤ 57)
def heads (l : List UInt8) : Nat := (l.takeWhile digB).length
theorem toList_len (s : ByteArray) : s.toList.length = s.size := by rw [ByteArray.toList_eq]; rfl
theorem head_l0 (s : ByteArray) (hs : s.size ≤ 1000000000) : ∀ d i : Nat, i + d = s.size → Ev (fun k => quant_head.l0 k s (i : Int)) ((i + heads (s.toList.drop i) : Nat) : Int) := by
  intro d
  induction d with
  | zero =>
    intro i h
    refine Ev.step (fun k => by rw [quant_head.l0]) ?_
    have h3 : ¬ ((i : Int) < (s.size : Int)) := by omega
    rw [List.drop_eq_nil_of_le (by rw [toList_len]; omega)]
    simp only [h3, if_false, heads, List.takeWhile_nil, List.length_nil, Nat.add_zero]
    exact Ev.now _
  | succ d ih =>
    intro i h
    refine Ev.step (fun k => by rw [quant_head.l0]) ?_
    have h3 : ((i : Int) < (s.size : Int)) := by omega
    have h4 : (0 : Int) ≤ (i : Int) := by omega
    have h5 : i < s.size := by omega
    simp only [h3, h4, if_true]
    rw [wrap_small (i := (i : Int) + 1) (by omega) (by omega), drop_bt s i h5, bt_nat s i h5]
    unfold heads
    rw [List.takeWhile_cons]
    refine ev_if (fun h6 => ev_if (fun h7 => ?_) (fun h7 => ?_)) (fun h6 => ?_)
    · have : digB s[i] = true := by simp [digB]; omega
      rw [this]
      have := ih (i + 1) (by omega)
      unfold heads at this
      rw [show i + 1 + (List.takeWhile digB (List.drop (i + 1) s.toList)).length = i + (s[i] :: List.takeWhile digB (List.drop (i + 1) s.toList)).length by simp; omega] at this
      exact this
    · have : digB s[i] = false := by simp [digB]; omega
      rw [this]
      exact Ev.now _
    · have : digB s[i] = false := by simp [digB]; omega
      rw [this]
      exact Ev.now _
theorem head_ev (s : ByteArray) (hs : s.size ≤ 1000000000) : Ev (fun k => quant_head.f k s) ((heads s.toList : Nat) : Int) := by
  have := head_l0 s hs s.size 0 (by omega)
  rw [List.drop_zero, Nat.zero_add] at this
  exact this
theorem heads_le (l : List UInt8) : heads l ≤ l.length := by
  have h := congrArg List.length (List.takeWhile_append_dropWhile (p := digB) (l := l))
  rw [List.length_append] at h
  unfold heads
  omega
/-- The number that digits tell, behind n. -/
def dval : List UInt8 → Nat → Nat
  | [], n => n
  | c :: l, n => dval l (10 * n + (c.toNat - 48))
theorem dval_ge : ∀ (l : List UInt8) (n : Nat), n ≤ dval l n
  | [], n => Nat.le_refl _
  | c :: l, n => Nat.le_trans (by omega) (dval_ge l (10 * n + (c.toNat - 48)))
def valR (v most : Nat) : Int × Bool := if v ≤ most then ((v : Int), true) else (0, false)
theorem value_l0 (s : ByteArray) (most : Nat) (hm : 9 ≤ most) (hm2 : most ≤ 9000000000000000000) (hs : s.size ≤ 1000000000) (hd : ∀ c ∈ s.toList, digB c = true) : ∀ (d i n : Nat), i + d = s.size → n ≤ most →
    Ev (fun k => quant_value.l0 k s (most : Int) (n : Int) (s.size : Int) (i : Int)) (valR (dval (s.toList.drop i) n) most) := by
  intro d
  induction d with
  | zero =>
    intro i n h hn
    refine Ev.step (fun k => by rw [quant_value.l0]) ?_
    have h3 : ¬ ((i : Int) < (s.size : Int)) := by omega
    rw [List.drop_eq_nil_of_le (by rw [toList_len]; omega)]
    simp only [h3, if_false, dval, valR, hn, if_true]
    exact Ev.now _
  | succ d ih =>
    intro i n h hn
    refine Ev.step (fun k => by rw [quant_value.l0]) ?_
    have h3 : ((i : Int) < (s.size : Int)) := by omega
    have h4 : (0 : Int) ≤ (i : Int) := by omega
    have h5 : i < s.size := by omega
    simp only [h3, h4, if_true]
    have hg : digB s[i] = true := hd _ (by
      have := drop_bt s i h5
      have h6 : s[i] ∈ s.toList.drop i := by rw [this]; exact List.mem_cons_self
      exact List.mem_of_mem_drop h6)
    simp only [digB, Bool.and_eq_true, decide_eq_true_eq] at hg
    rw [drop_bt s i h5, bt_nat s i h5]
    simp only [dval]
    have e1 : (((s[i]'h5).toNat : Int) - 48) % 256 = (((s[i]'h5).toNat - 48 : Nat) : Int) := by omega
    rw [e1]
    have hq9 : ((s[i]'h5).toNat - 48) ≤ 9 := by omega
    rw [wrap_small (i := (most : Int) - ((((s[i]'h5).toNat - 48) : Nat) : Int)) (by omega) (by omega), wrap_small (i := (i : Int) + 1) (by omega) (by omega)]
    have e2 : Int.tdiv ((most : Int) - ((((s[i]'h5).toNat - 48) : Nat) : Int)) 10 = (((most - ((s[i]'h5).toNat - 48)) / 10 : Nat) : Int) := by
      rw [show (most : Int) - ((((s[i]'h5).toNat - 48) : Nat) : Int) = ((most - ((s[i]'h5).toNat - 48) : Nat) : Int) by omega]
      rfl
    rw [e2, wrap_small (i := (((most - ((s[i]'h5).toNat - 48)) / 10 : Nat) : Int)) (by omega) (by omega)]
    refine ev_if (fun h6 => ?_) (fun h6 => ?_)
    · have h7 : most < 10 * n + ((s[i]'h5).toNat - 48) := by omega
      have h8 := dval_ge (s.toList.drop (i + 1)) (10 * n + ((s[i]'h5).toNat - 48))
      have h9 : ¬ (dval (s.toList.drop (i + 1)) (10 * n + ((s[i]'h5).toNat - 48)) ≤ most) := by omega
      unfold valR
      rw [if_neg h9]
      exact Ev.now _
    · have h7 : 10 * n + ((s[i]'h5).toNat - 48) ≤ most := by omega
      rw [wrap_small (i := 10 * (n : Int)) (by omega) (by omega), wrap_small (i := 10 * (n : Int) + ((((s[i]'h5).toNat - 48) : Nat) : Int)) (by omega) (by omega)]
      have := ih (i + 1) (10 * n + ((s[i]'h5).toNat - 48)) (by omega) h7
      rw [show ((10 * n + ((s[i]'h5).toNat - 48) : Nat) : Int) = 10 * (n : Int) + ((((s[i]'h5).toNat - 48) : Nat) : Int) by push_cast; rfl] at this
      exact this
theorem value_ev (s : ByteArray) (most : Nat) (hm : 9 ≤ most) (hm2 : most ≤ 9000000000000000000) (hs : s.size ≤ 1000000000) (hd : ∀ c ∈ s.toList, digB c = true) :
    Ev (fun k => quant_value.f k s (most : Int)) (valR (dval s.toList 0) most) := by
  have := value_l0 s most hm hm2 hs hd s.size 0 0 (by omega) (by omega)
  rw [List.drop_zero] at this
  exact this
end Go.Proofs.Ytpmmiabcfnejmaa.H
end
section
namespace Go.Proofs.Ytpmmiabcfnejmaa.H
open Go.RowKit Go.Proofs.YtpmmiabcfnejmaaW.PrintWords Go.Proofs.YtpmmiabcfnejmaaW.PrintLast Go.Proofs.YtpmmiabcfnejmaaW.PrintMore
set_option linter.unusedVariables false
set_option linter.unusedSimpArgs false
theorem u64w {n : Int} (h0 : 0 ≤ n) (h1 : n < 18446744073709551616) : IntKind.u64.wrap n = n := by rw [IntKind.wrap_u64]; omega
theorem and32 (x : Int) (h0 : 0 ≤ x) (h1 : x < 18446744073709551616) : Go.bits .and .u64 x 4294967295 = x % 4294967296 := by
  have h := bits_mask .u64 64 (by decide) (fun n a b => u64w a (by have e : (2 : Int) ^ 64 = 18446744073709551616 := by decide
                                                                   omega)) 32 (by decide) x h0 (by have e : (2 : Int) ^ 64 = 18446744073709551616 := by decide
                                                                                                   omega)
  have e : ((2 : Int) ^ 32 - 1) = 4294967295 := by decide
  have e2 : ((2 : Int) ^ 32) = 4294967296 := by decide
  rw [e, e2] at h
  exact h
theorem mul_split (x y u v : Int) : (4294967296 * x + u) * (4294967296 * y + v) = x * y * 18446744073709551616 + (x * v + u * y) * 4294967296 + u * v := by
  grind
theorem mul_bound {x y m : Int} (hx0 : 0 ≤ x) (hx : x ≤ m) (hy0 : 0 ≤ y) (hy : y ≤ m) : 0 ≤ x * y ∧ x * y ≤ m * m :=
  ⟨Int.mul_nonneg hx0 hy0, Int.mul_le_mul hx hy hy0 (by omega)⟩
theorem mul64 (a b : Int) (ha0 : 0 ≤ a) (ha : a < 18446744073709551616) (hb0 : 0 ≤ b) (hb : b < 18446744073709551616) :
    bits_Mul64.f a b = some (a * b / 18446744073709551616, a * b % 18446744073709551616) := by
  have e := mul_split (a / 4294967296) (b / 4294967296) (a % 4294967296) (b % 4294967296)
  rw [show 4294967296 * (a / 4294967296) + a % 4294967296 = a by omega, show 4294967296 * (b / 4294967296) + b % 4294967296 = b by omega] at e
  unfold bits_Mul64.f
  rw [and32 a ha0 ha, and32 b hb0 hb]
  have b11 := mul_bound (m := 4294967295) (show 0 ≤ a / 4294967296 by omega) (by omega) (show 0 ≤ b / 4294967296 by omega) (by omega)
  have b10 := mul_bound (m := 4294967295) (show 0 ≤ a / 4294967296 by omega) (by omega) (show 0 ≤ b % 4294967296 by omega) (by omega)
  have b01 := mul_bound (m := 4294967295) (show 0 ≤ a % 4294967296 by omega) (by omega) (show 0 ≤ b / 4294967296 by omega) (by omega)
  have b00 := mul_bound (m := 4294967295) (show 0 ≤ a % 4294967296 by omega) (by omega) (show 0 ≤ b % 4294967296 by omega) (by omega)
  generalize (a / 4294967296) * (b / 4294967296) = p11 at *
  generalize (a / 4294967296) * (b % 4294967296) = p10 at *
  generalize (a % 4294967296) * (b / 4294967296) = p01 at *
  generalize (a % 4294967296) * (b % 4294967296) = p00 at *
  generalize a * b = p at *
  clear ha0 ha hb0 hb
  rw [u64w b11.1 (by omega), u64w b10.1 (by omega), u64w b01.1 (by omega), u64w b00.1 (by omega)]
  rw [u64w (n := p10 + p00 / 4294967296) (by omega) (by omega), and32 _ (by omega) (by omega)]
  rw [u64w (n := (p10 + p00 / 4294967296) % 4294967296 + p01) (by omega) (by omega), u64w (n := p11 + (p10 + p00 / 4294967296) / 4294967296) (by omega) (by omega)]
  rw [u64w (n := p11 + (p10 + p00 / 4294967296) / 4294967296 + ((p10 + p00 / 4294967296) % 4294967296 + p01) / 4294967296) (by omega) (by omega), IntKind.wrap_u64]
  congr 2
  omega
theorem tdiv_nn {a b : Int} (h : 0 ≤ a) : Int.tdiv a b = a / b := Int.tdiv_eq_ediv_of_nonneg h
theorem or_low (a b : Int) (i : Nat) (hi : i ≤ 64) (ha0 : 0 ≤ a) (ha : a < 18446744073709551616) (hb0 : 0 ≤ b) (hb : b < 2 ^ i) (hb1 : b < 18446744073709551616) (hm : a % 2 ^ i = 0) : Go.bits .or .u64 a b = a + b := by
  obtain ⟨c, hc⟩ : ∃ c : Int, a = c * 2 ^ i := ⟨a / 2 ^ i, (Int.ediv_mul_cancel (Int.dvd_of_emod_eq_zero hm)).symm⟩
  have hp : (0 : Int) < 2 ^ i := Int.pow_pos (by decide)
  have hc0 : 0 ≤ c := by
    rcases Int.lt_or_le c 0 with h | h
    · exfalso
      have := Int.mul_neg_of_neg_of_pos h hp
      omega
    · exact h
  obtain ⟨c', rfl⟩ := Int.eq_ofNat_of_zero_le hc0
  obtain ⟨b', rfl⟩ := Int.eq_ofNat_of_zero_le hb0
  have hb' : b' < 2 ^ i := by exact_mod_cast hb
  have ea : a = ((c' * 2 ^ i : Nat) : Int) := by rw [hc]; push_cast; rfl
  have h := (bits_nat .u64 64 (by decide) (fun n a b => u64w a (by have e : (2 : Int) ^ 64 = 18446744073709551616 := by decide
                                                                   omega)) (c' * 2 ^ i) b' (by have : (2 : Nat) ^ 64 = 18446744073709551616 := by decide
                                                                                               omega) (by have : (2 : Nat) ^ 64 = 18446744073709551616 := by decide
                                                                                                          omega)).2
  rw [ea, h, Nat.mul_comm, ← Nat.two_pow_add_eq_or_of_lt hb']
  push_cast
  rfl
theorem div64m_lz : Ev (fun k => bits_LeadingZeros64.f k 1000000) 44 := Ev.of (fun k => bits_LeadingZeros64.mono _ k) (k := 4) (by kernel_rfl)
theorem div64m_j4 (x10 x14 x15 x16 x17 x18 : Int) (x2 x9 : Int) (h15 : 0 ≤ x15) (h15b : x15 < 4294967296) (h18 : 0 ≤ x18) (h18b : x18 < 4294967296) : ∃ r, Ev (fun k => bits_Div64.j4 k x2 44 x9 x10 x14 x15 x16 x17 x18 false) (x15 * 4294967296 + x18, r) := by
  refine ⟨shr .u64 (IntKind.u64.wrap ((IntKind.u64.wrap ((IntKind.u64.wrap (x17 * 4294967296)) + x14)) - (IntKind.u64.wrap (x18 * x2)))) 44, Ev.step (fun k => by rw [bits_Div64.j4]) ?_⟩
  · simp only [Bool.false_eq_true, if_false, show (0 : Int) ≤ 44 by decide, if_true]
    rw [u64w (n := x15 * 4294967296) (by omega) (by omega), u64w (n := x15 * 4294967296 + x18) (by omega) (by omega)]
    exact Ev.now _
theorem div64m_l0 (un32 un1 un0 q1 q0 un21 : Int) (h0 : 0 ≤ un32) (h1 : un32 < 17592186044416000000) (g0 : 0 ≤ un1) (g1 : un1 < 4294967296) (hq : q1 = un32 / 4096000000) (hu : un21 = (un32 - q1 * 4096000000) * 4294967296 + un1) (hq0 : q0 = un21 / 4096000000) (rh : Int) :
    ∃ r, Ev (fun k => bits_Div64.l0 k 17592186044416000000 44 4096000000 0 un32 un1 un0 q1 rh) (q1 * 4294967296 + q0, r) := by
  have b1 : 0 ≤ q1 ∧ q1 < 4294967296 := by omega
  have b2 : 0 ≤ un21 ∧ un21 < 17592186044416000000 := by omega
  have b3 : 0 ≤ q0 ∧ q0 < 4294967296 := by omega
  obtain ⟨r, hr⟩ := div64m_j4 0 un0 q1 (IntKind.u64.wrap (un21 - IntKind.u64.wrap (q0 * 4096000000))) un21 q0 17592186044416000000 4096000000 b1.1 b1.2 b3.1 b3.2
  refine ⟨r, Ev.step (fun k => by rw [bits_Div64.l0]) ?_⟩
  simp only [show ¬ q1 ≥ 4294967296 by omega, if_false]
  rw [show decide (IntKind.u64.wrap (q1 * 0) > IntKind.u64.wrap (IntKind.u64.wrap (4294967296 * rh) + un1)) = false from decide_eq_false (by rw [Int.mul_zero, IntKind.wrap_u64, IntKind.wrap_u64]; omega)]
  refine Ev.step (fun k => by rw [bits_Div64.j1]) ?_
  simp only [Bool.false_eq_true, if_false]
  refine Ev.step (fun k => by rw [bits_Div64.j2]) ?_
  simp only [show ¬ (4096000000 : Int) = 0 by decide, if_false]
  have e21 : IntKind.u64.wrap (IntKind.u64.wrap (IntKind.u64.wrap (un32 * 4294967296) + un1) - IntKind.u64.wrap (q1 * 17592186044416000000)) = un21 := by
    rw [IntKind.wrap_u64, IntKind.wrap_u64, IntKind.wrap_u64, IntKind.wrap_u64]; omega
  have eq0 : IntKind.u64.wrap (Int.tdiv un21 4096000000) = q0 := by rw [tdiv_nn b2.1, ← hq0, u64w b3.1 (by omega)]
  rw [e21, eq0]
  refine Ev.step (fun k => by rw [bits_Div64.l1]) ?_
  simp only [show ¬ q0 ≥ 4294967296 by omega, if_false]
  rw [show decide (IntKind.u64.wrap (q0 * 0) > IntKind.u64.wrap (IntKind.u64.wrap (4294967296 * IntKind.u64.wrap (un21 - IntKind.u64.wrap (q0 * 4096000000))) + un0)) = false from decide_eq_false (by rw [Int.mul_zero, IntKind.wrap_u64 0, IntKind.wrap_u64 (_ + un0)]; omega)]
  exact hr
theorem div64m (hi lo : Int) (h0 : 0 ≤ hi) (h1 : hi < 1000000) (l0 : 0 ≤ lo) (l1 : lo < 18446744073709551616) :
    ∃ r, Ev (fun k => bits_Div64.f k hi lo 1000000) ((hi * 18446744073709551616 + lo) / 1000000, r) := by
  unfold bits_Div64.f
  simp only [show ¬ (1000000 : Int) = 0 by decide, if_false, show ¬ (1000000 : Int) ≤ hi by omega]
  by_cases hz : hi = 0
  · subst hz
    simp only [if_true]
    refine ⟨Int.tmod lo 1000000, ?_⟩
    rw [tdiv_nn l0, u64w (by omega) (by omega), show ((0 : Int) * 18446744073709551616 + lo) = lo by omega]
    exact Ev.now _
  · simp only [hz, if_false]
    have e1 : shl .u64 hi 44 = hi * 17592186044416 := by show IntKind.u64.wrap (hi * 17592186044416) = _; exact u64w (by omega) (by omega)
    have e2 : shr .u64 lo 20 = lo / 1048576 := rfl
    have e3 : Go.bits .or .u64 (hi * 17592186044416) (lo / 1048576) = hi * 17592186044416 + lo / 1048576 := or_low _ _ 44 (by decide) (by omega) (by omega) (by omega) (by show lo / 1048576 < 17592186044416; omega) (by omega) (by show hi * 17592186044416 % 17592186044416 = 0; omega)
    have e4 : shl .u64 lo 44 = (lo % 1048576) * 17592186044416 := by show IntKind.u64.wrap (lo * 17592186044416) = _; rw [IntKind.wrap_u64]; omega
    obtain ⟨r, hr⟩ := div64m_l0 (hi * 17592186044416 + lo / 1048576) ((lo % 1048576) * 17592186044416 / 4294967296) (Go.bits .and .u64 ((lo % 1048576) * 17592186044416) 4294967295) _ _ _ (by omega) (by omega) (by omega) (by omega) rfl rfl rfl (IntKind.u64.wrap ((hi * 17592186044416 + lo / 1048576) - IntKind.u64.wrap (((hi * 17592186044416 + lo / 1048576) / 4096000000) * 4096000000)))
    refine ⟨r, Ev.bind div64m_lz ?_⟩
    have ew : IntKind.u64.wrap 44 = 44 := by kernel_rfl
    have ew2 : IntKind.u64.wrap (64 - 44) = 20 := by kernel_rfl
    have ey : shl .u64 1000000 44 = 17592186044416000000 := by kernel_rfl
    have ey2 : (17592186044416000000 : Int) / 4294967296 = 4096000000 := by decide
    have ey3 : Go.bits .and .u64 17592186044416000000 4294967295 = 0 := by kernel_rfl
    simp only [ew, ew2, ey, ey2, ey3, e1, e2, e3, e4]
    simp only [show (0 : Int) ≤ 44 by decide, show (0 : Int) ≤ 20 by decide, show ¬ (4096000000 : Int) = 0 by decide, if_true, if_false]
    rw [tdiv_nn (a := hi * 17592186044416 + lo / 1048576) (by omega), u64w (n := (hi * 17592186044416 + lo / 1048576) / 4096000000) (by omega) (by omega)]
    have er : (hi * 17592186044416 + lo / 1048576) / 4096000000 * 4294967296 + ((hi * 17592186044416 + lo / 1048576 - (hi * 17592186044416 + lo / 1048576) / 4096000000 * 4096000000) * 4294967296 + lo % 1048576 * 17592186044416 / 4294967296) / 4096000000 = (hi * 18446744073709551616 + lo) / 1000000 := by omega
    rw [← er]
    exact hr
theorem div64k_lz : Ev (fun k => bits_LeadingZeros64.f k 1000) 54 := Ev.of (fun k => bits_LeadingZeros64.mono _ k) (k := 4) (by kernel_rfl)
theorem div64k_j4 (x10 x14 x15 x16 x17 x18 : Int) (x2 x9 : Int) (h15 : 0 ≤ x15) (h15b : x15 < 4294967296) (h18 : 0 ≤ x18) (h18b : x18 < 4294967296) : ∃ r, Ev (fun k => bits_Div64.j4 k x2 54 x9 x10 x14 x15 x16 x17 x18 false) (x15 * 4294967296 + x18, r) := by
  refine ⟨shr .u64 (IntKind.u64.wrap ((IntKind.u64.wrap ((IntKind.u64.wrap (x17 * 4294967296)) + x14)) - (IntKind.u64.wrap (x18 * x2)))) 54, Ev.step (fun k => by rw [bits_Div64.j4]) ?_⟩
  · simp only [Bool.false_eq_true, if_false, show (0 : Int) ≤ 54 by decide, if_true]
    rw [u64w (n := x15 * 4294967296) (by omega) (by omega), u64w (n := x15 * 4294967296 + x18) (by omega) (by omega)]
    exact Ev.now _
theorem div64k_l0 (un32 un1 un0 q1 q0 un21 : Int) (h0 : 0 ≤ un32) (h1 : un32 < 18014398509481984000) (g0 : 0 ≤ un1) (g1 : un1 < 4294967296) (hq : q1 = un32 / 4194304000) (hu : un21 = (un32 - q1 * 4194304000) * 4294967296 + un1) (hq0 : q0 = un21 / 4194304000) (rh : Int) :
    ∃ r, Ev (fun k => bits_Div64.l0 k 18014398509481984000 54 4194304000 0 un32 un1 un0 q1 rh) (q1 * 4294967296 + q0, r) := by
  have b1 : 0 ≤ q1 ∧ q1 < 4294967296 := by omega
  have b2 : 0 ≤ un21 ∧ un21 < 18014398509481984000 := by omega
  have b3 : 0 ≤ q0 ∧ q0 < 4294967296 := by omega
  obtain ⟨r, hr⟩ := div64k_j4 0 un0 q1 (IntKind.u64.wrap (un21 - IntKind.u64.wrap (q0 * 4194304000))) un21 q0 18014398509481984000 4194304000 b1.1 b1.2 b3.1 b3.2
  refine ⟨r, Ev.step (fun k => by rw [bits_Div64.l0]) ?_⟩
  simp only [show ¬ q1 ≥ 4294967296 by omega, if_false]
  rw [show decide (IntKind.u64.wrap (q1 * 0) > IntKind.u64.wrap (IntKind.u64.wrap (4294967296 * rh) + un1)) = false from decide_eq_false (by rw [Int.mul_zero, IntKind.wrap_u64, IntKind.wrap_u64]; omega)]
  refine Ev.step (fun k => by rw [bits_Div64.j1]) ?_
  simp only [Bool.false_eq_true, if_false]
  refine Ev.step (fun k => by rw [bits_Div64.j2]) ?_
  simp only [show ¬ (4194304000 : Int) = 0 by decide, if_false]
  have e21 : IntKind.u64.wrap (IntKind.u64.wrap (IntKind.u64.wrap (un32 * 4294967296) + un1) - IntKind.u64.wrap (q1 * 18014398509481984000)) = un21 := by
    rw [IntKind.wrap_u64, IntKind.wrap_u64, IntKind.wrap_u64, IntKind.wrap_u64]; omega
  have eq0 : IntKind.u64.wrap (Int.tdiv un21 4194304000) = q0 := by rw [tdiv_nn b2.1, ← hq0, u64w b3.1 (by omega)]
  rw [e21, eq0]
  refine Ev.step (fun k => by rw [bits_Div64.l1]) ?_
  simp only [show ¬ q0 ≥ 4294967296 by omega, if_false]
  rw [show decide (IntKind.u64.wrap (q0 * 0) > IntKind.u64.wrap (IntKind.u64.wrap (4294967296 * IntKind.u64.wrap (un21 - IntKind.u64.wrap (q0 * 4194304000))) + un0)) = false from decide_eq_false (by rw [Int.mul_zero, IntKind.wrap_u64 0, IntKind.wrap_u64 (_ + un0)]; omega)]
  exact hr
theorem div64k (hi lo : Int) (h0 : 0 ≤ hi) (h1 : hi < 1000) (l0 : 0 ≤ lo) (l1 : lo < 18446744073709551616) :
    ∃ r, Ev (fun k => bits_Div64.f k hi lo 1000) ((hi * 18446744073709551616 + lo) / 1000, r) := by
  unfold bits_Div64.f
  simp only [show ¬ (1000 : Int) = 0 by decide, if_false, show ¬ (1000 : Int) ≤ hi by omega]
  by_cases hz : hi = 0
  · subst hz
    simp only [if_true]
    refine ⟨Int.tmod lo 1000, ?_⟩
    rw [tdiv_nn l0, u64w (by omega) (by omega), show ((0 : Int) * 18446744073709551616 + lo) = lo by omega]
    exact Ev.now _
  · simp only [hz, if_false]
    have e1 : shl .u64 hi 54 = hi * 18014398509481984 := by show IntKind.u64.wrap (hi * 18014398509481984) = _; exact u64w (by omega) (by omega)
    have e2 : shr .u64 lo 10 = lo / 1024 := rfl
    have e3 : Go.bits .or .u64 (hi * 18014398509481984) (lo / 1024) = hi * 18014398509481984 + lo / 1024 := or_low _ _ 54 (by decide) (by omega) (by omega) (by omega) (by show lo / 1024 < 18014398509481984; omega) (by omega) (by show hi * 18014398509481984 % 18014398509481984 = 0; omega)
    have e4 : shl .u64 lo 54 = (lo % 1024) * 18014398509481984 := by show IntKind.u64.wrap (lo * 18014398509481984) = _; rw [IntKind.wrap_u64]; omega
    obtain ⟨r, hr⟩ := div64k_l0 (hi * 18014398509481984 + lo / 1024) ((lo % 1024) * 18014398509481984 / 4294967296) (Go.bits .and .u64 ((lo % 1024) * 18014398509481984) 4294967295) _ _ _ (by omega) (by omega) (by omega) (by omega) rfl rfl rfl (IntKind.u64.wrap ((hi * 18014398509481984 + lo / 1024) - IntKind.u64.wrap (((hi * 18014398509481984 + lo / 1024) / 4194304000) * 4194304000)))
    refine ⟨r, Ev.bind div64k_lz ?_⟩
    have ew : IntKind.u64.wrap 54 = 54 := by kernel_rfl
    have ew2 : IntKind.u64.wrap (64 - 54) = 10 := by kernel_rfl
    have ey : shl .u64 1000 54 = 18014398509481984000 := by kernel_rfl
    have ey2 : (18014398509481984000 : Int) / 4294967296 = 4194304000 := by decide
    have ey3 : Go.bits .and .u64 18014398509481984000 4294967295 = 0 := by kernel_rfl
    simp only [ew, ew2, ey, ey2, ey3, e1, e2, e3, e4]
    simp only [show (0 : Int) ≤ 54 by decide, show (0 : Int) ≤ 10 by decide, show ¬ (4194304000 : Int) = 0 by decide, if_true, if_false]
    rw [tdiv_nn (a := hi * 18014398509481984 + lo / 1024) (by omega), u64w (n := (hi * 18014398509481984 + lo / 1024) / 4194304000) (by omega) (by omega)]
    have er : (hi * 18014398509481984 + lo / 1024) / 4194304000 * 4294967296 + ((hi * 18014398509481984 + lo / 1024 - (hi * 18014398509481984 + lo / 1024) / 4194304000 * 4194304000) * 4294967296 + lo % 1024 * 18014398509481984 / 4294967296) / 4194304000 = (hi * 18446744073709551616 + lo) / 1000 := by omega
    rw [← er]
    exact hr
end Go.Proofs.Ytpmmiabcfnejmaa.H
end
section
namespace Go.Proofs.Ytpmmiabcfnejmaa.H
open Go.RowKit Go.Proofs.YtpmmiabcfnejmaaW.PrintWords Go.Proofs.YtpmmiabcfnejmaaW.PrintLast Go.Proofs.YtpmmiabcfnejmaaW.PrintMore
set_option linter.unusedVariables false
set_option linter.unusedSimpArgs false
theorem dval_congr (m : Nat) : ∀ (l : List UInt8) (x y : Nat), x % m = y % m → dval l x % m = dval l y % m
  | [], x, y, h => h
  | c :: l, x, y, h => dval_congr m l _ _ (by rw [Nat.add_mod, Nat.mul_mod, h, ← Nat.mul_mod, ← Nat.add_mod])
theorem wrap_nat (n : Nat) (h : n ≤ 9223372036854775807) : wrap64 (n : Int) = (n : Int) := wrap_small (by omega) (by omega)
def vOf (A p u : Nat) : Nat := (A * 1000 + p) * u
theorem vOf_congr (m A B p u : Nat) (h : A % m = B % m) : vOf A p u % m = vOf B p u % m := by
  unfold vOf
  rw [Nat.mul_mod, Nat.add_mod, Nat.mul_mod A, h, ← Nat.mul_mod B, ← Nat.add_mod, ← Nat.mul_mod]
theorem tmod_nat (a b : Nat) : Int.tmod (a : Int) (b : Int) = ((a % b : Nat) : Int) := rfl
theorem tdiv_nat (a b : Nat) : Int.tdiv (a : Int) (b : Int) = ((a / b : Nat) : Int) := rfl
set_option maxRecDepth 100000 in
theorem exact_l0 (s : ByteArray) (each : Nat) (he : 0 < each) (he2 : each ≤ 1000000) (p u : Nat) (hp : p < 1000) (hs : s.size ≤ 1000000000) (hd : ∀ c ∈ s.toList, digB c = true) : ∀ (d i r : Nat), i + d = s.size → r < each →
    Ev (fun k => quant_exact.l0 k s (p : Int) (u : Int) (each : Int) (r : Int) (s.size : Int) (i : Int)) (decide (vOf (dval (s.toList.drop i) r) p u % each = 0)) := by
  intro d
  induction d with
  | zero =>
    intro i r h hr
    refine Ev.step (fun k => by rw [quant_exact.l0]) ?_
    have h3 : ¬ ((i : Int) < (s.size : Int)) := by omega
    rw [List.drop_eq_nil_of_le (by rw [toList_len]; omega)]
    simp only [h3, if_false, dval, show ¬ (each : Int) = 0 by omega]
    rw [wrap_small (i := (r : Int) * 1000) (by omega) (by omega), wrap_small (i := (r : Int) * 1000 + p) (by omega) (by omega)]
    rw [show (r : Int) * 1000 + (p : Int) = ((r * 1000 + p : Nat) : Int) by omega, tmod_nat, tmod_nat]
    have b1 : (r * 1000 + p) % each < 1000000 := Nat.lt_of_lt_of_le (Nat.mod_lt _ he) he2
    have b2 : u % each < 1000000 := Nat.lt_of_lt_of_le (Nat.mod_lt _ he) he2
    have b3 : (r * 1000 + p) % each * (u % each) ≤ 1000000 * 1000000 := Nat.mul_le_mul (by omega) (by omega)
    rw [show (((r * 1000 + p) % each : Nat) : Int) * ((u % each : Nat) : Int) = (((r * 1000 + p) % each * (u % each) : Nat) : Int) from (Int.natCast_mul _ _).symm, wrap_small (by omega) (by omega), tmod_nat, ← Nat.mul_mod]
    have e : (((((r * 1000 + p) * u % each : Nat) : Int)) == 0) = decide (vOf r p u % each = 0) := by
      unfold vOf
      by_cases h : (r * 1000 + p) * u % each = 0
      · simp [h]
      · rw [decide_eq_false h, beq_eq_false_iff_ne]; omega
    rw [e]
    exact Ev.now _
  | succ d ih =>
    intro i r h hr
    refine Ev.step (fun k => by rw [quant_exact.l0]) ?_
    have h3 : ((i : Int) < (s.size : Int)) := by omega
    have h4 : (0 : Int) ≤ (i : Int) := by omega
    have h5 : i < s.size := by omega
    simp only [h3, h4, if_true, show ¬ (each : Int) = 0 by omega, if_false]
    have hg : digB s[i] = true := hd _ (by
      have := drop_bt s i h5
      have h6 : s[i] ∈ s.toList.drop i := by rw [this]; exact List.mem_cons_self
      exact List.mem_of_mem_drop h6)
    simp only [digB, Bool.and_eq_true, decide_eq_true_eq] at hg
    rw [drop_bt s i h5, bt_nat s i h5]
    simp only [dval]
    have e1 : (((s[i]'h5).toNat : Int) - 48) % 256 = (((s[i]'h5).toNat - 48 : Nat) : Int) := by omega
    rw [e1]
    have hq9 : ((s[i]'h5).toNat - 48) ≤ 9 := by omega
    rw [wrap_small (i := (i : Int) + 1) (by omega) (by omega), wrap_small (i := 10 * (r : Int)) (by omega) (by omega), wrap_small (i := 10 * (r : Int) + (((s[i]'h5).toNat - 48 : Nat) : Int)) (by omega) (by omega)]
    rw [show 10 * (r : Int) + (((s[i]'h5).toNat - 48 : Nat) : Int) = ((10 * r + ((s[i]'h5).toNat - 48) : Nat) : Int) by omega, tmod_nat]
    have := ih (i + 1) ((10 * r + ((s[i]'h5).toNat - 48)) % each) (by omega) (Nat.mod_lt _ he)
    rw [vOf_congr each _ _ p u (dval_congr each (s.toList.drop (i + 1)) ((10 * r + ((s[i]'h5).toNat - 48)) % each) (10 * r + ((s[i]'h5).toNat - 48)) (Nat.mod_mod _ _))] at this
    exact this
theorem exact_ev (s : ByteArray) (each : Nat) (he : 0 < each) (he2 : each ≤ 1000000) (p u : Nat) (hp : p < 1000) (hs : s.size ≤ 1000000000) (hd : ∀ c ∈ s.toList, digB c = true) :
    Ev (fun k => quant_exact.f k s (p : Int) (u : Int) (each : Int)) (decide (vOf (dval s.toList 0) p u % each = 0)) := by
  have := exact_l0 s each he he2 p u hp hs hd s.size 0 0 (by omega) he
  rw [List.drop_zero] at this
  exact this
def amtFin (V each : Nat) : Int × Int := if V / each ≤ 1125899906842624 then (((V / each : Nat) : Int), 0) else (0, 10)
def finOf (n : Int × Bool) : Int × Int := if n.2 = true then (if n.1 > 1125899906842624 then (0, 10) else (n.1, 0)) else (0, 10)
set_option maxRecDepth 100000 in
theorem whole_ev (s : ByteArray) (each : Nat) (he : each = 1000 ∨ each = 1000000) (p u : Nat) (hp : p < 1000) (hu : u = 1 ∨ 1000 ≤ u) (hu2 : u ≤ 1099511627776000) (hs : s.size ≤ 1000000000) (hd : ∀ c ∈ s.toList, digB c = true)
    (hx : vOf (dval s.toList 0) p u % each = 0) : ∃ n, Ev (fun k => quant_whole.f k s (p : Int) (u : Int) (each : Int)) n ∧ finOf n = amtFin (vOf (dval s.toList 0) p u) each := by
  unfold quant_whole.f
  rcases hu with rfl | hu
  · have hv := value_ev s 1125899906842624000 (by omega) (by omega) hs hd
    simp only [show ((1 : Nat) : Int) = 1 from rfl, if_true]
    generalize dval s.toList 0 = A at *
    have hp0 : p = 0 := by
      unfold vOf at hx
      rcases he with rfl | rfl <;> omega
    subst hp0
    unfold vOf at hx ⊢
    have ew1 : wrap64 (Int.tdiv (each : Int) 1000) = ((each / 1000 : Nat) : Int) := by
      rw [show Int.tdiv (each : Int) 1000 = ((each / 1000 : Nat) : Int) from rfl, wrap_small (by omega) (by omega)]
    have hq : A / (each / 1000) ≤ A := Nat.div_le_self _ _
    refine ⟨(wrap64 (Int.tdiv (valR A 1125899906842624000).1 (wrap64 (Int.tdiv (each : Int) 1000))), (valR A 1125899906842624000).2), Ev.bind hv ?_, ?_⟩
    · have : ¬ wrap64 (Int.tdiv (each : Int) 1000) = 0 := by rw [ew1]; rcases he with rfl | rfl <;> decide
      simp only [this, if_false]
      exact Ev.now _
    · rw [ew1]
      unfold finOf amtFin valR
      by_cases hA : A ≤ 1125899906842624000
      · simp only [hA, if_true]
        rw [tdiv_nat, wrap_nat _ (by omega)]
        have e2 : (A * 1000 + 0) * 1 / each = A / (each / 1000) := by rcases he with rfl | rfl <;> omega
        rw [e2]
        by_cases hB : A / (each / 1000) ≤ 1125899906842624
        · rw [if_pos hB, if_neg (by omega)]
        · rw [if_neg hB, if_pos (by omega)]
      · simp only [hA, if_false, Bool.false_eq_true]
        rw [if_neg (by rcases he with rfl | rfl <;> omega)]
  · have hv := value_ev s 1125899906842624 (by omega) (by omega) hs hd
    simp only [show ¬ (u : Int) = 1 by omega, if_false]
    generalize dval s.toList 0 = A at *
    by_cases hA : A ≤ 1125899906842624
    · rw [show valR A 1125899906842624 = ((A : Int), true) by unfold valR; rw [if_pos hA]] at hv
      have eV : (((A * 1000 + p : Nat) : Int)) * (u : Int) = ((vOf A p u : Nat) : Int) := by unfold vOf; push_cast; rfl
      have em := mul64 ((A * 1000 + p : Nat) : Int) (u : Int) (by omega) (by omega) (by omega) (by omega)
      rw [eV] at em
      have ew : IntKind.u64.wrap (wrap64 ((wrap64 ((A : Int) * 1000)) + (p : Int))) = ((A * 1000 + p : Nat) : Int) := by
        rw [wrap_small (i := (A : Int) * 1000) (by omega) (by omega), wrap_small (by omega) (by omega), u64w (by omega) (by omega)]; push_cast; rfl
      have ewu : IntKind.u64.wrap (u : Int) = (u : Int) := u64w (by omega) (by omega)
      have ewe : IntKind.u64.wrap (each : Int) = (each : Int) := u64w (by omega) (by omega)
      generalize vOf A p u = V at *
      by_cases hh : V / 18446744073709551616 ≥ each
      · refine ⟨(0, false), Ev.bind hv ?_, ?_⟩
        · simp only [ew, ewu, ewe, em, Option.bind_some, if_true]
          refine ev_if (fun _ => Ev.now _) (fun h => absurd (show (V : Int) / 18446744073709551616 ≥ (each : Int) by omega) h)
        · unfold finOf amtFin
          simp only [Bool.false_eq_true, if_false]
          rw [if_neg (by rcases he with rfl | rfl <;> omega)]
      · have hdv : ∃ r, Ev (fun k => bits_Div64.f k ((V : Int) / 18446744073709551616) ((V : Int) % 18446744073709551616) (each : Int)) (((V / each : Nat) : Int), r) := by
          rcases he with rfl | rfl
          · obtain ⟨r, hr⟩ := div64k ((V : Int) / 18446744073709551616) ((V : Int) % 18446744073709551616) (by omega) (by omega) (by omega) (by omega)
            rw [show ((V : Int) / 18446744073709551616 * 18446744073709551616 + (V : Int) % 18446744073709551616) / 1000 = ((V / 1000 : Nat) : Int) by omega] at hr
            exact ⟨r, hr⟩
          · obtain ⟨r, hr⟩ := div64m ((V : Int) / 18446744073709551616) ((V : Int) % 18446744073709551616) (by omega) (by omega) (by omega) (by omega)
            rw [show ((V : Int) / 18446744073709551616 * 18446744073709551616 + (V : Int) % 18446744073709551616) / 1000000 = ((V / 1000000 : Nat) : Int) by omega] at hr
            exact ⟨r, hr⟩
        obtain ⟨r, hr⟩ := hdv
        refine ⟨(wrap64 (mn ((V / each : Nat) : Int) 1125899906842625), true), Ev.bind hv ?_, ?_⟩
        · simp only [ew, ewu, ewe, em, Option.bind_some, if_true]
          exact ev_if (fun h => absurd h (show ¬ (V : Int) / 18446744073709551616 ≥ (each : Int) by omega)) (fun _ => Ev.bind hr (Ev.now _))
        · have e3 : wrap64 (mn ((V / each : Nat) : Int) 1125899906842625) = ((min (V / each) 1125899906842625 : Nat) : Int) := by
            have e4 : mn ((V / each : Nat) : Int) 1125899906842625 = ((min (V / each) 1125899906842625 : Nat) : Int) := by unfold mn; split <;> omega
            rw [e4, wrap_nat _ (by omega)]
          rw [e3]
          unfold finOf amtFin
          simp only [if_true]
          by_cases hB : V / each ≤ 1125899906842624
          · rw [if_pos hB, if_neg (by omega)]
            congr 2
            omega
          · rw [if_neg hB, if_pos (by omega)]
    · rw [show valR A 1125899906842624 = (0, false) by unfold valR; rw [if_neg hA]] at hv
      refine ⟨(0, false), Ev.bind hv ?_, ?_⟩
      · rw [mul64 _ _ (by rw [IntKind.wrap_u64]; omega) (by rw [IntKind.wrap_u64]; omega) (by rw [IntKind.wrap_u64]; omega) (by rw [IntKind.wrap_u64]; omega)]
        simp only [Option.bind_some, Bool.false_eq_true, if_false]
        exact Ev.now _
      · have h1 : 1125899906842625 * 1000 * 1000 ≤ vOf A p u := Nat.mul_le_mul (by omega) hu
        unfold finOf amtFin
        simp only [Bool.false_eq_true, if_false]
        rw [if_neg (by rcases he with rfl | rfl <;> omega)]
theorem extract_toList (s : ByteArray) (i j : Nat) : (s.extract i j).toList = (s.toList.take j).drop i := by
  rw [ByteArray.toList_eq, ByteArray.toList_eq]
  rw [ByteArray.data_extract, Array.toList_extract, List.extract_eq_take_drop, List.drop_take]
theorem heads_take (l : List UInt8) : ∀ c ∈ l.take (heads l), digB c = true := by
  have e : l.take (heads l) = l.takeWhile digB := by
    have h1 := List.takeWhile_append_dropWhile (p := digB) (l := l)
    have h2 : (l.takeWhile digB ++ l.dropWhile digB).take (heads l) = l.takeWhile digB := List.take_left
    rw [h1] at h2
    exact h2
  intro c hc
  rw [e] at hc
  exact List.all_eq_true.1 (List.all_takeWhile (p := digB) (l := l)) c hc
end Go.Proofs.Ytpmmiabcfnejmaa.H
end
section
namespace Go.Proofs.Ytpmmiabcfnejmaa.H
open Go.RowKit Go.Proofs.YtpmmiabcfnejmaaW.PrintWords Go.Proofs.YtpmmiabcfnejmaaW.PrintLast Go.Proofs.YtpmmiabcfnejmaaW.PrintMore
set_option linter.unusedVariables false
set_option linter.unusedSimpArgs false
theorem zz2 : ∀ c ∈ (⟨#[48, 48]⟩ : ByteArray).toList, digB c = true := by rw [ByteArray.toList_eq]; decide
theorem fin_now (n : Int × Bool) : Ev (fun _ => if n.2 = true then (if n.1 > 1125899906842624 then some ((0, 10) : Int × Int) else some (n.1, 0)) else some (0, 10)) (finOf n) := by
  unfold finOf
  by_cases h : n.2 = true
  · by_cases h1 : n.1 > 1125899906842624
    · simp only [h, h1, if_true]; exact Ev.now _
    · simp only [h, h1, if_true, if_false]; exact Ev.now _
  · simp only [h, if_false, Bool.false_eq_true]; exact Ev.now _
theorem toList_nil {s : ByteArray} (h : s.size = 0) : s.toList = [] := List.eq_nil_of_length_eq_zero (by rw [toList_len]; exact h)
theorem size_nil {s : ByteArray} (h : s.toList = []) : s.size = 0 := by rw [← toList_len, h]; rfl
def cutR (s : ByteArray) : ByteArray × Int × ByteArray × Int :=
  let n := heads s.toList
  if n = 0 then (⟨#[]⟩, 0, ⟨#[]⟩, 8) else
  let rest := s.extract n s.size
  if rest.size = 0 ∨ bt rest 0 ≠ 46 then (s.extract 0 n, 0, rest, 0) else
  let k := heads (rest.extract 1 rest.size).toList
  if k < 1 ∨ 3 < k then (⟨#[]⟩, 0, ⟨#[]⟩, 8) else
  (s.extract 0 n, ((dval (((rest.extract 1 (1 + k)) ++ (⟨#[48, 48]⟩ : ByteArray)).extract 0 3).toList 0 : Nat) : Int), rest.extract (1 + k) rest.size, 0)
theorem dval_lt : ∀ (l : List UInt8) (n : Nat), (∀ c ∈ l, digB c = true) → dval l n < (n + 1) * 10 ^ l.length
  | [], n, _ => by simp [dval]
  | c :: l, n, h => by
    have hc := h c List.mem_cons_self
    simp only [digB, Bool.and_eq_true, decide_eq_true_eq] at hc
    have := dval_lt l (10 * n + (c.toNat - 48)) (fun c hc => h c (List.mem_cons_of_mem _ hc))
    simp only [dval, List.length_cons]
    have e : (10 * n + (c.toNat - 48) + 1) * 10 ^ l.length ≤ (n + 1) * 10 * 10 ^ l.length := Nat.mul_le_mul_right _ (by omega)
    rw [Nat.pow_succ, Nat.mul_comm (10 ^ l.length) 10, ← Nat.mul_assoc]
    omega
theorem append_toList (a b : ByteArray) : (a ++ b).toList = a.toList ++ b.toList := by
  rw [ByteArray.toList_eq, ByteArray.toList_eq, ByteArray.toList_eq, ByteArray.data_append, Array.toList_append]
theorem frac_dig (rest : ByteArray) (k : Nat) (hk : k = heads (rest.extract 1 rest.size).toList) (z : ByteArray) (hz : ∀ c ∈ z.toList, digB c = true) (j : Nat) : ∀ c ∈ (((rest.extract 1 (1 + k)) ++ z).extract 0 j).toList, digB c = true := by
  intro c hc
  rw [extract_toList, List.drop_zero, append_toList] at hc
  rcases List.mem_append.1 (List.mem_of_mem_take hc) with h | h
  · have h1 := heads_take (rest.extract 1 rest.size).toList c
    rw [← hk] at h1
    apply h1
    rw [extract_toList] at h ⊢
    rw [show List.take rest.size rest.toList = rest.toList from List.take_of_length_le (by rw [toList_len]; exact Nat.le_refl _)]
    rw [Nat.add_comm, List.drop_take, Nat.add_sub_cancel] at h
    exact h
  · exact hz c h
theorem cut_ev (s : ByteArray) (hs : s.size ≤ 1000000000) : Ev (fun k => quant_cut.f k s) (cutR s) := by
  unfold quant_cut.f
  refine Ev.bind (head_ev s hs) ?_
  have hl := heads_le s.toList
  rw [toList_len] at hl
  unfold cutR
  simp only
  generalize hn : heads s.toList = n at *
  by_cases h0 : n = 0
  · subst h0
    simp only [show ((0 : Nat) : Int) = 0 from rfl, if_true]
    exact Ev.now _
  · simp only [h0, show ¬ (n : Int) = 0 by omega, show (0 : Int) ≤ (n : Int) by omega, show (n : Int) ≤ (s.size : Int) by omega, if_true, if_false, Int.toNat_natCast]
    generalize hr : s.extract n s.size = rest at *
    have hrs : rest.size = s.size - n := by rw [← hr, ByteArray.size_extract]; omega
    have hj : ∀ b : Bool, (b = true ↔ (rest.size = 0 ∨ bt rest 0 ≠ 46)) → Ev (fun k => quant_cut.j0 k (s.extract 0 n) rest b)
        (if rest.size = 0 ∨ bt rest 0 ≠ 46 then (s.extract 0 n, 0, rest, 0) else
          if heads (rest.extract 1 rest.size).toList < 1 ∨ 3 < heads (rest.extract 1 rest.size).toList then (⟨#[]⟩, 0, ⟨#[]⟩, 8) else
          (s.extract 0 n, ((dval (((rest.extract 1 (1 + heads (rest.extract 1 rest.size).toList)) ++ (⟨#[48, 48]⟩ : ByteArray)).extract 0 3).toList 0 : Nat) : Int), rest.extract (1 + heads (rest.extract 1 rest.size).toList) rest.size, 0)) := by
      intro b hb
      refine Ev.step (fun k => by rw [quant_cut.j0]) ?_
      by_cases hc : rest.size = 0 ∨ bt rest 0 ≠ 46
      · rw [if_pos hc, hb.2 hc]
        simp only [if_true]
        exact Ev.now _
      · rw [if_neg hc]
        have hbf : b = false := by cases b with
          | false => rfl
          | true => exact absurd (hb.1 rfl) hc
        subst hbf
        have h1 : 1 ≤ rest.size := by omega
        simp only [Bool.false_eq_true, if_false, show (1 : Int) ≤ (rest.size : Int) by omega, if_true]
        have hx : (rest.extract 1 rest.size).size = rest.size - 1 := by rw [ByteArray.size_extract]; omega
        refine Ev.bind (head_ev _ (by omega)) ?_
        have hl2 := heads_le (rest.extract 1 rest.size).toList
        rw [toList_len, hx] at hl2
        generalize hk : heads (rest.extract 1 rest.size).toList = m at *
        by_cases hm1 : m < 1
        · simp only [show (m : Int) < 1 by omega, hm1, true_or, if_true]; exact Ev.now _
        · by_cases hm3 : 3 < m
          · simp only [show ¬ (m : Int) < 1 by omega, show (m : Int) > 3 by omega, hm3, or_true, if_true, if_false]; exact Ev.now _
          · rw [wrap_small (i := 1 + (m : Int)) (by omega) (by omega)]
            have e1 : (1 + (m : Int)).toNat = 1 + m := by omega
            rw [e1]
            have hsz : (rest.extract 1 (1 + m)).size = m := by rw [ByteArray.size_extract]; omega
            have hsz2 : ((rest.extract 1 (1 + m)) ++ (⟨#[48, 48]⟩ : ByteArray)).size = m + 2 := by rw [ByteArray.size_append, hsz]; rfl
            simp only [show ¬ (m : Int) < 1 by omega, show ¬ (m : Int) > 3 by omega, hm1, hm3, or_self, if_false, show (1 : Int) ≤ 1 + (m : Int) by omega, show (0 : Int) ≤ 1 + (m : Int) by omega, show 1 + (m : Int) ≤ (rest.size : Int) by omega, if_true, hsz, hsz2, show m + 2 ≤ 9223372036854775807 by omega, show (0 : Int) ≤ 3 by decide, show (3 : Int) ≤ ((m + 2 : Nat) : Int) by omega]
            have hd := frac_dig rest m hk.symm ⟨#[48, 48]⟩ zz2 3
            have hlt := dval_lt _ 0 hd
            have hsz3 : (((rest.extract 1 (1 + m)) ++ (⟨#[48, 48]⟩ : ByteArray)).extract 0 3).size = 3 := by rw [ByteArray.size_extract, hsz2]; omega
            rw [toList_len, hsz3] at hlt
            have hv := value_ev _ 1000 (by omega) (by omega) (by rw [hsz3]; omega) hd
            rw [show valR (dval (((rest.extract 1 (1 + m)) ++ (⟨#[48, 48]⟩ : ByteArray)).extract 0 3).toList 0) 1000 = (((dval (((rest.extract 1 (1 + m)) ++ (⟨#[48, 48]⟩ : ByteArray)).extract 0 3).toList 0 : Nat) : Int), true) from if_pos (by omega)] at hv
            exact Ev.bind hv (Ev.now _)
    by_cases hc : rest.size = 0
    · simp only [toList_nil hc, if_true]
      exact hj true ⟨fun _ => .inl hc, fun _ => rfl⟩
    · have hne : ¬ rest.toList = [] := fun e => hc (size_nil e)
      simp only [hne, if_false, show (0 : Int) < (rest.size : Int) by omega, if_true]
      refine hj _ ⟨fun h => .inr (by simpa using h), fun h => ?_⟩
      rcases h with h | h
      · exact absurd h hc
      · simpa using h
theorem unitO_ok (s : ByteArray) (u : Int) (h : unitO s = some u) : ∃ v : Nat, u = (v : Int) ∧ (v = 1 ∨ 1000 ≤ v) ∧ v ≤ 1099511627776000 := by
  unfold unitO at h
  repeat' (split at h)
  all_goals first | (cases h; done) | (cases h; exact ⟨Int.toNat _, (Int.toNat_of_nonneg (by decide)).symm, by decide, by decide⟩)
def tailR (whole : ByteArray) (p : Nat) (rest : ByteArray) (each : Nat) : Int × Int :=
  match unitO rest with
  | none => (0, 9)
  | some u => if vOf (dval whole.toList 0) p u.toNat % each = 0 then amtFin (vOf (dval whole.toList 0) p u.toNat) each else (0, 8)
def amtR (s : ByteArray) (each : Nat) : Int × Int :=
  let c := cutR s
  if c.2.2.2 = 0 then tailR c.1 c.2.1.toNat c.2.2.1 each else (0, c.2.2.2)
theorem cutR_ok (s : ByteArray) (h : (cutR s).2.2.2 = 0) : ∃ p : Nat, (cutR s).2.1 = (p : Int) ∧ p < 1000 ∧ (cutR s).1 = s.extract 0 (heads s.toList) := by
  unfold cutR at h ⊢
  simp only at h ⊢
  by_cases h0 : heads s.toList = 0
  · rw [if_pos h0] at h; exact absurd h (by decide)
  · rw [if_neg h0] at h ⊢
    by_cases h1 : (s.extract (heads s.toList) s.size).size = 0 ∨ bt (s.extract (heads s.toList) s.size) 0 ≠ 46
    · rw [if_pos h1]; exact ⟨0, rfl, by decide, rfl⟩
    · rw [if_neg h1] at h ⊢
      generalize hr : s.extract (heads s.toList) s.size = rest at *
      generalize hk : heads (rest.extract 1 rest.size).toList = m at *
      by_cases h2 : m < 1 ∨ 3 < m
      · rw [if_pos h2] at h; exact absurd h (by decide)
      · rw [if_neg h2]
        have hd := frac_dig rest m hk.symm ⟨#[48, 48]⟩ zz2 3
        have hlt := dval_lt _ 0 hd
        rw [toList_len] at hlt
        have hsz3 : (((rest.extract 1 (1 + m)) ++ (⟨#[48, 48]⟩ : ByteArray)).extract 0 3).size ≤ 3 := by rw [ByteArray.size_extract]; omega
        have : 10 ^ (((rest.extract 1 (1 + m)) ++ (⟨#[48, 48]⟩ : ByteArray)).extract 0 3).size ≤ 10 ^ 3 := Nat.pow_le_pow_right (by decide) hsz3
        exact ⟨_, rfl, by omega, rfl⟩
theorem whole_dig (s : ByteArray) : ∀ c ∈ (s.extract 0 (heads s.toList)).toList, digB c = true := by
  intro c hc
  rw [extract_toList, List.drop_zero] at hc
  exact heads_take _ c hc
theorem amount_ev (s : ByteArray) (each : Nat) (he : each = 1000 ∨ each = 1000000) (hs : s.size ≤ 1000000000) : Ev (fun k => quant_amount.f k s (each : Int)) (amtR s each) := by
  unfold quant_amount.f amtR
  refine Ev.bind (cut_ev s hs) ?_
  simp only
  by_cases h : (cutR s).2.2.2 = 0
  · simp only [h, if_true]
    obtain ⟨p, hp, hp2, hw⟩ := cutR_ok s h
    unfold tailR
    cases hu : unitO (cutR s).2.2.1 with
    | none => exact Ev.now _
    | some u =>
      obtain ⟨v, rfl, hv, hv2⟩ := unitO_ok _ u hu
      simp only [Int.toNat_natCast, hp, hw]
      have hwz : (s.extract 0 (heads s.toList)).size ≤ 1000000000 := by rw [ByteArray.size_extract]; omega
      refine Ev.bind (exact_ev _ each (by omega) (by omega) p v hp2 hwz (whole_dig s)) ?_
      by_cases hx : vOf (dval (s.extract 0 (heads s.toList)).toList 0) p v % each = 0
      · rw [if_pos hx, decide_eq_true hx]
        simp only [if_true]
        obtain ⟨n, hn, hf⟩ := whole_ev _ each he p v hp2 hv hv2 hwz (whole_dig s) hx
        rw [← hf]
        exact Ev.bind hn (fin_now _)
      · rw [if_neg hx, decide_eq_false hx]
        simp only [Bool.false_eq_true, if_false]
        exact Ev.now _
  · simp only [h, if_false]
    exact Ev.now _
theorem quantParse_ev (s : ByteArray) (hs : s.size ≤ 1000000000) : Ev (fun k => quant_Parse.f k s) (amtR s 1000000) := by
  unfold quant_Parse.f
  exact Ev.bind (amount_ev s 1000000 (.inr rfl) hs) (Ev.now _)
theorem quantMilli_ev (s : ByteArray) (hs : s.size ≤ 1000000000) : Ev (fun k => quant_Milli.f k s) (amtR s 1000) := by
  unfold quant_Milli.f
  exact Ev.bind (amount_ev s 1000 (.inl rfl) hs) (Ev.now _)
end Go.Proofs.Ytpmmiabcfnejmaa.H
end
section
namespace Go.Proofs.Ytpmmiabcfnejmaa.H
open Go.RowKit Go.Proofs.YtpmmiabcfnejmaaW.PrintWords Go.Proofs.YtpmmiabcfnejmaaW.PrintLast Go.Proofs.YtpmmiabcfnejmaaW.PrintMore
attribute [local go_sem] max2_int min2_int max_two min_two max_three min_three max_four min_four   -- for this text's walks alone
set_option linter.unusedVariables false
set_option linter.unusedSimpArgs false
def triremeref03_unit.f (a0 : ByteArray) : Option (Int) := if a0.toList = ([] : List UInt8) then (some 1000) else (if a0.toList = ([109] : List UInt8) then (some 1) else (if a0.toList = ([75, 105] : List UInt8) then (some 1024000) else (if a0.toList = ([77, 105] : List UInt8) then (some 1048576000) else (if a0.toList = ([71, 105] : List UInt8) then (some 1073741824000) else (if a0.toList = ([84, 105] : List UInt8) then (some 1099511627776000) else (if a0.toList = ([107] : List UInt8) then (some 1000000) else (if a0.toList = ([77] : List UInt8) then (some 1000000000) else (if a0.toList = ([71] : List UInt8) then (some 1000000000000) else (if a0.toList = ([84] : List UInt8) then (some 1000000000000000) else (some 0))))))))))
set_option maxHeartbeats 8000000 in
set_option maxRecDepth 100000 in
theorem triremeref03_unit.calls (a0 : ByteArray) (r : Int) (w : World) (h : triremeref03_unit.f a0 = some r) :
    Calls Try.prog 31 #[.string a0] w fun e w' => e = .returned (.int .i64 r) ∧ Drawn0 w w' := by
  have H : (if a0.toList = ([] : List UInt8) then (some 1000) else (if a0.toList = ([109] : List UInt8) then (some 1) else (if a0.toList = ([75, 105] : List UInt8) then (some 1024000) else (if a0.toList = ([77, 105] : List UInt8) then (some 1048576000) else (if a0.toList = ([71, 105] : List UInt8) then (some 1073741824000) else (if a0.toList = ([84, 105] : List UInt8) then (some 1099511627776000) else (if a0.toList = ([107] : List UInt8) then (some 1000000) else (if a0.toList = ([77] : List UInt8) then (some 1000000000) else (if a0.toList = ([71] : List UInt8) then (some 1000000000000) else (if a0.toList = ([84] : List UInt8) then (some 1000000000000000) else (some 0))))))))))) = some r := h
  clear h
  by_cases c2 : a0.toList = ([] : List UInt8)
  · rw [if_pos c2] at H
    have c2b0 : (a0.toList == ([] : List UInt8)) = true := beq_iff_eq.mpr c2
    have c2b1 : (a0.toList != ([] : List UInt8)) = false := bne_eq_false_iff_eq.mpr c2
    clear c2
    obtain rfl := Option.some.inj H
    go_enter Try.func31, Try.ntmps31
    go_wp2
    go_ret
    exact ⟨by first | rfl | (simp; done) | (simp [*]; done), by repeat (first | exact Drawn0.refl _ | apply Drawn0.step)⟩
  · rw [if_neg c2] at H
    have c2b0 : (a0.toList == ([] : List UInt8)) = false := beq_eq_false_iff_ne.mpr c2
    have c2b1 : (a0.toList != ([] : List UInt8)) = true := bne_iff_ne.mpr c2
    by_cases c3 : a0.toList = ([109] : List UInt8)
    · rw [if_pos c3] at H
      have c3b0 : (a0.toList == ([109] : List UInt8)) = true := beq_iff_eq.mpr c3
      have c3b1 : (a0.toList != ([109] : List UInt8)) = false := bne_eq_false_iff_eq.mpr c3
      clear c3
      obtain rfl := Option.some.inj H
      go_enter Try.func31, Try.ntmps31
      go_wp2
      go_ret
      exact ⟨by first | rfl | (simp; done) | (simp [*]; done), by repeat (first | exact Drawn0.refl _ | apply Drawn0.step)⟩
    · rw [if_neg c3] at H
      have c3b0 : (a0.toList == ([109] : List UInt8)) = false := beq_eq_false_iff_ne.mpr c3
      have c3b1 : (a0.toList != ([109] : List UInt8)) = true := bne_iff_ne.mpr c3
      by_cases c4 : a0.toList = ([75, 105] : List UInt8)
      · rw [if_pos c4] at H
        have c4b0 : (a0.toList == ([75, 105] : List UInt8)) = true := beq_iff_eq.mpr c4
        have c4b1 : (a0.toList != ([75, 105] : List UInt8)) = false := bne_eq_false_iff_eq.mpr c4
        clear c4
        obtain rfl := Option.some.inj H
        go_enter Try.func31, Try.ntmps31
        go_wp2
        go_ret
        exact ⟨by first | rfl | (simp; done) | (simp [*]; done), by repeat (first | exact Drawn0.refl _ | apply Drawn0.step)⟩
      · rw [if_neg c4] at H
        have c4b0 : (a0.toList == ([75, 105] : List UInt8)) = false := beq_eq_false_iff_ne.mpr c4
        have c4b1 : (a0.toList != ([75, 105] : List UInt8)) = true := bne_iff_ne.mpr c4
        by_cases c5 : a0.toList = ([77, 105] : List UInt8)
        · rw [if_pos c5] at H
          have c5b0 : (a0.toList == ([77, 105] : List UInt8)) = true := beq_iff_eq.mpr c5
          have c5b1 : (a0.toList != ([77, 105] : List UInt8)) = false := bne_eq_false_iff_eq.mpr c5
          clear c5
          obtain rfl := Option.some.inj H
          go_enter Try.func31, Try.ntmps31
          go_wp2
          go_ret
          exact ⟨by first | rfl | (simp; done) | (simp [*]; done), by repeat (first | exact Drawn0.refl _ | apply Drawn0.step)⟩
        · rw [if_neg c5] at H
          have c5b0 : (a0.toList == ([77, 105] : List UInt8)) = false := beq_eq_false_iff_ne.mpr c5
          have c5b1 : (a0.toList != ([77, 105] : List UInt8)) = true := bne_iff_ne.mpr c5
          by_cases c6 : a0.toList = ([71, 105] : List UInt8)
          · rw [if_pos c6] at H
            have c6b0 : (a0.toList == ([71, 105] : List UInt8)) = true := beq_iff_eq.mpr c6
            have c6b1 : (a0.toList != ([71, 105] : List UInt8)) = false := bne_eq_false_iff_eq.mpr c6
            clear c6
            obtain rfl := Option.some.inj H
            go_enter Try.func31, Try.ntmps31
            go_wp2
            go_ret
            exact ⟨by first | rfl | (simp; done) | (simp [*]; done), by repeat (first | exact Drawn0.refl _ | apply Drawn0.step)⟩
          · rw [if_neg c6] at H
            have c6b0 : (a0.toList == ([71, 105] : List UInt8)) = false := beq_eq_false_iff_ne.mpr c6
            have c6b1 : (a0.toList != ([71, 105] : List UInt8)) = true := bne_iff_ne.mpr c6
            by_cases c7 : a0.toList = ([84, 105] : List UInt8)
            · rw [if_pos c7] at H
              have c7b0 : (a0.toList == ([84, 105] : List UInt8)) = true := beq_iff_eq.mpr c7
              have c7b1 : (a0.toList != ([84, 105] : List UInt8)) = false := bne_eq_false_iff_eq.mpr c7
              clear c7
              obtain rfl := Option.some.inj H
              go_enter Try.func31, Try.ntmps31
              go_wp2
              go_ret
              exact ⟨by first | rfl | (simp; done) | (simp [*]; done), by repeat (first | exact Drawn0.refl _ | apply Drawn0.step)⟩
            · rw [if_neg c7] at H
              have c7b0 : (a0.toList == ([84, 105] : List UInt8)) = false := beq_eq_false_iff_ne.mpr c7
              have c7b1 : (a0.toList != ([84, 105] : List UInt8)) = true := bne_iff_ne.mpr c7
              by_cases c8 : a0.toList = ([107] : List UInt8)
              · rw [if_pos c8] at H
                have c8b0 : (a0.toList == ([107] : List UInt8)) = true := beq_iff_eq.mpr c8
                have c8b1 : (a0.toList != ([107] : List UInt8)) = false := bne_eq_false_iff_eq.mpr c8
                clear c8
                obtain rfl := Option.some.inj H
                go_enter Try.func31, Try.ntmps31
                go_wp2
                go_ret
                exact ⟨by first | rfl | (simp; done) | (simp [*]; done), by repeat (first | exact Drawn0.refl _ | apply Drawn0.step)⟩
              · rw [if_neg c8] at H
                have c8b0 : (a0.toList == ([107] : List UInt8)) = false := beq_eq_false_iff_ne.mpr c8
                have c8b1 : (a0.toList != ([107] : List UInt8)) = true := bne_iff_ne.mpr c8
                by_cases c9 : a0.toList = ([77] : List UInt8)
                · rw [if_pos c9] at H
                  have c9b0 : (a0.toList == ([77] : List UInt8)) = true := beq_iff_eq.mpr c9
                  have c9b1 : (a0.toList != ([77] : List UInt8)) = false := bne_eq_false_iff_eq.mpr c9
                  clear c9
                  obtain rfl := Option.some.inj H
                  go_enter Try.func31, Try.ntmps31
                  go_wp2
                  go_ret
                  exact ⟨by first | rfl | (simp; done) | (simp [*]; done), by repeat (first | exact Drawn0.refl _ | apply Drawn0.step)⟩
                · rw [if_neg c9] at H
                  have c9b0 : (a0.toList == ([77] : List UInt8)) = false := beq_eq_false_iff_ne.mpr c9
                  have c9b1 : (a0.toList != ([77] : List UInt8)) = true := bne_iff_ne.mpr c9
                  by_cases c10 : a0.toList = ([71] : List UInt8)
                  · rw [if_pos c10] at H
                    have c10b0 : (a0.toList == ([71] : List UInt8)) = true := beq_iff_eq.mpr c10
                    have c10b1 : (a0.toList != ([71] : List UInt8)) = false := bne_eq_false_iff_eq.mpr c10
                    clear c10
                    obtain rfl := Option.some.inj H
                    go_enter Try.func31, Try.ntmps31
                    go_wp2
                    go_ret
                    exact ⟨by first | rfl | (simp; done) | (simp [*]; done), by repeat (first | exact Drawn0.refl _ | apply Drawn0.step)⟩
                  · rw [if_neg c10] at H
                    have c10b0 : (a0.toList == ([71] : List UInt8)) = false := beq_eq_false_iff_ne.mpr c10
                    have c10b1 : (a0.toList != ([71] : List UInt8)) = true := bne_iff_ne.mpr c10
                    by_cases c11 : a0.toList = ([84] : List UInt8)
                    · rw [if_pos c11] at H
                      have c11b0 : (a0.toList == ([84] : List UInt8)) = true := beq_iff_eq.mpr c11
                      have c11b1 : (a0.toList != ([84] : List UInt8)) = false := bne_eq_false_iff_eq.mpr c11
                      clear c11
                      obtain rfl := Option.some.inj H
                      go_enter Try.func31, Try.ntmps31
                      go_wp2
                      go_ret
                      exact ⟨by first | rfl | (simp; done) | (simp [*]; done), by repeat (first | exact Drawn0.refl _ | apply Drawn0.step)⟩
                    · rw [if_neg c11] at H
                      have c11b0 : (a0.toList == ([84] : List UInt8)) = false := beq_eq_false_iff_ne.mpr c11
                      have c11b1 : (a0.toList != ([84] : List UInt8)) = true := bne_iff_ne.mpr c11
                      obtain rfl := Option.some.inj H
                      go_enter Try.func31, Try.ntmps31
                      go_wp2
                      go_ret
                      exact ⟨by first | rfl | (simp; done) | (simp [*]; done), by repeat (first | exact Drawn0.refl _ | apply Drawn0.step)⟩
end Go.Proofs.Ytpmmiabcfnejmaa.H
end
section
namespace Go.Proofs.Ytpmmiabcfnejmaa.H
open Go.RowKit Go.Proofs.YtpmmiabcfnejmaaW.PrintWords Go.Proofs.YtpmmiabcfnejmaaW.PrintLast Go.Proofs.YtpmmiabcfnejmaaW.PrintMore
attribute [local go_sem] max2_int min2_int max_two min_two max_three min_three max_four min_four   -- for this text's walks alone
set_option linter.unusedVariables false
set_option linter.unusedSimpArgs false
mutual
def triremeref03_product.l0 : Nat → ByteArray → Int → ByteArray → Int → Int → Option (ByteArray)
  | 0, _, _, _, _, _ => none
  | k + 1, x0, x1, x5, x6, x7 => if x7 ≥ 0 then (triremeref03_product.j1 k x0 x1 x5 x6 x7 true) else (triremeref03_product.j1 k x0 x1 x5 x6 x7 (decide (x6 > 0)))
def triremeref03_product.j1 : Nat → ByteArray → Int → ByteArray → Int → Int → Bool → Option (ByteArray)
  | 0, _, _, _, _, _, _ => none
  | k + 1, x0, x1, x5, x6, x7, x16 => if x16 = true then (if x7 ≥ 0 then (if 0 ≤ x7 then (if x7 < (x0.size : Int) then ((some (([(wrap64 (48 + (Int.tmod (wrap64 (x6 + (wrap64 ((((bt x0 x7) - 48) % 256) * x1)))) 10))) % 256] : List Int) : List Int)).bind fun y163 => (if (strOfNums y163).size + x5.size ≤ 9223372036854775807 then (triremeref03_product.l0 k x0 x1 ((strOfNums y163) ++ x5) (wrap64 (Int.tdiv (wrap64 (x6 + (wrap64 ((((bt x0 x7) - 48) % 256) * x1)))) 10)) (wrap64 (x7 - 1))) else (none))) else (none)) else (none)) else ((some (([(wrap64 (48 + (Int.tmod x6 10))) % 256] : List Int) : List Int)).bind fun y166 => (if (strOfNums y166).size + x5.size ≤ 9223372036854775807 then (triremeref03_product.l0 k x0 x1 ((strOfNums y166) ++ x5) (wrap64 (Int.tdiv x6 10)) (wrap64 (x7 - 1))) else (none)))) else (some x5)
end
def triremeref03_product.f (k : Nat) (a0 : ByteArray) (a1 : Int) : Option (ByteArray) := triremeref03_product.l0 k a0 a1 (⟨#[]⟩ : ByteArray) 0 (wrap64 ((a0.size : Int) - 1))
theorem triremeref03_product.mono_l : ∀ k, (∀ y0 y1 y2 y3 y4, LeO (triremeref03_product.l0 k y0 y1 y2 y3 y4) (triremeref03_product.l0 (k + 1) y0 y1 y2 y3 y4)) ∧ (∀ y0 y1 y2 y3 y4 y5, LeO (triremeref03_product.j1 k y0 y1 y2 y3 y4 y5) (triremeref03_product.j1 (k + 1) y0 y1 y2 y3 y4 y5))
  | 0 => ⟨fun _ _ _ _ _ r h => by simp [triremeref03_product.l0] at h, fun _ _ _ _ _ _ r h => by simp [triremeref03_product.j1] at h⟩
  | k + 1 => by
    obtain ⟨ih0, ih1⟩ := triremeref03_product.mono_l k
    refine ⟨?_, ?_⟩
    · intro y0 y1 y2 y3 y4
      unfold triremeref03_product.l0
      repeat' first
      | (with_reducible exact ih0 _ _ _ _ _)
      | (with_reducible exact ih1 _ _ _ _ _ _)
      | (with_reducible exact LeO.refl _)
      | (with_reducible exact LeO.none _)
      | (with_reducible refine LeO.ite ?_ ?_)
      | (with_reducible refine LeO.bind ?_ (fun _ => ?_))
      | exact ih0 _ _ _ _ _
      | exact ih1 _ _ _ _ _ _
      | exact LeO.none _
      | refine LeO.ite ?_ ?_
      | refine LeO.bind ?_ (fun _ => ?_)
    · intro y0 y1 y2 y3 y4 y5
      unfold triremeref03_product.j1
      repeat' first
      | (with_reducible exact ih0 _ _ _ _ _)
      | (with_reducible exact ih1 _ _ _ _ _ _)
      | (with_reducible exact LeO.refl _)
      | (with_reducible exact LeO.none _)
      | (with_reducible refine LeO.ite ?_ ?_)
      | (with_reducible refine LeO.bind ?_ (fun _ => ?_))
      | exact ih0 _ _ _ _ _
      | exact ih1 _ _ _ _ _ _
      | exact LeO.none _
      | refine LeO.ite ?_ ?_
      | refine LeO.bind ?_ (fun _ => ?_)
theorem triremeref03_product.mono : ∀ a0 a1 k, LeO (triremeref03_product.f k a0 a1) (triremeref03_product.f (k + 1) a0 a1) := by
  intro a0 a1 k
  obtain ⟨ih0, ih1⟩ := triremeref03_product.mono_l k
  unfold triremeref03_product.f
  repeat' first
      | (with_reducible exact ih0 _ _ _ _ _)
      | (with_reducible exact ih1 _ _ _ _ _ _)
      | (with_reducible exact LeO.refl _)
      | (with_reducible exact LeO.none _)
      | (with_reducible refine LeO.ite ?_ ?_)
      | (with_reducible refine LeO.bind ?_ (fun _ => ?_))
      | exact ih0 _ _ _ _ _
      | exact ih1 _ _ _ _ _ _
      | exact LeO.none _
      | refine LeO.ite ?_ ?_
      | refine LeO.bind ?_ (fun _ => ?_)
set_option maxHeartbeats 8000000 in
set_option maxRecDepth 100000 in
theorem triremeref03_product.calls (k : Nat) (a0 : ByteArray) (a1 : Int) (r : ByteArray) (w : World) (h : triremeref03_product.f k a0 a1 = some r) :
    Calls Try.prog 32 #[.string a0, .int .i64 a1] w fun e w' => e = .returned (.string r) ∧ Below w.heap.size w w' := by
  have HB := Aside0.mk (Below.refl w.heap.size w)
  have H : (triremeref03_product.l0 k a0 a1 (⟨#[]⟩ : ByteArray) 0 (wrap64 ((a0.size : Int) - 1))) = some r := h
  clear h
  have H' := Aside0.mk H
  clear H
  go_enter Try.func32, Try.ntmps32
  go_wp2
  go_loopg [5, 6, 7] k (fun kq v5 v6 v7 w' => ∃ (x5_1 : ByteArray) (x6_1 : Int) (x7_1 : Int), v5 = .string x5_1 ∧ v6 = .int .i64 x6_1 ∧ v7 = .int .i64 x7_1 ∧ Aside0 (triremeref03_product.l0 kq a0 a1 x5_1 x6_1 x7_1 = some r) ∧ Aside0 (kq ≤ k) ∧ Aside0 (Below w.heap.size w w'))
  case atStart => exact ⟨((⟨#[]⟩ : ByteArray)), (0), (wrap64 ((a0.size : Int) - 1)), (by first | rfl | (simp; done) | (simp [*]; done)), (by first | rfl | (simp; done) | (simp [*]; done)), (by first | rfl | (simp; done) | (simp [*]; done)), H', ⟨Nat.le_refl _⟩, ⟨by repeat (first | (with_reducible first | exact HB.out | apply below_alloc | apply pw_below_drewN | apply below_drew1) | exact HB.out)⟩⟩
  case round =>
    clear H'
    try clear p2
    obtain ⟨x5_1, x6_1, x7_1, rfl, rfl, rfl, HA, HK1, HB⟩ := hrel
    cases gk with
    | zero => exact absurd HA.out (by simp [triremeref03_product.l0])
    | succ k1 =>
      have H := HA.out
      clear HA
      simp only [triremeref03_product.l0] at H
      have HC3 := Aside0.mk H
      clear H
      go_upto_region 4 with (fail)
      go_cut [16] (fun v16 wc => ∃ (kq : Nat) (x16_2 : Bool), v16 = .bool x16_2 ∧ Aside0 (triremeref03_product.j1 kq a0 a1 x5_1 x6_1 x7_1 x16_2 = some r) ∧ Aside0 (kq ≤ k1) ∧ Aside0 (Below w.heap.size w wc))
      case first =>
        have H := HC3.out
        clear HC3
        by_cases c4 : x7_1 ≥ 0
        · rw [if_pos c4] at H
          have c4b0 : decide (0 ≤ x7_1) = true := decide_eq_true c4
          clear c4
          (first | rw [c4b0] | (simp only [i64_w, i32_w]; rw [c4b0]) | skip)
          have H' := Aside0.mk H
          clear H
          go_wp2
          go_meet
          case rel => exact ⟨_, (true), (by first | rfl | (simp; done) | (simp [*]; done)), H', ⟨by have := HK1.out; first | omega | exact Nat.le_refl _⟩, ⟨by repeat (first | (with_reducible first | exact HB.out | apply below_alloc | apply pw_below_drewN | apply below_drew1) | exact HB.out)⟩⟩
        · rw [if_neg c4] at H
          have c4b0 : decide (0 ≤ x7_1) = false := decide_eq_false c4
          clear c4
          (first | rw [c4b0] | (simp only [i64_w, i32_w]; rw [c4b0]) | skip)
          have H' := Aside0.mk H
          clear H
          go_wp2
          go_meet
          case rel => exact ⟨_, (decide (x6_1 > 0)), (by first | rfl | (simp; done) | (simp [*]; done)), H', ⟨by have := HK1.out; first | omega | exact Nat.le_refl _⟩, ⟨by repeat (first | (with_reducible first | exact HB.out | apply below_alloc | apply pw_below_drewN | apply below_drew1) | exact HB.out)⟩⟩
      case rest =>
        clear HC3
        try clear p2
        try clear c3
        try clear c4
        try clear c4b0
        try clear p2
        obtain ⟨kq, x16_2, rfl, HA, HJ2, HB⟩ := hcut
        cases kq with
        | zero => exact absurd HA.out (by simp [triremeref03_product.j1])
        | succ kj2 =>
          have H := HA.out
          clear HA
          simp only [triremeref03_product.j1] at H
          by_cases c5 : x16_2 = true
          · subst c5
            have H1 : (if x7_1 ≥ 0 then (if 0 ≤ x7_1 then (if x7_1 < (a0.size : Int) then ((some (([(wrap64 (48 + (Int.tmod (wrap64 (x6_1 + (wrap64 ((((bt a0 x7_1) - 48) % 256) * a1)))) 10))) % 256] : List Int) : List Int)).bind fun y163 => (if (strOfNums y163).size + x5_1.size ≤ 9223372036854775807 then (triremeref03_product.l0 kj2 a0 a1 ((strOfNums y163) ++ x5_1) (wrap64 (Int.tdiv (wrap64 (x6_1 + (wrap64 ((((bt a0 x7_1) - 48) % 256) * a1)))) 10)) (wrap64 (x7_1 - 1))) else (none))) else (none)) else (none)) else ((some (([(wrap64 (48 + (Int.tmod x6_1 10))) % 256] : List Int) : List Int)).bind fun y166 => (if (strOfNums y166).size + x5_1.size ≤ 9223372036854775807 then (triremeref03_product.l0 kj2 a0 a1 ((strOfNums y166) ++ x5_1) (wrap64 (Int.tdiv x6_1 10)) (wrap64 (x7_1 - 1))) else (none)))) = some r := by rw [if_pos rfl] at H; exact H
            clear H
            have H := H1
            clear H1
            by_cases c6 : x7_1 ≥ 0
            · rw [if_pos c6] at H
              have c6b0 : decide (0 ≤ x7_1) = true := decide_eq_true c6
              clear c6
              by_cases c7 : 0 ≤ x7_1
              · rw [if_pos c7] at H
                have c7b0 : decide (0 ≤ x7_1) = true := decide_eq_true c7
                clear c7
                by_cases c8 : x7_1 < (a0.size : Int)
                · rw [if_pos c8] at H
                  have c8b0 : decide (x7_1 < (a0.size : Int)) = true := decide_eq_true c8
                  clear c8
                  obtain ⟨y163, hy163⟩ : ∃ y_ : List Int, y_ = (([(wrap64 (48 + (Int.tmod (wrap64 (x6_1 + (wrap64 ((((bt a0 x7_1) - 48) % 256) * a1)))) 10))) % 256] : List Int)) := ⟨_, rfl⟩
                  replace H : (if (strOfNums y163).size + x5_1.size ≤ 9223372036854775807 then (triremeref03_product.l0 kj2 a0 a1 ((strOfNums y163) ++ x5_1) (wrap64 (Int.tdiv (wrap64 (x6_1 + (wrap64 ((((bt a0 x7_1) - 48) % 256) * a1)))) 10)) (wrap64 (x7_1 - 1))) else (none)) = some r := by first | (rw [hy163]; with_reducible exact H) | (have H2_ := (Option.bind_some _ _).symm.trans H; rw [hy163]; with_reducible exact H2_) | (have H2_ := (Option.bind_some _ _).symm.trans H; with_reducible exact H2_) | with_reducible exact H | (rw [hy163]; exact H) | exact H
                  have Ny163 := Aside0.mk hy163
                  clear hy163
                  by_cases c10 : (strOfNums y163).size + x5_1.size ≤ 9223372036854775807
                  · rw [if_pos c10] at H
                    have c10b0 := eq_true c10
                    (try (have c10z := c10b0; rw [ByteArray.size_extract, Nat.min_self] at c10z))
                    have c10b1 : decide ((strOfNums y163).size + x5_1.size ≤ 9223372036854775807) = true := decide_eq_true c10
                    try have c10b2 : (9223372036854775807 < (strOfNums y163).size + x5_1.size) = False := eq_false (Nat.not_lt.2 c10)
                    have H' := Aside0.mk H
                    clear H
                    have p9 : 0 ≤ (x7_1 : Int) := of_decide_eq_true (by first | (with_reducible assumption) | assumption)
                    have q9 : x7_1 < (a0.size : Int) := of_decide_eq_true (by first | (with_reducible assumption) | assumption)
                    have hx9 := bt_at a0 x7_1
                    replace p9 := eq_true p9
                    replace q9 := eq_true q9
                    (try (have qz9 := q9; rw [ByteArray.size_extract, Nat.min_self] at qz9))
                    go_wp2_with (first | ((with_reducible refine gate_dst (N := 34) rfl ?_); refine Kd.R_lit (Kd.int .u8) _ 5 ?hg (N := 34) ?hd (xs := ([(wrap64 (48 + (Int.tmod (wrap64 (x6_1 + (wrap64 ((((bt a0 x7_1) - 48) % 256) * a1)))) 10))) % 256] : List Int)) (inner := [.int .u8 ((wrap64 (48 + (Int.tmod (wrap64 (x6_1 + (wrap64 ((((bt a0 x7_1) - 48) % 256) * a1)))) 10))) % 256)]) (ok := fun _ => True) (okp := fun _ => True) ?hr ?hp (fun _ hk => hk) trivial (Below.refl _ _) (Nat.le_refl _) (by simp) ?_; (case hd => rfl); (case hg => rfl); (case hr => first | (go_simp; done) | (go_simp; rfl)); (case hp => exact (Reps.one (show Kd.M (Kd.int .u8) _ _ _ ((wrap64 (48 + (Int.tmod (wrap64 (x6_1 + (wrap64 ((((bt a0 x7_1) - 48) % 256) * a1)))) 10))) % 256) [.int .u8 ((wrap64 (48 + (Int.tmod (wrap64 (x6_1 + (wrap64 ((((bt a0 x7_1) - 48) % 256) * a1)))) 10))) % 256)] from rfl) (Reps.none _ _))); intro v164 w11 ho12 hb hg_ hnew_; clear hg_ hnew_; (first | rw [← Ny163.out] at ho12 | (simp only [Int.reduceToNat] at ho12; rw [← Ny163.out] at ho12)); have n0_ := Aside0.mk (Kd.R_lower ho12 (below_size (by repeat (first | (with_reducible first | exact HB.out | apply below_alloc | apply pw_below_drewN | apply below_drew1) | exact HB.out)))); have n1_ := Aside0.mk (below_step (by repeat (first | (with_reducible first | exact HB.out | apply below_alloc | apply pw_below_drewN | apply below_drew1) | exact HB.out)) hb); clear HB; have HO165 := n0_; have HB := n1_; clear n0_ n1_; clear hb ho12; have hcv13 := own_string (P := Try.prog) Try.underlying39 Try.underlying5 Try.underlying9 (Kd.own_of_R HO165.out)))
                    go_roundg kj2
                    case measure => have := HK1.out; have := HJ2.out; omega
                    case rel => exact ⟨((strOfNums y163) ++ x5_1), (wrap64 (Int.tdiv (wrap64 (x6_1 + (wrap64 ((((bt a0 x7_1) - 48) % 256) * a1)))) 10)), (wrap64 (x7_1 - 1)), (by first | rfl | (simp; done) | (simp [*]; done)), (by first | rfl | (simp; done) | (simp [*]; done)), (by first | rfl | (simp; done) | (simp [*]; done)), H', ⟨by have := HK1.out; have := HJ2.out; omega⟩, ⟨by repeat (first | (with_reducible first | exact HB.out | apply below_alloc | apply pw_below_drewN | apply below_drew1) | exact HB.out)⟩⟩
                  · rw [if_neg c10] at H
                    exact absurd H (by simp)
                · rw [if_neg c8] at H
                  exact absurd H (by simp)
              · rw [if_neg c7] at H
                exact absurd H (by simp)
            · rw [if_neg c6] at H
              have c6b0 : decide (0 ≤ x7_1) = false := decide_eq_false c6
              clear c6
              obtain ⟨y166, hy166⟩ : ∃ y_ : List Int, y_ = (([(wrap64 (48 + (Int.tmod x6_1 10))) % 256] : List Int)) := ⟨_, rfl⟩
              replace H : (if (strOfNums y166).size + x5_1.size ≤ 9223372036854775807 then (triremeref03_product.l0 kj2 a0 a1 ((strOfNums y166) ++ x5_1) (wrap64 (Int.tdiv x6_1 10)) (wrap64 (x7_1 - 1))) else (none)) = some r := by first | (rw [hy166]; with_reducible exact H) | (have H2_ := (Option.bind_some _ _).symm.trans H; rw [hy166]; with_reducible exact H2_) | (have H2_ := (Option.bind_some _ _).symm.trans H; with_reducible exact H2_) | with_reducible exact H | (rw [hy166]; exact H) | exact H
              have Ny166 := Aside0.mk hy166
              clear hy166
              by_cases c14 : (strOfNums y166).size + x5_1.size ≤ 9223372036854775807
              · rw [if_pos c14] at H
                have c14b0 := eq_true c14
                (try (have c14z := c14b0; rw [ByteArray.size_extract, Nat.min_self] at c14z))
                have c14b1 : decide ((strOfNums y166).size + x5_1.size ≤ 9223372036854775807) = true := decide_eq_true c14
                try have c14b2 : (9223372036854775807 < (strOfNums y166).size + x5_1.size) = False := eq_false (Nat.not_lt.2 c14)
                have H' := Aside0.mk H
                clear H
                go_wp2_with (first | ((with_reducible refine gate_dst (N := 34) rfl ?_); refine Kd.R_lit (Kd.int .u8) _ 5 ?hg (N := 34) ?hd (xs := ([(wrap64 (48 + (Int.tmod x6_1 10))) % 256] : List Int)) (inner := [.int .u8 ((wrap64 (48 + (Int.tmod x6_1 10))) % 256)]) (ok := fun _ => True) (okp := fun _ => True) ?hr ?hp (fun _ hk => hk) trivial (Below.refl _ _) (Nat.le_refl _) (by simp) ?_; (case hd => rfl); (case hg => rfl); (case hr => first | (go_simp; done) | (go_simp; rfl)); (case hp => exact (Reps.one (show Kd.M (Kd.int .u8) _ _ _ ((wrap64 (48 + (Int.tmod x6_1 10))) % 256) [.int .u8 ((wrap64 (48 + (Int.tmod x6_1 10))) % 256)] from rfl) (Reps.none _ _))); intro v167 w15 ho16 hb hg_ hnew_; clear hg_ hnew_; (first | rw [← Ny166.out] at ho16 | (simp only [Int.reduceToNat] at ho16; rw [← Ny166.out] at ho16)); have n0_ := Aside0.mk (Kd.R_lower ho16 (below_size (by repeat (first | (with_reducible first | exact HB.out | apply below_alloc | apply pw_below_drewN | apply below_drew1) | exact HB.out)))); have n1_ := Aside0.mk (below_step (by repeat (first | (with_reducible first | exact HB.out | apply below_alloc | apply pw_below_drewN | apply below_drew1) | exact HB.out)) hb); clear HB; have HO168 := n0_; have HB := n1_; clear n0_ n1_; clear hb ho16; have hcv17 := own_string (P := Try.prog) Try.underlying39 Try.underlying5 Try.underlying9 (Kd.own_of_R HO168.out)))
                go_roundg kj2
                case measure => have := HK1.out; have := HJ2.out; omega
                case rel => exact ⟨((strOfNums y166) ++ x5_1), (wrap64 (Int.tdiv x6_1 10)), (wrap64 (x7_1 - 1)), (by first | rfl | (simp; done) | (simp [*]; done)), (by first | rfl | (simp; done) | (simp [*]; done)), (by first | rfl | (simp; done) | (simp [*]; done)), H', ⟨by have := HK1.out; have := HJ2.out; omega⟩, ⟨by repeat (first | (with_reducible first | exact HB.out | apply below_alloc | apply pw_below_drewN | apply below_drew1) | exact HB.out)⟩⟩
              · rw [if_neg c14] at H
                exact absurd H (by simp)
          · replace c5 := Bool.eq_false_iff.mpr c5
            subst c5
            have H1 : (some x5_1) = some r := by rw [if_neg (show ¬ (false = true) by decide)] at H; exact H
            clear H
            have H := H1
            clear H1
            obtain rfl := Option.some.inj H
            go_wp2
            go_ret
            exact ⟨by first | rfl | (simp [errW_none, errW_some] <;> rfl) | (simp [*, errW_none, errW_some] <;> rfl), by repeat (first | (with_reducible first | exact HB.out | apply below_alloc | apply pw_below_drewN | apply below_drew1) | exact HB.out)⟩
end Go.Proofs.Ytpmmiabcfnejmaa.H
end
section
namespace Go.Proofs.Ytpmmiabcfnejmaa.H
open Go.RowKit Go.Proofs.YtpmmiabcfnejmaaW.PrintWords Go.Proofs.YtpmmiabcfnejmaaW.PrintLast Go.Proofs.YtpmmiabcfnejmaaW.PrintMore
attribute [local go_sem] max2_int min2_int max_two min_two max_three min_three max_four min_four   -- for this text's walks alone
set_option linter.unusedVariables false
set_option linter.unusedSimpArgs false
def triremeref03_zeros.l0 : Nat → ByteArray → Int → Option (Bool)
  | 0, _, _ => none
  | k + 1, x0, x3 => if x3 < (x0.size : Int) then (if 0 ≤ x3 then (if (bt x0 x3) = 48 then (triremeref03_zeros.l0 k x0 (wrap64 (x3 + 1))) else (some false)) else (none)) else (some true)
def triremeref03_zeros.f (k : Nat) (a0 : ByteArray) : Option (Bool) := triremeref03_zeros.l0 k a0 0
theorem triremeref03_zeros.mono_l : ∀ k, (∀ y0 y1, LeO (triremeref03_zeros.l0 k y0 y1) (triremeref03_zeros.l0 (k + 1) y0 y1))
  | 0 => fun _ _ r h => by simp [triremeref03_zeros.l0] at h
  | k + 1 => by
    have ih0 := triremeref03_zeros.mono_l k
    · intro y0 y1
      unfold triremeref03_zeros.l0
      repeat' first
      | (with_reducible exact ih0 _ _)
      | (with_reducible exact LeO.refl _)
      | (with_reducible exact LeO.none _)
      | (with_reducible refine LeO.ite ?_ ?_)
      | (with_reducible refine LeO.bind ?_ (fun _ => ?_))
      | exact ih0 _ _
      | exact LeO.none _
      | refine LeO.ite ?_ ?_
      | refine LeO.bind ?_ (fun _ => ?_)
theorem triremeref03_zeros.mono : ∀ a0 k, LeO (triremeref03_zeros.f k a0) (triremeref03_zeros.f (k + 1) a0) := by
  intro a0 k
  have ih0 := triremeref03_zeros.mono_l k
  unfold triremeref03_zeros.f
  repeat' first
      | (with_reducible exact ih0 _ _)
      | (with_reducible exact LeO.refl _)
      | (with_reducible exact LeO.none _)
      | (with_reducible refine LeO.ite ?_ ?_)
      | (with_reducible refine LeO.bind ?_ (fun _ => ?_))
      | exact ih0 _ _
      | exact LeO.none _
      | refine LeO.ite ?_ ?_
      | refine LeO.bind ?_ (fun _ => ?_)
set_option maxHeartbeats 8000000 in
set_option maxRecDepth 100000 in
theorem triremeref03_zeros.calls (k : Nat) (a0 : ByteArray) (r : Bool) (w : World) (h : triremeref03_zeros.f k a0 = some r) :
    Calls Try.prog 33 #[.string a0] w fun e w' => e = .returned (.bool r) ∧ Drawn0 w w' := by
  have H : (triremeref03_zeros.l0 k a0 0) = some r := h
  clear h
  have H' := Aside0.mk H
  clear H
  go_enter Try.func33, Try.ntmps33
  go_wp2
  go_loopg [3] k (fun kq v3 w' => ∃ (x3_1 : Int), v3 = .int .i64 x3_1 ∧ Aside0 (triremeref03_zeros.l0 kq a0 x3_1 = some r) ∧ Aside0 (kq ≤ k) ∧ Drawn0 w w')
  case atStart => exact ⟨(0), (by first | rfl | (simp; done) | (simp [*]; done)), H', ⟨Nat.le_refl _⟩, by repeat (first | exact Drawn0.refl _ | apply Drawn0.step)⟩
  case round =>
    clear H'
    obtain ⟨x3_1, rfl, HA, HK1, ⟨m1, rfl⟩⟩ := hrel
    cases gk with
    | zero => exact absurd HA.out (by simp [triremeref03_zeros.l0])
    | succ k1 =>
      have H := HA.out
      clear HA
      simp only [triremeref03_zeros.l0] at H
      by_cases c2 : x3_1 < (a0.size : Int)
      · rw [if_pos c2] at H
        have c2b0 : decide (x3_1 < (a0.size : Int)) = true := decide_eq_true c2
        clear c2
        by_cases c3 : 0 ≤ x3_1
        · rw [if_pos c3] at H
          have c3b0 : decide (0 ≤ x3_1) = true := decide_eq_true c3
          clear c3
          by_cases c5 : (bt a0 x3_1) = 48
          · rw [if_pos c5] at H
            have c5b0 : ((bt a0 x3_1) == 48) = true := beq_iff_eq.mpr c5
            have c5b1 : ((bt a0 x3_1) != 48) = false := bne_eq_false_iff_eq.mpr c5
            clear c5
            have H' := Aside0.mk H
            clear H
            have p4 : 0 ≤ (x3_1 : Int) := of_decide_eq_true (by first | (with_reducible assumption) | assumption)
            have q4 : x3_1 < (a0.size : Int) := of_decide_eq_true (by first | (with_reducible assumption) | assumption)
            have hx4 := bt_at a0 x3_1
            replace p4 := eq_true p4
            replace q4 := eq_true q4
            (try (have qz4 := q4; rw [ByteArray.size_extract, Nat.min_self] at qz4))
            go_wp2
            go_roundg k1
            case measure => have := HK1.out; omega
            case rel => exact ⟨(wrap64 (x3_1 + 1)), (by first | rfl | (simp; done) | (simp [*]; done)), H', ⟨by have := HK1.out; omega⟩, by repeat (first | exact Drawn0.refl _ | apply Drawn0.step)⟩
          · rw [if_neg c5] at H
            have c5b0 : ((bt a0 x3_1) == 48) = false := beq_eq_false_iff_ne.mpr c5
            have c5b1 : ((bt a0 x3_1) != 48) = true := bne_iff_ne.mpr c5
            obtain rfl := Option.some.inj H
            have p4 : 0 ≤ (x3_1 : Int) := of_decide_eq_true (by first | (with_reducible assumption) | assumption)
            have q4 : x3_1 < (a0.size : Int) := of_decide_eq_true (by first | (with_reducible assumption) | assumption)
            have hx4 := bt_at a0 x3_1
            replace p4 := eq_true p4
            replace q4 := eq_true q4
            (try (have qz4 := q4; rw [ByteArray.size_extract, Nat.min_self] at qz4))
            go_wp2
            go_ret
            exact ⟨by first | rfl | (simp; done) | (simp [*]; done), by repeat (first | exact Drawn0.refl _ | apply Drawn0.step)⟩
        · rw [if_neg c3] at H
          exact absurd H (by simp)
      · rw [if_neg c2] at H
        have c2b0 : decide (x3_1 < (a0.size : Int)) = false := decide_eq_false c2
        clear c2
        obtain rfl := Option.some.inj H
        go_wp2
        go_ret
        exact ⟨by first | rfl | (simp; done) | (simp [*]; done), by repeat (first | exact Drawn0.refl _ | apply Drawn0.step)⟩
end Go.Proofs.Ytpmmiabcfnejmaa.H
end
section
namespace Go.Proofs.Ytpmmiabcfnejmaa.H
open Go.RowKit Go.Proofs.YtpmmiabcfnejmaaW.PrintWords Go.Proofs.YtpmmiabcfnejmaaW.PrintLast Go.Proofs.YtpmmiabcfnejmaaW.PrintMore
attribute [local go_sem] max2_int min2_int max_two min_two max_three min_three max_four min_four   -- for this text's walks alone
set_option linter.unusedVariables false
set_option linter.unusedSimpArgs false
def ramTail (k : Nat) (a0 : ByteArray) (a1 n : Int) (part rest : ByteArray) : Option (Int × Int) :=
  (triremeref03_unit.f rest).bind fun u => if u = 0 then some (0, 9) else
    if part.size ≤ 3 then (triremeref03_product.f k (a0.extract 0 n.toNat ++ (part ++ ⟨#[48, 48, 48]⟩).extract 0 3) u).bind fun t =>
      if t.size ≤ 1000000000 then (triremeref03_zeros.f k ((⟨#[48, 48, 48, 48, 48, 48]⟩ ++ t).extract ((⟨#[48, 48, 48, 48, 48, 48]⟩ ++ t).size - a1).toNat (⟨#[48, 48, 48, 48, 48, 48]⟩ ++ t).size)).bind fun z =>
        if z = true then (triremeref03_value.f k ((⟨#[48, 48, 48, 48, 48, 48]⟩ ++ t).extract 0 ((⟨#[48, 48, 48, 48, 48, 48]⟩ ++ t).size - a1).toNat)).bind fun o => if o > 1125899906842624 then some (0, 10) else some (o, 0)
        else some (0, 8)
      else none
    else none
def triremeref03_amount.f (k : Nat) (a0 : ByteArray) (a1 : Int) : Option (Int × Int) :=
  if a0.size ≤ 1000000 ∧ 0 ≤ a1 ∧ a1 ≤ 6 then
    (triremeref03_digits.f k a0).bind fun n => if n = 0 then some (0, 8) else
      if 0 ≤ n ∧ n ≤ a0.size then
        if 0 < (a0.extract n.toNat a0.size).size then
          if bt (a0.extract n.toNat a0.size) 0 = 46 then
            (triremeref03_digits.f k ((a0.extract n.toNat a0.size).extract 1 (a0.extract n.toNat a0.size).size)).bind fun m =>
              if m < 1 then some (0, 8) else if 3 < m then some (0, 8) else
                if 1 + m ≤ (a0.extract n.toNat a0.size).size then ramTail k a0 a1 n ((a0.extract n.toNat a0.size).extract 1 (1 + m).toNat) ((a0.extract n.toNat a0.size).extract (1 + m).toNat (a0.extract n.toNat a0.size).size) else none
          else ramTail k a0 a1 n ⟨#[]⟩ (a0.extract n.toNat a0.size)
        else ramTail k a0 a1 n ⟨#[]⟩ (a0.extract n.toNat a0.size)
      else none
  else none
theorem ramTail_mono (k : Nat) (a0 : ByteArray) (a1 n : Int) (part rest : ByteArray) : LeO (ramTail k a0 a1 n part rest) (ramTail (k + 1) a0 a1 n part rest) := by
  unfold ramTail
  repeat' first
    | (with_reducible exact triremeref03_product.mono _ _ _)
    | (with_reducible exact triremeref03_zeros.mono _ _)
    | (with_reducible exact triremeref03_value.mono _ _)
    | (with_reducible exact LeO.refl _)
    | (with_reducible refine LeO.ite ?_ ?_)
    | (with_reducible refine LeO.bind ?_ (fun _ => ?_))
theorem triremeref03_amount.mono : ∀ a0 a1 k, LeO (triremeref03_amount.f k a0 a1) (triremeref03_amount.f (k + 1) a0 a1) := by
  intro a0 a1 k
  unfold triremeref03_amount.f
  repeat' first
    | (with_reducible exact ramTail_mono _ _ _ _ _ _)
    | (with_reducible exact triremeref03_digits.mono _ _)
    | (with_reducible exact LeO.refl _)
    | (with_reducible refine LeO.ite ?_ ?_)
    | (with_reducible refine LeO.bind ?_ (fun _ => ?_))
/-- What the tail's steps compute, as facts about texts that stand for themselves. -/
inductive RamTail (k : Nat) (a0 : ByteArray) (a1 n : Int) (part rest : ByteArray) (r1 r2 : Int) : Prop
  | bad (h : triremeref03_unit.f rest = some 0) (h1 : r1 = 0) (h2 : r2 = 9)
  | run (u : Int) (z : Bool) (whole p3 part3 mid t all zs vs : ByteArray) (cut : Int) (hu : triremeref03_unit.f rest = some u) (hu0 : (u == 0) = false)
      (f1 : ∀ W, (Instr.slice 9 (.string a0) none (some (.int .i64 n)) none).run Try.prog W = .ok (.string whole) W)
      (f2 : ∀ W, (Op.stringOp .add part ⟨#[48, 48, 48]⟩).run Try.prog W = .ok (.string p3) W)
      (f3 : ∀ W, (Instr.slice 9 (.string p3) none (some (.int .i64 3)) none).run Try.prog W = .ok (.string part3) W)
      (f4 : ∀ W, (Op.stringOp .add whole part3).run Try.prog W = .ok (.string mid) W)
      (f5 : triremeref03_product.f k mid u = some t)
      (f6 : ∀ W, (Op.stringOp .add ⟨#[48, 48, 48, 48, 48, 48]⟩ t).run Try.prog W = .ok (.string all) W)
      (f7 : wrap64 ((all.size : Int) - a1) = cut)
      (f8 : ∀ W, (Instr.slice 9 (.string all) (some (.int .i64 cut)) none none).run Try.prog W = .ok (.string zs) W)
      (f9 : triremeref03_zeros.f k zs = some z)
      (f10 : ∀ W, (Instr.slice 9 (.string all) none (some (.int .i64 cut)) none).run Try.prog W = .ok (.string vs) W)
      (f11 : z = false ∧ r1 = 0 ∧ r2 = 8 ∨ z = true ∧ ∃ o, triremeref03_value.f k vs = some o ∧ (1125899906842624 < o ∧ r1 = 0 ∧ r2 = 10 ∨ ¬ 1125899906842624 < o ∧ r1 = o ∧ r2 = 0)) : RamTail k a0 a1 n part rest r1 r2
theorem ramTail_run (k : Nat) (a0 : ByteArray) (a1 n : Int) (part rest : ByteArray) (r1 r2 : Int) (ha : a0.size ≤ 1000000) (hn : 0 ≤ n ∧ n ≤ a0.size) (h1 : 0 ≤ a1 ∧ a1 ≤ 6) (h : ramTail k a0 a1 n part rest = some (r1, r2)) : RamTail k a0 a1 n part rest r1 r2 := by
  unfold ramTail at h
  obtain ⟨u, hu, h⟩ := Option.bind_eq_some_iff.mp h
  by_cases hz : u = 0
  · rw [if_pos hz] at h
    simp only [Option.some.injEq, Prod.mk.injEq] at h
    exact .bad (hz ▸ hu) h.1.symm h.2.symm
  · rw [if_neg hz] at h
    split at h
    case isFalse => cases h
    case isTrue hp =>
      obtain ⟨t, ht, h⟩ := Option.bind_eq_some_iff.mp h
      split at h
      case isFalse => cases h
      case isTrue hts =>
        obtain ⟨z, hzz, h⟩ := Option.bind_eq_some_iff.mp h
        have e1 : (a0.extract 0 n.toNat).size = n.toNat := by rw [ByteArray.size_extract]; omega
        have e2 : (part ++ (⟨#[48, 48, 48]⟩ : ByteArray)).size = part.size + 3 := by rw [ByteArray.size_append]; rfl
        have e3 : ((part ++ (⟨#[48, 48, 48]⟩ : ByteArray)).extract 0 3).size = 3 := by rw [ByteArray.size_extract, e2]; omega
        have e4 : ((⟨#[48, 48, 48, 48, 48, 48]⟩ : ByteArray) ++ t).size = 6 + t.size := by rw [ByteArray.size_append]; rfl
        refine .run u z _ _ _ _ t _ _ _ _ hu (beq_eq_false_iff_ne.mpr hz) (fun W => tx_hi W 9 Try.underlying9 a0 n hn.1 hn.2) (fun W => tx_cat W part _ (by show part.size + 3 ≤ _; omega))
          (fun W => tx_hi W 9 Try.underlying9 _ 3 (by omega) (by rw [e2]; omega)) (fun W => tx_cat W _ _ (by rw [e1]; have := e3; show n.toNat + ((part ++ _).extract 0 3).size ≤ _; omega)) ht (fun W => tx_cat W _ t (by show 6 + t.size ≤ _; omega))
          (show wrap64 _ = ((((⟨#[48, 48, 48, 48, 48, 48]⟩ : ByteArray) ++ t).size : Int) - a1) by unfold wrap64; omega) (fun W => tx_lo W 9 Try.underlying9 _ _ (by omega) (by omega)) hzz (fun W => tx_hi W 9 Try.underlying9 _ _ (by omega) (by omega)) ?_
        cases z with
        | false =>
          rw [if_neg (by simp)] at h
          simp only [Option.some.injEq, Prod.mk.injEq] at h
          exact .inl ⟨rfl, h.1.symm, h.2.symm⟩
        | true =>
          rw [if_pos rfl] at h
          obtain ⟨o, ho, h⟩ := Option.bind_eq_some_iff.mp h
          refine .inr ⟨rfl, o, ho, ?_⟩
          split at h
          case isTrue hm =>
            simp only [Option.some.injEq, Prod.mk.injEq] at h
            exact .inl ⟨hm, h.1.symm, h.2.symm⟩
          case isFalse hm =>
            simp only [Option.some.injEq, Prod.mk.injEq] at h
            exact .inr ⟨hm, h.1.symm, h.2.symm⟩
set_option maxHeartbeats 8000000 in
set_option maxRecDepth 100000 in
theorem triremeref03_amount.calls (k : Nat) (a0 : ByteArray) (a1 : Int) (r1 : Int) (r2 : Int) (w : World) (h : triremeref03_amount.f k a0 a1 = some (r1, r2)) :
    Calls Try.prog 21 #[.string a0, .int .i64 a1] w fun e w' => e = .returned (.tuple #[.int .i64 r1, .int .i64 r2]) ∧ Below w.heap.size w w' := by
  unfold triremeref03_amount.f at h
  split at h
  case isFalse => cases h
  case isTrue hg =>
    obtain ⟨hs, hl0, hl6⟩ := hg
    obtain ⟨n, hn, h⟩ := Option.bind_eq_some_iff.mp h
    have HN := Aside0.mk hn
    clear hn
    by_cases hz : n = 0
    · rw [if_pos hz] at h
      subst hz
      simp only [Option.some.injEq, Prod.mk.injEq] at h
      obtain ⟨rfl, rfl⟩ := h
      go_enter Try.func21, Try.ntmps21
      go_wp2_with (first | (go_at_call 24; (with_reducible refine (triremeref03_digits.calls k a0 0 _ HN.out).mono ?_); rintro e w' ⟨rfl, ⟨nd, rfl⟩⟩))
      refine bodyPost_ret (results_list (rs := [.tmp 4, .tmp 5]) rfl (by simp) (.tmp (.tmp .nil))) rfl ?_
      exact ⟨by first | rfl | (simp; done) | (simp [*]; done), by repeat (first | exact HB.out | exact HB2.out | exact Below.refl _ _ | apply pw_below_drewN)⟩
    · rw [if_neg hz] at h
      have hz0 : (n == 0) = false := beq_eq_false_iff_ne.mpr hz
      split at h
      case isFalse => cases h
      case isTrue hn =>
        have g1 := fun W => tx_lo (P := Try.prog) W 9 Try.underlying9 a0 n hn.1 hn.2
        have HSZ : (a0.extract n.toNat a0.size).size ≤ 1000000 := by rw [ByteArray.size_extract]; omega
        generalize a0.extract n.toNat a0.size = rest at h g1 HSZ
        clear hz
        by_cases hr : 0 < rest.size
        · rw [if_pos hr] at h
          have hr1 : decide ((0 : Int) < (rest.size : Int)) = true := decide_eq_true (by omega)
          have hr2 : decide (0 < rest.size) = true := decide_eq_true hr
          have g2 := fun W => tx_at (P := Try.prog) W 9 Try.underlying9 rest 0 (by omega) (by omega)
          by_cases hd : bt rest 0 = 46
          · rw [if_pos hd] at h
            rw [hd] at g2
            have g3 := fun W => tx_lo (P := Try.prog) W 9 Try.underlying9 rest 1 (by omega) (by omega)
            rw [show (1 : Int).toNat = 1 from rfl] at g3
            generalize rest.extract 1 rest.size = rest1 at h g3
            obtain ⟨m, hm, h⟩ := Option.bind_eq_some_iff.mp h
            have HM := Aside0.mk hm
            clear hm
            by_cases h1 : m < 1
            · rw [if_pos h1] at h
              have h1d : decide (m < 1) = true := decide_eq_true h1
              simp only [Option.some.injEq, Prod.mk.injEq] at h
              obtain ⟨rfl, rfl⟩ := h
              clear hr h1 hs hl0 hl6 hn HSZ hd
              go_enter Try.func21, Try.ntmps21
              go_wp2_with (first | (go_at_call 24; first | ((with_reducible refine (triremeref03_digits.calls k a0 n _ HN.out).mono ?_); rintro e w' ⟨rfl, ⟨nd, rfl⟩⟩) | ((with_reducible refine (triremeref03_digits.calls k rest1 m _ HM.out).mono ?_); rintro e w' ⟨rfl, ⟨nd, rfl⟩⟩)))
              refine bodyPost_ret (results_list (rs := [.tmp 4, .tmp 5]) rfl (by simp) (.tmp (.tmp .nil))) rfl ?_
              exact ⟨by first | rfl | (simp; done) | (simp [*]; done), by repeat (first | exact HB.out | exact HB2.out | exact Below.refl _ _ | apply pw_below_drewN)⟩
            · rw [if_neg h1] at h
              have h1d : decide (m < 1) = false := decide_eq_false h1
              by_cases h3 : 3 < m
              · rw [if_pos h3] at h
                have h3d : decide (3 < m) = true := decide_eq_true h3
                simp only [Option.some.injEq, Prod.mk.injEq] at h
                obtain ⟨rfl, rfl⟩ := h
                clear hr h1 h3 hs hl0 hl6 hn HSZ hd
                go_enter Try.func21, Try.ntmps21
                go_wp2_with (first | (go_at_call 24; first | ((with_reducible refine (triremeref03_digits.calls k a0 n _ HN.out).mono ?_); rintro e w' ⟨rfl, ⟨nd, rfl⟩⟩) | ((with_reducible refine (triremeref03_digits.calls k rest1 m _ HM.out).mono ?_); rintro e w' ⟨rfl, ⟨nd, rfl⟩⟩)))
                refine bodyPost_ret (results_list (rs := [.tmp 4, .tmp 5]) rfl (by simp) (.tmp (.tmp .nil))) rfl ?_
                exact ⟨by first | rfl | (simp; done) | (simp [*]; done), by repeat (first | exact HB.out | exact HB2.out | exact Below.refl _ _ | apply pw_below_drewN)⟩
              · rw [if_neg h3] at h
                have h3d : decide (3 < m) = false := decide_eq_false h3
                split at h
                case isFalse => cases h
                case isTrue hb =>
                  have hw : wrap64 (1 + m) = 1 + m := by unfold wrap64; omega
                  have g4 := fun W => run_slice_string (P := Try.prog) W 9 rest .i64 .i64 1 (1 + m) Try.underlying9 (by omega) (by omega) hb
                  have g5 := fun W => tx_lo (P := Try.prog) W 9 Try.underlying9 rest (1 + m) (by omega) hb
                  rw [show (1 : Int).toNat = 1 from rfl] at g4
                  have HT := Aside0.mk (ramTail_run k a0 a1 n _ _ r1 r2 hs hn ⟨hl0, hl6⟩ h)
                  clear h
                  generalize rest.extract 1 (1 + m).toNat = part at HT g4
                  generalize rest.extract (1 + m).toNat rest.size = rest2 at HT g5
                  generalize hq : 1 + m = m1 at g4 g5 HT
                  have hw2 : wrap64 (1 + m) = m1 := by rw [← hq]; exact hw
                  clear hw hq
                  clear hr h1 h3 hs hl0 hl6 hn HSZ hd hb
                  cases HT.out with
                  | bad hu h1 h2 =>
                    subst h1 h2
                    have HU := Aside0.mk hu
                    clear hu HT
                    go_enter Try.func21, Try.ntmps21
                    go_wp2_with (first | (go_at_call 24; first | ((with_reducible refine (triremeref03_digits.calls k a0 n _ HN.out).mono ?_); rintro e w' ⟨rfl, ⟨nd, rfl⟩⟩) | ((with_reducible refine (triremeref03_digits.calls k rest1 m _ HM.out).mono ?_); rintro e w' ⟨rfl, ⟨nd, rfl⟩⟩)) | (go_at_call 31; (with_reducible refine (triremeref03_unit.calls rest2 0 _ HU.out).mono ?_); rintro e w' ⟨rfl, ⟨nd, rfl⟩⟩))
                    refine bodyPost_ret (results_list (rs := [.tmp 4, .tmp 5]) rfl (by simp) (.tmp (.tmp .nil))) rfl ?_
                    exact ⟨by first | rfl | (simp; done) | (simp [*]; done), by repeat (first | exact HB.out | exact HB2.out | exact Below.refl _ _ | apply pw_below_drewN)⟩
                  | run u z whole p3 part3 mid t all zs vs cut hu hu0 f1 f2 f3 f4 f5 f6 f7 f8 f9 f10 f11 =>
                    have HU := Aside0.mk hu
                    have H5 := Aside0.mk f5
                    have H9 := Aside0.mk f9
                    have H11 := Aside0.mk f11
                    clear hu f5 f9 f11 HT
                    go_enter Try.func21, Try.ntmps21
                    go_wp2_with (first | (go_at_call 24; first | ((with_reducible refine (triremeref03_digits.calls k a0 n _ HN.out).mono ?_); rintro e w' ⟨rfl, ⟨nd, rfl⟩⟩) | ((with_reducible refine (triremeref03_digits.calls k rest1 m _ HM.out).mono ?_); rintro e w' ⟨rfl, ⟨nd, rfl⟩⟩)) | (go_at_call 31; (with_reducible refine (triremeref03_unit.calls rest2 u _ HU.out).mono ?_); rintro e w' ⟨rfl, ⟨nd, rfl⟩⟩))
                    (try simp only [Act.put])
                    refine wp_region_bw (by kernel_rfl) (by kernel_rfl) ?_
                    repeat (go_big_quiet_step (first | (go_at_call 32; exact Calls.bw (triremeref03_product.calls k mid u t _ H5.out))))
                    refine wpQuiet_nil ?_
                    intro q
                    have HB := Aside0.mk (below_step (pw_below_drewN (Below.refl w.heap.size w) _) q.2)
                    rcases H11.out with ⟨rfl, rfl, rfl⟩ | ⟨rfl, o, ho, hh⟩
                    · clear H11
                      go_wp2_with (first | (go_at_call 33; (with_reducible refine (triremeref03_zeros.calls k zs false _ H9.out).mono ?_); rintro e w' ⟨rfl, ⟨nd, rfl⟩⟩))
                      refine bodyPost_ret (results_list (rs := [.tmp 4, .tmp 5]) rfl (by simp) (.tmp (.tmp .nil))) rfl ?_
                      exact ⟨by first | rfl | (simp; done) | (simp [*]; done), by repeat (first | exact HB.out | exact HB2.out | exact Below.refl _ _ | apply pw_below_drewN)⟩
                    · clear H11
                      have HO := Aside0.mk ho
                      clear ho
                      rcases hh with ⟨hm, rfl, rfl⟩ | ⟨hm, rfl, rfl⟩
                      · have hd : decide (1125899906842624 < o) = true := decide_eq_true hm
                        clear hm
                        go_wp2_with (first | (go_at_call 33; (with_reducible refine (triremeref03_zeros.calls k zs true _ H9.out).mono ?_); rintro e w' ⟨rfl, ⟨nd, rfl⟩⟩) | (go_at_call 25; (with_reducible refine (triremeref03_value.calls k vs o _ HO.out).mono ?_); rintro e w' ⟨rfl, hb2⟩; have HB2 := Aside0.mk (below_step (pw_below_drewN HB.out _) hb2); clear hb2))
                        refine bodyPost_ret (results_list (rs := [.tmp 4, .tmp 5]) rfl (by simp) (.tmp (.tmp .nil))) rfl ?_
                        exact ⟨by first | rfl | (simp; done) | (simp [*]; done), by repeat (first | exact HB.out | exact HB2.out | exact Below.refl _ _ | apply pw_below_drewN)⟩
                      · have hd : decide (1125899906842624 < r1) = false := decide_eq_false (by omega)
                        clear hm
                        go_wp2_with (first | (go_at_call 33; (with_reducible refine (triremeref03_zeros.calls k zs true _ H9.out).mono ?_); rintro e w' ⟨rfl, ⟨nd, rfl⟩⟩) | (go_at_call 25; (with_reducible refine (triremeref03_value.calls k vs r1 _ HO.out).mono ?_); rintro e w' ⟨rfl, hb2⟩; have HB2 := Aside0.mk (below_step (pw_below_drewN HB.out _) hb2); clear hb2))
                        refine bodyPost_ret (results_list (rs := [.tmp 4, .tmp 5]) rfl (by simp) (.tmp (.tmp .nil))) rfl ?_
                        exact ⟨by first | rfl | (simp; done) | (simp [*]; done), by repeat (first | exact HB.out | exact HB2.out | exact Below.refl _ _ | apply pw_below_drewN)⟩
          · rw [if_neg hd] at h
            have hde : (bt rest 0 == 46) = false := beq_eq_false_iff_ne.mpr hd
            have HT := Aside0.mk (ramTail_run k a0 a1 n _ _ r1 r2 hs hn ⟨hl0, hl6⟩ h)
            clear h
            generalize bt rest 0 = c at *
            clear hr hs hl0 hl6 hn HSZ hd
            cases HT.out with
            | bad hu h1 h2 =>
              subst h1 h2
              have HU := Aside0.mk hu
              clear hu HT
              go_enter Try.func21, Try.ntmps21
              go_wp2_with (first | (go_at_call 24; (with_reducible refine (triremeref03_digits.calls k a0 n _ HN.out).mono ?_); rintro e w' ⟨rfl, ⟨nd, rfl⟩⟩) | (go_at_call 31; (with_reducible refine (triremeref03_unit.calls rest 0 _ HU.out).mono ?_); rintro e w' ⟨rfl, ⟨nd, rfl⟩⟩))
              refine bodyPost_ret (results_list (rs := [.tmp 4, .tmp 5]) rfl (by simp) (.tmp (.tmp .nil))) rfl ?_
              exact ⟨by first | rfl | (simp; done) | (simp [*]; done), by repeat (first | exact HB.out | exact HB2.out | exact Below.refl _ _ | apply pw_below_drewN)⟩
            | run u z whole p3 part3 mid t all zs vs cut hu hu0 f1 f2 f3 f4 f5 f6 f7 f8 f9 f10 f11 =>
              have HU := Aside0.mk hu
              have H5 := Aside0.mk f5
              have H9 := Aside0.mk f9
              have H11 := Aside0.mk f11
              clear hu f5 f9 f11 HT
              go_enter Try.func21, Try.ntmps21
              go_wp2_with (first | (go_at_call 24; (with_reducible refine (triremeref03_digits.calls k a0 n _ HN.out).mono ?_); rintro e w' ⟨rfl, ⟨nd, rfl⟩⟩) | (go_at_call 31; (with_reducible refine (triremeref03_unit.calls rest u _ HU.out).mono ?_); rintro e w' ⟨rfl, ⟨nd, rfl⟩⟩))
              (try simp only [Act.put])
              refine wp_region_bw (by kernel_rfl) (by kernel_rfl) ?_
              repeat (go_big_quiet_step (first | (go_at_call 32; exact Calls.bw (triremeref03_product.calls k mid u t _ H5.out))))
              refine wpQuiet_nil ?_
              intro q
              have HB := Aside0.mk (below_step (pw_below_drewN (Below.refl w.heap.size w) _) q.2)
              rcases H11.out with ⟨rfl, rfl, rfl⟩ | ⟨rfl, o, ho, hh⟩
              · clear H11
                go_wp2_with (first | (go_at_call 33; (with_reducible refine (triremeref03_zeros.calls k zs false _ H9.out).mono ?_); rintro e w' ⟨rfl, ⟨nd, rfl⟩⟩))
                refine bodyPost_ret (results_list (rs := [.tmp 4, .tmp 5]) rfl (by simp) (.tmp (.tmp .nil))) rfl ?_
                exact ⟨by first | rfl | (simp; done) | (simp [*]; done), by repeat (first | exact HB.out | exact HB2.out | exact Below.refl _ _ | apply pw_below_drewN)⟩
              · clear H11
                have HO := Aside0.mk ho
                clear ho
                rcases hh with ⟨hm, rfl, rfl⟩ | ⟨hm, rfl, rfl⟩
                · have hd : decide (1125899906842624 < o) = true := decide_eq_true hm
                  clear hm
                  go_wp2_with (first | (go_at_call 33; (with_reducible refine (triremeref03_zeros.calls k zs true _ H9.out).mono ?_); rintro e w' ⟨rfl, ⟨nd, rfl⟩⟩) | (go_at_call 25; (with_reducible refine (triremeref03_value.calls k vs o _ HO.out).mono ?_); rintro e w' ⟨rfl, hb2⟩; have HB2 := Aside0.mk (below_step (pw_below_drewN HB.out _) hb2); clear hb2))
                  refine bodyPost_ret (results_list (rs := [.tmp 4, .tmp 5]) rfl (by simp) (.tmp (.tmp .nil))) rfl ?_
                  exact ⟨by first | rfl | (simp; done) | (simp [*]; done), by repeat (first | exact HB.out | exact HB2.out | exact Below.refl _ _ | apply pw_below_drewN)⟩
                · have hd : decide (1125899906842624 < r1) = false := decide_eq_false (by omega)
                  clear hm
                  go_wp2_with (first | (go_at_call 33; (with_reducible refine (triremeref03_zeros.calls k zs true _ H9.out).mono ?_); rintro e w' ⟨rfl, ⟨nd, rfl⟩⟩) | (go_at_call 25; (with_reducible refine (triremeref03_value.calls k vs r1 _ HO.out).mono ?_); rintro e w' ⟨rfl, hb2⟩; have HB2 := Aside0.mk (below_step (pw_below_drewN HB.out _) hb2); clear hb2))
                  refine bodyPost_ret (results_list (rs := [.tmp 4, .tmp 5]) rfl (by simp) (.tmp (.tmp .nil))) rfl ?_
                  exact ⟨by first | rfl | (simp; done) | (simp [*]; done), by repeat (first | exact HB.out | exact HB2.out | exact Below.refl _ _ | apply pw_below_drewN)⟩
        · rw [if_neg hr] at h
          have hr1 : decide ((0 : Int) < (rest.size : Int)) = false := decide_eq_false (by omega)
          have hr2 : decide (0 < rest.size) = false := decide_eq_false hr
          have HT := Aside0.mk (ramTail_run k a0 a1 n _ _ r1 r2 hs hn ⟨hl0, hl6⟩ h)
          clear h
          clear hr hs hl0 hl6 hn HSZ
          cases HT.out with
          | bad hu h1 h2 =>
            subst h1 h2
            have HU := Aside0.mk hu
            clear hu HT
            go_enter Try.func21, Try.ntmps21
            go_wp2_with (first | (go_at_call 24; (with_reducible refine (triremeref03_digits.calls k a0 n _ HN.out).mono ?_); rintro e w' ⟨rfl, ⟨nd, rfl⟩⟩) | (go_at_call 31; (with_reducible refine (triremeref03_unit.calls rest 0 _ HU.out).mono ?_); rintro e w' ⟨rfl, ⟨nd, rfl⟩⟩))
            refine bodyPost_ret (results_list (rs := [.tmp 4, .tmp 5]) rfl (by simp) (.tmp (.tmp .nil))) rfl ?_
            exact ⟨by first | rfl | (simp; done) | (simp [*]; done), by repeat (first | exact HB.out | exact HB2.out | exact Below.refl _ _ | apply pw_below_drewN)⟩
          | run u z whole p3 part3 mid t all zs vs cut hu hu0 f1 f2 f3 f4 f5 f6 f7 f8 f9 f10 f11 =>
            have HU := Aside0.mk hu
            have H5 := Aside0.mk f5
            have H9 := Aside0.mk f9
            have H11 := Aside0.mk f11
            clear hu f5 f9 f11 HT
            go_enter Try.func21, Try.ntmps21
            go_wp2_with (first | (go_at_call 24; (with_reducible refine (triremeref03_digits.calls k a0 n _ HN.out).mono ?_); rintro e w' ⟨rfl, ⟨nd, rfl⟩⟩) | (go_at_call 31; (with_reducible refine (triremeref03_unit.calls rest u _ HU.out).mono ?_); rintro e w' ⟨rfl, ⟨nd, rfl⟩⟩))
            (try simp only [Act.put])
            refine wp_region_bw (by kernel_rfl) (by kernel_rfl) ?_
            repeat (go_big_quiet_step (first | (go_at_call 32; exact Calls.bw (triremeref03_product.calls k mid u t _ H5.out))))
            refine wpQuiet_nil ?_
            intro q
            have HB := Aside0.mk (below_step (pw_below_drewN (Below.refl w.heap.size w) _) q.2)
            rcases H11.out with ⟨rfl, rfl, rfl⟩ | ⟨rfl, o, ho, hh⟩
            · clear H11
              go_wp2_with (first | (go_at_call 33; (with_reducible refine (triremeref03_zeros.calls k zs false _ H9.out).mono ?_); rintro e w' ⟨rfl, ⟨nd, rfl⟩⟩))
              refine bodyPost_ret (results_list (rs := [.tmp 4, .tmp 5]) rfl (by simp) (.tmp (.tmp .nil))) rfl ?_
              exact ⟨by first | rfl | (simp; done) | (simp [*]; done), by repeat (first | exact HB.out | exact HB2.out | exact Below.refl _ _ | apply pw_below_drewN)⟩
            · clear H11
              have HO := Aside0.mk ho
              clear ho
              rcases hh with ⟨hm, rfl, rfl⟩ | ⟨hm, rfl, rfl⟩
              · have hd : decide (1125899906842624 < o) = true := decide_eq_true hm
                clear hm
                go_wp2_with (first | (go_at_call 33; (with_reducible refine (triremeref03_zeros.calls k zs true _ H9.out).mono ?_); rintro e w' ⟨rfl, ⟨nd, rfl⟩⟩) | (go_at_call 25; (with_reducible refine (triremeref03_value.calls k vs o _ HO.out).mono ?_); rintro e w' ⟨rfl, hb2⟩; have HB2 := Aside0.mk (below_step (pw_below_drewN HB.out _) hb2); clear hb2))
                refine bodyPost_ret (results_list (rs := [.tmp 4, .tmp 5]) rfl (by simp) (.tmp (.tmp .nil))) rfl ?_
                exact ⟨by first | rfl | (simp; done) | (simp [*]; done), by repeat (first | exact HB.out | exact HB2.out | exact Below.refl _ _ | apply pw_below_drewN)⟩
              · have hd : decide (1125899906842624 < r1) = false := decide_eq_false (by omega)
                clear hm
                go_wp2_with (first | (go_at_call 33; (with_reducible refine (triremeref03_zeros.calls k zs true _ H9.out).mono ?_); rintro e w' ⟨rfl, ⟨nd, rfl⟩⟩) | (go_at_call 25; (with_reducible refine (triremeref03_value.calls k vs r1 _ HO.out).mono ?_); rintro e w' ⟨rfl, hb2⟩; have HB2 := Aside0.mk (below_step (pw_below_drewN HB.out _) hb2); clear hb2))
                refine bodyPost_ret (results_list (rs := [.tmp 4, .tmp 5]) rfl (by simp) (.tmp (.tmp .nil))) rfl ?_
                exact ⟨by first | rfl | (simp; done) | (simp [*]; done), by repeat (first | exact HB.out | exact HB2.out | exact Below.refl _ _ | apply pw_below_drewN)⟩
end Go.Proofs.Ytpmmiabcfnejmaa.H
end
section
namespace Go.Proofs.Ytpmmiabcfnejmaa.H
open Go.RowKit Go.Proofs.YtpmmiabcfnejmaaW.PrintWords Go.Proofs.YtpmmiabcfnejmaaW.PrintLast Go.Proofs.YtpmmiabcfnejmaaW.PrintMore
attribute [local go_sem] max2_int min2_int max_two min_two max_three min_three max_four min_four   -- for this text's walks alone
set_option linter.unusedVariables false
set_option linter.unusedSimpArgs false
def triremeref03_Parse.f (k : Nat) (a0 : ByteArray) : Option (Int × Int) := (triremeref03_amount.f k a0 6).bind fun bt169 => (some (bt169.1, bt169.2))
theorem triremeref03_Parse.mono : ∀ a0 k, LeO (triremeref03_Parse.f k a0) (triremeref03_Parse.f (k + 1) a0) := by
  intro a0 k
  unfold triremeref03_Parse.f
  repeat' first
      | (with_reducible exact triremeref03_amount.mono _ _ _)
      | (with_reducible exact LeO.refl _)
      | (with_reducible exact LeO.none _)
      | (with_reducible refine LeO.ite ?_ ?_)
      | (with_reducible refine LeO.bind ?_ (fun _ => ?_))
      | exact triremeref03_amount.mono _ _ _
      | exact LeO.none _
      | refine LeO.ite ?_ ?_
      | refine LeO.bind ?_ (fun _ => ?_)
set_option maxHeartbeats 8000000 in
set_option maxRecDepth 100000 in
theorem triremeref03_Parse.calls (k : Nat) (a0 : ByteArray) (r1 : Int) (r2 : Int) (w : World) (h : triremeref03_Parse.f k a0 = some (r1, r2)) :
    Calls Try.prog 10 #[.string a0] w fun e w' => e = .returned (.tuple #[.int .i64 r1, .int .i64 r2]) ∧ Below w.heap.size w w' := by
  have HB := Aside0.mk (Below.refl w.heap.size w)
  have H : ((triremeref03_amount.f k a0 6).bind fun bt169 => (some (bt169.1, bt169.2))) = some (r1, r2) := h
  clear h
  replace H := Option.bind_eq_some_iff.mp H
  obtain ⟨⟨t169, t170⟩, A20, H⟩ := H
  replace H : (some (t169, t170)) = some (r1, r2) := H
  have A2 := Aside0.mk A20
  clear A20
  simp only [Option.some.injEq, Prod.mk.injEq] at H
  obtain ⟨rfl, rfl⟩ := H
  go_enter Try.func10, Try.ntmps10
  go_wp2_with (first | ((first | ((with_reducible refine gate_callee (f := 21) rfl ?_); refine goesL_ (some 5) rfl rfl Try.func21 (by kernel_rfl) rfl #[.string a0, .int .i64 6] rfl (by (try simp only [List.map_toArray, List.map_cons, List.map_nil]); first | done | rfl | (simp only [List.length_drop, List.length_take]; rfl)) ?_; (with_reducible refine (triremeref03_amount.calls k a0 6 t169 t170 _ A2.out).mono ?_); rintro e w3 ⟨rfl, hb⟩; refine ⟨_, rfl, ?_⟩) | (go_at_call 21; (with_reducible refine (triremeref03_amount.calls k a0 6 t169 t170 _ A2.out).mono ?_); rintro e w3 ⟨rfl, hb⟩)); have n0_ := Aside0.mk (below_step (by repeat (first | (with_reducible first | exact HB.out | apply below_alloc | apply pw_below_drewN | apply below_drew1) | exact HB.out)) hb); clear HB; have HB := n0_; clear n0_; (try clear hb); (try clear hb2); (try clear hk); (try clear hi)))
  go_ret2
  exact ⟨by first | rfl | (simp [errW_none, errW_some] <;> rfl) | (simp [*, errW_none, errW_some] <;> rfl), by repeat (first | (with_reducible first | exact HB.out | apply below_alloc | apply pw_below_drewN | apply below_drew1) | exact HB.out)⟩
end Go.Proofs.Ytpmmiabcfnejmaa.H
end
section
namespace Go.Proofs.Ytpmmiabcfnejmaa.H
open Go.RowKit Go.Proofs.YtpmmiabcfnejmaaW.PrintWords Go.Proofs.YtpmmiabcfnejmaaW.PrintLast Go.Proofs.YtpmmiabcfnejmaaW.PrintMore
attribute [local go_sem] max2_int min2_int max_two min_two max_three min_three max_four min_four   -- for this text's walks alone
set_option linter.unusedVariables false
set_option linter.unusedSimpArgs false
def triremeref03_Milli.f (k : Nat) (a0 : ByteArray) : Option (Int × Int) := (triremeref03_amount.f k a0 3).bind fun bt171 => (some (bt171.1, bt171.2))
theorem triremeref03_Milli.mono : ∀ a0 k, LeO (triremeref03_Milli.f k a0) (triremeref03_Milli.f (k + 1) a0) := by
  intro a0 k
  unfold triremeref03_Milli.f
  repeat' first
      | (with_reducible exact triremeref03_amount.mono _ _ _)
      | (with_reducible exact LeO.refl _)
      | (with_reducible exact LeO.none _)
      | (with_reducible refine LeO.ite ?_ ?_)
      | (with_reducible refine LeO.bind ?_ (fun _ => ?_))
      | exact triremeref03_amount.mono _ _ _
      | exact LeO.none _
      | refine LeO.ite ?_ ?_
      | refine LeO.bind ?_ (fun _ => ?_)
set_option maxHeartbeats 8000000 in
set_option maxRecDepth 100000 in
theorem triremeref03_Milli.calls (k : Nat) (a0 : ByteArray) (r1 : Int) (r2 : Int) (w : World) (h : triremeref03_Milli.f k a0 = some (r1, r2)) :
    Calls Try.prog 12 #[.string a0] w fun e w' => e = .returned (.tuple #[.int .i64 r1, .int .i64 r2]) ∧ Below w.heap.size w w' := by
  have HB := Aside0.mk (Below.refl w.heap.size w)
  have H : ((triremeref03_amount.f k a0 3).bind fun bt171 => (some (bt171.1, bt171.2))) = some (r1, r2) := h
  clear h
  replace H := Option.bind_eq_some_iff.mp H
  obtain ⟨⟨t171, t172⟩, A20, H⟩ := H
  replace H : (some (t171, t172)) = some (r1, r2) := H
  have A2 := Aside0.mk A20
  clear A20
  simp only [Option.some.injEq, Prod.mk.injEq] at H
  obtain ⟨rfl, rfl⟩ := H
  go_enter Try.func12, Try.ntmps12
  go_wp2_with (first | ((first | ((with_reducible refine gate_callee (f := 21) rfl ?_); refine goesL_ (some 5) rfl rfl Try.func21 (by kernel_rfl) rfl #[.string a0, .int .i64 3] rfl (by (try simp only [List.map_toArray, List.map_cons, List.map_nil]); first | done | rfl | (simp only [List.length_drop, List.length_take]; rfl)) ?_; (with_reducible refine (triremeref03_amount.calls k a0 3 t171 t172 _ A2.out).mono ?_); rintro e w3 ⟨rfl, hb⟩; refine ⟨_, rfl, ?_⟩) | (go_at_call 21; (with_reducible refine (triremeref03_amount.calls k a0 3 t171 t172 _ A2.out).mono ?_); rintro e w3 ⟨rfl, hb⟩)); have n0_ := Aside0.mk (below_step (by repeat (first | (with_reducible first | exact HB.out | apply below_alloc | apply pw_below_drewN | apply below_drew1) | exact HB.out)) hb); clear HB; have HB := n0_; clear n0_; (try clear hb); (try clear hb2); (try clear hk); (try clear hi)))
  go_ret2
  exact ⟨by first | rfl | (simp [errW_none, errW_some] <;> rfl) | (simp [*, errW_none, errW_some] <;> rfl), by repeat (first | (with_reducible first | exact HB.out | apply below_alloc | apply pw_below_drewN | apply below_drew1) | exact HB.out)⟩
end Go.Proofs.Ytpmmiabcfnejmaa.H
end
section
namespace Go.Proofs.Ytpmmiabcfnejmaa.H
open Go.RowKit Go.Proofs.YtpmmiabcfnejmaaW.PrintWords Go.Proofs.YtpmmiabcfnejmaaW.PrintLast Go.Proofs.YtpmmiabcfnejmaaW.PrintMore
set_option linter.unusedVariables false
set_option linter.unusedSimpArgs false
theorem dval_app : ∀ (a b : List UInt8) (n : Nat), dval (a ++ b) n = dval b (dval a n)
  | [], b, n => rfl
  | c :: a, b, n => dval_app a b _
def DigS (t : ByteArray) : Prop := ∀ c ∈ t.toList, digB c = true
theorem one_toList (d : Nat) : (strOfNums [((48 + d : Nat) : Int)]).toList = [UInt8.ofNat (48 + d)] := by
  rw [ByteArray.toList_eq]
  rfl
theorem ofNat_toNat (d : Nat) (h : d < 10) : (UInt8.ofNat (48 + d)).toNat = 48 + d := by
  rw [UInt8.toNat_ofNat']; omega
theorem digS_app {a b : ByteArray} (ha : DigS a) (hb : DigS b) : DigS (a ++ b) := by
  intro c hc
  rw [append_toList] at hc
  rcases List.mem_append.1 hc with h | h
  · exact ha c h
  · exact hb c h
end Go.Proofs.Ytpmmiabcfnejmaa.H
end
section
namespace Go.Proofs.Ytpmmiabcfnejmaa.H
open Go.RowKit Go.Proofs.YtpmmiabcfnejmaaW.PrintWords Go.Proofs.YtpmmiabcfnejmaaW.PrintLast Go.Proofs.YtpmmiabcfnejmaaW.PrintMore
attribute [local go_sem] max2_int min2_int max_two min_two max_three min_three max_four min_four   -- for this text's walks alone
set_option linter.unusedVariables false
set_option linter.unusedSimpArgs false
def triremelaw03_QuantParses.f (k : Nat) (a0 : ByteArray) : Option (Bool) := if (a0.size : Int) > 300 then ((triremelaw03_known.f k).bind fun t175 => (some t175)) else ((quant_Parse.f k a0).bind fun bt176 => ((triremeref03_Parse.f k a0).bind fun bt178 => ((quant_Milli.f k a0).bind fun bt180 => ((triremeref03_Milli.f k a0).bind fun bt182 => ((quant_Number.f k a0).bind fun bt184 => ((triremeref03_Number.f k a0).bind fun bt186 => (if bt176.1 = bt178.1 then (if bt176.2 = bt178.2 then (if bt180.1 = bt182.1 then (if bt180.2 = bt182.2 then (if bt184.1 = bt186.1 then (if bt184.2 = bt186.2 then ((triremelaw03_known.f k).bind fun t188 => (some t188)) else (some false)) else (some false)) else (some false)) else (some false)) else (some false)) else (some false))))))))
theorem triremelaw03_QuantParses.mono : ∀ a0 k, LeO (triremelaw03_QuantParses.f k a0) (triremelaw03_QuantParses.f (k + 1) a0) := by
  intro a0 k
  unfold triremelaw03_QuantParses.f
  repeat' first
      | (with_reducible exact quant_Milli.mono _ _)
      | (with_reducible exact quant_Number.mono _ _)
      | (with_reducible exact quant_Parse.mono _ _)
      | (with_reducible exact triremelaw03_known.mono _)
      | (with_reducible exact triremeref03_Milli.mono _ _)
      | (with_reducible exact triremeref03_Number.mono _ _)
      | (with_reducible exact triremeref03_Parse.mono _ _)
      | (with_reducible exact LeO.refl _)
      | (with_reducible exact LeO.none _)
      | (with_reducible refine LeO.ite ?_ ?_)
      | (with_reducible refine LeO.bind ?_ (fun _ => ?_))
      | exact quant_Milli.mono _ _
      | exact quant_Number.mono _ _
      | exact quant_Parse.mono _ _
      | exact triremelaw03_known.mono _
      | exact triremeref03_Milli.mono _ _
      | exact triremeref03_Number.mono _ _
      | exact triremeref03_Parse.mono _ _
      | exact LeO.none _
      | refine LeO.ite ?_ ?_
      | refine LeO.bind ?_ (fun _ => ?_)
set_option maxHeartbeats 8000000 in
set_option maxRecDepth 100000 in
theorem triremelaw03_QuantParses.calls (k : Nat) (a0 : ByteArray) (r : Bool) (w : World) (h : triremelaw03_QuantParses.f k a0 = some r) :
    Calls Try.prog 3 #[.string a0] w fun e w' => e = .returned (.bool r) ∧ Below w.heap.size w w' := by
  have HB := Aside0.mk (Below.refl w.heap.size w)
  have H : (if (a0.size : Int) > 300 then ((triremelaw03_known.f k).bind fun t175 => (some t175)) else ((quant_Parse.f k a0).bind fun bt176 => ((triremeref03_Parse.f k a0).bind fun bt178 => ((quant_Milli.f k a0).bind fun bt180 => ((triremeref03_Milli.f k a0).bind fun bt182 => ((quant_Number.f k a0).bind fun bt184 => ((triremeref03_Number.f k a0).bind fun bt186 => (if bt176.1 = bt178.1 then (if bt176.2 = bt178.2 then (if bt180.1 = bt182.1 then (if bt180.2 = bt182.2 then (if bt184.1 = bt186.1 then (if bt184.2 = bt186.2 then ((triremelaw03_known.f k).bind fun t188 => (some t188)) else (some false)) else (some false)) else (some false)) else (some false)) else (some false)) else (some false))))))))) = some r := h
  clear h
  by_cases c2 : (a0.size : Int) > 300
  · rw [if_pos c2] at H
    have c2b0 : decide (300 < (a0.size : Int)) = true := decide_eq_true c2
    have c2b1 : decide (300 < a0.size) = true := decide_eq_true (by omega)
    clear c2
    replace H := Option.bind_eq_some_iff.mp H
    obtain ⟨t175, A30, H⟩ := H
    replace H : (some t175) = some r := H
    have A3 := Aside0.mk A30
    clear A30
    obtain rfl := Option.some.inj H
    go_enter Try.func3, Try.ntmps3
    go_wp2_with (first | ((first | ((with_reducible refine gate_callee (f := 8) rfl ?_); refine goesL_ (some 18) rfl rfl Try.func8 (by kernel_rfl) rfl #[] rfl (by (try simp only [List.map_toArray, List.map_cons, List.map_nil]); first | done | rfl | (simp only [List.length_drop, List.length_take]; rfl)) ?_; (with_reducible refine (triremelaw03_known.calls k  t175 _ A3.out).mono ?_); rintro e w4 ⟨rfl, hb⟩; refine ⟨_, rfl, ?_⟩) | (go_at_call 8; (with_reducible refine (triremelaw03_known.calls k  t175 _ A3.out).mono ?_); rintro e w4 ⟨rfl, hb⟩)); have n0_ := Aside0.mk (below_step (by repeat (first | (with_reducible first | exact HB.out | apply below_alloc | apply pw_below_drewN | apply below_drew1) | exact HB.out)) hb); clear HB; have HB := n0_; clear n0_; (try clear hb); (try clear hb2); (try clear hk); (try clear hi)))
    go_ret
    exact ⟨by first | rfl | (simp [errW_none, errW_some] <;> rfl) | (simp [*, errW_none, errW_some] <;> rfl), by repeat (first | (with_reducible first | exact HB.out | apply below_alloc | apply pw_below_drewN | apply below_drew1) | exact HB.out)⟩
  · rw [if_neg c2] at H
    have c2b0 : decide (300 < (a0.size : Int)) = false := decide_eq_false c2
    have c2b1 : decide (300 < a0.size) = false := decide_eq_false (by omega)
    clear c2
    replace H := Option.bind_eq_some_iff.mp H
    obtain ⟨⟨t176, t177⟩, A50, H⟩ := H
    replace H : ((triremeref03_Parse.f k a0).bind fun bt178 => ((quant_Milli.f k a0).bind fun bt180 => ((triremeref03_Milli.f k a0).bind fun bt182 => ((quant_Number.f k a0).bind fun bt184 => ((triremeref03_Number.f k a0).bind fun bt186 => (if t176 = bt178.1 then (if t177 = bt178.2 then (if bt180.1 = bt182.1 then (if bt180.2 = bt182.2 then (if bt184.1 = bt186.1 then (if bt184.2 = bt186.2 then ((triremelaw03_known.f k).bind fun t188 => (some t188)) else (some false)) else (some false)) else (some false)) else (some false)) else (some false)) else (some false))))))) = some r := H
    have A5 := Aside0.mk A50
    clear A50
    replace H := Option.bind_eq_some_iff.mp H
    obtain ⟨⟨t178, t179⟩, A60, H⟩ := H
    replace H : ((quant_Milli.f k a0).bind fun bt180 => ((triremeref03_Milli.f k a0).bind fun bt182 => ((quant_Number.f k a0).bind fun bt184 => ((triremeref03_Number.f k a0).bind fun bt186 => (if t176 = t178 then (if t177 = t179 then (if bt180.1 = bt182.1 then (if bt180.2 = bt182.2 then (if bt184.1 = bt186.1 then (if bt184.2 = bt186.2 then ((triremelaw03_known.f k).bind fun t188 => (some t188)) else (some false)) else (some false)) else (some false)) else (some false)) else (some false)) else (some false)))))) = some r := H
    have A6 := Aside0.mk A60
    clear A60
    replace H := Option.bind_eq_some_iff.mp H
    obtain ⟨⟨t180, t181⟩, A70, H⟩ := H
    replace H : ((triremeref03_Milli.f k a0).bind fun bt182 => ((quant_Number.f k a0).bind fun bt184 => ((triremeref03_Number.f k a0).bind fun bt186 => (if t176 = t178 then (if t177 = t179 then (if t180 = bt182.1 then (if t181 = bt182.2 then (if bt184.1 = bt186.1 then (if bt184.2 = bt186.2 then ((triremelaw03_known.f k).bind fun t188 => (some t188)) else (some false)) else (some false)) else (some false)) else (some false)) else (some false)) else (some false))))) = some r := H
    have A7 := Aside0.mk A70
    clear A70
    replace H := Option.bind_eq_some_iff.mp H
    obtain ⟨⟨t182, t183⟩, A80, H⟩ := H
    replace H : ((quant_Number.f k a0).bind fun bt184 => ((triremeref03_Number.f k a0).bind fun bt186 => (if t176 = t178 then (if t177 = t179 then (if t180 = t182 then (if t181 = t183 then (if bt184.1 = bt186.1 then (if bt184.2 = bt186.2 then ((triremelaw03_known.f k).bind fun t188 => (some t188)) else (some false)) else (some false)) else (some false)) else (some false)) else (some false)) else (some false)))) = some r := H
    have A8 := Aside0.mk A80
    clear A80
    replace H := Option.bind_eq_some_iff.mp H
    obtain ⟨⟨t184, t185⟩, A90, H⟩ := H
    replace H : ((triremeref03_Number.f k a0).bind fun bt186 => (if t176 = t178 then (if t177 = t179 then (if t180 = t182 then (if t181 = t183 then (if t184 = bt186.1 then (if t185 = bt186.2 then ((triremelaw03_known.f k).bind fun t188 => (some t188)) else (some false)) else (some false)) else (some false)) else (some false)) else (some false)) else (some false))) = some r := H
    have A9 := Aside0.mk A90
    clear A90
    replace H := Option.bind_eq_some_iff.mp H
    obtain ⟨⟨t186, t187⟩, A100, H⟩ := H
    replace H : (if t176 = t178 then (if t177 = t179 then (if t180 = t182 then (if t181 = t183 then (if t184 = t186 then (if t185 = t187 then ((triremelaw03_known.f k).bind fun t188 => (some t188)) else (some false)) else (some false)) else (some false)) else (some false)) else (some false)) else (some false)) = some r := H
    have A10 := Aside0.mk A100
    clear A100
    by_cases c11 : t176 = t178
    · rw [if_pos c11] at H
      have c11b0 : (t176 == t178) = true := beq_iff_eq.mpr c11
      have c11b1 : (t176 != t178) = false := bne_eq_false_iff_eq.mpr c11
      clear c11
      by_cases c12 : t177 = t179
      · rw [if_pos c12] at H
        have c12b0 : (t177 == t179) = true := beq_iff_eq.mpr c12
        have c12b1 : (t177 != t179) = false := bne_eq_false_iff_eq.mpr c12
        clear c12
        by_cases c13 : t180 = t182
        · rw [if_pos c13] at H
          have c13b0 : (t180 == t182) = true := beq_iff_eq.mpr c13
          have c13b1 : (t180 != t182) = false := bne_eq_false_iff_eq.mpr c13
          clear c13
          by_cases c14 : t181 = t183
          · rw [if_pos c14] at H
            have c14b0 : (t181 == t183) = true := beq_iff_eq.mpr c14
            have c14b1 : (t181 != t183) = false := bne_eq_false_iff_eq.mpr c14
            clear c14
            by_cases c15 : t184 = t186
            · rw [if_pos c15] at H
              have c15b0 : (t184 == t186) = true := beq_iff_eq.mpr c15
              have c15b1 : (t184 != t186) = false := bne_eq_false_iff_eq.mpr c15
              clear c15
              by_cases c16 : t185 = t187
              · rw [if_pos c16] at H
                have c16b0 : (t185 == t187) = true := beq_iff_eq.mpr c16
                have c16b1 : (t185 != t187) = false := bne_eq_false_iff_eq.mpr c16
                clear c16
                replace H := Option.bind_eq_some_iff.mp H
                obtain ⟨t188, A170, H⟩ := H
                replace H : (some t188) = some r := H
                have A17 := Aside0.mk A170
                clear A170
                obtain rfl := Option.some.inj H
                go_enter Try.func3, Try.ntmps3
                go_wp2_with (first | ((first | ((with_reducible refine gate_callee (f := 9) rfl ?_); refine goesL_ (some 21) rfl rfl Try.func9 (by kernel_rfl) rfl #[.string a0] rfl (by (try simp only [List.map_toArray, List.map_cons, List.map_nil]); first | done | rfl | (simp only [List.length_drop, List.length_take]; rfl)) ?_; (with_reducible refine (quant_Parse.calls k a0 t176 t177 _ A5.out).mono ?_); rintro e w18 ⟨rfl, hb⟩; refine ⟨_, rfl, ?_⟩) | (go_at_call 9; (with_reducible refine (quant_Parse.calls k a0 t176 t177 _ A5.out).mono ?_); rintro e w18 ⟨rfl, hb⟩)); have n0_ := Aside0.mk (below_step (by repeat (first | (with_reducible first | exact HB.out | apply below_alloc | apply pw_below_drewN | apply below_drew1) | exact HB.out)) hb); clear HB; have HB := n0_; clear n0_; (try clear hb); (try clear hb2); (try clear hk); (try clear hi)) | ((first | ((with_reducible refine gate_callee (f := 10) rfl ?_); refine goesL_ (some 26) rfl rfl Try.func10 (by kernel_rfl) rfl #[.string a0] rfl (by (try simp only [List.map_toArray, List.map_cons, List.map_nil]); first | done | rfl | (simp only [List.length_drop, List.length_take]; rfl)) ?_; (with_reducible refine (triremeref03_Parse.calls k a0 t178 t179 _ A6.out).mono ?_); rintro e w19 ⟨rfl, hb⟩; refine ⟨_, rfl, ?_⟩) | (go_at_call 10; (with_reducible refine (triremeref03_Parse.calls k a0 t178 t179 _ A6.out).mono ?_); rintro e w19 ⟨rfl, hb⟩)); have n0_ := Aside0.mk (below_step (by repeat (first | (with_reducible first | exact HB.out | apply below_alloc | apply pw_below_drewN | apply below_drew1) | exact HB.out)) hb); clear HB; have HB := n0_; clear n0_; (try clear hb); (try clear hb2); (try clear hk); (try clear hi)) | ((first | ((with_reducible refine gate_callee (f := 11) rfl ?_); refine goesL_ (some 31) rfl rfl Try.func11 (by kernel_rfl) rfl #[.string a0] rfl (by (try simp only [List.map_toArray, List.map_cons, List.map_nil]); first | done | rfl | (simp only [List.length_drop, List.length_take]; rfl)) ?_; (with_reducible refine (quant_Milli.calls k a0 t180 t181 _ A7.out).mono ?_); rintro e w20 ⟨rfl, hb⟩; refine ⟨_, rfl, ?_⟩) | (go_at_call 11; (with_reducible refine (quant_Milli.calls k a0 t180 t181 _ A7.out).mono ?_); rintro e w20 ⟨rfl, hb⟩)); have n0_ := Aside0.mk (below_step (by repeat (first | (with_reducible first | exact HB.out | apply below_alloc | apply pw_below_drewN | apply below_drew1) | exact HB.out)) hb); clear HB; have HB := n0_; clear n0_; (try clear hb); (try clear hb2); (try clear hk); (try clear hi)) | ((first | ((with_reducible refine gate_callee (f := 12) rfl ?_); refine goesL_ (some 36) rfl rfl Try.func12 (by kernel_rfl) rfl #[.string a0] rfl (by (try simp only [List.map_toArray, List.map_cons, List.map_nil]); first | done | rfl | (simp only [List.length_drop, List.length_take]; rfl)) ?_; (with_reducible refine (triremeref03_Milli.calls k a0 t182 t183 _ A8.out).mono ?_); rintro e w21 ⟨rfl, hb⟩; refine ⟨_, rfl, ?_⟩) | (go_at_call 12; (with_reducible refine (triremeref03_Milli.calls k a0 t182 t183 _ A8.out).mono ?_); rintro e w21 ⟨rfl, hb⟩)); have n0_ := Aside0.mk (below_step (by repeat (first | (with_reducible first | exact HB.out | apply below_alloc | apply pw_below_drewN | apply below_drew1) | exact HB.out)) hb); clear HB; have HB := n0_; clear n0_; (try clear hb); (try clear hb2); (try clear hk); (try clear hi)) | ((first | ((with_reducible refine gate_callee (f := 13) rfl ?_); refine goesL_ (some 41) rfl rfl Try.func13 (by kernel_rfl) rfl #[.string a0] rfl (by (try simp only [List.map_toArray, List.map_cons, List.map_nil]); first | done | rfl | (simp only [List.length_drop, List.length_take]; rfl)) ?_; (with_reducible refine (quant_Number.calls k a0 t184 t185 _ A9.out).mono ?_); rintro e w' ⟨rfl, ⟨nd, rfl⟩⟩; refine ⟨_, rfl, ?_⟩) | (go_at_call 13; (with_reducible refine (quant_Number.calls k a0 t184 t185 _ A9.out).mono ?_); rintro e w' ⟨rfl, ⟨nd, rfl⟩⟩))) | ((first | ((with_reducible refine gate_callee (f := 14) rfl ?_); refine goesL_ (some 46) rfl rfl Try.func14 (by kernel_rfl) rfl #[.string a0] rfl (by (try simp only [List.map_toArray, List.map_cons, List.map_nil]); first | done | rfl | (simp only [List.length_drop, List.length_take]; rfl)) ?_; (with_reducible refine (triremeref03_Number.calls k a0 t186 t187 _ A10.out).mono ?_); rintro e w22 ⟨rfl, hb⟩; refine ⟨_, rfl, ?_⟩) | (go_at_call 14; (with_reducible refine (triremeref03_Number.calls k a0 t186 t187 _ A10.out).mono ?_); rintro e w22 ⟨rfl, hb⟩)); have n0_ := Aside0.mk (below_step (by repeat (first | (with_reducible first | exact HB.out | apply below_alloc | apply pw_below_drewN | apply below_drew1) | exact HB.out)) hb); clear HB; have HB := n0_; clear n0_; (try clear hb); (try clear hb2); (try clear hk); (try clear hi)) | (go_at_call 8; (with_reducible refine (triremelaw03_known.calls k  t188 _ A17.out).mono ?_); rintro e w23 ⟨rfl, hb⟩; have n0_ := Aside0.mk (below_step (by repeat (first | (with_reducible first | exact HB.out | apply below_alloc | apply pw_below_drewN | apply below_drew1) | exact HB.out)) hb); clear HB; have HB := n0_; clear n0_; (try clear hb); (try clear hb2); (try clear hk); (try clear hi)))
                go_ret
                exact ⟨by first | rfl | (simp [errW_none, errW_some] <;> rfl) | (simp [*, errW_none, errW_some] <;> rfl), by repeat (first | (with_reducible first | exact HB.out | apply below_alloc | apply pw_below_drewN | apply below_drew1) | exact HB.out)⟩
              · rw [if_neg c16] at H
                have c16b0 : (t185 == t187) = false := beq_eq_false_iff_ne.mpr c16
                have c16b1 : (t185 != t187) = true := bne_iff_ne.mpr c16
                obtain rfl := Option.some.inj H
                go_enter Try.func3, Try.ntmps3
                go_wp2_with (first | ((first | ((with_reducible refine gate_callee (f := 9) rfl ?_); refine goesL_ (some 21) rfl rfl Try.func9 (by kernel_rfl) rfl #[.string a0] rfl (by (try simp only [List.map_toArray, List.map_cons, List.map_nil]); first | done | rfl | (simp only [List.length_drop, List.length_take]; rfl)) ?_; (with_reducible refine (quant_Parse.calls k a0 t176 t177 _ A5.out).mono ?_); rintro e w24 ⟨rfl, hb⟩; refine ⟨_, rfl, ?_⟩) | (go_at_call 9; (with_reducible refine (quant_Parse.calls k a0 t176 t177 _ A5.out).mono ?_); rintro e w24 ⟨rfl, hb⟩)); have n0_ := Aside0.mk (below_step (by repeat (first | (with_reducible first | exact HB.out | apply below_alloc | apply pw_below_drewN | apply below_drew1) | exact HB.out)) hb); clear HB; have HB := n0_; clear n0_; (try clear hb); (try clear hb2); (try clear hk); (try clear hi)) | ((first | ((with_reducible refine gate_callee (f := 10) rfl ?_); refine goesL_ (some 26) rfl rfl Try.func10 (by kernel_rfl) rfl #[.string a0] rfl (by (try simp only [List.map_toArray, List.map_cons, List.map_nil]); first | done | rfl | (simp only [List.length_drop, List.length_take]; rfl)) ?_; (with_reducible refine (triremeref03_Parse.calls k a0 t178 t179 _ A6.out).mono ?_); rintro e w25 ⟨rfl, hb⟩; refine ⟨_, rfl, ?_⟩) | (go_at_call 10; (with_reducible refine (triremeref03_Parse.calls k a0 t178 t179 _ A6.out).mono ?_); rintro e w25 ⟨rfl, hb⟩)); have n0_ := Aside0.mk (below_step (by repeat (first | (with_reducible first | exact HB.out | apply below_alloc | apply pw_below_drewN | apply below_drew1) | exact HB.out)) hb); clear HB; have HB := n0_; clear n0_; (try clear hb); (try clear hb2); (try clear hk); (try clear hi)) | ((first | ((with_reducible refine gate_callee (f := 11) rfl ?_); refine goesL_ (some 31) rfl rfl Try.func11 (by kernel_rfl) rfl #[.string a0] rfl (by (try simp only [List.map_toArray, List.map_cons, List.map_nil]); first | done | rfl | (simp only [List.length_drop, List.length_take]; rfl)) ?_; (with_reducible refine (quant_Milli.calls k a0 t180 t181 _ A7.out).mono ?_); rintro e w26 ⟨rfl, hb⟩; refine ⟨_, rfl, ?_⟩) | (go_at_call 11; (with_reducible refine (quant_Milli.calls k a0 t180 t181 _ A7.out).mono ?_); rintro e w26 ⟨rfl, hb⟩)); have n0_ := Aside0.mk (below_step (by repeat (first | (with_reducible first | exact HB.out | apply below_alloc | apply pw_below_drewN | apply below_drew1) | exact HB.out)) hb); clear HB; have HB := n0_; clear n0_; (try clear hb); (try clear hb2); (try clear hk); (try clear hi)) | ((first | ((with_reducible refine gate_callee (f := 12) rfl ?_); refine goesL_ (some 36) rfl rfl Try.func12 (by kernel_rfl) rfl #[.string a0] rfl (by (try simp only [List.map_toArray, List.map_cons, List.map_nil]); first | done | rfl | (simp only [List.length_drop, List.length_take]; rfl)) ?_; (with_reducible refine (triremeref03_Milli.calls k a0 t182 t183 _ A8.out).mono ?_); rintro e w27 ⟨rfl, hb⟩; refine ⟨_, rfl, ?_⟩) | (go_at_call 12; (with_reducible refine (triremeref03_Milli.calls k a0 t182 t183 _ A8.out).mono ?_); rintro e w27 ⟨rfl, hb⟩)); have n0_ := Aside0.mk (below_step (by repeat (first | (with_reducible first | exact HB.out | apply below_alloc | apply pw_below_drewN | apply below_drew1) | exact HB.out)) hb); clear HB; have HB := n0_; clear n0_; (try clear hb); (try clear hb2); (try clear hk); (try clear hi)) | ((first | ((with_reducible refine gate_callee (f := 13) rfl ?_); refine goesL_ (some 41) rfl rfl Try.func13 (by kernel_rfl) rfl #[.string a0] rfl (by (try simp only [List.map_toArray, List.map_cons, List.map_nil]); first | done | rfl | (simp only [List.length_drop, List.length_take]; rfl)) ?_; (with_reducible refine (quant_Number.calls k a0 t184 t185 _ A9.out).mono ?_); rintro e w' ⟨rfl, ⟨nd, rfl⟩⟩; refine ⟨_, rfl, ?_⟩) | (go_at_call 13; (with_reducible refine (quant_Number.calls k a0 t184 t185 _ A9.out).mono ?_); rintro e w' ⟨rfl, ⟨nd, rfl⟩⟩))) | ((first | ((with_reducible refine gate_callee (f := 14) rfl ?_); refine goesL_ (some 46) rfl rfl Try.func14 (by kernel_rfl) rfl #[.string a0] rfl (by (try simp only [List.map_toArray, List.map_cons, List.map_nil]); first | done | rfl | (simp only [List.length_drop, List.length_take]; rfl)) ?_; (with_reducible refine (triremeref03_Number.calls k a0 t186 t187 _ A10.out).mono ?_); rintro e w28 ⟨rfl, hb⟩; refine ⟨_, rfl, ?_⟩) | (go_at_call 14; (with_reducible refine (triremeref03_Number.calls k a0 t186 t187 _ A10.out).mono ?_); rintro e w28 ⟨rfl, hb⟩)); have n0_ := Aside0.mk (below_step (by repeat (first | (with_reducible first | exact HB.out | apply below_alloc | apply pw_below_drewN | apply below_drew1) | exact HB.out)) hb); clear HB; have HB := n0_; clear n0_; (try clear hb); (try clear hb2); (try clear hk); (try clear hi)))
                go_ret
                exact ⟨by first | rfl | (simp [errW_none, errW_some] <;> rfl) | (simp [*, errW_none, errW_some] <;> rfl), by repeat (first | (with_reducible first | exact HB.out | apply below_alloc | apply pw_below_drewN | apply below_drew1) | exact HB.out)⟩
            · rw [if_neg c15] at H
              have c15b0 : (t184 == t186) = false := beq_eq_false_iff_ne.mpr c15
              have c15b1 : (t184 != t186) = true := bne_iff_ne.mpr c15
              obtain rfl := Option.some.inj H
              go_enter Try.func3, Try.ntmps3
              go_wp2_with (first | ((first | ((with_reducible refine gate_callee (f := 9) rfl ?_); refine goesL_ (some 21) rfl rfl Try.func9 (by kernel_rfl) rfl #[.string a0] rfl (by (try simp only [List.map_toArray, List.map_cons, List.map_nil]); first | done | rfl | (simp only [List.length_drop, List.length_take]; rfl)) ?_; (with_reducible refine (quant_Parse.calls k a0 t176 t177 _ A5.out).mono ?_); rintro e w29 ⟨rfl, hb⟩; refine ⟨_, rfl, ?_⟩) | (go_at_call 9; (with_reducible refine (quant_Parse.calls k a0 t176 t177 _ A5.out).mono ?_); rintro e w29 ⟨rfl, hb⟩)); have n0_ := Aside0.mk (below_step (by repeat (first | (with_reducible first | exact HB.out | apply below_alloc | apply pw_below_drewN | apply below_drew1) | exact HB.out)) hb); clear HB; have HB := n0_; clear n0_; (try clear hb); (try clear hb2); (try clear hk); (try clear hi)) | ((first | ((with_reducible refine gate_callee (f := 10) rfl ?_); refine goesL_ (some 26) rfl rfl Try.func10 (by kernel_rfl) rfl #[.string a0] rfl (by (try simp only [List.map_toArray, List.map_cons, List.map_nil]); first | done | rfl | (simp only [List.length_drop, List.length_take]; rfl)) ?_; (with_reducible refine (triremeref03_Parse.calls k a0 t178 t179 _ A6.out).mono ?_); rintro e w30 ⟨rfl, hb⟩; refine ⟨_, rfl, ?_⟩) | (go_at_call 10; (with_reducible refine (triremeref03_Parse.calls k a0 t178 t179 _ A6.out).mono ?_); rintro e w30 ⟨rfl, hb⟩)); have n0_ := Aside0.mk (below_step (by repeat (first | (with_reducible first | exact HB.out | apply below_alloc | apply pw_below_drewN | apply below_drew1) | exact HB.out)) hb); clear HB; have HB := n0_; clear n0_; (try clear hb); (try clear hb2); (try clear hk); (try clear hi)) | ((first | ((with_reducible refine gate_callee (f := 11) rfl ?_); refine goesL_ (some 31) rfl rfl Try.func11 (by kernel_rfl) rfl #[.string a0] rfl (by (try simp only [List.map_toArray, List.map_cons, List.map_nil]); first | done | rfl | (simp only [List.length_drop, List.length_take]; rfl)) ?_; (with_reducible refine (quant_Milli.calls k a0 t180 t181 _ A7.out).mono ?_); rintro e w31 ⟨rfl, hb⟩; refine ⟨_, rfl, ?_⟩) | (go_at_call 11; (with_reducible refine (quant_Milli.calls k a0 t180 t181 _ A7.out).mono ?_); rintro e w31 ⟨rfl, hb⟩)); have n0_ := Aside0.mk (below_step (by repeat (first | (with_reducible first | exact HB.out | apply below_alloc | apply pw_below_drewN | apply below_drew1) | exact HB.out)) hb); clear HB; have HB := n0_; clear n0_; (try clear hb); (try clear hb2); (try clear hk); (try clear hi)) | ((first | ((with_reducible refine gate_callee (f := 12) rfl ?_); refine goesL_ (some 36) rfl rfl Try.func12 (by kernel_rfl) rfl #[.string a0] rfl (by (try simp only [List.map_toArray, List.map_cons, List.map_nil]); first | done | rfl | (simp only [List.length_drop, List.length_take]; rfl)) ?_; (with_reducible refine (triremeref03_Milli.calls k a0 t182 t183 _ A8.out).mono ?_); rintro e w32 ⟨rfl, hb⟩; refine ⟨_, rfl, ?_⟩) | (go_at_call 12; (with_reducible refine (triremeref03_Milli.calls k a0 t182 t183 _ A8.out).mono ?_); rintro e w32 ⟨rfl, hb⟩)); have n0_ := Aside0.mk (below_step (by repeat (first | (with_reducible first | exact HB.out | apply below_alloc | apply pw_below_drewN | apply below_drew1) | exact HB.out)) hb); clear HB; have HB := n0_; clear n0_; (try clear hb); (try clear hb2); (try clear hk); (try clear hi)) | ((first | ((with_reducible refine gate_callee (f := 13) rfl ?_); refine goesL_ (some 41) rfl rfl Try.func13 (by kernel_rfl) rfl #[.string a0] rfl (by (try simp only [List.map_toArray, List.map_cons, List.map_nil]); first | done | rfl | (simp only [List.length_drop, List.length_take]; rfl)) ?_; (with_reducible refine (quant_Number.calls k a0 t184 t185 _ A9.out).mono ?_); rintro e w' ⟨rfl, ⟨nd, rfl⟩⟩; refine ⟨_, rfl, ?_⟩) | (go_at_call 13; (with_reducible refine (quant_Number.calls k a0 t184 t185 _ A9.out).mono ?_); rintro e w' ⟨rfl, ⟨nd, rfl⟩⟩))) | ((first | ((with_reducible refine gate_callee (f := 14) rfl ?_); refine goesL_ (some 46) rfl rfl Try.func14 (by kernel_rfl) rfl #[.string a0] rfl (by (try simp only [List.map_toArray, List.map_cons, List.map_nil]); first | done | rfl | (simp only [List.length_drop, List.length_take]; rfl)) ?_; (with_reducible refine (triremeref03_Number.calls k a0 t186 t187 _ A10.out).mono ?_); rintro e w33 ⟨rfl, hb⟩; refine ⟨_, rfl, ?_⟩) | (go_at_call 14; (with_reducible refine (triremeref03_Number.calls k a0 t186 t187 _ A10.out).mono ?_); rintro e w33 ⟨rfl, hb⟩)); have n0_ := Aside0.mk (below_step (by repeat (first | (with_reducible first | exact HB.out | apply below_alloc | apply pw_below_drewN | apply below_drew1) | exact HB.out)) hb); clear HB; have HB := n0_; clear n0_; (try clear hb); (try clear hb2); (try clear hk); (try clear hi)))
              go_ret
              exact ⟨by first | rfl | (simp [errW_none, errW_some] <;> rfl) | (simp [*, errW_none, errW_some] <;> rfl), by repeat (first | (with_reducible first | exact HB.out | apply below_alloc | apply pw_below_drewN | apply below_drew1) | exact HB.out)⟩
          · rw [if_neg c14] at H
            have c14b0 : (t181 == t183) = false := beq_eq_false_iff_ne.mpr c14
            have c14b1 : (t181 != t183) = true := bne_iff_ne.mpr c14
            obtain rfl := Option.some.inj H
            go_enter Try.func3, Try.ntmps3
            go_wp2_with (first | ((first | ((with_reducible refine gate_callee (f := 9) rfl ?_); refine goesL_ (some 21) rfl rfl Try.func9 (by kernel_rfl) rfl #[.string a0] rfl (by (try simp only [List.map_toArray, List.map_cons, List.map_nil]); first | done | rfl | (simp only [List.length_drop, List.length_take]; rfl)) ?_; (with_reducible refine (quant_Parse.calls k a0 t176 t177 _ A5.out).mono ?_); rintro e w34 ⟨rfl, hb⟩; refine ⟨_, rfl, ?_⟩) | (go_at_call 9; (with_reducible refine (quant_Parse.calls k a0 t176 t177 _ A5.out).mono ?_); rintro e w34 ⟨rfl, hb⟩)); have n0_ := Aside0.mk (below_step (by repeat (first | (with_reducible first | exact HB.out | apply below_alloc | apply pw_below_drewN | apply below_drew1) | exact HB.out)) hb); clear HB; have HB := n0_; clear n0_; (try clear hb); (try clear hb2); (try clear hk); (try clear hi)) | ((first | ((with_reducible refine gate_callee (f := 10) rfl ?_); refine goesL_ (some 26) rfl rfl Try.func10 (by kernel_rfl) rfl #[.string a0] rfl (by (try simp only [List.map_toArray, List.map_cons, List.map_nil]); first | done | rfl | (simp only [List.length_drop, List.length_take]; rfl)) ?_; (with_reducible refine (triremeref03_Parse.calls k a0 t178 t179 _ A6.out).mono ?_); rintro e w35 ⟨rfl, hb⟩; refine ⟨_, rfl, ?_⟩) | (go_at_call 10; (with_reducible refine (triremeref03_Parse.calls k a0 t178 t179 _ A6.out).mono ?_); rintro e w35 ⟨rfl, hb⟩)); have n0_ := Aside0.mk (below_step (by repeat (first | (with_reducible first | exact HB.out | apply below_alloc | apply pw_below_drewN | apply below_drew1) | exact HB.out)) hb); clear HB; have HB := n0_; clear n0_; (try clear hb); (try clear hb2); (try clear hk); (try clear hi)) | ((first | ((with_reducible refine gate_callee (f := 11) rfl ?_); refine goesL_ (some 31) rfl rfl Try.func11 (by kernel_rfl) rfl #[.string a0] rfl (by (try simp only [List.map_toArray, List.map_cons, List.map_nil]); first | done | rfl | (simp only [List.length_drop, List.length_take]; rfl)) ?_; (with_reducible refine (quant_Milli.calls k a0 t180 t181 _ A7.out).mono ?_); rintro e w36 ⟨rfl, hb⟩; refine ⟨_, rfl, ?_⟩) | (go_at_call 11; (with_reducible refine (quant_Milli.calls k a0 t180 t181 _ A7.out).mono ?_); rintro e w36 ⟨rfl, hb⟩)); have n0_ := Aside0.mk (below_step (by repeat (first | (with_reducible first | exact HB.out | apply below_alloc | apply pw_below_drewN | apply below_drew1) | exact HB.out)) hb); clear HB; have HB := n0_; clear n0_; (try clear hb); (try clear hb2); (try clear hk); (try clear hi)) | ((first | ((with_reducible refine gate_callee (f := 12) rfl ?_); refine goesL_ (some 36) rfl rfl Try.func12 (by kernel_rfl) rfl #[.string a0] rfl (by (try simp only [List.map_toArray, List.map_cons, List.map_nil]); first | done | rfl | (simp only [List.length_drop, List.length_take]; rfl)) ?_; (with_reducible refine (triremeref03_Milli.calls k a0 t182 t183 _ A8.out).mono ?_); rintro e w37 ⟨rfl, hb⟩; refine ⟨_, rfl, ?_⟩) | (go_at_call 12; (with_reducible refine (triremeref03_Milli.calls k a0 t182 t183 _ A8.out).mono ?_); rintro e w37 ⟨rfl, hb⟩)); have n0_ := Aside0.mk (below_step (by repeat (first | (with_reducible first | exact HB.out | apply below_alloc | apply pw_below_drewN | apply below_drew1) | exact HB.out)) hb); clear HB; have HB := n0_; clear n0_; (try clear hb); (try clear hb2); (try clear hk); (try clear hi)) | ((first | ((with_reducible refine gate_callee (f := 13) rfl ?_); refine goesL_ (some 41) rfl rfl Try.func13 (by kernel_rfl) rfl #[.string a0] rfl (by (try simp only [List.map_toArray, List.map_cons, List.map_nil]); first | done | rfl | (simp only [List.length_drop, List.length_take]; rfl)) ?_; (with_reducible refine (quant_Number.calls k a0 t184 t185 _ A9.out).mono ?_); rintro e w' ⟨rfl, ⟨nd, rfl⟩⟩; refine ⟨_, rfl, ?_⟩) | (go_at_call 13; (with_reducible refine (quant_Number.calls k a0 t184 t185 _ A9.out).mono ?_); rintro e w' ⟨rfl, ⟨nd, rfl⟩⟩))) | ((first | ((with_reducible refine gate_callee (f := 14) rfl ?_); refine goesL_ (some 46) rfl rfl Try.func14 (by kernel_rfl) rfl #[.string a0] rfl (by (try simp only [List.map_toArray, List.map_cons, List.map_nil]); first | done | rfl | (simp only [List.length_drop, List.length_take]; rfl)) ?_; (with_reducible refine (triremeref03_Number.calls k a0 t186 t187 _ A10.out).mono ?_); rintro e w38 ⟨rfl, hb⟩; refine ⟨_, rfl, ?_⟩) | (go_at_call 14; (with_reducible refine (triremeref03_Number.calls k a0 t186 t187 _ A10.out).mono ?_); rintro e w38 ⟨rfl, hb⟩)); have n0_ := Aside0.mk (below_step (by repeat (first | (with_reducible first | exact HB.out | apply below_alloc | apply pw_below_drewN | apply below_drew1) | exact HB.out)) hb); clear HB; have HB := n0_; clear n0_; (try clear hb); (try clear hb2); (try clear hk); (try clear hi)))
            go_ret
            exact ⟨by first | rfl | (simp [errW_none, errW_some] <;> rfl) | (simp [*, errW_none, errW_some] <;> rfl), by repeat (first | (with_reducible first | exact HB.out | apply below_alloc | apply pw_below_drewN | apply below_drew1) | exact HB.out)⟩
        · rw [if_neg c13] at H
          have c13b0 : (t180 == t182) = false := beq_eq_false_iff_ne.mpr c13
          have c13b1 : (t180 != t182) = true := bne_iff_ne.mpr c13
          obtain rfl := Option.some.inj H
          go_enter Try.func3, Try.ntmps3
          go_wp2_with (first | ((first | ((with_reducible refine gate_callee (f := 9) rfl ?_); refine goesL_ (some 21) rfl rfl Try.func9 (by kernel_rfl) rfl #[.string a0] rfl (by (try simp only [List.map_toArray, List.map_cons, List.map_nil]); first | done | rfl | (simp only [List.length_drop, List.length_take]; rfl)) ?_; (with_reducible refine (quant_Parse.calls k a0 t176 t177 _ A5.out).mono ?_); rintro e w39 ⟨rfl, hb⟩; refine ⟨_, rfl, ?_⟩) | (go_at_call 9; (with_reducible refine (quant_Parse.calls k a0 t176 t177 _ A5.out).mono ?_); rintro e w39 ⟨rfl, hb⟩)); have n0_ := Aside0.mk (below_step (by repeat (first | (with_reducible first | exact HB.out | apply below_alloc | apply pw_below_drewN | apply below_drew1) | exact HB.out)) hb); clear HB; have HB := n0_; clear n0_; (try clear hb); (try clear hb2); (try clear hk); (try clear hi)) | ((first | ((with_reducible refine gate_callee (f := 10) rfl ?_); refine goesL_ (some 26) rfl rfl Try.func10 (by kernel_rfl) rfl #[.string a0] rfl (by (try simp only [List.map_toArray, List.map_cons, List.map_nil]); first | done | rfl | (simp only [List.length_drop, List.length_take]; rfl)) ?_; (with_reducible refine (triremeref03_Parse.calls k a0 t178 t179 _ A6.out).mono ?_); rintro e w40 ⟨rfl, hb⟩; refine ⟨_, rfl, ?_⟩) | (go_at_call 10; (with_reducible refine (triremeref03_Parse.calls k a0 t178 t179 _ A6.out).mono ?_); rintro e w40 ⟨rfl, hb⟩)); have n0_ := Aside0.mk (below_step (by repeat (first | (with_reducible first | exact HB.out | apply below_alloc | apply pw_below_drewN | apply below_drew1) | exact HB.out)) hb); clear HB; have HB := n0_; clear n0_; (try clear hb); (try clear hb2); (try clear hk); (try clear hi)) | ((first | ((with_reducible refine gate_callee (f := 11) rfl ?_); refine goesL_ (some 31) rfl rfl Try.func11 (by kernel_rfl) rfl #[.string a0] rfl (by (try simp only [List.map_toArray, List.map_cons, List.map_nil]); first | done | rfl | (simp only [List.length_drop, List.length_take]; rfl)) ?_; (with_reducible refine (quant_Milli.calls k a0 t180 t181 _ A7.out).mono ?_); rintro e w41 ⟨rfl, hb⟩; refine ⟨_, rfl, ?_⟩) | (go_at_call 11; (with_reducible refine (quant_Milli.calls k a0 t180 t181 _ A7.out).mono ?_); rintro e w41 ⟨rfl, hb⟩)); have n0_ := Aside0.mk (below_step (by repeat (first | (with_reducible first | exact HB.out | apply below_alloc | apply pw_below_drewN | apply below_drew1) | exact HB.out)) hb); clear HB; have HB := n0_; clear n0_; (try clear hb); (try clear hb2); (try clear hk); (try clear hi)) | ((first | ((with_reducible refine gate_callee (f := 12) rfl ?_); refine goesL_ (some 36) rfl rfl Try.func12 (by kernel_rfl) rfl #[.string a0] rfl (by (try simp only [List.map_toArray, List.map_cons, List.map_nil]); first | done | rfl | (simp only [List.length_drop, List.length_take]; rfl)) ?_; (with_reducible refine (triremeref03_Milli.calls k a0 t182 t183 _ A8.out).mono ?_); rintro e w42 ⟨rfl, hb⟩; refine ⟨_, rfl, ?_⟩) | (go_at_call 12; (with_reducible refine (triremeref03_Milli.calls k a0 t182 t183 _ A8.out).mono ?_); rintro e w42 ⟨rfl, hb⟩)); have n0_ := Aside0.mk (below_step (by repeat (first | (with_reducible first | exact HB.out | apply below_alloc | apply pw_below_drewN | apply below_drew1) | exact HB.out)) hb); clear HB; have HB := n0_; clear n0_; (try clear hb); (try clear hb2); (try clear hk); (try clear hi)) | ((first | ((with_reducible refine gate_callee (f := 13) rfl ?_); refine goesL_ (some 41) rfl rfl Try.func13 (by kernel_rfl) rfl #[.string a0] rfl (by (try simp only [List.map_toArray, List.map_cons, List.map_nil]); first | done | rfl | (simp only [List.length_drop, List.length_take]; rfl)) ?_; (with_reducible refine (quant_Number.calls k a0 t184 t185 _ A9.out).mono ?_); rintro e w' ⟨rfl, ⟨nd, rfl⟩⟩; refine ⟨_, rfl, ?_⟩) | (go_at_call 13; (with_reducible refine (quant_Number.calls k a0 t184 t185 _ A9.out).mono ?_); rintro e w' ⟨rfl, ⟨nd, rfl⟩⟩))) | ((first | ((with_reducible refine gate_callee (f := 14) rfl ?_); refine goesL_ (some 46) rfl rfl Try.func14 (by kernel_rfl) rfl #[.string a0] rfl (by (try simp only [List.map_toArray, List.map_cons, List.map_nil]); first | done | rfl | (simp only [List.length_drop, List.length_take]; rfl)) ?_; (with_reducible refine (triremeref03_Number.calls k a0 t186 t187 _ A10.out).mono ?_); rintro e w43 ⟨rfl, hb⟩; refine ⟨_, rfl, ?_⟩) | (go_at_call 14; (with_reducible refine (triremeref03_Number.calls k a0 t186 t187 _ A10.out).mono ?_); rintro e w43 ⟨rfl, hb⟩)); have n0_ := Aside0.mk (below_step (by repeat (first | (with_reducible first | exact HB.out | apply below_alloc | apply pw_below_drewN | apply below_drew1) | exact HB.out)) hb); clear HB; have HB := n0_; clear n0_; (try clear hb); (try clear hb2); (try clear hk); (try clear hi)))
          go_ret
          exact ⟨by first | rfl | (simp [errW_none, errW_some] <;> rfl) | (simp [*, errW_none, errW_some] <;> rfl), by repeat (first | (with_reducible first | exact HB.out | apply below_alloc | apply pw_below_drewN | apply below_drew1) | exact HB.out)⟩
      · rw [if_neg c12] at H
        have c12b0 : (t177 == t179) = false := beq_eq_false_iff_ne.mpr c12
        have c12b1 : (t177 != t179) = true := bne_iff_ne.mpr c12
        obtain rfl := Option.some.inj H
        go_enter Try.func3, Try.ntmps3
        go_wp2_with (first | ((first | ((with_reducible refine gate_callee (f := 9) rfl ?_); refine goesL_ (some 21) rfl rfl Try.func9 (by kernel_rfl) rfl #[.string a0] rfl (by (try simp only [List.map_toArray, List.map_cons, List.map_nil]); first | done | rfl | (simp only [List.length_drop, List.length_take]; rfl)) ?_; (with_reducible refine (quant_Parse.calls k a0 t176 t177 _ A5.out).mono ?_); rintro e w44 ⟨rfl, hb⟩; refine ⟨_, rfl, ?_⟩) | (go_at_call 9; (with_reducible refine (quant_Parse.calls k a0 t176 t177 _ A5.out).mono ?_); rintro e w44 ⟨rfl, hb⟩)); have n0_ := Aside0.mk (below_step (by repeat (first | (with_reducible first | exact HB.out | apply below_alloc | apply pw_below_drewN | apply below_drew1) | exact HB.out)) hb); clear HB; have HB := n0_; clear n0_; (try clear hb); (try clear hb2); (try clear hk); (try clear hi)) | ((first | ((with_reducible refine gate_callee (f := 10) rfl ?_); refine goesL_ (some 26) rfl rfl Try.func10 (by kernel_rfl) rfl #[.string a0] rfl (by (try simp only [List.map_toArray, List.map_cons, List.map_nil]); first | done | rfl | (simp only [List.length_drop, List.length_take]; rfl)) ?_; (with_reducible refine (triremeref03_Parse.calls k a0 t178 t179 _ A6.out).mono ?_); rintro e w45 ⟨rfl, hb⟩; refine ⟨_, rfl, ?_⟩) | (go_at_call 10; (with_reducible refine (triremeref03_Parse.calls k a0 t178 t179 _ A6.out).mono ?_); rintro e w45 ⟨rfl, hb⟩)); have n0_ := Aside0.mk (below_step (by repeat (first | (with_reducible first | exact HB.out | apply below_alloc | apply pw_below_drewN | apply below_drew1) | exact HB.out)) hb); clear HB; have HB := n0_; clear n0_; (try clear hb); (try clear hb2); (try clear hk); (try clear hi)) | ((first | ((with_reducible refine gate_callee (f := 11) rfl ?_); refine goesL_ (some 31) rfl rfl Try.func11 (by kernel_rfl) rfl #[.string a0] rfl (by (try simp only [List.map_toArray, List.map_cons, List.map_nil]); first | done | rfl | (simp only [List.length_drop, List.length_take]; rfl)) ?_; (with_reducible refine (quant_Milli.calls k a0 t180 t181 _ A7.out).mono ?_); rintro e w46 ⟨rfl, hb⟩; refine ⟨_, rfl, ?_⟩) | (go_at_call 11; (with_reducible refine (quant_Milli.calls k a0 t180 t181 _ A7.out).mono ?_); rintro e w46 ⟨rfl, hb⟩)); have n0_ := Aside0.mk (below_step (by repeat (first | (with_reducible first | exact HB.out | apply below_alloc | apply pw_below_drewN | apply below_drew1) | exact HB.out)) hb); clear HB; have HB := n0_; clear n0_; (try clear hb); (try clear hb2); (try clear hk); (try clear hi)) | ((first | ((with_reducible refine gate_callee (f := 12) rfl ?_); refine goesL_ (some 36) rfl rfl Try.func12 (by kernel_rfl) rfl #[.string a0] rfl (by (try simp only [List.map_toArray, List.map_cons, List.map_nil]); first | done | rfl | (simp only [List.length_drop, List.length_take]; rfl)) ?_; (with_reducible refine (triremeref03_Milli.calls k a0 t182 t183 _ A8.out).mono ?_); rintro e w47 ⟨rfl, hb⟩; refine ⟨_, rfl, ?_⟩) | (go_at_call 12; (with_reducible refine (triremeref03_Milli.calls k a0 t182 t183 _ A8.out).mono ?_); rintro e w47 ⟨rfl, hb⟩)); have n0_ := Aside0.mk (below_step (by repeat (first | (with_reducible first | exact HB.out | apply below_alloc | apply pw_below_drewN | apply below_drew1) | exact HB.out)) hb); clear HB; have HB := n0_; clear n0_; (try clear hb); (try clear hb2); (try clear hk); (try clear hi)) | ((first | ((with_reducible refine gate_callee (f := 13) rfl ?_); refine goesL_ (some 41) rfl rfl Try.func13 (by kernel_rfl) rfl #[.string a0] rfl (by (try simp only [List.map_toArray, List.map_cons, List.map_nil]); first | done | rfl | (simp only [List.length_drop, List.length_take]; rfl)) ?_; (with_reducible refine (quant_Number.calls k a0 t184 t185 _ A9.out).mono ?_); rintro e w' ⟨rfl, ⟨nd, rfl⟩⟩; refine ⟨_, rfl, ?_⟩) | (go_at_call 13; (with_reducible refine (quant_Number.calls k a0 t184 t185 _ A9.out).mono ?_); rintro e w' ⟨rfl, ⟨nd, rfl⟩⟩))) | ((first | ((with_reducible refine gate_callee (f := 14) rfl ?_); refine goesL_ (some 46) rfl rfl Try.func14 (by kernel_rfl) rfl #[.string a0] rfl (by (try simp only [List.map_toArray, List.map_cons, List.map_nil]); first | done | rfl | (simp only [List.length_drop, List.length_take]; rfl)) ?_; (with_reducible refine (triremeref03_Number.calls k a0 t186 t187 _ A10.out).mono ?_); rintro e w48 ⟨rfl, hb⟩; refine ⟨_, rfl, ?_⟩) | (go_at_call 14; (with_reducible refine (triremeref03_Number.calls k a0 t186 t187 _ A10.out).mono ?_); rintro e w48 ⟨rfl, hb⟩)); have n0_ := Aside0.mk (below_step (by repeat (first | (with_reducible first | exact HB.out | apply below_alloc | apply pw_below_drewN | apply below_drew1) | exact HB.out)) hb); clear HB; have HB := n0_; clear n0_; (try clear hb); (try clear hb2); (try clear hk); (try clear hi)))
        go_ret
        exact ⟨by first | rfl | (simp [errW_none, errW_some] <;> rfl) | (simp [*, errW_none, errW_some] <;> rfl), by repeat (first | (with_reducible first | exact HB.out | apply below_alloc | apply pw_below_drewN | apply below_drew1) | exact HB.out)⟩
    · rw [if_neg c11] at H
      have c11b0 : (t176 == t178) = false := beq_eq_false_iff_ne.mpr c11
      have c11b1 : (t176 != t178) = true := bne_iff_ne.mpr c11
      obtain rfl := Option.some.inj H
      go_enter Try.func3, Try.ntmps3
      go_wp2_with (first | ((first | ((with_reducible refine gate_callee (f := 9) rfl ?_); refine goesL_ (some 21) rfl rfl Try.func9 (by kernel_rfl) rfl #[.string a0] rfl (by (try simp only [List.map_toArray, List.map_cons, List.map_nil]); first | done | rfl | (simp only [List.length_drop, List.length_take]; rfl)) ?_; (with_reducible refine (quant_Parse.calls k a0 t176 t177 _ A5.out).mono ?_); rintro e w49 ⟨rfl, hb⟩; refine ⟨_, rfl, ?_⟩) | (go_at_call 9; (with_reducible refine (quant_Parse.calls k a0 t176 t177 _ A5.out).mono ?_); rintro e w49 ⟨rfl, hb⟩)); have n0_ := Aside0.mk (below_step (by repeat (first | (with_reducible first | exact HB.out | apply below_alloc | apply pw_below_drewN | apply below_drew1) | exact HB.out)) hb); clear HB; have HB := n0_; clear n0_; (try clear hb); (try clear hb2); (try clear hk); (try clear hi)) | ((first | ((with_reducible refine gate_callee (f := 10) rfl ?_); refine goesL_ (some 26) rfl rfl Try.func10 (by kernel_rfl) rfl #[.string a0] rfl (by (try simp only [List.map_toArray, List.map_cons, List.map_nil]); first | done | rfl | (simp only [List.length_drop, List.length_take]; rfl)) ?_; (with_reducible refine (triremeref03_Parse.calls k a0 t178 t179 _ A6.out).mono ?_); rintro e w50 ⟨rfl, hb⟩; refine ⟨_, rfl, ?_⟩) | (go_at_call 10; (with_reducible refine (triremeref03_Parse.calls k a0 t178 t179 _ A6.out).mono ?_); rintro e w50 ⟨rfl, hb⟩)); have n0_ := Aside0.mk (below_step (by repeat (first | (with_reducible first | exact HB.out | apply below_alloc | apply pw_below_drewN | apply below_drew1) | exact HB.out)) hb); clear HB; have HB := n0_; clear n0_; (try clear hb); (try clear hb2); (try clear hk); (try clear hi)) | ((first | ((with_reducible refine gate_callee (f := 11) rfl ?_); refine goesL_ (some 31) rfl rfl Try.func11 (by kernel_rfl) rfl #[.string a0] rfl (by (try simp only [List.map_toArray, List.map_cons, List.map_nil]); first | done | rfl | (simp only [List.length_drop, List.length_take]; rfl)) ?_; (with_reducible refine (quant_Milli.calls k a0 t180 t181 _ A7.out).mono ?_); rintro e w51 ⟨rfl, hb⟩; refine ⟨_, rfl, ?_⟩) | (go_at_call 11; (with_reducible refine (quant_Milli.calls k a0 t180 t181 _ A7.out).mono ?_); rintro e w51 ⟨rfl, hb⟩)); have n0_ := Aside0.mk (below_step (by repeat (first | (with_reducible first | exact HB.out | apply below_alloc | apply pw_below_drewN | apply below_drew1) | exact HB.out)) hb); clear HB; have HB := n0_; clear n0_; (try clear hb); (try clear hb2); (try clear hk); (try clear hi)) | ((first | ((with_reducible refine gate_callee (f := 12) rfl ?_); refine goesL_ (some 36) rfl rfl Try.func12 (by kernel_rfl) rfl #[.string a0] rfl (by (try simp only [List.map_toArray, List.map_cons, List.map_nil]); first | done | rfl | (simp only [List.length_drop, List.length_take]; rfl)) ?_; (with_reducible refine (triremeref03_Milli.calls k a0 t182 t183 _ A8.out).mono ?_); rintro e w52 ⟨rfl, hb⟩; refine ⟨_, rfl, ?_⟩) | (go_at_call 12; (with_reducible refine (triremeref03_Milli.calls k a0 t182 t183 _ A8.out).mono ?_); rintro e w52 ⟨rfl, hb⟩)); have n0_ := Aside0.mk (below_step (by repeat (first | (with_reducible first | exact HB.out | apply below_alloc | apply pw_below_drewN | apply below_drew1) | exact HB.out)) hb); clear HB; have HB := n0_; clear n0_; (try clear hb); (try clear hb2); (try clear hk); (try clear hi)) | ((first | ((with_reducible refine gate_callee (f := 13) rfl ?_); refine goesL_ (some 41) rfl rfl Try.func13 (by kernel_rfl) rfl #[.string a0] rfl (by (try simp only [List.map_toArray, List.map_cons, List.map_nil]); first | done | rfl | (simp only [List.length_drop, List.length_take]; rfl)) ?_; (with_reducible refine (quant_Number.calls k a0 t184 t185 _ A9.out).mono ?_); rintro e w' ⟨rfl, ⟨nd, rfl⟩⟩; refine ⟨_, rfl, ?_⟩) | (go_at_call 13; (with_reducible refine (quant_Number.calls k a0 t184 t185 _ A9.out).mono ?_); rintro e w' ⟨rfl, ⟨nd, rfl⟩⟩))) | ((first | ((with_reducible refine gate_callee (f := 14) rfl ?_); refine goesL_ (some 46) rfl rfl Try.func14 (by kernel_rfl) rfl #[.string a0] rfl (by (try simp only [List.map_toArray, List.map_cons, List.map_nil]); first | done | rfl | (simp only [List.length_drop, List.length_take]; rfl)) ?_; (with_reducible refine (triremeref03_Number.calls k a0 t186 t187 _ A10.out).mono ?_); rintro e w53 ⟨rfl, hb⟩; refine ⟨_, rfl, ?_⟩) | (go_at_call 14; (with_reducible refine (triremeref03_Number.calls k a0 t186 t187 _ A10.out).mono ?_); rintro e w53 ⟨rfl, hb⟩)); have n0_ := Aside0.mk (below_step (by repeat (first | (with_reducible first | exact HB.out | apply below_alloc | apply pw_below_drewN | apply below_drew1) | exact HB.out)) hb); clear HB; have HB := n0_; clear n0_; (try clear hb); (try clear hb2); (try clear hk); (try clear hi)))
      go_ret
      exact ⟨by first | rfl | (simp [errW_none, errW_some] <;> rfl) | (simp [*, errW_none, errW_some] <;> rfl), by repeat (first | (with_reducible first | exact HB.out | apply below_alloc | apply pw_below_drewN | apply below_drew1) | exact HB.out)⟩
/-- THE ONE PURE STATEMENT of triremelaw03_QuantParses: yours. -/
def triremelaw03_QuantParses.Pure : Prop := ∀ (a0 : ByteArray), a0.size ≤ 140737488351232 → ∃ k, triremelaw03_QuantParses.f k a0 = some true
theorem triremelaw03_QuantParses.walk (P : triremelaw03_QuantParses.Pure) (a0 : ByteArray) (w : World) (w0 : a0.size ≤ 140737488351232) :
    Calls Try.prog 3 #[.string a0] w fun e w' => e = .returned (.bool true) ∧ Below w.heap.size w w' := by
  obtain ⟨k, h⟩ := P a0 w0
  refine (triremelaw03_QuantParses.calls k a0 true w h).mono ?_
  rintro e w' ⟨rfl, hd⟩
  exact ⟨rfl, hd⟩
end Go.Proofs.Ytpmmiabcfnejmaa.H
end
section
namespace Go.Proofs.Ytpmmiabcfnejmaa.H
open Go.RowKit Go.Proofs.YtpmmiabcfnejmaaW.PrintWords Go.Proofs.YtpmmiabcfnejmaaW.PrintLast Go.Proofs.YtpmmiabcfnejmaaW.PrintMore
set_option linter.unusedVariables false
set_option linter.unusedSimpArgs false
set_option maxRecDepth 100000 in
theorem known_ev : Ev (fun k => triremelaw03_known.f k) true := Ev.of (fun k => triremelaw03_known.mono k) (k := 60) (by kernel_rfl)
end Go.Proofs.Ytpmmiabcfnejmaa.H
end
section
namespace Go.Proofs.Ytpmmiabcfnejmaa.H
open Go.RowKit Go.Proofs.YtpmmiabcfnejmaaW.PrintWords Go.Proofs.YtpmmiabcfnejmaaW.PrintLast Go.Proofs.YtpmmiabcfnejmaaW.PrintMore
attribute [local go_sem] max2_int min2_int max_two min_two max_three min_three max_four min_four   -- for this text's walks alone
set_option linter.unusedVariables false
set_option linter.unusedSimpArgs false
def triremeref01_Digits.f : Nat → Int → Option (ByteArray)
  | 0, _ => none
  | k + 1, a0 => if a0 < 10 then (some (strOfNums (([(wrap64 (48 + a0)) % 256] : List Int)))) else ((triremeref01_Digits.f k (wrap64 (Int.tdiv a0 10))).bind fun t145 => ((some (([(wrap64 (48 + (Int.tmod a0 10))) % 256] : List Int) : List Int)).bind fun y146 => (if t145.size + (strOfNums y146).size ≤ 9223372036854775807 then (some (t145 ++ (strOfNums y146))) else (none))))
theorem triremeref01_Digits.mono_l : ∀ k, (∀ y0, LeO (triremeref01_Digits.f k y0) (triremeref01_Digits.f (k + 1) y0))
  | 0 => fun _ r h => by simp [triremeref01_Digits.f] at h
  | k + 1 => by
    have ih0 := triremeref01_Digits.mono_l k
    · intro y0
      unfold triremeref01_Digits.f
      repeat' first
      | (with_reducible exact ih0 _)
      | (with_reducible exact LeO.refl _)
      | (with_reducible exact LeO.none _)
      | (with_reducible refine LeO.ite ?_ ?_)
      | (with_reducible refine LeO.bind ?_ (fun _ => ?_))
      | exact ih0 _
      | exact LeO.none _
      | refine LeO.ite ?_ ?_
      | refine LeO.bind ?_ (fun _ => ?_)
theorem triremeref01_Digits.mono : ∀ a0 k, LeO (triremeref01_Digits.f k a0) (triremeref01_Digits.f (k + 1) a0) := by
  intro a0 k
  have ih0 := triremeref01_Digits.mono_l k
  exact ih0 a0
def triremeref01_Digits.T3 : Bool × List (List Nat × List Nat) := (true, [([], []), ([0], [0]), ([1], [1]), ([], []), ([3], [3]), ([4], [4]), ([5], [5]), ([6], [6]), ([7], [7]), ([2, 8], [2, 8]), ([9, 2, 0, 1, 2, 3, 4, 5, 6, 7, 8, 9], [9])])
def triremeref01_Digits.B3 : List Nat := [0, 1, 3, 0, 8, 24, 56, 120, 248, 511, 1023]
theorem triremeref01_Digits.tab3 : rtab .any (opsOf Try.f19 3) = triremeref01_Digits.T3 := by kernel_rfl
theorem triremeref01_Digits.bits3 : waitsOk triremeref01_Digits.T3.2 triremeref01_Digits.B3 = true := by kernel_rfl
set_option maxHeartbeats 8000000 in
set_option maxRecDepth 100000 in
theorem triremeref01_Digits.calls (k : Nat) : ∀ (a0 : Int) (r : ByteArray) (w : World) (h : triremeref01_Digits.f k a0 = some r),
    Calls Try.prog 19 #[.int .i64 a0] w fun e w' => e = .returned (.string r) ∧ Below w.heap.size w w' := by
  induction k using Nat.strongRecOn with
  | _ k ih =>
  intro a0 r w h
  cases k with
  | zero => exact absurd h (by simp [triremeref01_Digits.f])
  | succ k =>
  simp only [triremeref01_Digits.f] at h
  have HB := Aside0.mk (Below.refl w.heap.size w)
  have H : (if a0 < 10 then (some (strOfNums (([(wrap64 (48 + a0)) % 256] : List Int)))) else ((triremeref01_Digits.f k (wrap64 (Int.tdiv a0 10))).bind fun t145 => ((some (([(wrap64 (48 + (Int.tmod a0 10))) % 256] : List Int) : List Int)).bind fun y146 => (if t145.size + (strOfNums y146).size ≤ 9223372036854775807 then (some (t145 ++ (strOfNums y146))) else (none))))) = some r := h
  clear h
  by_cases c2 : a0 < 10
  · rw [if_pos c2] at H
    have c2b0 : decide (a0 < 10) = true := decide_eq_true c2
    clear c2
    obtain ⟨y142, hy142⟩ : ∃ y_ : List Int, y_ = (([(wrap64 (48 + a0)) % 256] : List Int)) := ⟨_, rfl⟩
    replace H : (some (strOfNums y142)) = some r := by first | (rw [hy142]; with_reducible exact H) | (have H2_ := (Option.bind_some _ _).symm.trans H; rw [hy142]; with_reducible exact H2_) | (have H2_ := (Option.bind_some _ _).symm.trans H; with_reducible exact H2_) | with_reducible exact H | (rw [hy142]; exact H) | exact H
    have Ny142 := Aside0.mk hy142
    clear hy142
    obtain rfl := Option.some.inj H
    go_enter Try.func19, Try.ntmps19
    go_wp2_with (first | ((with_reducible refine gate_dst (N := 8) rfl ?_); refine Kd.R_lit (Kd.int .u8) _ 5 ?hg (N := 8) ?hd (xs := ([(wrap64 (48 + a0)) % 256] : List Int)) (inner := [.int .u8 ((wrap64 (48 + a0)) % 256)]) (ok := fun _ => True) (okp := fun _ => True) ?hr ?hp (fun _ hk => hk) trivial (Below.refl _ _) (Nat.le_refl _) (by simp) ?_; (case hd => rfl); (case hg => rfl); (case hr => first | (go_simp; done) | (go_simp; rfl)); (case hp => exact (Reps.one (show Kd.M (Kd.int .u8) _ _ _ ((wrap64 (48 + a0)) % 256) [.int .u8 ((wrap64 (48 + a0)) % 256)] from rfl) (Reps.none _ _))); intro v143 w3 ho4 hb hg_ hnew_; clear hg_ hnew_; (first | rw [← Ny142.out] at ho4 | (simp only [Int.reduceToNat] at ho4; rw [← Ny142.out] at ho4)); have n0_ := Aside0.mk (Kd.R_lower ho4 (below_size (by repeat (first | (with_reducible first | exact HB.out | apply below_alloc | apply pw_below_drewN | apply below_drew1) | exact HB.out)))); have n1_ := Aside0.mk (below_step (by repeat (first | (with_reducible first | exact HB.out | apply below_alloc | apply pw_below_drewN | apply below_drew1) | exact HB.out)) hb); clear HB; have HO144 := n0_; have HB := n1_; clear n0_ n1_; clear hb ho4; have hcv5 := own_string (P := Try.prog) Try.underlying39 Try.underlying5 Try.underlying9 (Kd.own_of_R HO144.out)))
    go_ret
    exact ⟨by first | rfl | (simp [errW_none, errW_some] <;> rfl) | (simp [*, errW_none, errW_some] <;> rfl), by repeat (first | (with_reducible first | exact HB.out | apply below_alloc | apply pw_below_drewN | apply below_drew1) | exact HB.out)⟩
  · rw [if_neg c2] at H
    have c2b0 : decide (a0 < 10) = false := decide_eq_false c2
    clear c2
    replace H := Option.bind_eq_some_iff.mp H
    obtain ⟨t145, A60, H⟩ := H
    replace H : ((some (([(wrap64 (48 + (Int.tmod a0 10))) % 256] : List Int) : List Int)).bind fun y146 => (if t145.size + (strOfNums y146).size ≤ 9223372036854775807 then (some (t145 ++ (strOfNums y146))) else (none))) = some r := H
    have A6 := Aside0.mk A60
    clear A60
    obtain ⟨y146, hy146⟩ : ∃ y_ : List Int, y_ = (([(wrap64 (48 + (Int.tmod a0 10))) % 256] : List Int)) := ⟨_, rfl⟩
    replace H : (if t145.size + (strOfNums y146).size ≤ 9223372036854775807 then (some (t145 ++ (strOfNums y146))) else (none)) = some r := by first | (rw [hy146]; with_reducible exact H) | (have H2_ := (Option.bind_some _ _).symm.trans H; rw [hy146]; with_reducible exact H2_) | (have H2_ := (Option.bind_some _ _).symm.trans H; with_reducible exact H2_) | with_reducible exact H | (rw [hy146]; exact H) | exact H
    have Ny146 := Aside0.mk hy146
    clear hy146
    by_cases c7 : t145.size + (strOfNums y146).size ≤ 9223372036854775807
    · rw [if_pos c7] at H
      have c7b0 := eq_true c7
      (try (have c7z := c7b0; rw [ByteArray.size_extract, Nat.min_self] at c7z))
      have c7b1 : decide (t145.size + (strOfNums y146).size ≤ 9223372036854775807) = true := decide_eq_true c7
      try have c7b2 : (9223372036854775807 < t145.size + (strOfNums y146).size) = False := eq_false (Nat.not_lt.2 c7)
      obtain rfl := Option.some.inj H
      go_enter Try.func19, Try.ntmps19
      try go_wp2
      have n0_ := Aside0.mk (below_drew1 HB.out)
      clear HB
      have HB := n0_
      clear n0_
      refine start_ (n := 11) (S := fun w' => True) (ds := []) #[false, false, false, false, false, false, false, false, false, false, false] (by kernel_rfl) rfl rfl trivial (fun hHeld => ?_); refine with_tabW triremeref01_Digits.tab3 triremeref01_Digits.bits3 (fun HT_ HW_ => ?_)
      generalize w.drew = w8 at HB hHeld ⊢
      refine pure_ (i := 0) (N := some 10) (v := ?_) (a' := ?_) #[true, false, false, false, false, false, false, false, false, false, false] rfl rfl (any_of HT_.out (by kernel_rfl)) (fun _ _ _ h => h) (Or.inl ⟨by rfl, ?_⟩) ?_ ?_
      rotate_left
      · intro w'
        go_simp
        with_reducible rfl
      rotate_left
      · simp only [Act.put, List.setIfInBounds_toArray, List.set_cons_zero, List.set_cons_succ, i64_w, i32_w]
        rfl
      refine pure_ (i := 1) (N := some 11) (v := ?_) (a' := ?_) #[true, true, false, false, false, false, false, false, false, false, false] rfl rfl (any_of HT_.out (by kernel_rfl)) (fun _ _ _ h => h) (Or.inl ⟨by rfl, ?_⟩) ?_ ?_
      rotate_left
      · intro w'
        go_simp
        with_reducible rfl
      rotate_left
      · simp only [Act.put, List.setIfInBounds_toArray, List.set_cons_zero, List.set_cons_succ, i64_w, i32_w]
        rfl
      refine pure_ (i := 3) (N := some 13) (v := ?_) (a' := ?_) #[true, true, false, true, false, false, false, false, false, false, false] rfl rfl (any_of HT_.out (by kernel_rfl)) (fun _ _ _ h => h) (Or.inl ⟨by rfl, ?_⟩) ?_ ?_
      rotate_left
      · intro w'
        go_simp
        with_reducible rfl
      rotate_left
      · simp only [Act.put, List.setIfInBounds_toArray, List.set_cons_zero, List.set_cons_succ, i64_w, i32_w]
        rfl
      refine pure_ (i := 4) (N := some 14) (v := ?_) (a' := ?_) #[true, true, false, true, true, false, false, false, false, false, false] rfl rfl (any_of HT_.out (by kernel_rfl)) (fun _ _ _ h => h) (Or.inl ⟨by rfl, ?_⟩) ?_ ?_
      rotate_left
      · intro w'
        go_simp
        with_reducible rfl
      rotate_left
      · simp only [Act.put, List.setIfInBounds_toArray, List.set_cons_zero, List.set_cons_succ, i64_w, i32_w]
        rfl
      refine pure_ (i := 5) (N := some 15) (v := ?_) (a' := ?_) #[true, true, false, true, true, true, false, false, false, false, false] rfl rfl (any_of HT_.out (by kernel_rfl)) (fun _ _ _ h => h) (Or.inl ⟨by rfl, ?_⟩) ?_ ?_
      rotate_left
      · intro w'
        go_simp
        with_reducible rfl
      rotate_left
      · simp only [Act.put, List.setIfInBounds_toArray, List.set_cons_zero, List.set_cons_succ, i64_w, i32_w]
        rfl
      refine pure_ (i := 6) (N := some 16) (v := ?_) (a' := ?_) #[true, true, false, true, true, true, true, false, false, false, false] rfl rfl (any_of HT_.out (by kernel_rfl)) (fun _ _ _ h => h) (Or.inl ⟨by rfl, ?_⟩) ?_ ?_
      rotate_left
      · intro w'
        go_simp
        with_reducible rfl
      rotate_left
      · simp only [Act.put, List.setIfInBounds_toArray, List.set_cons_zero, List.set_cons_succ, i64_w, i32_w]
        rfl
      refine join_ (σ := Value) 2 #[true, true, true, true, true, true, true, true, true, false, false] (fun s_ => [(12, .string t145), (17, s_), (18, .string (strOfNums y146))]) (fun s_ w' => (Kd.R (Kd.int .u8) 5 w' w.heap.size (fun _ => True) s_ y146) ∧ (Below w.heap.size w w')) ?_ ?_
      rotate_left
      · intro hCont
        refine two_ (i := 2) (j := 7) (Ni := some 12) (Nj := some 17) #[true, true, true, true, true, true, true, false, false, false, false] #[true, true, false, true, true, true, true, true, false, false, false] rfl rfl rfl rfl (two_of HT_.out (by kernel_rfl)) (by decide) (by decide) (fun K hK => ?_) (fun K hK => ?_)
        · skip
          refine goes_ Try.func19 (by kernel_rfl) rfl #[.int .i64 (wrap64 (Int.tdiv a0 10))] (by rfl) rfl rfl (by (try simp only [List.map_toArray, List.map_cons, List.map_nil]); first | done | rfl | (simp only [List.length_drop, List.length_take]; rfl)) ?_
          with_reducible refine (ih k (by omega) (wrap64 (Int.tdiv a0 10)) t145 _ A6.out).mono ?_
          rintro e w9 ⟨rfl, hb⟩
          refine ⟨_, rfl, ?_⟩
          have n0_ := Aside0.mk (below_step (by repeat (first | (with_reducible first | exact HB.out | apply below_alloc | apply pw_below_drewN | apply below_drew1) | exact HB.out)) hb)
          clear HB
          have HB := n0_
          clear n0_
          (try clear hb)
          (try clear hb2)
          (try clear hk)
          (try clear hi)
          refine hK.out _ _ trivial (fun hHeld => ?_)
          clear hK K
          refine norm_ (a' := ?_) ?_ ?_
          rotate_left
          · show Act.put _ (some 12) _ = _
            simp only [Act.put, List.setIfInBounds_toArray, List.set_cons_zero, List.set_cons_succ, i64_w, i32_w]
            rfl
          refine one_ (i := 7) (N := some 17) #[true, true, true, true, true, true, true, true, false, false, false] rfl rfl (one_of HT_.out (by kernel_rfl)) (by decide) (fun K hK => ?_)
          refine Kd.R_lit_step (Kd.int .u8) _ 5 ?hg (N := 17) ?hd (xs := ([(wrap64 (48 + (Int.tmod a0 10))) % 256] : List Int)) (inner := [.int .u8 ((wrap64 (48 + (Int.tmod a0 10))) % 256)]) (ok := fun _ => True) (okp := fun _ => True) ?hr ?hp (fun _ hk => hk) trivial (Below.refl _ _) (Nat.le_refl _) (by simp) ?_; (case hd => rfl); (case hg => rfl); (case hr => first | (go_simp; done) | (go_simp; rfl)); (case hp => exact (Reps.one (show Kd.M (Kd.int .u8) _ _ _ ((wrap64 (48 + (Int.tmod a0 10))) % 256) [.int .u8 ((wrap64 (48 + (Int.tmod a0 10))) % 256)] from rfl) (Reps.none _ _)))
          intro v147 w10 ho11 hb hg_ hnew_
          clear hg_ hnew_
          (first | rw [← Ny146.out] at ho11 | (simp only [Int.reduceToNat] at ho11; rw [← Ny146.out] at ho11))
          have n0_ := Aside0.mk (Kd.R_lower ho11 (below_size (by repeat (first | (with_reducible first | exact HB.out | apply below_alloc | apply pw_below_drewN | apply below_drew1) | exact HB.out))))
          have n1_ := Aside0.mk (below_step (by repeat (first | (with_reducible first | exact HB.out | apply below_alloc | apply pw_below_drewN | apply below_drew1) | exact HB.out)) hb)
          clear HB
          have HO148 := n0_
          have HB := n1_
          clear n0_ n1_
          clear hb ho11
          refine hK.out _ _ trivial (fun hHeld => ?_)
          clear hK K
          refine norm_ (a' := ?_) ?_ ?_
          rotate_left
          · show Act.put _ (some 17) _ = _
            simp only [Act.put, List.setIfInBounds_toArray, List.set_cons_zero, List.set_cons_succ, i64_w, i32_w]
            rfl
          refine one_ (i := 8) (N := some 18) #[true, true, true, true, true, true, true, true, true, false, false] rfl rfl (one_of HT_.out (by kernel_rfl)) (by decide) (fun K hK => ?_)
          have hcv12 := own_string (P := Try.prog) Try.underlying39 Try.underlying5 Try.underlying9 (Kd.own_of_R HO148.out)
          refine value_ (w1 := ?_) (v := ?_) (by rfl) rfl ?_ ?_
          rotate_left 2
          · go_simp
            constructor
            · rfl
            · rfl
          clear hcv12
          refine hK.out _ _ trivial (fun hHeld => ?_)
          clear hK K
          refine norm_ (a' := ?_) ?_ ?_
          rotate_left
          · show Act.put _ (some 18) _ = _
            simp only [Act.put, List.setIfInBounds_toArray, List.set_cons_zero, List.set_cons_succ, i64_w, i32_w]
            rfl
          exact norm_ (by simp only [putAll, Act.put, List.setIfInBounds_toArray, List.set_cons_zero, List.set_cons_succ]) (hCont (v147) _ ⟨(by (with_reducible repeat (first | apply Kd.R_alloc | apply Kd.R_drewN | apply Kd.R_drew)); exact HO148.out), (by repeat (first | (with_reducible first | exact HB.out | apply below_alloc | apply pw_below_drewN | apply below_drew1) | exact HB.out))⟩)
        · skip
          refine Kd.R_lit_step (Kd.int .u8) _ 5 ?hg (N := 17) ?hd (xs := ([(wrap64 (48 + (Int.tmod a0 10))) % 256] : List Int)) (inner := [.int .u8 ((wrap64 (48 + (Int.tmod a0 10))) % 256)]) (ok := fun _ => True) (okp := fun _ => True) ?hr ?hp (fun _ hk => hk) trivial (Below.refl _ _) (Nat.le_refl _) (by simp) ?_; (case hd => rfl); (case hg => rfl); (case hr => first | (go_simp; done) | (go_simp; rfl)); (case hp => exact (Reps.one (show Kd.M (Kd.int .u8) _ _ _ ((wrap64 (48 + (Int.tmod a0 10))) % 256) [.int .u8 ((wrap64 (48 + (Int.tmod a0 10))) % 256)] from rfl) (Reps.none _ _)))
          intro v147 w9 ho10 hb hg_ hnew_
          clear hg_ hnew_
          (first | rw [← Ny146.out] at ho10 | (simp only [Int.reduceToNat] at ho10; rw [← Ny146.out] at ho10))
          have n0_ := Aside0.mk (Kd.R_lower ho10 (below_size (by repeat (first | (with_reducible first | exact HB.out | apply below_alloc | apply pw_below_drewN | apply below_drew1) | exact HB.out))))
          have n1_ := Aside0.mk (below_step (by repeat (first | (with_reducible first | exact HB.out | apply below_alloc | apply pw_below_drewN | apply below_drew1) | exact HB.out)) hb)
          clear HB
          have HO148 := n0_
          have HB := n1_
          clear n0_ n1_
          clear hb ho10
          refine hK.out _ _ trivial (fun hHeld => ?_)
          clear hK K
          refine norm_ (a' := ?_) ?_ ?_
          rotate_left
          · show Act.put _ (some 17) _ = _
            simp only [Act.put, List.setIfInBounds_toArray, List.set_cons_zero, List.set_cons_succ, i64_w, i32_w]
            rfl
          refine two_ (i := 2) (j := 8) (Ni := some 12) (Nj := some 18) #[true, true, true, true, true, true, true, true, false, false, false] #[true, true, false, true, true, true, true, true, true, false, false] rfl rfl rfl rfl (two_of HT_.out (by kernel_rfl)) (by decide) (by decide) (fun K hK => ?_) (fun K hK => ?_)
          · skip
            refine goes_ Try.func19 (by kernel_rfl) rfl #[.int .i64 (wrap64 (Int.tdiv a0 10))] (by rfl) rfl rfl (by (try simp only [List.map_toArray, List.map_cons, List.map_nil]); first | done | rfl | (simp only [List.length_drop, List.length_take]; rfl)) ?_
            with_reducible refine (ih k (by omega) (wrap64 (Int.tdiv a0 10)) t145 _ A6.out).mono ?_
            rintro e w11 ⟨rfl, hb⟩
            refine ⟨_, rfl, ?_⟩
            have n0_ := Aside0.mk (Kd.R_below (by (with_reducible repeat (first | apply Kd.R_alloc | apply Kd.R_drewN | apply Kd.R_drew)); exact HO148.out) hb)
            have n1_ := Aside0.mk (below_step (by repeat (first | (with_reducible first | exact HB.out | apply below_alloc | apply pw_below_drewN | apply below_drew1) | exact HB.out)) hb)
            clear HO148
            clear HB
            have HO148 := n0_
            have HB := n1_
            clear n0_ n1_
            (try clear hb)
            (try clear hb2)
            (try clear hk)
            (try clear hi)
            refine hK.out _ _ trivial (fun hHeld => ?_)
            clear hK K
            refine norm_ (a' := ?_) ?_ ?_
            rotate_left
            · show Act.put _ (some 12) _ = _
              simp only [Act.put, List.setIfInBounds_toArray, List.set_cons_zero, List.set_cons_succ, i64_w, i32_w]
              rfl
            refine one_ (i := 8) (N := some 18) #[true, true, true, true, true, true, true, true, true, false, false] rfl rfl (one_of HT_.out (by kernel_rfl)) (by decide) (fun K hK => ?_)
            have hcv12 := own_string (P := Try.prog) Try.underlying39 Try.underlying5 Try.underlying9 (Kd.own_of_R HO148.out)
            refine value_ (w1 := ?_) (v := ?_) (by rfl) rfl ?_ ?_
            rotate_left 2
            · go_simp
              constructor
              · rfl
              · rfl
            clear hcv12
            refine hK.out _ _ trivial (fun hHeld => ?_)
            clear hK K
            refine norm_ (a' := ?_) ?_ ?_
            rotate_left
            · show Act.put _ (some 18) _ = _
              simp only [Act.put, List.setIfInBounds_toArray, List.set_cons_zero, List.set_cons_succ, i64_w, i32_w]
              rfl
            exact norm_ (by simp only [putAll, Act.put, List.setIfInBounds_toArray, List.set_cons_zero, List.set_cons_succ]) (hCont (v147) _ ⟨(by (with_reducible repeat (first | apply Kd.R_alloc | apply Kd.R_drewN | apply Kd.R_drew)); exact HO148.out), (by repeat (first | (with_reducible first | exact HB.out | apply below_alloc | apply pw_below_drewN | apply below_drew1) | exact HB.out))⟩)
          · skip
            have hcv11 := own_string (P := Try.prog) Try.underlying39 Try.underlying5 Try.underlying9 (Kd.own_of_R HO148.out)
            refine value_ (w1 := ?_) (v := ?_) (by rfl) rfl ?_ ?_
            rotate_left 2
            · go_simp
              constructor
              · rfl
              · rfl
            clear hcv11
            refine hK.out _ _ trivial (fun hHeld => ?_)
            clear hK K
            refine norm_ (a' := ?_) ?_ ?_
            rotate_left
            · show Act.put _ (some 18) _ = _
              simp only [Act.put, List.setIfInBounds_toArray, List.set_cons_zero, List.set_cons_succ, i64_w, i32_w]
              rfl
            refine one_ (i := 2) (N := some 12) #[true, true, true, true, true, true, true, true, true, false, false] rfl rfl (one_of HT_.out (by kernel_rfl)) (by decide) (fun K hK => ?_)
            refine goes_ Try.func19 (by kernel_rfl) rfl #[.int .i64 (wrap64 (Int.tdiv a0 10))] (by rfl) rfl rfl (by (try simp only [List.map_toArray, List.map_cons, List.map_nil]); first | done | rfl | (simp only [List.length_drop, List.length_take]; rfl)) ?_
            with_reducible refine (ih k (by omega) (wrap64 (Int.tdiv a0 10)) t145 _ A6.out).mono ?_
            rintro e w12 ⟨rfl, hb⟩
            refine ⟨_, rfl, ?_⟩
            have n0_ := Aside0.mk (Kd.R_below (by (with_reducible repeat (first | apply Kd.R_alloc | apply Kd.R_drewN | apply Kd.R_drew)); exact HO148.out) hb)
            have n1_ := Aside0.mk (below_step (by repeat (first | (with_reducible first | exact HB.out | apply below_alloc | apply pw_below_drewN | apply below_drew1) | exact HB.out)) hb)
            clear HO148
            clear HB
            have HO148 := n0_
            have HB := n1_
            clear n0_ n1_
            (try clear hb)
            (try clear hb2)
            (try clear hk)
            (try clear hi)
            refine hK.out _ _ trivial (fun hHeld => ?_)
            clear hK K
            refine norm_ (a' := ?_) ?_ ?_
            rotate_left
            · show Act.put _ (some 12) _ = _
              simp only [Act.put, List.setIfInBounds_toArray, List.set_cons_zero, List.set_cons_succ, i64_w, i32_w]
              rfl
            exact norm_ (by simp only [putAll, Act.put, List.setIfInBounds_toArray, List.set_cons_zero, List.set_cons_succ]) (hCont (v147) _ ⟨(by (with_reducible repeat (first | apply Kd.R_alloc | apply Kd.R_drewN | apply Kd.R_drew)); exact HO148.out), (by repeat (first | (with_reducible first | exact HB.out | apply below_alloc | apply pw_below_drewN | apply below_drew1) | exact HB.out))⟩)
      rintro v147 w13 ⟨h0_, h1_⟩
      have n0_ : Aside0 (Kd.R (Kd.int .u8) 5 w13 w.heap.size (fun _ => True) v147 y146) := ⟨h0_⟩
      have n1_ : Aside0 (Below w.heap.size w w13) := ⟨h1_⟩
      clear HB
      clear h0_ h1_
      have HO148 := n0_
      have HB := n1_
      clear n0_ n1_
      have hHeld := trivial
      refine norm_ (a' := ?_) ?_ ?_
      rotate_left
      · simp only [putAll, Act.put, List.setIfInBounds_toArray, List.set_cons_zero, List.set_cons_succ]
        rfl
      refine pure_ (i := 9) (N := some 19) (v := ?_) (a' := ?_) #[true, true, true, true, true, true, true, true, true, true, false] rfl rfl (any_of HT_.out (by kernel_rfl)) (fun _ _ _ h => h) (Or.inl ⟨by rfl, ?_⟩) ?_ ?_
      rotate_left
      · intro w'
        go_simp
        with_reducible rfl
      rotate_left
      · simp only [Act.put, List.setIfInBounds_toArray, List.set_cons_zero, List.set_cons_succ, i64_w, i32_w]
        rfl
      refine pure_ (i := 10) (N := some 2) (v := ?_) (a' := ?_) #[true, true, true, true, true, true, true, true, true, true, true] rfl rfl (any_of HT_.out (by kernel_rfl)) (fun _ _ _ h => h) (Or.inl ⟨by rfl, ?_⟩) ?_ ?_
      rotate_left
      · intro w'
        go_simp
        with_reducible rfl
      rotate_left
      · simp only [Act.put, List.setIfInBounds_toArray, List.set_cons_zero, List.set_cons_succ, i64_w, i32_w]
        rfl
      refine done_ (done_of HT_.out (by kernel_rfl)) ?_
      try go_wp2
      go_ret
      exact ⟨by first | rfl | (simp [errW_none, errW_some] <;> rfl) | (simp [*, errW_none, errW_some] <;> rfl), by repeat (first | (with_reducible first | exact HB.out | apply below_alloc | apply pw_below_drewN | apply below_drew1) | exact HB.out)⟩
    · rw [if_neg c7] at H
      exact absurd H (by simp)
end Go.Proofs.Ytpmmiabcfnejmaa.H
end
section
namespace Go.Proofs.Ytpmmiabcfnejmaa.H
open Go.RowKit Go.Proofs.YtpmmiabcfnejmaaW.PrintWords Go.Proofs.YtpmmiabcfnejmaaW.PrintLast Go.Proofs.YtpmmiabcfnejmaaW.PrintMore
attribute [local go_sem] max2_int min2_int max_two min_two max_three min_three max_four min_four   -- for this text's walks alone
set_option linter.unusedVariables false
set_option linter.unusedSimpArgs false
mutual
def triremeref03_Show.j0 : Nat → Int → Bool → Option (ByteArray)
  | 0, _, _ => none
  | k + 1, x0, x11 => if x11 = true then (some (⟨#[]⟩ : ByteArray)) else (triremeref03_Show.l0 k x0 (([(⟨#[84, 105]⟩ : ByteArray), (⟨#[71, 105]⟩ : ByteArray), (⟨#[77, 105]⟩ : ByteArray), (⟨#[75, 105]⟩ : ByteArray)] : List ByteArray)) 0)
def triremeref03_Show.l0 : Nat → Int → List ByteArray → Int → Option (ByteArray)
  | 0, _, _, _ => none
  | k + 1, x0, x3, x4 => if x4 < 4 then (if 0 ≤ (IntKind.u64.wrap (wrap64 (40 - (wrap64 (10 * x4))))) then (if x0 > 0 then (if (shl .i64 1 (IntKind.u64.wrap (wrap64 (40 - (wrap64 (10 * x4)))))) = 0 then (none) else (if (Int.tmod x0 (shl .i64 1 (IntKind.u64.wrap (wrap64 (40 - (wrap64 (10 * x4))))))) = 0 then ((triremeref01_Digits.f k (wrap64 (Int.tdiv x0 (shl .i64 1 (IntKind.u64.wrap (wrap64 (40 - (wrap64 (10 * x4))))))))).bind fun t152 => (if 0 ≤ x4 then (if x4 < (x3.length : Int) then (if t152.size + (rdOf ByteArray.empty x3 x4).size ≤ 9223372036854775807 then (some (t152 ++ (rdOf ByteArray.empty x3 x4))) else (none)) else (none)) else (none))) else (triremeref03_Show.l0 k x0 x3 (wrap64 (x4 + 1))))) else (triremeref03_Show.l0 k x0 x3 (wrap64 (x4 + 1)))) else (none)) else ((triremeref01_Digits.f k x0).bind fun t154 => (some t154))
end
def triremeref03_Show.f (k : Nat) (a0 : Int) : Option (ByteArray) := if a0 < 0 then (triremeref03_Show.j0 k a0 true) else (triremeref03_Show.j0 k a0 (decide (a0 > 1125899906842624)))
theorem triremeref03_Show.mono_l : ∀ k, (∀ y0 y1, LeO (triremeref03_Show.j0 k y0 y1) (triremeref03_Show.j0 (k + 1) y0 y1)) ∧ (∀ y0 y1 y2, LeO (triremeref03_Show.l0 k y0 y1 y2) (triremeref03_Show.l0 (k + 1) y0 y1 y2))
  | 0 => ⟨fun _ _ r h => by simp [triremeref03_Show.j0] at h, fun _ _ _ r h => by simp [triremeref03_Show.l0] at h⟩
  | k + 1 => by
    obtain ⟨ih0, ih1⟩ := triremeref03_Show.mono_l k
    refine ⟨?_, ?_⟩
    · intro y0 y1
      unfold triremeref03_Show.j0
      repeat' first
      | (with_reducible exact ih0 _ _)
      | (with_reducible exact ih1 _ _ _)
      | (with_reducible exact triremeref01_Digits.mono _ _)
      | (with_reducible exact LeO.refl _)
      | (with_reducible exact LeO.none _)
      | (with_reducible refine LeO.ite ?_ ?_)
      | (with_reducible refine LeO.bind ?_ (fun _ => ?_))
      | exact ih0 _ _
      | exact ih1 _ _ _
      | exact triremeref01_Digits.mono _ _
      | exact LeO.none _
      | refine LeO.ite ?_ ?_
      | refine LeO.bind ?_ (fun _ => ?_)
    · intro y0 y1 y2
      unfold triremeref03_Show.l0
      repeat' first
      | (with_reducible exact ih0 _ _)
      | (with_reducible exact ih1 _ _ _)
      | (with_reducible exact triremeref01_Digits.mono _ _)
      | (with_reducible exact LeO.refl _)
      | (with_reducible exact LeO.none _)
      | (with_reducible refine LeO.ite ?_ ?_)
      | (with_reducible refine LeO.bind ?_ (fun _ => ?_))
      | exact ih0 _ _
      | exact ih1 _ _ _
      | exact triremeref01_Digits.mono _ _
      | exact LeO.none _
      | refine LeO.ite ?_ ?_
      | refine LeO.bind ?_ (fun _ => ?_)
theorem triremeref03_Show.mono : ∀ a0 k, LeO (triremeref03_Show.f k a0) (triremeref03_Show.f (k + 1) a0) := by
  intro a0 k
  obtain ⟨ih0, ih1⟩ := triremeref03_Show.mono_l k
  unfold triremeref03_Show.f
  repeat' first
      | (with_reducible exact ih0 _ _)
      | (with_reducible exact ih1 _ _ _)
      | (with_reducible exact triremeref01_Digits.mono _ _)
      | (with_reducible exact LeO.refl _)
      | (with_reducible exact LeO.none _)
      | (with_reducible refine LeO.ite ?_ ?_)
      | (with_reducible refine LeO.bind ?_ (fun _ => ?_))
      | exact ih0 _ _
      | exact ih1 _ _ _
      | exact triremeref01_Digits.mono _ _
      | exact LeO.none _
      | refine LeO.ite ?_ ?_
      | refine LeO.bind ?_ (fun _ => ?_)
def triremeref03_Show.T9 : Bool × List (List Nat × List Nat) := (true, [([], []), ([], []), ([0, 1], [0, 1]), ([2], [2]), ([], []), ([], []), ([4, 5], [4, 5]), ([6], [6]), ([3, 7], [3, 7]), ([8, 3, 0, 1, 2, 3, 4, 5, 6, 7, 8], [8])])
def triremeref03_Show.B9 : List Nat := [0, 0, 3, 7, 0, 0, 48, 112, 255, 511]
theorem triremeref03_Show.tab9 : rtab .any (opsOf Try.f16 9) = triremeref03_Show.T9 := by kernel_rfl
theorem triremeref03_Show.bits9 : waitsOk triremeref03_Show.T9.2 triremeref03_Show.B9 = true := by kernel_rfl
set_option maxHeartbeats 8000000 in
set_option maxRecDepth 100000 in
theorem triremeref03_Show.calls (k : Nat) (a0 : Int) (r : ByteArray) (w : World) (h : triremeref03_Show.f k a0 = some r) :
    Calls Try.prog 16 #[.int .i64 a0] w fun e w' => e = .returned (.string r) ∧ Below w.heap.size w w' := by
  have HB := Aside0.mk (Below.refl w.heap.size w)
  have H : (if a0 < 0 then (triremeref03_Show.j0 k a0 true) else (triremeref03_Show.j0 k a0 (decide (a0 > 1125899906842624)))) = some r := h
  clear h
  have HC2 := Aside0.mk H
  clear H
  go_enter Try.func16, Try.ntmps16
  go_upto_region 1 with (fail)
  go_cut [11] (fun v11 wc => ∃ (kq : Nat) (x11_1 : Bool), v11 = .bool x11_1 ∧ Aside0 (triremeref03_Show.j0 kq a0 x11_1 = some r) ∧ Aside0 (kq ≤ k) ∧ Aside0 (Below w.heap.size w wc))
  case first =>
    have H := HC2.out
    clear HC2
    by_cases c3 : a0 < 0
    · rw [if_pos c3] at H
      have c3b0 : decide (a0 < 0) = true := decide_eq_true c3
      clear c3
      (first | rw [c3b0] | (simp only [i64_w, i32_w]; rw [c3b0]) | skip)
      have H' := Aside0.mk H
      clear H
      go_wp2
      go_meet
      case rel => exact ⟨_, (true), (by first | rfl | (simp; done) | (simp [*]; done)), H', ⟨by first | omega | exact Nat.le_refl _⟩, ⟨by repeat (first | (with_reducible first | exact HB.out | apply below_alloc | apply pw_below_drewN | apply below_drew1) | exact HB.out)⟩⟩
    · rw [if_neg c3] at H
      have c3b0 : decide (a0 < 0) = false := decide_eq_false c3
      clear c3
      (first | rw [c3b0] | (simp only [i64_w, i32_w]; rw [c3b0]) | skip)
      have H' := Aside0.mk H
      clear H
      go_wp2
      go_meet
      case rel => exact ⟨_, (decide (a0 > 1125899906842624)), (by first | rfl | (simp; done) | (simp [*]; done)), H', ⟨by first | omega | exact Nat.le_refl _⟩, ⟨by repeat (first | (with_reducible first | exact HB.out | apply below_alloc | apply pw_below_drewN | apply below_drew1) | exact HB.out)⟩⟩
  case rest =>
    clear HC2
    try clear c1
    try clear p2
    try clear c3
    try clear c3b0
    obtain ⟨kq, x11_1, rfl, HA, HJ1, HB⟩ := hcut
    cases kq with
    | zero => exact absurd HA.out (by simp [triremeref03_Show.j0])
    | succ kj1 =>
      have H := HA.out
      clear HA
      simp only [triremeref03_Show.j0] at H
      by_cases c4 : x11_1 = true
      · subst c4
        have H1 : (some (⟨#[]⟩ : ByteArray)) = some r := by rw [if_pos rfl] at H; exact H
        clear H
        have H := H1
        clear H1
        obtain rfl := Option.some.inj H
        go_wp2
        go_ret
        exact ⟨by first | rfl | (simp [errW_none, errW_some] <;> rfl) | (simp [*, errW_none, errW_some] <;> rfl), by repeat (first | (with_reducible first | exact HB.out | apply below_alloc | apply pw_below_drewN | apply below_drew1) | exact HB.out)⟩
      · replace c4 := Bool.eq_false_iff.mpr c4
        subst c4
        have H1 : (triremeref03_Show.l0 kj1 a0 (([(⟨#[84, 105]⟩ : ByteArray), (⟨#[71, 105]⟩ : ByteArray), (⟨#[77, 105]⟩ : ByteArray), (⟨#[75, 105]⟩ : ByteArray)] : List ByteArray)) 0) = some r := by rw [if_neg (show ¬ (false = true) by decide)] at H; exact H
        clear H
        have H := H1
        clear H1
        obtain ⟨y149, hy149⟩ : ∃ y_ : List ByteArray, y_ = (([(⟨#[84, 105]⟩ : ByteArray), (⟨#[71, 105]⟩ : ByteArray), (⟨#[77, 105]⟩ : ByteArray), (⟨#[75, 105]⟩ : ByteArray)] : List ByteArray)) := ⟨_, rfl⟩
        replace H : (triremeref03_Show.l0 kj1 a0 y149 0) = some r := by first | (rw [hy149]; with_reducible exact H) | (have H2_ := (Option.bind_some _ _).symm.trans H; rw [hy149]; with_reducible exact H2_) | (have H2_ := (Option.bind_some _ _).symm.trans H; with_reducible exact H2_) | with_reducible exact H | (rw [hy149]; exact H) | exact H
        have Ny149 := Aside0.mk hy149
        clear hy149
        have H' := Aside0.mk H
        clear H
        go_wp2_with (first | ((with_reducible refine gate_dst (N := 12) rfl ?_); refine Kd.R_lit Kd.string _ 9 ?hg (N := 12) ?hd (xs := ([(⟨#[84, 105]⟩ : ByteArray), (⟨#[71, 105]⟩ : ByteArray), (⟨#[77, 105]⟩ : ByteArray), (⟨#[75, 105]⟩ : ByteArray)] : List ByteArray)) (inner := [.string (⟨#[84, 105]⟩ : ByteArray), .string (⟨#[71, 105]⟩ : ByteArray), .string (⟨#[77, 105]⟩ : ByteArray), .string (⟨#[75, 105]⟩ : ByteArray)]) (ok := fun _ => True) (okp := fun _ => True) ?hr ?hp (fun _ hk => hk) trivial (Below.refl _ _) (Nat.le_refl _) (by simp) ?_; (case hd => rfl); (case hg => rfl); (case hr => first | (go_simp; done) | (go_simp; rfl)); (case hp => exact (Reps.one (show Kd.M Kd.string _ _ _ (⟨#[84, 105]⟩ : ByteArray) [.string (⟨#[84, 105]⟩ : ByteArray)] from rfl) (Reps.one (show Kd.M Kd.string _ _ _ (⟨#[71, 105]⟩ : ByteArray) [.string (⟨#[71, 105]⟩ : ByteArray)] from rfl) (Reps.one (show Kd.M Kd.string _ _ _ (⟨#[77, 105]⟩ : ByteArray) [.string (⟨#[77, 105]⟩ : ByteArray)] from rfl) (Reps.one (show Kd.M Kd.string _ _ _ (⟨#[75, 105]⟩ : ByteArray) [.string (⟨#[75, 105]⟩ : ByteArray)] from rfl) (Reps.none _ _)))))); intro v150 w5 ho6 hb hg_ hnew_; clear hg_ hnew_; (first | rw [← Ny149.out] at ho6 | (simp only [Int.reduceToNat] at ho6; rw [← Ny149.out] at ho6)); have n0_ := Aside0.mk (Kd.R_lower ho6 (below_size (by repeat (first | (with_reducible first | exact HB.out | apply below_alloc | apply pw_below_drewN | apply below_drew1) | exact HB.out)))); have n1_ := Aside0.mk (below_step (by repeat (first | (with_reducible first | exact HB.out | apply below_alloc | apply pw_below_drewN | apply below_drew1) | exact HB.out)) hb); clear HB; have HO151 := n0_; have HB := n1_; clear n0_ n1_; clear hb ho6))
        go_loopg [4] kj1 (fun kq v4 w' => ∃ (x4_2 : Int), v4 = .int .i64 x4_2 ∧ Aside0 (triremeref03_Show.l0 kq a0 y149 x4_2 = some r) ∧ Aside0 (kq ≤ kj1) ∧ Aside0 (Kd.R Kd.string 9 w' w.heap.size (fun _ => True) v150 y149) ∧ Aside0 (Below w.heap.size w w'))
        case atStart => exact ⟨(0), (by first | rfl | (simp; done) | (simp [*]; done)), H', ⟨Nat.le_refl _⟩, ⟨by (with_reducible repeat (first | apply Kd.R_alloc | apply Kd.R_drewN | apply Kd.R_drew)); exact HO151.out⟩, ⟨by repeat (first | (with_reducible first | exact HB.out | apply below_alloc | apply pw_below_drewN | apply below_drew1) | exact HB.out)⟩⟩
        case round =>
          clear H'
          try clear c1
          try clear p2
          try clear c3
          try clear c3b0
          try clear c4
          try clear p2
          obtain ⟨x4_2, rfl, HA, HK2, HO_3, HB⟩ := hrel
          cases gk with
          | zero => exact absurd HA.out (by simp [triremeref03_Show.l0])
          | succ k2 =>
            have H := HA.out
            clear HA
            simp only [triremeref03_Show.l0] at H
            by_cases c7 : x4_2 < 4
            · rw [if_pos c7] at H
              have c7b0 : decide (x4_2 < 4) = true := decide_eq_true c7
              clear c7
              obtain ⟨ji8, hji8⟩ : ∃ j_ : Int, (IntKind.u64.wrap (wrap64 (40 - (wrap64 (10 * x4_2))))) = j_ := ⟨_, rfl⟩
              replace H : (if 0 ≤ (ji8) then (if a0 > 0 then (if (shl .i64 1 (ji8)) = 0 then (none) else (if (Int.tmod a0 (shl .i64 1 (ji8))) = 0 then ((triremeref01_Digits.f k2 (wrap64 (Int.tdiv a0 (shl .i64 1 (ji8))))).bind fun t152 => (if 0 ≤ x4_2 then (if x4_2 < (y149.length : Int) then (if t152.size + (rdOf ByteArray.empty y149 x4_2).size ≤ 9223372036854775807 then (some (t152 ++ (rdOf ByteArray.empty y149 x4_2))) else (none)) else (none)) else (none))) else (triremeref03_Show.l0 k2 a0 y149 (wrap64 (x4_2 + 1))))) else (triremeref03_Show.l0 k2 a0 y149 (wrap64 (x4_2 + 1)))) else (none)) = some r := by first | (rw [hji8] at H; exact H) | (simp only [hji8] at H ⊢; exact H)
              by_cases c9 : 0 ≤ (ji8)
              · rw [if_pos c9] at H
                have c9b0 := eq_true c9
                (try (have c9z := c9b0; rw [ByteArray.size_extract, Nat.min_self] at c9z))
                have c9b1 : decide (0 ≤ (ji8)) = true := decide_eq_true c9
                clear c9
                obtain ⟨ji10, hji10⟩ : ∃ j_ : Int, (shl .i64 1 (ji8)) = j_ := ⟨_, rfl⟩
                replace H : (if a0 > 0 then (if (ji10) = 0 then (none) else (if (Int.tmod a0 (ji10)) = 0 then ((triremeref01_Digits.f k2 (wrap64 (Int.tdiv a0 (ji10)))).bind fun t152 => (if 0 ≤ x4_2 then (if x4_2 < (y149.length : Int) then (if t152.size + (rdOf ByteArray.empty y149 x4_2).size ≤ 9223372036854775807 then (some (t152 ++ (rdOf ByteArray.empty y149 x4_2))) else (none)) else (none)) else (none))) else (triremeref03_Show.l0 k2 a0 y149 (wrap64 (x4_2 + 1))))) else (triremeref03_Show.l0 k2 a0 y149 (wrap64 (x4_2 + 1)))) = some r := by first | (rw [hji10] at H; exact H) | (simp only [hji10] at H ⊢; exact H)
                have hji10_ : (IntKind.i64.wrap (1 * 2 ^ min (ji8).toNat 64)) = ji10 := hji10
                have hji10z : (ji8) ≤ 64 → (IntKind.i64.wrap (1 * 2 ^ (ji8).toNat)) = ji10 := shl_small hji10
                have hji10u : (IntKind.i64.wrap (2 ^ min (ji8).toNat 64)) = ji10 := by have h_ := hji10_; rw [Int.one_mul] at h_; exact h_
                have hji10v : (ji8) ≤ 64 → (IntKind.i64.wrap (2 ^ (ji8).toNat)) = ji10 := fun hle_ => by have h_ := hji10z hle_; rw [Int.one_mul] at h_; exact h_
                have hji10y : (wrap64 (1 * 2 ^ min (ji8).toNat 64)) = ji10 := (i64_w _).symm.trans hji10_
                have hji10x : (ji8) ≤ 64 → (wrap64 (1 * 2 ^ (ji8).toNat)) = ji10 := fun h_ => (i64_w _).symm.trans (hji10z h_)
                by_cases c11 : a0 > 0
                · rw [if_pos c11] at H
                  have c11b0 : decide (0 < a0) = true := decide_eq_true c11
                  clear c11
                  by_cases c12 : (ji10) = 0
                  · rw [if_pos c12] at H
                    exact absurd H (by simp)
                  · rw [if_neg c12] at H
                    have c12b0 : ((ji10) == 0) = false := beq_eq_false_iff_ne.mpr c12
                    have c12b1 : ((ji10) != 0) = true := bne_iff_ne.mpr c12
                    by_cases c13 : (Int.tmod a0 (ji10)) = 0
                    · rw [if_pos c13] at H
                      have c13b0 : ((Int.tmod a0 (ji10)) == 0) = true := beq_iff_eq.mpr c13
                      have c13b1 : ((Int.tmod a0 (ji10)) != 0) = false := bne_eq_false_iff_eq.mpr c13
                      clear c13
                      replace H := Option.bind_eq_some_iff.mp H
                      obtain ⟨t152, A140, H⟩ := H
                      replace H : (if 0 ≤ x4_2 then (if x4_2 < (y149.length : Int) then (if t152.size + (rdOf ByteArray.empty y149 x4_2).size ≤ 9223372036854775807 then (some (t152 ++ (rdOf ByteArray.empty y149 x4_2))) else (none)) else (none)) else (none)) = some r := H
                      have A14 := Aside0.mk A140
                      clear A140
                      by_cases c15 : 0 ≤ x4_2
                      · rw [if_pos c15] at H
                        have c15b0 : decide (0 ≤ x4_2) = true := decide_eq_true c15
                        clear c15
                        by_cases c16 : x4_2 < (y149.length : Int)
                        · rw [if_pos c16] at H
                          have c16b0 : decide (x4_2 < (y149.length : Int)) = true := decide_eq_true c16
                          clear c16
                          by_cases c17 : t152.size + (rdOf ByteArray.empty y149 x4_2).size ≤ 9223372036854775807
                          · rw [if_pos c17] at H
                            have c17b0 := eq_true c17
                            (try (have c17z := c17b0; rw [ByteArray.size_extract, Nat.min_self] at c17z))
                            have c17b1 : decide (t152.size + (rdOf ByteArray.empty y149 x4_2).size ≤ 9223372036854775807) = true := decide_eq_true c17
                            try have c17b2 : (9223372036854775807 < t152.size + (rdOf ByteArray.empty y149 x4_2).size) = False := eq_false (Nat.not_lt.2 c17)
                            obtain rfl := Option.some.inj H
                            try go_wp2
                            have n0_ := Aside0.mk (Kd.R_drew HO_3.out)
                            have n1_ := Aside0.mk (below_drew1 HB.out)
                            clear HO_3
                            clear HB
                            have HO_3 := n0_
                            have HB := n1_
                            clear n0_ n1_
                            obtain ⟨Ao19, co19, eo19⟩ := Kd.R_slice HO_3.out
                            (first | subst eo19 | (injection eo19 with f1_ f2_ f3_; have f4_ := f1_.symm; have f5_ := f3_.symm; clear f1_ f2_ f3_; subst f4_; subst f5_))
                            have p153 : 0 ≤ (x4_2 : Int) := of_decide_eq_true (by first | (with_reducible assumption) | assumption)
                            have q153 : x4_2 < (y149.length : Int) := of_decide_eq_true (by first | (with_reducible assumption) | assumption)
                            obtain ⟨ad153, e153, hx153_0⟩ := Kd.at_string (Kd.R_reads' HO_3.out).2.2 x4_2 p153 q153
                            cases e153
                            replace p153 := eq_true p153
                            replace q153 := eq_true q153
                            (try (have qz153 := q153; rw [ByteArray.size_extract, Nat.min_self] at qz153))
                            refine start_ (n := 10) (S := fun w' => w'.cell? (ad153.add (x4_2).toNat) = some (.string (rdOf ByteArray.empty y149 x4_2))) (ds := []) #[false, false, false, false, false, false, false, false, false, false] (by kernel_rfl) rfl rfl (hx153_0) (fun hHeld => ?_); refine with_tabW triremeref03_Show.tab9 triremeref03_Show.bits9 (fun HT_ HW_ => ?_)
                            generalize wr.drew = w18 at HO_3 HB hx153_0 hHeld ⊢
                            refine pure_ (i := 0) (N := some 30) (v := ?_) (a' := ?_) #[true, false, false, false, false, false, false, false, false, false] rfl rfl (any_of HT_.out (by kernel_rfl)) (fun _ _ _ h => h) (Or.inl ⟨by rfl, ?_⟩) ?_ ?_
                            rotate_left
                            · intro w'
                              go_simp
                              with_reducible rfl
                            rotate_left
                            · simp only [Act.put, List.setIfInBounds_toArray, List.set_cons_zero, List.set_cons_succ, i64_w, i32_w]
                              rfl
                            refine pure_ (i := 1) (N := some 31) (v := ?_) (a' := ?_) #[true, true, false, false, false, false, false, false, false, false] rfl rfl (any_of HT_.out (by kernel_rfl)) (fun _ _ _ h => h) (Or.inl ⟨by rfl, ?_⟩) ?_ ?_
                            rotate_left
                            · intro w'
                              go_simp
                              with_reducible rfl
                            rotate_left
                            · simp only [Act.put, List.setIfInBounds_toArray, List.set_cons_zero, List.set_cons_succ, i64_w, i32_w]
                              rfl
                            refine pure_ (i := 2) (N := some 32) (v := ?_) (a' := ?_) #[true, true, true, false, false, false, false, false, false, false] rfl rfl (any_of HT_.out (by kernel_rfl)) (fun _ _ _ h => h) (Or.inl ⟨by rfl, ?_⟩) ?_ ?_
                            rotate_left
                            · intro w'
                              go_simp
                              with_reducible rfl
                            rotate_left
                            · simp only [Act.put, List.setIfInBounds_toArray, List.set_cons_zero, List.set_cons_succ, i64_w, i32_w]
                              rfl
                            refine pure_ (i := 4) (N := some 34) (v := ?_) (a' := ?_) #[true, true, true, false, true, false, false, false, false, false] rfl rfl (any_of HT_.out (by kernel_rfl)) (fun _ _ _ h => h) (Or.inl ⟨by rfl, ?_⟩) ?_ ?_
                            rotate_left
                            · intro w'
                              go_simp
                              with_reducible rfl
                            rotate_left
                            · simp only [Act.put, List.setIfInBounds_toArray, List.set_cons_zero, List.set_cons_succ, i64_w, i32_w]
                              rfl
                            refine pure_ (i := 5) (N := some 35) (v := ?_) (a' := ?_) #[true, true, true, false, true, true, false, false, false, false] rfl rfl (any_of HT_.out (by kernel_rfl)) (fun _ _ _ h => h) (Or.inl ⟨by rfl, ?_⟩) ?_ ?_
                            rotate_left
                            · intro w'
                              go_simp
                              with_reducible rfl
                            rotate_left
                            · simp only [Act.put, List.setIfInBounds_toArray, List.set_cons_zero, List.set_cons_succ, i64_w, i32_w]
                              rfl
                            refine pure_ (i := 6) (N := some 36) (v := ?_) (a' := ?_) #[true, true, true, false, true, true, true, false, false, false] rfl rfl (any_of HT_.out (by kernel_rfl)) (fun _ _ _ h => h) (Or.inl ⟨by rfl, ?_⟩) ?_ ?_
                            rotate_left
                            · intro w'
                              go_simp
                              with_reducible rfl
                            rotate_left
                            · simp only [Act.put, List.setIfInBounds_toArray, List.set_cons_zero, List.set_cons_succ, i64_w, i32_w]
                              rfl
                            refine take_ (i := 7) (N := some 37) (v := ?_) (a' := ?_) #[true, true, true, false, true, true, true, true, false, false] rfl rfl (take_ofW HT_.out HW_.out (by kernel_rfl)) (fun _ _ _ h => h) (Or.inl ⟨by rfl, ?_⟩) hHeld ?_ ?_
                            rotate_left
                            · intro w' s0
                              go_simp
                              with_reducible rfl
                            rotate_left
                            · simp only [Act.put, List.setIfInBounds_toArray, List.set_cons_zero, List.set_cons_succ, i64_w, i32_w]
                              rfl
                            refine one_ (i := 3) (N := some 33) #[true, true, true, true, true, true, true, true, false, false] rfl rfl (one_of HT_.out (by kernel_rfl)) (by decide) (fun K hK => ?_)
                            refine goes_ Try.func19 (by kernel_rfl) rfl #[.int .i64 (wrap64 (Int.tdiv a0 (ji10)))] (by rfl) rfl rfl (by (try simp only [List.map_toArray, List.map_cons, List.map_nil]); first | done | (simp only [hji10]; rfl) | rfl | (simp only [List.length_drop, List.length_take]; rfl)) ?_
                            with_reducible refine (triremeref01_Digits.calls k2 (wrap64 (Int.tdiv a0 (ji10))) t152 _ A14.out).mono ?_
                            rintro e w20 ⟨rfl, hb⟩
                            have HS0_ := (hb.cell (World.block_lt_of_cell? _ _ (hHeld))).trans (hHeld)
                            refine ⟨_, rfl, ?_⟩
                            have n0_ := Aside0.mk (Kd.R_below (by (with_reducible repeat (first | apply Kd.R_alloc | apply Kd.R_drewN | apply Kd.R_drew)); exact HO_3.out) hb)
                            have n1_ := Aside0.mk (below_step (by repeat (first | (with_reducible first | exact HB.out | apply below_alloc | apply pw_below_drewN | apply below_drew1) | exact HB.out)) hb)
                            clear HO_3
                            clear HB
                            have HO_3 := n0_
                            have HB := n1_
                            clear n0_ n1_
                            (try clear hb)
                            (try clear hb2)
                            (try clear hk)
                            (try clear hi)
                            refine hK.out _ _ (HS0_) (fun hHeld => ?_)
                            clear hK K
                            refine norm_ (a' := ?_) ?_ ?_
                            rotate_left
                            · show Act.put _ (some 33) _ = _
                              simp only [Act.put, List.setIfInBounds_toArray, List.set_cons_zero, List.set_cons_succ, i64_w, i32_w]
                              rfl
                            refine pure_ (i := 8) (N := some 38) (v := ?_) (a' := ?_) #[true, true, true, true, true, true, true, true, true, false] rfl rfl (any_of HT_.out (by kernel_rfl)) (fun _ _ _ h => h) (Or.inl ⟨by rfl, ?_⟩) ?_ ?_
                            rotate_left
                            · intro w'
                              go_simp
                              with_reducible rfl
                            rotate_left
                            · simp only [Act.put, List.setIfInBounds_toArray, List.set_cons_zero, List.set_cons_succ, i64_w, i32_w]
                              rfl
                            refine pure_ (i := 9) (N := some 2) (v := ?_) (a' := ?_) #[true, true, true, true, true, true, true, true, true, true] rfl rfl (any_of HT_.out (by kernel_rfl)) (fun _ _ _ h => h) (Or.inl ⟨by rfl, ?_⟩) ?_ ?_
                            rotate_left
                            · intro w'
                              go_simp
                              with_reducible rfl
                            rotate_left
                            · simp only [Act.put, List.setIfInBounds_toArray, List.set_cons_zero, List.set_cons_succ, i64_w, i32_w]
                              rfl
                            refine done_ (done_of HT_.out (by kernel_rfl)) ?_
                            try go_wp2
                            go_ret
                            exact ⟨by first | rfl | (simp [errW_none, errW_some] <;> rfl) | (simp only [← hji8, ← hji10]; first | rfl | (simp [errW_none, errW_some] <;> rfl)) | (simp [*, errW_none, errW_some] <;> rfl), by repeat (first | (with_reducible first | exact HB.out | apply below_alloc | apply pw_below_drewN | apply below_drew1) | exact HB.out)⟩
                          · rw [if_neg c17] at H
                            exact absurd H (by simp)
                        · rw [if_neg c16] at H
                          exact absurd H (by simp)
                      · rw [if_neg c15] at H
                        exact absurd H (by simp)
                    · rw [if_neg c13] at H
                      have c13b0 : ((Int.tmod a0 (ji10)) == 0) = false := beq_eq_false_iff_ne.mpr c13
                      have c13b1 : ((Int.tmod a0 (ji10)) != 0) = true := bne_iff_ne.mpr c13
                      have H' := Aside0.mk H
                      clear H
                      go_wp2
                      go_roundg k2
                      case measure => have := HJ1.out; have := HK2.out; omega
                      case rel => exact ⟨(wrap64 (x4_2 + 1)), (by first | rfl | (simp; done) | (simp [*]; done)), H', ⟨by have := HJ1.out; have := HK2.out; omega⟩, ⟨by (with_reducible repeat (first | apply Kd.R_alloc | apply Kd.R_drewN | apply Kd.R_drew)); exact HO_3.out⟩, ⟨by repeat (first | (with_reducible first | exact HB.out | apply below_alloc | apply pw_below_drewN | apply below_drew1) | exact HB.out)⟩⟩
                · rw [if_neg c11] at H
                  have c11b0 : decide (0 < a0) = false := decide_eq_false c11
                  clear c11
                  have H' := Aside0.mk H
                  clear H
                  go_wp2
                  go_roundg k2
                  case measure => have := HJ1.out; have := HK2.out; omega
                  case rel => exact ⟨(wrap64 (x4_2 + 1)), (by first | rfl | (simp; done) | (simp [*]; done)), H', ⟨by have := HJ1.out; have := HK2.out; omega⟩, ⟨by (with_reducible repeat (first | apply Kd.R_alloc | apply Kd.R_drewN | apply Kd.R_drew)); exact HO_3.out⟩, ⟨by repeat (first | (with_reducible first | exact HB.out | apply below_alloc | apply pw_below_drewN | apply below_drew1) | exact HB.out)⟩⟩
              · rw [if_neg c9] at H
                exact absurd H (by simp)
            · rw [if_neg c7] at H
              have c7b0 : decide (x4_2 < 4) = false := decide_eq_false c7
              clear c7
              replace H := Option.bind_eq_some_iff.mp H
              obtain ⟨t154, A210, H⟩ := H
              replace H : (some t154) = some r := H
              have A21 := Aside0.mk A210
              clear A210
              obtain rfl := Option.some.inj H
              go_wp2_with (first | ((first | ((with_reducible refine gate_callee (f := 19) rfl ?_); refine goesL_ (some 40) rfl rfl Try.func19 (by kernel_rfl) rfl #[.int .i64 a0] rfl (by (try simp only [List.map_toArray, List.map_cons, List.map_nil]); first | done | rfl | (simp only [List.length_drop, List.length_take]; rfl)) ?_; (with_reducible refine (triremeref01_Digits.calls k2 a0 t154 _ A21.out).mono ?_); rintro e w22 ⟨rfl, hb⟩; refine ⟨_, rfl, ?_⟩) | (go_at_call 19; (with_reducible refine (triremeref01_Digits.calls k2 a0 t154 _ A21.out).mono ?_); rintro e w22 ⟨rfl, hb⟩)); have n0_ := Aside0.mk (Kd.R_below (by (with_reducible repeat (first | apply Kd.R_alloc | apply Kd.R_drewN | apply Kd.R_drew)); exact HO_3.out) hb); have n1_ := Aside0.mk (below_step (by repeat (first | (with_reducible first | exact HB.out | apply below_alloc | apply pw_below_drewN | apply below_drew1) | exact HB.out)) hb); clear HO_3; clear HB; have HO_3 := n0_; have HB := n1_; clear n0_ n1_; (try clear hb); (try clear hb2); (try clear hk); (try clear hi)))
              go_ret
              exact ⟨by first | rfl | (simp [errW_none, errW_some] <;> rfl) | (simp [*, errW_none, errW_some] <;> rfl), by repeat (first | (with_reducible first | exact HB.out | apply below_alloc | apply pw_below_drewN | apply below_drew1) | exact HB.out)⟩
end Go.Proofs.Ytpmmiabcfnejmaa.H
end
section
namespace Go.Proofs.Ytpmmiabcfnejmaa.H
open Go.RowKit Go.Proofs.YtpmmiabcfnejmaaW.PrintWords Go.Proofs.YtpmmiabcfnejmaaW.PrintLast Go.Proofs.YtpmmiabcfnejmaaW.PrintMore
attribute [local go_sem] max2_int min2_int max_two min_two max_three min_three max_four min_four   -- for this text's walks alone
set_option linter.unusedVariables false
set_option linter.unusedSimpArgs false
def triremeref03_ShowMilli.j0 : Nat → Int → Bool → Option (ByteArray)
  | 0, _, _ => none
  | k + 1, x0, x8 => if x8 = true then (some (⟨#[]⟩ : ByteArray)) else (if (Int.tmod x0 1000) = 0 then ((triremeref01_Digits.f k (wrap64 (Int.tdiv x0 1000))).bind fun t155 => (some t155)) else ((triremeref01_Digits.f k x0).bind fun t156 => (if t156.size + 1 ≤ 9223372036854775807 then (some (t156 ++ (⟨#[109]⟩ : ByteArray))) else (none))))
def triremeref03_ShowMilli.f (k : Nat) (a0 : Int) : Option (ByteArray) := if a0 < 0 then (triremeref03_ShowMilli.j0 k a0 true) else (triremeref03_ShowMilli.j0 k a0 (decide (a0 > 1125899906842624)))
theorem triremeref03_ShowMilli.mono_l : ∀ k, (∀ y0 y1, LeO (triremeref03_ShowMilli.j0 k y0 y1) (triremeref03_ShowMilli.j0 (k + 1) y0 y1))
  | 0 => fun _ _ r h => by simp [triremeref03_ShowMilli.j0] at h
  | k + 1 => by
    have ih0 := triremeref03_ShowMilli.mono_l k
    · intro y0 y1
      unfold triremeref03_ShowMilli.j0
      repeat' first
      | (with_reducible exact ih0 _ _)
      | (with_reducible exact triremeref01_Digits.mono _ _)
      | (with_reducible exact LeO.refl _)
      | (with_reducible exact LeO.none _)
      | (with_reducible refine LeO.ite ?_ ?_)
      | (with_reducible refine LeO.bind ?_ (fun _ => ?_))
      | exact ih0 _ _
      | exact triremeref01_Digits.mono _ _
      | exact LeO.none _
      | refine LeO.ite ?_ ?_
      | refine LeO.bind ?_ (fun _ => ?_)
theorem triremeref03_ShowMilli.mono : ∀ a0 k, LeO (triremeref03_ShowMilli.f k a0) (triremeref03_ShowMilli.f (k + 1) a0) := by
  intro a0 k
  have ih0 := triremeref03_ShowMilli.mono_l k
  unfold triremeref03_ShowMilli.f
  repeat' first
      | (with_reducible exact ih0 _ _)
      | (with_reducible exact triremeref01_Digits.mono _ _)
      | (with_reducible exact LeO.refl _)
      | (with_reducible exact LeO.none _)
      | (with_reducible refine LeO.ite ?_ ?_)
      | (with_reducible refine LeO.bind ?_ (fun _ => ?_))
      | exact ih0 _ _
      | exact triremeref01_Digits.mono _ _
      | exact LeO.none _
      | refine LeO.ite ?_ ?_
      | refine LeO.bind ?_ (fun _ => ?_)
set_option maxHeartbeats 8000000 in
set_option maxRecDepth 100000 in
theorem triremeref03_ShowMilli.calls (k : Nat) (a0 : Int) (r : ByteArray) (w : World) (h : triremeref03_ShowMilli.f k a0 = some r) :
    Calls Try.prog 18 #[.int .i64 a0] w fun e w' => e = .returned (.string r) ∧ Below w.heap.size w w' := by
  have HB := Aside0.mk (Below.refl w.heap.size w)
  have H : (if a0 < 0 then (triremeref03_ShowMilli.j0 k a0 true) else (triremeref03_ShowMilli.j0 k a0 (decide (a0 > 1125899906842624)))) = some r := h
  clear h
  have HC2 := Aside0.mk H
  clear H
  go_enter Try.func18, Try.ntmps18
  go_upto_region 1 with (fail)
  go_cut [8] (fun v8 wc => ∃ (kq : Nat) (x8_1 : Bool), v8 = .bool x8_1 ∧ Aside0 (triremeref03_ShowMilli.j0 kq a0 x8_1 = some r) ∧ Aside0 (kq ≤ k) ∧ Aside0 (Below w.heap.size w wc))
  case first =>
    have H := HC2.out
    clear HC2
    by_cases c3 : a0 < 0
    · rw [if_pos c3] at H
      have c3b0 : decide (a0 < 0) = true := decide_eq_true c3
      clear c3
      (first | rw [c3b0] | (simp only [i64_w, i32_w]; rw [c3b0]) | skip)
      have H' := Aside0.mk H
      clear H
      go_wp2
      go_meet
      case rel => exact ⟨_, (true), (by first | rfl | (simp; done) | (simp [*]; done)), H', ⟨by first | omega | exact Nat.le_refl _⟩, ⟨by repeat (first | (with_reducible first | exact HB.out | apply below_alloc | apply pw_below_drewN | apply below_drew1) | exact HB.out)⟩⟩
    · rw [if_neg c3] at H
      have c3b0 : decide (a0 < 0) = false := decide_eq_false c3
      clear c3
      (first | rw [c3b0] | (simp only [i64_w, i32_w]; rw [c3b0]) | skip)
      have H' := Aside0.mk H
      clear H
      go_wp2
      go_meet
      case rel => exact ⟨_, (decide (a0 > 1125899906842624)), (by first | rfl | (simp; done) | (simp [*]; done)), H', ⟨by first | omega | exact Nat.le_refl _⟩, ⟨by repeat (first | (with_reducible first | exact HB.out | apply below_alloc | apply pw_below_drewN | apply below_drew1) | exact HB.out)⟩⟩
  case rest =>
    clear HC2
    try clear c1
    try clear p2
    try clear c3
    try clear c3b0
    obtain ⟨kq, x8_1, rfl, HA, HJ1, HB⟩ := hcut
    cases kq with
    | zero => exact absurd HA.out (by simp [triremeref03_ShowMilli.j0])
    | succ kj1 =>
      have H := HA.out
      clear HA
      simp only [triremeref03_ShowMilli.j0] at H
      by_cases c4 : x8_1 = true
      · subst c4
        have H1 : (some (⟨#[]⟩ : ByteArray)) = some r := by rw [if_pos rfl] at H; exact H
        clear H
        have H := H1
        clear H1
        obtain rfl := Option.some.inj H
        go_wp2
        go_ret
        exact ⟨by first | rfl | (simp [errW_none, errW_some] <;> rfl) | (simp [*, errW_none, errW_some] <;> rfl), by repeat (first | (with_reducible first | exact HB.out | apply below_alloc | apply pw_below_drewN | apply below_drew1) | exact HB.out)⟩
      · replace c4 := Bool.eq_false_iff.mpr c4
        subst c4
        have H1 : (if (Int.tmod a0 1000) = 0 then ((triremeref01_Digits.f kj1 (wrap64 (Int.tdiv a0 1000))).bind fun t155 => (some t155)) else ((triremeref01_Digits.f kj1 a0).bind fun t156 => (if t156.size + 1 ≤ 9223372036854775807 then (some (t156 ++ (⟨#[109]⟩ : ByteArray))) else (none)))) = some r := by rw [if_neg (show ¬ (false = true) by decide)] at H; exact H
        clear H
        have H := H1
        clear H1
        by_cases c5 : (Int.tmod a0 1000) = 0
        · rw [if_pos c5] at H
          have c5b0 : ((Int.tmod a0 1000) == 0) = true := beq_iff_eq.mpr c5
          have c5b1 : ((Int.tmod a0 1000) != 0) = false := bne_eq_false_iff_eq.mpr c5
          clear c5
          replace H := Option.bind_eq_some_iff.mp H
          obtain ⟨t155, A60, H⟩ := H
          replace H : (some t155) = some r := H
          have A6 := Aside0.mk A60
          clear A60
          obtain rfl := Option.some.inj H
          go_wp2_with (first | ((first | ((with_reducible refine gate_callee (f := 19) rfl ?_); refine goesL_ (some 14) rfl rfl Try.func19 (by kernel_rfl) rfl #[.int .i64 (wrap64 (Int.tdiv a0 1000))] rfl (by (try simp only [List.map_toArray, List.map_cons, List.map_nil]); first | done | rfl | (simp only [List.length_drop, List.length_take]; rfl)) ?_; (with_reducible refine (triremeref01_Digits.calls kj1 (wrap64 (Int.tdiv a0 1000)) t155 _ A6.out).mono ?_); rintro e w7 ⟨rfl, hb⟩; refine ⟨_, rfl, ?_⟩) | (go_at_call 19; (with_reducible refine (triremeref01_Digits.calls kj1 (wrap64 (Int.tdiv a0 1000)) t155 _ A6.out).mono ?_); rintro e w7 ⟨rfl, hb⟩)); have n0_ := Aside0.mk (below_step (by repeat (first | (with_reducible first | exact HB.out | apply below_alloc | apply pw_below_drewN | apply below_drew1) | exact HB.out)) hb); clear HB; have HB := n0_; clear n0_; (try clear hb); (try clear hb2); (try clear hk); (try clear hi)))
          go_ret
          exact ⟨by first | rfl | (simp [errW_none, errW_some] <;> rfl) | (simp [*, errW_none, errW_some] <;> rfl), by repeat (first | (with_reducible first | exact HB.out | apply below_alloc | apply pw_below_drewN | apply below_drew1) | exact HB.out)⟩
        · rw [if_neg c5] at H
          have c5b0 : ((Int.tmod a0 1000) == 0) = false := beq_eq_false_iff_ne.mpr c5
          have c5b1 : ((Int.tmod a0 1000) != 0) = true := bne_iff_ne.mpr c5
          replace H := Option.bind_eq_some_iff.mp H
          obtain ⟨t156, A80, H⟩ := H
          replace H : (if t156.size + 1 ≤ 9223372036854775807 then (some (t156 ++ (⟨#[109]⟩ : ByteArray))) else (none)) = some r := H
          have A8 := Aside0.mk A80
          clear A80
          by_cases c9 : t156.size + 1 ≤ 9223372036854775807
          · rw [if_pos c9] at H
            have c9b0 := eq_true c9
            (try (have c9z := c9b0; rw [ByteArray.size_extract, Nat.min_self] at c9z))
            have c9b1 : decide (t156.size + 1 ≤ 9223372036854775807) = true := decide_eq_true c9
            try have c9b2 : (9223372036854775807 < t156.size + 1) = False := eq_false (Nat.not_lt.2 c9)
            obtain rfl := Option.some.inj H
            go_wp2_with (first | ((first | ((with_reducible refine gate_callee (f := 19) rfl ?_); refine goesL_ (some 16) rfl rfl Try.func19 (by kernel_rfl) rfl #[.int .i64 a0] rfl (by (try simp only [List.map_toArray, List.map_cons, List.map_nil]); first | done | rfl | (simp only [List.length_drop, List.length_take]; rfl)) ?_; (with_reducible refine (triremeref01_Digits.calls kj1 a0 t156 _ A8.out).mono ?_); rintro e w10 ⟨rfl, hb⟩; refine ⟨_, rfl, ?_⟩) | (go_at_call 19; (with_reducible refine (triremeref01_Digits.calls kj1 a0 t156 _ A8.out).mono ?_); rintro e w10 ⟨rfl, hb⟩)); have n0_ := Aside0.mk (below_step (by repeat (first | (with_reducible first | exact HB.out | apply below_alloc | apply pw_below_drewN | apply below_drew1) | exact HB.out)) hb); clear HB; have HB := n0_; clear n0_; (try clear hb); (try clear hb2); (try clear hk); (try clear hi)))
            go_ret
            exact ⟨by first | rfl | (simp [errW_none, errW_some] <;> rfl) | (simp [*, errW_none, errW_some] <;> rfl), by repeat (first | (with_reducible first | exact HB.out | apply below_alloc | apply pw_below_drewN | apply below_drew1) | exact HB.out)⟩
          · rw [if_neg c9] at H
            exact absurd H (by simp)
end Go.Proofs.Ytpmmiabcfnejmaa.H
end
section
namespace Go.Proofs.Ytpmmiabcfnejmaa.H
open Go.RowKit Go.Proofs.YtpmmiabcfnejmaaW.PrintWords Go.Proofs.YtpmmiabcfnejmaaW.PrintLast Go.Proofs.YtpmmiabcfnejmaaW.PrintMore
attribute [local go_sem] max2_int min2_int max_two min_two max_three min_three max_four min_four   -- for this text's walks alone
set_option linter.unusedVariables false
set_option linter.unusedSimpArgs false
def triremelaw03_QuantShows.f (k : Nat) (a0 : Int) : Option (Bool) := (quant_Show.f a0).bind fun t157 => ((triremeref03_Show.f k a0).bind fun t158 => (if t157.toList = t158.toList then ((quant_ShowMilli.f k a0).bind fun t159 => ((triremeref03_ShowMilli.f k a0).bind fun t160 => (if t159.toList = t160.toList then ((triremelaw03_known.f k).bind fun t161 => (some t161)) else (some false)))) else (some false)))
theorem triremelaw03_QuantShows.mono : ∀ a0 k, LeO (triremelaw03_QuantShows.f k a0) (triremelaw03_QuantShows.f (k + 1) a0) := by
  intro a0 k
  unfold triremelaw03_QuantShows.f
  repeat' first
      | (with_reducible exact quant_ShowMilli.mono _ _)
      | (with_reducible exact triremelaw03_known.mono _)
      | (with_reducible exact triremeref03_Show.mono _ _)
      | (with_reducible exact triremeref03_ShowMilli.mono _ _)
      | (with_reducible exact LeO.refl _)
      | (with_reducible exact LeO.none _)
      | (with_reducible refine LeO.ite ?_ ?_)
      | (with_reducible refine LeO.bind ?_ (fun _ => ?_))
      | exact quant_ShowMilli.mono _ _
      | exact triremelaw03_known.mono _
      | exact triremeref03_Show.mono _ _
      | exact triremeref03_ShowMilli.mono _ _
      | exact LeO.none _
      | refine LeO.ite ?_ ?_
      | refine LeO.bind ?_ (fun _ => ?_)
set_option maxHeartbeats 8000000 in
set_option maxRecDepth 100000 in
theorem triremelaw03_QuantShows.calls (k : Nat) (a0 : Int) (r : Bool) (w : World) (h : triremelaw03_QuantShows.f k a0 = some r) :
    Calls Try.prog 4 #[.int .i64 a0] w fun e w' => e = .returned (.bool r) ∧ Below w.heap.size w w' := by
  have HB := Aside0.mk (Below.refl w.heap.size w)
  have H : ((quant_Show.f a0).bind fun t157 => ((triremeref03_Show.f k a0).bind fun t158 => (if t157.toList = t158.toList then ((quant_ShowMilli.f k a0).bind fun t159 => ((triremeref03_ShowMilli.f k a0).bind fun t160 => (if t159.toList = t160.toList then ((triremelaw03_known.f k).bind fun t161 => (some t161)) else (some false)))) else (some false)))) = some r := h
  clear h
  replace H := Option.bind_eq_some_iff.mp H
  obtain ⟨t157, A20, H⟩ := H
  replace H : ((triremeref03_Show.f k a0).bind fun t158 => (if t157.toList = t158.toList then ((quant_ShowMilli.f k a0).bind fun t159 => ((triremeref03_ShowMilli.f k a0).bind fun t160 => (if t159.toList = t160.toList then ((triremelaw03_known.f k).bind fun t161 => (some t161)) else (some false)))) else (some false))) = some r := H
  have A2 := Aside0.mk A20
  clear A20
  replace H := Option.bind_eq_some_iff.mp H
  obtain ⟨t158, A30, H⟩ := H
  replace H : (if t157.toList = t158.toList then ((quant_ShowMilli.f k a0).bind fun t159 => ((triremeref03_ShowMilli.f k a0).bind fun t160 => (if t159.toList = t160.toList then ((triremelaw03_known.f k).bind fun t161 => (some t161)) else (some false)))) else (some false)) = some r := H
  have A3 := Aside0.mk A30
  clear A30
  by_cases c4 : t157.toList = t158.toList
  · rw [if_pos c4] at H
    have c4b0 : (t157.toList == t158.toList) = true := beq_iff_eq.mpr c4
    have c4b1 : (t157.toList != t158.toList) = false := bne_eq_false_iff_eq.mpr c4
    clear c4
    replace H := Option.bind_eq_some_iff.mp H
    obtain ⟨t159, A50, H⟩ := H
    replace H : ((triremeref03_ShowMilli.f k a0).bind fun t160 => (if t159.toList = t160.toList then ((triremelaw03_known.f k).bind fun t161 => (some t161)) else (some false))) = some r := H
    have A5 := Aside0.mk A50
    clear A50
    replace H := Option.bind_eq_some_iff.mp H
    obtain ⟨t160, A60, H⟩ := H
    replace H : (if t159.toList = t160.toList then ((triremelaw03_known.f k).bind fun t161 => (some t161)) else (some false)) = some r := H
    have A6 := Aside0.mk A60
    clear A60
    by_cases c7 : t159.toList = t160.toList
    · rw [if_pos c7] at H
      have c7b0 : (t159.toList == t160.toList) = true := beq_iff_eq.mpr c7
      have c7b1 : (t159.toList != t160.toList) = false := bne_eq_false_iff_eq.mpr c7
      clear c7
      replace H := Option.bind_eq_some_iff.mp H
      obtain ⟨t161, A80, H⟩ := H
      replace H : (some t161) = some r := H
      have A8 := Aside0.mk A80
      clear A80
      obtain rfl := Option.some.inj H
      go_enter Try.func4, Try.ntmps4
      go_wp2_with (first | ((first | ((with_reducible refine gate_callee (f := 15) rfl ?_); refine goesL_ (some 4) rfl rfl Try.func15 (by kernel_rfl) rfl #[.int .i64 a0] rfl (by (try simp only [List.map_toArray, List.map_cons, List.map_nil]); first | done | rfl | (simp only [List.length_drop, List.length_take]; rfl)) ?_; (with_reducible refine (quant_Show.calls a0 t157 _ A2.out).mono ?_); rintro e w9 ⟨rfl, hb⟩; refine ⟨_, rfl, ?_⟩) | (go_at_call 15; (with_reducible refine (quant_Show.calls a0 t157 _ A2.out).mono ?_); rintro e w9 ⟨rfl, hb⟩)); have n0_ := Aside0.mk (below_step (by repeat (first | (with_reducible first | exact HB.out | apply below_alloc | apply pw_below_drewN | apply below_drew1) | exact HB.out)) hb); clear HB; have HB := n0_; clear n0_; (try clear hb); (try clear hb2); (try clear hk); (try clear hi)) | ((first | ((with_reducible refine gate_callee (f := 16) rfl ?_); refine goesL_ (some 6) rfl rfl Try.func16 (by kernel_rfl) rfl #[.int .i64 a0] rfl (by (try simp only [List.map_toArray, List.map_cons, List.map_nil]); first | done | rfl | (simp only [List.length_drop, List.length_take]; rfl)) ?_; (with_reducible refine (triremeref03_Show.calls k a0 t158 _ A3.out).mono ?_); rintro e w10 ⟨rfl, hb⟩; refine ⟨_, rfl, ?_⟩) | (go_at_call 16; (with_reducible refine (triremeref03_Show.calls k a0 t158 _ A3.out).mono ?_); rintro e w10 ⟨rfl, hb⟩)); have n0_ := Aside0.mk (below_step (by repeat (first | (with_reducible first | exact HB.out | apply below_alloc | apply pw_below_drewN | apply below_drew1) | exact HB.out)) hb); clear HB; have HB := n0_; clear n0_; (try clear hb); (try clear hb2); (try clear hk); (try clear hi)) | (go_at_call 17; (with_reducible refine (quant_ShowMilli.calls k a0 t159 _ A5.out).mono ?_); rintro e w11 ⟨rfl, hb⟩; have n0_ := Aside0.mk (below_step (by repeat (first | (with_reducible first | exact HB.out | apply below_alloc | apply pw_below_drewN | apply below_drew1) | exact HB.out)) hb); clear HB; have HB := n0_; clear n0_; (try clear hb); (try clear hb2); (try clear hk); (try clear hi)) | (go_at_call 18; (with_reducible refine (triremeref03_ShowMilli.calls k a0 t160 _ A6.out).mono ?_); rintro e w12 ⟨rfl, hb⟩; have n0_ := Aside0.mk (below_step (by repeat (first | (with_reducible first | exact HB.out | apply below_alloc | apply pw_below_drewN | apply below_drew1) | exact HB.out)) hb); clear HB; have HB := n0_; clear n0_; (try clear hb); (try clear hb2); (try clear hk); (try clear hi)) | (go_at_call 8; (with_reducible refine (triremelaw03_known.calls k  t161 _ A8.out).mono ?_); rintro e w13 ⟨rfl, hb⟩; have n0_ := Aside0.mk (below_step (by repeat (first | (with_reducible first | exact HB.out | apply below_alloc | apply pw_below_drewN | apply below_drew1) | exact HB.out)) hb); clear HB; have HB := n0_; clear n0_; (try clear hb); (try clear hb2); (try clear hk); (try clear hi)))
      go_ret
      exact ⟨by first | rfl | (simp [errW_none, errW_some] <;> rfl) | (simp [*, errW_none, errW_some] <;> rfl), by repeat (first | (with_reducible first | exact HB.out | apply below_alloc | apply pw_below_drewN | apply below_drew1) | exact HB.out)⟩
    · rw [if_neg c7] at H
      have c7b0 : (t159.toList == t160.toList) = false := beq_eq_false_iff_ne.mpr c7
      have c7b1 : (t159.toList != t160.toList) = true := bne_iff_ne.mpr c7
      obtain rfl := Option.some.inj H
      go_enter Try.func4, Try.ntmps4
      go_wp2_with (first | ((first | ((with_reducible refine gate_callee (f := 15) rfl ?_); refine goesL_ (some 4) rfl rfl Try.func15 (by kernel_rfl) rfl #[.int .i64 a0] rfl (by (try simp only [List.map_toArray, List.map_cons, List.map_nil]); first | done | rfl | (simp only [List.length_drop, List.length_take]; rfl)) ?_; (with_reducible refine (quant_Show.calls a0 t157 _ A2.out).mono ?_); rintro e w14 ⟨rfl, hb⟩; refine ⟨_, rfl, ?_⟩) | (go_at_call 15; (with_reducible refine (quant_Show.calls a0 t157 _ A2.out).mono ?_); rintro e w14 ⟨rfl, hb⟩)); have n0_ := Aside0.mk (below_step (by repeat (first | (with_reducible first | exact HB.out | apply below_alloc | apply pw_below_drewN | apply below_drew1) | exact HB.out)) hb); clear HB; have HB := n0_; clear n0_; (try clear hb); (try clear hb2); (try clear hk); (try clear hi)) | ((first | ((with_reducible refine gate_callee (f := 16) rfl ?_); refine goesL_ (some 6) rfl rfl Try.func16 (by kernel_rfl) rfl #[.int .i64 a0] rfl (by (try simp only [List.map_toArray, List.map_cons, List.map_nil]); first | done | rfl | (simp only [List.length_drop, List.length_take]; rfl)) ?_; (with_reducible refine (triremeref03_Show.calls k a0 t158 _ A3.out).mono ?_); rintro e w15 ⟨rfl, hb⟩; refine ⟨_, rfl, ?_⟩) | (go_at_call 16; (with_reducible refine (triremeref03_Show.calls k a0 t158 _ A3.out).mono ?_); rintro e w15 ⟨rfl, hb⟩)); have n0_ := Aside0.mk (below_step (by repeat (first | (with_reducible first | exact HB.out | apply below_alloc | apply pw_below_drewN | apply below_drew1) | exact HB.out)) hb); clear HB; have HB := n0_; clear n0_; (try clear hb); (try clear hb2); (try clear hk); (try clear hi)) | (go_at_call 17; (with_reducible refine (quant_ShowMilli.calls k a0 t159 _ A5.out).mono ?_); rintro e w16 ⟨rfl, hb⟩; have n0_ := Aside0.mk (below_step (by repeat (first | (with_reducible first | exact HB.out | apply below_alloc | apply pw_below_drewN | apply below_drew1) | exact HB.out)) hb); clear HB; have HB := n0_; clear n0_; (try clear hb); (try clear hb2); (try clear hk); (try clear hi)) | (go_at_call 18; (with_reducible refine (triremeref03_ShowMilli.calls k a0 t160 _ A6.out).mono ?_); rintro e w17 ⟨rfl, hb⟩; have n0_ := Aside0.mk (below_step (by repeat (first | (with_reducible first | exact HB.out | apply below_alloc | apply pw_below_drewN | apply below_drew1) | exact HB.out)) hb); clear HB; have HB := n0_; clear n0_; (try clear hb); (try clear hb2); (try clear hk); (try clear hi)))
      go_ret
      exact ⟨by first | rfl | (simp [errW_none, errW_some] <;> rfl) | (simp [*, errW_none, errW_some] <;> rfl), by repeat (first | (with_reducible first | exact HB.out | apply below_alloc | apply pw_below_drewN | apply below_drew1) | exact HB.out)⟩
  · rw [if_neg c4] at H
    have c4b0 : (t157.toList == t158.toList) = false := beq_eq_false_iff_ne.mpr c4
    have c4b1 : (t157.toList != t158.toList) = true := bne_iff_ne.mpr c4
    obtain rfl := Option.some.inj H
    go_enter Try.func4, Try.ntmps4
    go_wp2_with (first | ((first | ((with_reducible refine gate_callee (f := 15) rfl ?_); refine goesL_ (some 4) rfl rfl Try.func15 (by kernel_rfl) rfl #[.int .i64 a0] rfl (by (try simp only [List.map_toArray, List.map_cons, List.map_nil]); first | done | rfl | (simp only [List.length_drop, List.length_take]; rfl)) ?_; (with_reducible refine (quant_Show.calls a0 t157 _ A2.out).mono ?_); rintro e w18 ⟨rfl, hb⟩; refine ⟨_, rfl, ?_⟩) | (go_at_call 15; (with_reducible refine (quant_Show.calls a0 t157 _ A2.out).mono ?_); rintro e w18 ⟨rfl, hb⟩)); have n0_ := Aside0.mk (below_step (by repeat (first | (with_reducible first | exact HB.out | apply below_alloc | apply pw_below_drewN | apply below_drew1) | exact HB.out)) hb); clear HB; have HB := n0_; clear n0_; (try clear hb); (try clear hb2); (try clear hk); (try clear hi)) | ((first | ((with_reducible refine gate_callee (f := 16) rfl ?_); refine goesL_ (some 6) rfl rfl Try.func16 (by kernel_rfl) rfl #[.int .i64 a0] rfl (by (try simp only [List.map_toArray, List.map_cons, List.map_nil]); first | done | rfl | (simp only [List.length_drop, List.length_take]; rfl)) ?_; (with_reducible refine (triremeref03_Show.calls k a0 t158 _ A3.out).mono ?_); rintro e w19 ⟨rfl, hb⟩; refine ⟨_, rfl, ?_⟩) | (go_at_call 16; (with_reducible refine (triremeref03_Show.calls k a0 t158 _ A3.out).mono ?_); rintro e w19 ⟨rfl, hb⟩)); have n0_ := Aside0.mk (below_step (by repeat (first | (with_reducible first | exact HB.out | apply below_alloc | apply pw_below_drewN | apply below_drew1) | exact HB.out)) hb); clear HB; have HB := n0_; clear n0_; (try clear hb); (try clear hb2); (try clear hk); (try clear hi)))
    go_ret
    exact ⟨by first | rfl | (simp [errW_none, errW_some] <;> rfl) | (simp [*, errW_none, errW_some] <;> rfl), by repeat (first | (with_reducible first | exact HB.out | apply below_alloc | apply pw_below_drewN | apply below_drew1) | exact HB.out)⟩
/-- THE ONE PURE STATEMENT of triremelaw03_QuantShows: yours. -/
def triremelaw03_QuantShows.Pure : Prop := ∀ (a0 : Int), (Lit.int .i64 a0).wf = true → ∃ k, triremelaw03_QuantShows.f k a0 = some true
theorem triremelaw03_QuantShows.walk (P : triremelaw03_QuantShows.Pure) (a0 : Int) (w : World) (w0 : (Lit.int .i64 a0).wf = true) :
    Calls Try.prog 4 #[.int .i64 a0] w fun e w' => e = .returned (.bool true) ∧ Below w.heap.size w w' := by
  obtain ⟨k, h⟩ := P a0 w0
  refine (triremelaw03_QuantShows.calls k a0 true w h).mono ?_
  rintro e w' ⟨rfl, hd⟩
  exact ⟨rfl, hd⟩
end Go.Proofs.Ytpmmiabcfnejmaa.H
end
section
namespace Go.Proofs.Ytpmmiabcfnejmaa.H
open Go.RowKit Go.Proofs.YtpmmiabcfnejmaaW.PrintWords Go.Proofs.YtpmmiabcfnejmaaW.PrintLast Go.Proofs.YtpmmiabcfnejmaaW.PrintMore
set_option linter.unusedVariables false
set_option linter.unusedSimpArgs false
theorem decGo_app : ∀ (f n : Nat) (acc : List Int), decGo f n acc = decGo f n [] ++ acc
  | 0, _, acc => rfl
  | f + 1, n, acc => by
    simp only [decGo]
    by_cases h : n < 10
    · rw [if_pos h, if_pos h]; rfl
    · rw [if_neg h, if_neg h, decGo_app f _ (_ :: acc), decGo_app f _ [_], List.append_assoc]; rfl
theorem strOfNums_app (a b : List Int) : strOfNums (a ++ b) = strOfNums a ++ strOfNums b := by
  apply toList_inj
  rw [append_toList, ByteArray.toList_eq, ByteArray.toList_eq, ByteArray.toList_eq]
  simp [strOfNums]
def milR (n : Int) : ByteArray := if n < 0 ∨ 1125899906842624 < n then ⟨#[]⟩ else if n % 1000 = 0 then decB (n / 1000) else decB n ++ ⟨#[109]⟩
theorem quantDigits_some (n : Nat) (h : n ≤ 9000000000000000000) : quant_digits.f (n : Int) = some (decB (n : Int)) := by
  unfold quant_digits.f; rw [if_pos (by omega)]
theorem tmod1000 (m : Nat) : Int.tmod (m : Int) 1000 = (m : Int) % 1000 := rfl
theorem tdiv1000 (m : Nat) : Int.tdiv (m : Int) 1000 = ((m / 1000 : Nat) : Int) := rfl
theorem showMilli_ev (n : Int) : Ev (fun k => quant_ShowMilli.f k n) (milR n) := by
  unfold quant_ShowMilli.f milR
  by_cases h0 : n < 0
  · simp only [h0, true_or, if_true]
    refine Ev.step (fun k => by rw [quant_ShowMilli.j0]) ?_
    simp only [if_true]; exact Ev.now _
  · simp only [h0, false_or, if_false]
    refine Ev.step (fun k => by rw [quant_ShowMilli.j0]) ?_
    by_cases h1 : 1125899906842624 < n
    · simp only [h1, gt_iff_lt, decide_true, if_true]; exact Ev.now _
    · simp only [h1, gt_iff_lt, decide_false, if_false, Bool.false_eq_true]
      obtain ⟨m, rfl⟩ : ∃ m : Nat, n = m := ⟨n.toNat, by omega⟩
      rw [tmod1000, tdiv1000, wrap_nat _ (by omega), quantDigits_some (m / 1000) (by omega), quantDigits_some m (by omega)]
      simp only [Option.bind_some]
      refine ev_if (fun h => ?_) (fun h => ?_)
      · rw [if_pos h]; exact Ev.now _
      · rw [if_neg h]
        refine ev_if (fun _ => Ev.now _) (fun h => absurd ?_ h)
        have := decB_size (m : Int)
        omega
end Go.Proofs.Ytpmmiabcfnejmaa.H
end
