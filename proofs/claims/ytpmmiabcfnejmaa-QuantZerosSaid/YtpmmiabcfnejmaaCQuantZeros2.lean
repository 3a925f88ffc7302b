/- A nought ahead of digits makes no difference to the number, to the amount and to the amount in thousandths. -/
import Derived.Laws.BitsLemmas
import Derived.Lib.EndianBits
import Derived.Test.YtpmmiabcfnejmaaRows
import Derived.WalkKit
import Derived.ProofKit
import Derived.OpenShut
import Derived.ShutString
import Derived.ChangeOld
import Derived.Below
import Derived.SizedLaws
import Derived.Test.YtpmmiabcfnejmaaCQuantZeros0
import Derived.Test.YtpmmiabcfnejmaaCQuantZeros1
section
namespace Go.Proofs.Ytpmmiabcfnejmaa.H
open Go.RowKit Go.Proofs.YtpmmiabcfnejmaaW.PrintWords Go.Proofs.YtpmmiabcfnejmaaW.PrintLast Go.Proofs.YtpmmiabcfnejmaaW.PrintMore
attribute [local go_sem] max2_int min2_int max_two min_two max_three min_three max_four min_four   -- for this text's walks alone
set_option linter.unusedVariables false
set_option linter.unusedSimpArgs false
def triremelaw03_QuantZeros.j0 : Nat → ByteArray → Bool → Option (Bool)
  | 0, _, _ => none
  | k + 1, x0, x32 => if x32 = true then ((triremelaw03_known.f k).bind fun t215 => (some t215)) else ((quant_Number.f k x0).bind fun bt216 => (if 1 + x0.size ≤ 9223372036854775807 then ((quant_Number.f k ((⟨#[48]⟩ : ByteArray) ++ x0)).bind fun bt218 => ((quant_Parse.f k x0).bind fun bt220 => ((quant_Parse.f k ((⟨#[48]⟩ : ByteArray) ++ x0)).bind fun bt222 => ((quant_Milli.f k x0).bind fun bt224 => (if 2 + x0.size ≤ 9223372036854775807 then ((quant_Milli.f k ((⟨#[48, 48]⟩ : ByteArray) ++ x0)).bind fun bt226 => (if bt216.1 = bt218.1 then (if bt216.2 = bt218.2 then (if bt220.1 = bt222.1 then (if bt220.2 = bt222.2 then (if bt224.1 = bt226.1 then (if bt224.2 = bt226.2 then ((triremelaw03_known.f k).bind fun t228 => (some t228)) else (some false)) else (some false)) else (some false)) else (some false)) else (some false)) else (some false))) else (none)))))) else (none)))
def triremelaw03_QuantZeros.f (k : Nat) (a0 : ByteArray) : Option (Bool) := if (a0.size : Int) > 300 then (triremelaw03_QuantZeros.j0 k a0 true) else (if (a0.size : Int) = 0 then (triremelaw03_QuantZeros.j0 k a0 true) else (if 0 < (a0.size : Int) then (if (bt a0 0) < 48 then (triremelaw03_QuantZeros.j0 k a0 true) else (triremelaw03_QuantZeros.j0 k a0 (decide ((bt a0 0) > 57)))) else (none)))
theorem triremelaw03_QuantZeros.mono_l : ∀ k, (∀ y0 y1, LeO (triremelaw03_QuantZeros.j0 k y0 y1) (triremelaw03_QuantZeros.j0 (k + 1) y0 y1))
  | 0 => fun _ _ r h => by simp [triremelaw03_QuantZeros.j0] at h
  | k + 1 => by
    have ih0 := triremelaw03_QuantZeros.mono_l k
    · intro y0 y1
      unfold triremelaw03_QuantZeros.j0
      repeat' first
      | (with_reducible exact ih0 _ _)
      | (with_reducible exact quant_Milli.mono _ _)
      | (with_reducible exact quant_Number.mono _ _)
      | (with_reducible exact quant_Parse.mono _ _)
      | (with_reducible exact triremelaw03_known.mono _)
      | (with_reducible exact LeO.refl _)
      | (with_reducible exact LeO.none _)
      | (with_reducible refine LeO.ite ?_ ?_)
      | (with_reducible refine LeO.bind ?_ (fun _ => ?_))
      | exact ih0 _ _
      | exact quant_Milli.mono _ _
      | exact quant_Number.mono _ _
      | exact quant_Parse.mono _ _
      | exact triremelaw03_known.mono _
      | exact LeO.none _
      | refine LeO.ite ?_ ?_
      | refine LeO.bind ?_ (fun _ => ?_)
theorem triremelaw03_QuantZeros.mono : ∀ a0 k, LeO (triremelaw03_QuantZeros.f k a0) (triremelaw03_QuantZeros.f (k + 1) a0) := by
  intro a0 k
  have ih0 := triremelaw03_QuantZeros.mono_l k
  unfold triremelaw03_QuantZeros.f
  repeat' first
      | (with_reducible exact ih0 _ _)
      | (with_reducible exact quant_Milli.mono _ _)
      | (with_reducible exact quant_Number.mono _ _)
      | (with_reducible exact quant_Parse.mono _ _)
      | (with_reducible exact triremelaw03_known.mono _)
      | (with_reducible exact LeO.refl _)
      | (with_reducible exact LeO.none _)
      | (with_reducible refine LeO.ite ?_ ?_)
      | (with_reducible refine LeO.bind ?_ (fun _ => ?_))
      | exact ih0 _ _
      | exact quant_Milli.mono _ _
      | exact quant_Number.mono _ _
      | exact quant_Parse.mono _ _
      | exact triremelaw03_known.mono _
      | exact LeO.none _
      | refine LeO.ite ?_ ?_
      | refine LeO.bind ?_ (fun _ => ?_)
set_option maxHeartbeats 8000000 in
set_option maxRecDepth 100000 in
theorem triremelaw03_QuantZeros.calls (k : Nat) (a0 : ByteArray) (r : Bool) (w : World) (h : triremelaw03_QuantZeros.f k a0 = some r) :
    Calls Try.prog 7 #[.string a0] w fun e w' => e = .returned (.bool r) ∧ Below w.heap.size w w' := by
  have HB := Aside0.mk (Below.refl w.heap.size w)
  have H : (if (a0.size : Int) > 300 then (triremelaw03_QuantZeros.j0 k a0 true) else (if (a0.size : Int) = 0 then (triremelaw03_QuantZeros.j0 k a0 true) else (if 0 < (a0.size : Int) then (if (bt a0 0) < 48 then (triremelaw03_QuantZeros.j0 k a0 true) else (triremelaw03_QuantZeros.j0 k a0 (decide ((bt a0 0) > 57)))) else (none)))) = some r := h
  clear h
  have HC2 := Aside0.mk H
  clear H
  go_enter Try.func7, Try.ntmps7
  go_upto_region 1 with (fail)
  go_cut [32] (fun v32 wc => ∃ (kq : Nat) (x32_1 : Bool), v32 = .bool x32_1 ∧ Aside0 (triremelaw03_QuantZeros.j0 kq a0 x32_1 = some r) ∧ Aside0 (kq ≤ k) ∧ Aside0 (Below w.heap.size w wc))
  case first =>
    have H := HC2.out
    clear HC2
    by_cases c3 : (a0.size : Int) > 300
    · rw [if_pos c3] at H
      have c3b0 : decide (300 < (a0.size : Int)) = true := decide_eq_true c3
      have c3b1 : decide (300 < a0.size) = true := decide_eq_true (by omega)
      clear c3
      (first | rw [c3b0] | (simp only [i64_w, i32_w]; rw [c3b0]) | skip)
      have H' := Aside0.mk H
      clear H
      go_wp2
      go_meet
      case rel => exact ⟨_, (true), (by first | rfl | (simp; done) | (simp [*]; done)), H', ⟨by first | omega | exact Nat.le_refl _⟩, ⟨by repeat (first | (with_reducible first | exact HB.out | apply below_alloc | apply pw_below_drewN | apply below_drew1) | exact HB.out)⟩⟩
    · rw [if_neg c3] at H
      have c3b0 : decide (300 < (a0.size : Int)) = false := decide_eq_false c3
      have c3b1 : decide (300 < a0.size) = false := decide_eq_false (by omega)
      clear c3
      (first | rw [c3b0] | (simp only [i64_w, i32_w]; rw [c3b0]) | skip)
      by_cases c4 : (a0.size : Int) = 0
      · rw [if_pos c4] at H
        have c4b0 : ((a0.size : Int) == 0) = true := beq_iff_eq.mpr c4
        have c4b1 : ((a0.size : Int) != 0) = false := bne_eq_false_iff_eq.mpr c4
        clear c4
        have H' := Aside0.mk H
        clear H
        go_wp2
        go_meet
        case rel => exact ⟨_, (true), (by first | rfl | (simp; done) | (simp [*]; done)), H', ⟨by first | omega | exact Nat.le_refl _⟩, ⟨by repeat (first | (with_reducible first | exact HB.out | apply below_alloc | apply pw_below_drewN | apply below_drew1) | exact HB.out)⟩⟩
      · rw [if_neg c4] at H
        have c4b0 : ((a0.size : Int) == 0) = false := beq_eq_false_iff_ne.mpr c4
        have c4b1 : ((a0.size : Int) != 0) = true := bne_iff_ne.mpr c4
        by_cases c5 : 0 < (a0.size : Int)
        · rw [if_pos c5] at H
          have c5b0 : decide (0 < (a0.size : Int)) = true := decide_eq_true c5
          have c5b1 : decide (0 < a0.size) = true := decide_eq_true (by omega)
          clear c5
          by_cases c7 : (bt a0 0) < 48
          · rw [if_pos c7] at H
            have c7b0 : decide ((bt a0 0) < 48) = true := decide_eq_true c7
            clear c7
            have H' := Aside0.mk H
            clear H
            have p6 : 0 ≤ (0 : Int) := (by omega)
            have q6 : 0 < a0.size := (by have : (0 : Int) < (a0.size : Int) := of_decide_eq_true (by first | (with_reducible assumption) | assumption); omega)
            have hx6 : ∀ h : 0 < a0.size, ((a0[0]'h).toNat : Int) = bt a0 0 := bt_at a0 0
            clear p6
            have qi6 : (0 < (a0.size : Int)) = True := eq_true (of_decide_eq_true (by first | (with_reducible assumption) | assumption))
            replace q6 := eq_true q6
            (try (have qz6 := q6; rw [ByteArray.size_extract, Nat.min_self] at qz6))
            go_wp2
            go_meet
            case rel => exact ⟨_, (true), (by first | rfl | (simp; done) | (simp [*]; done)), H', ⟨by first | omega | exact Nat.le_refl _⟩, ⟨by repeat (first | (with_reducible first | exact HB.out | apply below_alloc | apply pw_below_drewN | apply below_drew1) | exact HB.out)⟩⟩
          · rw [if_neg c7] at H
            have c7b0 : decide ((bt a0 0) < 48) = false := decide_eq_false c7
            clear c7
            have H' := Aside0.mk H
            clear H
            have p6 : 0 ≤ (0 : Int) := (by omega)
            have q6 : 0 < a0.size := (by have : (0 : Int) < (a0.size : Int) := of_decide_eq_true (by first | (with_reducible assumption) | assumption); omega)
            have hx6 : ∀ h : 0 < a0.size, ((a0[0]'h).toNat : Int) = bt a0 0 := bt_at a0 0
            clear p6
            have qi6 : (0 < (a0.size : Int)) = True := eq_true (of_decide_eq_true (by first | (with_reducible assumption) | assumption))
            replace q6 := eq_true q6
            (try (have qz6 := q6; rw [ByteArray.size_extract, Nat.min_self] at qz6))
            have p8 : 0 ≤ (0 : Int) := (by omega)
            have q8 : 0 < a0.size := (by have : (0 : Int) < (a0.size : Int) := of_decide_eq_true (by first | (with_reducible assumption) | assumption); omega)
            have hx8 : ∀ h : 0 < a0.size, ((a0[0]'h).toNat : Int) = bt a0 0 := bt_at a0 0
            clear p8
            have qi8 : (0 < (a0.size : Int)) = True := eq_true (of_decide_eq_true (by first | (with_reducible assumption) | assumption))
            replace q8 := eq_true q8
            (try (have qz8 := q8; rw [ByteArray.size_extract, Nat.min_self] at qz8))
            go_wp2
            go_meet
            case rel => exact ⟨_, (decide ((bt a0 0) > 57)), (by first | rfl | (simp; done) | (simp [*]; done)), H', ⟨by first | omega | exact Nat.le_refl _⟩, ⟨by repeat (first | (with_reducible first | exact HB.out | apply below_alloc | apply pw_below_drewN | apply below_drew1) | exact HB.out)⟩⟩
        · rw [if_neg c5] at H
          exact absurd H (by simp)
  case rest =>
    clear HC2
    try clear p2
    try clear c3
    try clear c3b0
    try clear c3b1
    try clear c4
    try clear c4b0
    try clear c4b1
    try clear c5
    try clear c5b0
    try clear c5b1
    try clear p6
    try clear q6
    try clear hx6
    try clear qi6
    try clear c7
    try clear c7b0
    try clear p8
    try clear q8
    try clear hx8
    try clear qi8
    try clear p6
    try clear p8
    try clear q6
    try clear q8
    obtain ⟨kq, x32_1, rfl, HA, HJ1, HB⟩ := hcut
    cases kq with
    | zero => exact absurd HA.out (by simp [triremelaw03_QuantZeros.j0])
    | succ kj1 =>
      have H := HA.out
      clear HA
      simp only [triremelaw03_QuantZeros.j0] at H
      by_cases c9 : x32_1 = true
      · subst c9
        have H1 : ((triremelaw03_known.f kj1).bind fun t215 => (some t215)) = some r := by rw [if_pos rfl] at H; exact H
        clear H
        have H := H1
        clear H1
        replace H := Option.bind_eq_some_iff.mp H
        obtain ⟨t215, A100, H⟩ := H
        replace H : (some t215) = some r := H
        have A10 := Aside0.mk A100
        clear A100
        obtain rfl := Option.some.inj H
        go_wp2_with (first | ((first | ((with_reducible refine gate_callee (f := 8) rfl ?_); refine goesL_ (some 33) rfl rfl Try.func8 (by kernel_rfl) rfl #[] rfl (by (try simp only [List.map_toArray, List.map_cons, List.map_nil]); first | done | rfl | (simp only [List.length_drop, List.length_take]; rfl)) ?_; (with_reducible refine (triremelaw03_known.calls kj1  t215 _ A10.out).mono ?_); rintro e w11 ⟨rfl, hb⟩; refine ⟨_, rfl, ?_⟩) | (go_at_call 8; (with_reducible refine (triremelaw03_known.calls kj1  t215 _ A10.out).mono ?_); rintro e w11 ⟨rfl, hb⟩)); have n0_ := Aside0.mk (below_step (by repeat (first | (with_reducible first | exact HB.out | apply below_alloc | apply pw_below_drewN | apply below_drew1) | exact HB.out)) hb); clear HB; have HB := n0_; clear n0_; (try clear hb); (try clear hb2); (try clear hk); (try clear hi)))
        go_ret
        exact ⟨by first | rfl | (simp [errW_none, errW_some] <;> rfl) | (simp [*, errW_none, errW_some] <;> rfl), by repeat (first | (with_reducible first | exact HB.out | apply below_alloc | apply pw_below_drewN | apply below_drew1) | exact HB.out)⟩
      · replace c9 := Bool.eq_false_iff.mpr c9
        subst c9
        have H1 : ((quant_Number.f kj1 a0).bind fun bt216 => (if 1 + a0.size ≤ 9223372036854775807 then ((quant_Number.f kj1 ((⟨#[48]⟩ : ByteArray) ++ a0)).bind fun bt218 => ((quant_Parse.f kj1 a0).bind fun bt220 => ((quant_Parse.f kj1 ((⟨#[48]⟩ : ByteArray) ++ a0)).bind fun bt222 => ((quant_Milli.f kj1 a0).bind fun bt224 => (if 2 + a0.size ≤ 9223372036854775807 then ((quant_Milli.f kj1 ((⟨#[48, 48]⟩ : ByteArray) ++ a0)).bind fun bt226 => (if bt216.1 = bt218.1 then (if bt216.2 = bt218.2 then (if bt220.1 = bt222.1 then (if bt220.2 = bt222.2 then (if bt224.1 = bt226.1 then (if bt224.2 = bt226.2 then ((triremelaw03_known.f kj1).bind fun t228 => (some t228)) else (some false)) else (some false)) else (some false)) else (some false)) else (some false)) else (some false))) else (none)))))) else (none))) = some r := by rw [if_neg (show ¬ (false = true) by decide)] at H; exact H
        clear H
        have H := H1
        clear H1
        replace H := Option.bind_eq_some_iff.mp H
        obtain ⟨⟨t216, t217⟩, A120, H⟩ := H
        replace H : (if 1 + a0.size ≤ 9223372036854775807 then ((quant_Number.f kj1 ((⟨#[48]⟩ : ByteArray) ++ a0)).bind fun bt218 => ((quant_Parse.f kj1 a0).bind fun bt220 => ((quant_Parse.f kj1 ((⟨#[48]⟩ : ByteArray) ++ a0)).bind fun bt222 => ((quant_Milli.f kj1 a0).bind fun bt224 => (if 2 + a0.size ≤ 9223372036854775807 then ((quant_Milli.f kj1 ((⟨#[48, 48]⟩ : ByteArray) ++ a0)).bind fun bt226 => (if t216 = bt218.1 then (if t217 = bt218.2 then (if bt220.1 = bt222.1 then (if bt220.2 = bt222.2 then (if bt224.1 = bt226.1 then (if bt224.2 = bt226.2 then ((triremelaw03_known.f kj1).bind fun t228 => (some t228)) else (some false)) else (some false)) else (some false)) else (some false)) else (some false)) else (some false))) else (none)))))) else (none)) = some r := H
        have A12 := Aside0.mk A120
        clear A120
        by_cases c13 : 1 + a0.size ≤ 9223372036854775807
        · rw [if_pos c13] at H
          have c13b0 := eq_true c13
          (try (have c13z := c13b0; rw [ByteArray.size_extract, Nat.min_self] at c13z))
          have c13b1 : decide (1 + a0.size ≤ 9223372036854775807) = true := decide_eq_true c13
          try have c13b2 : (9223372036854775807 < 1 + a0.size) = False := eq_false (Nat.not_lt.2 c13)
          replace H := Option.bind_eq_some_iff.mp H
          obtain ⟨⟨t218, t219⟩, A140, H⟩ := H
          replace H : ((quant_Parse.f kj1 a0).bind fun bt220 => ((quant_Parse.f kj1 ((⟨#[48]⟩ : ByteArray) ++ a0)).bind fun bt222 => ((quant_Milli.f kj1 a0).bind fun bt224 => (if 2 + a0.size ≤ 9223372036854775807 then ((quant_Milli.f kj1 ((⟨#[48, 48]⟩ : ByteArray) ++ a0)).bind fun bt226 => (if t216 = t218 then (if t217 = t219 then (if bt220.1 = bt222.1 then (if bt220.2 = bt222.2 then (if bt224.1 = bt226.1 then (if bt224.2 = bt226.2 then ((triremelaw03_known.f kj1).bind fun t228 => (some t228)) else (some false)) else (some false)) else (some false)) else (some false)) else (some false)) else (some false))) else (none))))) = some r := H
          have A14 := Aside0.mk A140
          clear A140
          replace H := Option.bind_eq_some_iff.mp H
          obtain ⟨⟨t220, t221⟩, A150, H⟩ := H
          replace H : ((quant_Parse.f kj1 ((⟨#[48]⟩ : ByteArray) ++ a0)).bind fun bt222 => ((quant_Milli.f kj1 a0).bind fun bt224 => (if 2 + a0.size ≤ 9223372036854775807 then ((quant_Milli.f kj1 ((⟨#[48, 48]⟩ : ByteArray) ++ a0)).bind fun bt226 => (if t216 = t218 then (if t217 = t219 then (if t220 = bt222.1 then (if t221 = bt222.2 then (if bt224.1 = bt226.1 then (if bt224.2 = bt226.2 then ((triremelaw03_known.f kj1).bind fun t228 => (some t228)) else (some false)) else (some false)) else (some false)) else (some false)) else (some false)) else (some false))) else (none)))) = some r := H
          have A15 := Aside0.mk A150
          clear A150
          replace H := Option.bind_eq_some_iff.mp H
          obtain ⟨⟨t222, t223⟩, A160, H⟩ := H
          replace H : ((quant_Milli.f kj1 a0).bind fun bt224 => (if 2 + a0.size ≤ 9223372036854775807 then ((quant_Milli.f kj1 ((⟨#[48, 48]⟩ : ByteArray) ++ a0)).bind fun bt226 => (if t216 = t218 then (if t217 = t219 then (if t220 = t222 then (if t221 = t223 then (if bt224.1 = bt226.1 then (if bt224.2 = bt226.2 then ((triremelaw03_known.f kj1).bind fun t228 => (some t228)) else (some false)) else (some false)) else (some false)) else (some false)) else (some false)) else (some false))) else (none))) = some r := H
          have A16 := Aside0.mk A160
          clear A160
          replace H := Option.bind_eq_some_iff.mp H
          obtain ⟨⟨t224, t225⟩, A170, H⟩ := H
          replace H : (if 2 + a0.size ≤ 9223372036854775807 then ((quant_Milli.f kj1 ((⟨#[48, 48]⟩ : ByteArray) ++ a0)).bind fun bt226 => (if t216 = t218 then (if t217 = t219 then (if t220 = t222 then (if t221 = t223 then (if t224 = bt226.1 then (if t225 = bt226.2 then ((triremelaw03_known.f kj1).bind fun t228 => (some t228)) else (some false)) else (some false)) else (some false)) else (some false)) else (some false)) else (some false))) else (none)) = some r := H
          have A17 := Aside0.mk A170
          clear A170
          by_cases c18 : 2 + a0.size ≤ 9223372036854775807
          · rw [if_pos c18] at H
            have c18b0 := eq_true c18
            (try (have c18z := c18b0; rw [ByteArray.size_extract, Nat.min_self] at c18z))
            have c18b1 : decide (2 + a0.size ≤ 9223372036854775807) = true := decide_eq_true c18
            try have c18b2 : (9223372036854775807 < 2 + a0.size) = False := eq_false (Nat.not_lt.2 c18)
            replace H := Option.bind_eq_some_iff.mp H
            obtain ⟨⟨t226, t227⟩, A190, H⟩ := H
            replace H : (if t216 = t218 then (if t217 = t219 then (if t220 = t222 then (if t221 = t223 then (if t224 = t226 then (if t225 = t227 then ((triremelaw03_known.f kj1).bind fun t228 => (some t228)) else (some false)) else (some false)) else (some false)) else (some false)) else (some false)) else (some false)) = some r := H
            have A19 := Aside0.mk A190
            clear A190
            by_cases c20 : t216 = t218
            · rw [if_pos c20] at H
              have c20b0 : (t216 == t218) = true := beq_iff_eq.mpr c20
              have c20b1 : (t216 != t218) = false := bne_eq_false_iff_eq.mpr c20
              clear c20
              by_cases c21 : t217 = t219
              · rw [if_pos c21] at H
                have c21b0 : (t217 == t219) = true := beq_iff_eq.mpr c21
                have c21b1 : (t217 != t219) = false := bne_eq_false_iff_eq.mpr c21
                clear c21
                by_cases c22 : t220 = t222
                · rw [if_pos c22] at H
                  have c22b0 : (t220 == t222) = true := beq_iff_eq.mpr c22
                  have c22b1 : (t220 != t222) = false := bne_eq_false_iff_eq.mpr c22
                  clear c22
                  by_cases c23 : t221 = t223
                  · rw [if_pos c23] at H
                    have c23b0 : (t221 == t223) = true := beq_iff_eq.mpr c23
                    have c23b1 : (t221 != t223) = false := bne_eq_false_iff_eq.mpr c23
                    clear c23
                    by_cases c24 : t224 = t226
                    · rw [if_pos c24] at H
                      have c24b0 : (t224 == t226) = true := beq_iff_eq.mpr c24
                      have c24b1 : (t224 != t226) = false := bne_eq_false_iff_eq.mpr c24
                      clear c24
                      by_cases c25 : t225 = t227
                      · rw [if_pos c25] at H
                        have c25b0 : (t225 == t227) = true := beq_iff_eq.mpr c25
                        have c25b1 : (t225 != t227) = false := bne_eq_false_iff_eq.mpr c25
                        clear c25
                        replace H := Option.bind_eq_some_iff.mp H
                        obtain ⟨t228, A260, H⟩ := H
                        replace H : (some t228) = some r := H
                        have A26 := Aside0.mk A260
                        clear A260
                        obtain rfl := Option.some.inj H
                        go_wp2_with (first | ((first | ((with_reducible refine gate_callee (f := 13) rfl ?_); refine goesL_ (some 36) rfl rfl Try.func13 (by kernel_rfl) rfl #[.string a0] rfl (by (try simp only [List.map_toArray, List.map_cons, List.map_nil]); first | done | rfl | (simp only [List.length_drop, List.length_take]; rfl)) ?_; (with_reducible refine (quant_Number.calls kj1 a0 t216 t217 _ A12.out).mono ?_); rintro e w' ⟨rfl, ⟨nd, rfl⟩⟩; refine ⟨_, rfl, ?_⟩) | (go_at_call 13; (with_reducible refine (quant_Number.calls kj1 a0 t216 t217 _ A12.out).mono ?_); rintro e w' ⟨rfl, ⟨nd, rfl⟩⟩))) | ((first | ((with_reducible refine gate_callee (f := 13) rfl ?_); refine goesL_ (some 42) rfl rfl Try.func13 (by kernel_rfl) rfl #[.string ((⟨#[48]⟩ : ByteArray) ++ a0)] rfl (by (try simp only [List.map_toArray, List.map_cons, List.map_nil]); first | done | rfl | (simp only [List.length_drop, List.length_take]; rfl)) ?_; (with_reducible refine (quant_Number.calls kj1 ((⟨#[48]⟩ : ByteArray) ++ a0) t218 t219 _ A14.out).mono ?_); rintro e w' ⟨rfl, ⟨nd, rfl⟩⟩; refine ⟨_, rfl, ?_⟩) | (go_at_call 13; (with_reducible refine (quant_Number.calls kj1 ((⟨#[48]⟩ : ByteArray) ++ a0) t218 t219 _ A14.out).mono ?_); rintro e w' ⟨rfl, ⟨nd, rfl⟩⟩))) | ((first | ((with_reducible refine gate_callee (f := 9) rfl ?_); refine goesL_ (some 47) rfl rfl Try.func9 (by kernel_rfl) rfl #[.string a0] rfl (by (try simp only [List.map_toArray, List.map_cons, List.map_nil]); first | done | rfl | (simp only [List.length_drop, List.length_take]; rfl)) ?_; (with_reducible refine (quant_Parse.calls kj1 a0 t220 t221 _ A15.out).mono ?_); rintro e w27 ⟨rfl, hb⟩; refine ⟨_, rfl, ?_⟩) | (go_at_call 9; (with_reducible refine (quant_Parse.calls kj1 a0 t220 t221 _ A15.out).mono ?_); rintro e w27 ⟨rfl, hb⟩)); have n0_ := Aside0.mk (below_step (by repeat (first | (with_reducible first | exact HB.out | apply below_alloc | apply pw_below_drewN | apply below_drew1) | exact HB.out)) hb); clear HB; have HB := n0_; clear n0_; (try clear hb); (try clear hb2); (try clear hk); (try clear hi)) | ((first | ((with_reducible refine gate_callee (f := 9) rfl ?_); refine goesL_ (some 53) rfl rfl Try.func9 (by kernel_rfl) rfl #[.string ((⟨#[48]⟩ : ByteArray) ++ a0)] rfl (by (try simp only [List.map_toArray, List.map_cons, List.map_nil]); first | done | rfl | (simp only [List.length_drop, List.length_take]; rfl)) ?_; (with_reducible refine (quant_Parse.calls kj1 ((⟨#[48]⟩ : ByteArray) ++ a0) t222 t223 _ A16.out).mono ?_); rintro e w28 ⟨rfl, hb⟩; refine ⟨_, rfl, ?_⟩) | (go_at_call 9; (with_reducible refine (quant_Parse.calls kj1 ((⟨#[48]⟩ : ByteArray) ++ a0) t222 t223 _ A16.out).mono ?_); rintro e w28 ⟨rfl, hb⟩)); have n0_ := Aside0.mk (below_step (by repeat (first | (with_reducible first | exact HB.out | apply below_alloc | apply pw_below_drewN | apply below_drew1) | exact HB.out)) hb); clear HB; have HB := n0_; clear n0_; (try clear hb); (try clear hb2); (try clear hk); (try clear hi)) | ((first | ((with_reducible refine gate_callee (f := 11) rfl ?_); refine goesL_ (some 58) rfl rfl Try.func11 (by kernel_rfl) rfl #[.string a0] rfl (by (try simp only [List.map_toArray, List.map_cons, List.map_nil]); first | done | rfl | (simp only [List.length_drop, List.length_take]; rfl)) ?_; (with_reducible refine (quant_Milli.calls kj1 a0 t224 t225 _ A17.out).mono ?_); rintro e w29 ⟨rfl, hb⟩; refine ⟨_, rfl, ?_⟩) | (go_at_call 11; (with_reducible refine (quant_Milli.calls kj1 a0 t224 t225 _ A17.out).mono ?_); rintro e w29 ⟨rfl, hb⟩)); have n0_ := Aside0.mk (below_step (by repeat (first | (with_reducible first | exact HB.out | apply below_alloc | apply pw_below_drewN | apply below_drew1) | exact HB.out)) hb); clear HB; have HB := n0_; clear n0_; (try clear hb); (try clear hb2); (try clear hk); (try clear hi)) | ((first | ((with_reducible refine gate_callee (f := 11) rfl ?_); refine goesL_ (some 64) rfl rfl Try.func11 (by kernel_rfl) rfl #[.string ((⟨#[48, 48]⟩ : ByteArray) ++ a0)] rfl (by (try simp only [List.map_toArray, List.map_cons, List.map_nil]); first | done | rfl | (simp only [List.length_drop, List.length_take]; rfl)) ?_; (with_reducible refine (quant_Milli.calls kj1 ((⟨#[48, 48]⟩ : ByteArray) ++ a0) t226 t227 _ A19.out).mono ?_); rintro e w30 ⟨rfl, hb⟩; refine ⟨_, rfl, ?_⟩) | (go_at_call 11; (with_reducible refine (quant_Milli.calls kj1 ((⟨#[48, 48]⟩ : ByteArray) ++ a0) t226 t227 _ A19.out).mono ?_); rintro e w30 ⟨rfl, hb⟩)); have n0_ := Aside0.mk (below_step (by repeat (first | (with_reducible first | exact HB.out | apply below_alloc | apply pw_below_drewN | apply below_drew1) | exact HB.out)) hb); clear HB; have HB := n0_; clear n0_; (try clear hb); (try clear hb2); (try clear hk); (try clear hi)) | (go_at_call 8; (with_reducible refine (triremelaw03_known.calls kj1  t228 _ A26.out).mono ?_); rintro e w31 ⟨rfl, hb⟩; have n0_ := Aside0.mk (below_step (by repeat (first | (with_reducible first | exact HB.out | apply below_alloc | apply pw_below_drewN | apply below_drew1) | exact HB.out)) hb); clear HB; have HB := n0_; clear n0_; (try clear hb); (try clear hb2); (try clear hk); (try clear hi)))
                        go_ret
                        exact ⟨by first | rfl | (simp [errW_none, errW_some] <;> rfl) | (simp [*, errW_none, errW_some] <;> rfl), by repeat (first | (with_reducible first | exact HB.out | apply below_alloc | apply pw_below_drewN | apply below_drew1) | exact HB.out)⟩
                      · rw [if_neg c25] at H
                        have c25b0 : (t225 == t227) = false := beq_eq_false_iff_ne.mpr c25
                        have c25b1 : (t225 != t227) = true := bne_iff_ne.mpr c25
                        obtain rfl := Option.some.inj H
                        go_wp2_with (first | ((first | ((with_reducible refine gate_callee (f := 13) rfl ?_); refine goesL_ (some 36) rfl rfl Try.func13 (by kernel_rfl) rfl #[.string a0] rfl (by (try simp only [List.map_toArray, List.map_cons, List.map_nil]); first | done | rfl | (simp only [List.length_drop, List.length_take]; rfl)) ?_; (with_reducible refine (quant_Number.calls kj1 a0 t216 t217 _ A12.out).mono ?_); rintro e w' ⟨rfl, ⟨nd, rfl⟩⟩; refine ⟨_, rfl, ?_⟩) | (go_at_call 13; (with_reducible refine (quant_Number.calls kj1 a0 t216 t217 _ A12.out).mono ?_); rintro e w' ⟨rfl, ⟨nd, rfl⟩⟩))) | ((first | ((with_reducible refine gate_callee (f := 13) rfl ?_); refine goesL_ (some 42) rfl rfl Try.func13 (by kernel_rfl) rfl #[.string ((⟨#[48]⟩ : ByteArray) ++ a0)] rfl (by (try simp only [List.map_toArray, List.map_cons, List.map_nil]); first | done | rfl | (simp only [List.length_drop, List.length_take]; rfl)) ?_; (with_reducible refine (quant_Number.calls kj1 ((⟨#[48]⟩ : ByteArray) ++ a0) t218 t219 _ A14.out).mono ?_); rintro e w' ⟨rfl, ⟨nd, rfl⟩⟩; refine ⟨_, rfl, ?_⟩) | (go_at_call 13; (with_reducible refine (quant_Number.calls kj1 ((⟨#[48]⟩ : ByteArray) ++ a0) t218 t219 _ A14.out).mono ?_); rintro e w' ⟨rfl, ⟨nd, rfl⟩⟩))) | ((first | ((with_reducible refine gate_callee (f := 9) rfl ?_); refine goesL_ (some 47) rfl rfl Try.func9 (by kernel_rfl) rfl #[.string a0] rfl (by (try simp only [List.map_toArray, List.map_cons, List.map_nil]); first | done | rfl | (simp only [List.length_drop, List.length_take]; rfl)) ?_; (with_reducible refine (quant_Parse.calls kj1 a0 t220 t221 _ A15.out).mono ?_); rintro e w32 ⟨rfl, hb⟩; refine ⟨_, rfl, ?_⟩) | (go_at_call 9; (with_reducible refine (quant_Parse.calls kj1 a0 t220 t221 _ A15.out).mono ?_); rintro e w32 ⟨rfl, hb⟩)); have n0_ := Aside0.mk (below_step (by repeat (first | (with_reducible first | exact HB.out | apply below_alloc | apply pw_below_drewN | apply below_drew1) | exact HB.out)) hb); clear HB; have HB := n0_; clear n0_; (try clear hb); (try clear hb2); (try clear hk); (try clear hi)) | ((first | ((with_reducible refine gate_callee (f := 9) rfl ?_); refine goesL_ (some 53) rfl rfl Try.func9 (by kernel_rfl) rfl #[.string ((⟨#[48]⟩ : ByteArray) ++ a0)] rfl (by (try simp only [List.map_toArray, List.map_cons, List.map_nil]); first | done | rfl | (simp only [List.length_drop, List.length_take]; rfl)) ?_; (with_reducible refine (quant_Parse.calls kj1 ((⟨#[48]⟩ : ByteArray) ++ a0) t222 t223 _ A16.out).mono ?_); rintro e w33 ⟨rfl, hb⟩; refine ⟨_, rfl, ?_⟩) | (go_at_call 9; (with_reducible refine (quant_Parse.calls kj1 ((⟨#[48]⟩ : ByteArray) ++ a0) t222 t223 _ A16.out).mono ?_); rintro e w33 ⟨rfl, hb⟩)); have n0_ := Aside0.mk (below_step (by repeat (first | (with_reducible first | exact HB.out | apply below_alloc | apply pw_below_drewN | apply below_drew1) | exact HB.out)) hb); clear HB; have HB := n0_; clear n0_; (try clear hb); (try clear hb2); (try clear hk); (try clear hi)) | ((first | ((with_reducible refine gate_callee (f := 11) rfl ?_); refine goesL_ (some 58) rfl rfl Try.func11 (by kernel_rfl) rfl #[.string a0] rfl (by (try simp only [List.map_toArray, List.map_cons, List.map_nil]); first | done | rfl | (simp only [List.length_drop, List.length_take]; rfl)) ?_; (with_reducible refine (quant_Milli.calls kj1 a0 t224 t225 _ A17.out).mono ?_); rintro e w34 ⟨rfl, hb⟩; refine ⟨_, rfl, ?_⟩) | (go_at_call 11; (with_reducible refine (quant_Milli.calls kj1 a0 t224 t225 _ A17.out).mono ?_); rintro e w34 ⟨rfl, hb⟩)); have n0_ := Aside0.mk (below_step (by repeat (first | (with_reducible first | exact HB.out | apply below_alloc | apply pw_below_drewN | apply below_drew1) | exact HB.out)) hb); clear HB; have HB := n0_; clear n0_; (try clear hb); (try clear hb2); (try clear hk); (try clear hi)) | ((first | ((with_reducible refine gate_callee (f := 11) rfl ?_); refine goesL_ (some 64) rfl rfl Try.func11 (by kernel_rfl) rfl #[.string ((⟨#[48, 48]⟩ : ByteArray) ++ a0)] rfl (by (try simp only [List.map_toArray, List.map_cons, List.map_nil]); first | done | rfl | (simp only [List.length_drop, List.length_take]; rfl)) ?_; (with_reducible refine (quant_Milli.calls kj1 ((⟨#[48, 48]⟩ : ByteArray) ++ a0) t226 t227 _ A19.out).mono ?_); rintro e w35 ⟨rfl, hb⟩; refine ⟨_, rfl, ?_⟩) | (go_at_call 11; (with_reducible refine (quant_Milli.calls kj1 ((⟨#[48, 48]⟩ : ByteArray) ++ a0) t226 t227 _ A19.out).mono ?_); rintro e w35 ⟨rfl, hb⟩)); have n0_ := Aside0.mk (below_step (by repeat (first | (with_reducible first | exact HB.out | apply below_alloc | apply pw_below_drewN | apply below_drew1) | exact HB.out)) hb); clear HB; have HB := n0_; clear n0_; (try clear hb); (try clear hb2); (try clear hk); (try clear hi)))
                        go_ret
                        exact ⟨by first | rfl | (simp [errW_none, errW_some] <;> rfl) | (simp [*, errW_none, errW_some] <;> rfl), by repeat (first | (with_reducible first | exact HB.out | apply below_alloc | apply pw_below_drewN | apply below_drew1) | exact HB.out)⟩
                    · rw [if_neg c24] at H
                      have c24b0 : (t224 == t226) = false := beq_eq_false_iff_ne.mpr c24
                      have c24b1 : (t224 != t226) = true := bne_iff_ne.mpr c24
                      obtain rfl := Option.some.inj H
                      go_wp2_with (first | ((first | ((with_reducible refine gate_callee (f := 13) rfl ?_); refine goesL_ (some 36) rfl rfl Try.func13 (by kernel_rfl) rfl #[.string a0] rfl (by (try simp only [List.map_toArray, List.map_cons, List.map_nil]); first | done | rfl | (simp only [List.length_drop, List.length_take]; rfl)) ?_; (with_reducible refine (quant_Number.calls kj1 a0 t216 t217 _ A12.out).mono ?_); rintro e w' ⟨rfl, ⟨nd, rfl⟩⟩; refine ⟨_, rfl, ?_⟩) | (go_at_call 13; (with_reducible refine (quant_Number.calls kj1 a0 t216 t217 _ A12.out).mono ?_); rintro e w' ⟨rfl, ⟨nd, rfl⟩⟩))) | ((first | ((with_reducible refine gate_callee (f := 13) rfl ?_); refine goesL_ (some 42) rfl rfl Try.func13 (by kernel_rfl) rfl #[.string ((⟨#[48]⟩ : ByteArray) ++ a0)] rfl (by (try simp only [List.map_toArray, List.map_cons, List.map_nil]); first | done | rfl | (simp only [List.length_drop, List.length_take]; rfl)) ?_; (with_reducible refine (quant_Number.calls kj1 ((⟨#[48]⟩ : ByteArray) ++ a0) t218 t219 _ A14.out).mono ?_); rintro e w' ⟨rfl, ⟨nd, rfl⟩⟩; refine ⟨_, rfl, ?_⟩) | (go_at_call 13; (with_reducible refine (quant_Number.calls kj1 ((⟨#[48]⟩ : ByteArray) ++ a0) t218 t219 _ A14.out).mono ?_); rintro e w' ⟨rfl, ⟨nd, rfl⟩⟩))) | ((first | ((with_reducible refine gate_callee (f := 9) rfl ?_); refine goesL_ (some 47) rfl rfl Try.func9 (by kernel_rfl) rfl #[.string a0] rfl (by (try simp only [List.map_toArray, List.map_cons, List.map_nil]); first | done | rfl | (simp only [List.length_drop, List.length_take]; rfl)) ?_; (with_reducible refine (quant_Parse.calls kj1 a0 t220 t221 _ A15.out).mono ?_); rintro e w36 ⟨rfl, hb⟩; refine ⟨_, rfl, ?_⟩) | (go_at_call 9; (with_reducible refine (quant_Parse.calls kj1 a0 t220 t221 _ A15.out).mono ?_); rintro e w36 ⟨rfl, hb⟩)); have n0_ := Aside0.mk (below_step (by repeat (first | (with_reducible first | exact HB.out | apply below_alloc | apply pw_below_drewN | apply below_drew1) | exact HB.out)) hb); clear HB; have HB := n0_; clear n0_; (try clear hb); (try clear hb2); (try clear hk); (try clear hi)) | ((first | ((with_reducible refine gate_callee (f := 9) rfl ?_); refine goesL_ (some 53) rfl rfl Try.func9 (by kernel_rfl) rfl #[.string ((⟨#[48]⟩ : ByteArray) ++ a0)] rfl (by (try simp only [List.map_toArray, List.map_cons, List.map_nil]); first | done | rfl | (simp only [List.length_drop, List.length_take]; rfl)) ?_; (with_reducible refine (quant_Parse.calls kj1 ((⟨#[48]⟩ : ByteArray) ++ a0) t222 t223 _ A16.out).mono ?_); rintro e w37 ⟨rfl, hb⟩; refine ⟨_, rfl, ?_⟩) | (go_at_call 9; (with_reducible refine (quant_Parse.calls kj1 ((⟨#[48]⟩ : ByteArray) ++ a0) t222 t223 _ A16.out).mono ?_); rintro e w37 ⟨rfl, hb⟩)); have n0_ := Aside0.mk (below_step (by repeat (first | (with_reducible first | exact HB.out | apply below_alloc | apply pw_below_drewN | apply below_drew1) | exact HB.out)) hb); clear HB; have HB := n0_; clear n0_; (try clear hb); (try clear hb2); (try clear hk); (try clear hi)) | ((first | ((with_reducible refine gate_callee (f := 11) rfl ?_); refine goesL_ (some 58) rfl rfl Try.func11 (by kernel_rfl) rfl #[.string a0] rfl (by (try simp only [List.map_toArray, List.map_cons, List.map_nil]); first | done | rfl | (simp only [List.length_drop, List.length_take]; rfl)) ?_; (with_reducible refine (quant_Milli.calls kj1 a0 t224 t225 _ A17.out).mono ?_); rintro e w38 ⟨rfl, hb⟩; refine ⟨_, rfl, ?_⟩) | (go_at_call 11; (with_reducible refine (quant_Milli.calls kj1 a0 t224 t225 _ A17.out).mono ?_); rintro e w38 ⟨rfl, hb⟩)); have n0_ := Aside0.mk (below_step (by repeat (first | (with_reducible first | exact HB.out | apply below_alloc | apply pw_below_drewN | apply below_drew1) | exact HB.out)) hb); clear HB; have HB := n0_; clear n0_; (try clear hb); (try clear hb2); (try clear hk); (try clear hi)) | ((first | ((with_reducible refine gate_callee (f := 11) rfl ?_); refine goesL_ (some 64) rfl rfl Try.func11 (by kernel_rfl) rfl #[.string ((⟨#[48, 48]⟩ : ByteArray) ++ a0)] rfl (by (try simp only [List.map_toArray, List.map_cons, List.map_nil]); first | done | rfl | (simp only [List.length_drop, List.length_take]; rfl)) ?_; (with_reducible refine (quant_Milli.calls kj1 ((⟨#[48, 48]⟩ : ByteArray) ++ a0) t226 t227 _ A19.out).mono ?_); rintro e w39 ⟨rfl, hb⟩; refine ⟨_, rfl, ?_⟩) | (go_at_call 11; (with_reducible refine (quant_Milli.calls kj1 ((⟨#[48, 48]⟩ : ByteArray) ++ a0) t226 t227 _ A19.out).mono ?_); rintro e w39 ⟨rfl, hb⟩)); have n0_ := Aside0.mk (below_step (by repeat (first | (with_reducible first | exact HB.out | apply below_alloc | apply pw_below_drewN | apply below_drew1) | exact HB.out)) hb); clear HB; have HB := n0_; clear n0_; (try clear hb); (try clear hb2); (try clear hk); (try clear hi)))
                      go_ret
                      exact ⟨by first | rfl | (simp [errW_none, errW_some] <;> rfl) | (simp [*, errW_none, errW_some] <;> rfl), by repeat (first | (with_reducible first | exact HB.out | apply below_alloc | apply pw_below_drewN | apply below_drew1) | exact HB.out)⟩
                  · rw [if_neg c23] at H
                    have c23b0 : (t221 == t223) = false := beq_eq_false_iff_ne.mpr c23
                    have c23b1 : (t221 != t223) = true := bne_iff_ne.mpr c23
                    obtain rfl := Option.some.inj H
                    go_wp2_with (first | ((first | ((with_reducible refine gate_callee (f := 13) rfl ?_); refine goesL_ (some 36) rfl rfl Try.func13 (by kernel_rfl) rfl #[.string a0] rfl (by (try simp only [List.map_toArray, List.map_cons, List.map_nil]); first | done | rfl | (simp only [List.length_drop, List.length_take]; rfl)) ?_; (with_reducible refine (quant_Number.calls kj1 a0 t216 t217 _ A12.out).mono ?_); rintro e w' ⟨rfl, ⟨nd, rfl⟩⟩; refine ⟨_, rfl, ?_⟩) | (go_at_call 13; (with_reducible refine (quant_Number.calls kj1 a0 t216 t217 _ A12.out).mono ?_); rintro e w' ⟨rfl, ⟨nd, rfl⟩⟩))) | ((first | ((with_reducible refine gate_callee (f := 13) rfl ?_); refine goesL_ (some 42) rfl rfl Try.func13 (by kernel_rfl) rfl #[.string ((⟨#[48]⟩ : ByteArray) ++ a0)] rfl (by (try simp only [List.map_toArray, List.map_cons, List.map_nil]); first | done | rfl | (simp only [List.length_drop, List.length_take]; rfl)) ?_; (with_reducible refine (quant_Number.calls kj1 ((⟨#[48]⟩ : ByteArray) ++ a0) t218 t219 _ A14.out).mono ?_); rintro e w' ⟨rfl, ⟨nd, rfl⟩⟩; refine ⟨_, rfl, ?_⟩) | (go_at_call 13; (with_reducible refine (quant_Number.calls kj1 ((⟨#[48]⟩ : ByteArray) ++ a0) t218 t219 _ A14.out).mono ?_); rintro e w' ⟨rfl, ⟨nd, rfl⟩⟩))) | ((first | ((with_reducible refine gate_callee (f := 9) rfl ?_); refine goesL_ (some 47) rfl rfl Try.func9 (by kernel_rfl) rfl #[.string a0] rfl (by (try simp only [List.map_toArray, List.map_cons, List.map_nil]); first | done | rfl | (simp only [List.length_drop, List.length_take]; rfl)) ?_; (with_reducible refine (quant_Parse.calls kj1 a0 t220 t221 _ A15.out).mono ?_); rintro e w40 ⟨rfl, hb⟩; refine ⟨_, rfl, ?_⟩) | (go_at_call 9; (with_reducible refine (quant_Parse.calls kj1 a0 t220 t221 _ A15.out).mono ?_); rintro e w40 ⟨rfl, hb⟩)); have n0_ := Aside0.mk (below_step (by repeat (first | (with_reducible first | exact HB.out | apply below_alloc | apply pw_below_drewN | apply below_drew1) | exact HB.out)) hb); clear HB; have HB := n0_; clear n0_; (try clear hb); (try clear hb2); (try clear hk); (try clear hi)) | ((first | ((with_reducible refine gate_callee (f := 9) rfl ?_); refine goesL_ (some 53) rfl rfl Try.func9 (by kernel_rfl) rfl #[.string ((⟨#[48]⟩ : ByteArray) ++ a0)] rfl (by (try simp only [List.map_toArray, List.map_cons, List.map_nil]); first | done | rfl | (simp only [List.length_drop, List.length_take]; rfl)) ?_; (with_reducible refine (quant_Parse.calls kj1 ((⟨#[48]⟩ : ByteArray) ++ a0) t222 t223 _ A16.out).mono ?_); rintro e w41 ⟨rfl, hb⟩; refine ⟨_, rfl, ?_⟩) | (go_at_call 9; (with_reducible refine (quant_Parse.calls kj1 ((⟨#[48]⟩ : ByteArray) ++ a0) t222 t223 _ A16.out).mono ?_); rintro e w41 ⟨rfl, hb⟩)); have n0_ := Aside0.mk (below_step (by repeat (first | (with_reducible first | exact HB.out | apply below_alloc | apply pw_below_drewN | apply below_drew1) | exact HB.out)) hb); clear HB; have HB := n0_; clear n0_; (try clear hb); (try clear hb2); (try clear hk); (try clear hi)) | ((first | ((with_reducible refine gate_callee (f := 11) rfl ?_); refine goesL_ (some 58) rfl rfl Try.func11 (by kernel_rfl) rfl #[.string a0] rfl (by (try simp only [List.map_toArray, List.map_cons, List.map_nil]); first | done | rfl | (simp only [List.length_drop, List.length_take]; rfl)) ?_; (with_reducible refine (quant_Milli.calls kj1 a0 t224 t225 _ A17.out).mono ?_); rintro e w42 ⟨rfl, hb⟩; refine ⟨_, rfl, ?_⟩) | (go_at_call 11; (with_reducible refine (quant_Milli.calls kj1 a0 t224 t225 _ A17.out).mono ?_); rintro e w42 ⟨rfl, hb⟩)); have n0_ := Aside0.mk (below_step (by repeat (first | (with_reducible first | exact HB.out | apply below_alloc | apply pw_below_drewN | apply below_drew1) | exact HB.out)) hb); clear HB; have HB := n0_; clear n0_; (try clear hb); (try clear hb2); (try clear hk); (try clear hi)) | ((first | ((with_reducible refine gate_callee (f := 11) rfl ?_); refine goesL_ (some 64) rfl rfl Try.func11 (by kernel_rfl) rfl #[.string ((⟨#[48, 48]⟩ : ByteArray) ++ a0)] rfl (by (try simp only [List.map_toArray, List.map_cons, List.map_nil]); first | done | rfl | (simp only [List.length_drop, List.length_take]; rfl)) ?_; (with_reducible refine (quant_Milli.calls kj1 ((⟨#[48, 48]⟩ : ByteArray) ++ a0) t226 t227 _ A19.out).mono ?_); rintro e w43 ⟨rfl, hb⟩; refine ⟨_, rfl, ?_⟩) | (go_at_call 11; (with_reducible refine (quant_Milli.calls kj1 ((⟨#[48, 48]⟩ : ByteArray) ++ a0) t226 t227 _ A19.out).mono ?_); rintro e w43 ⟨rfl, hb⟩)); have n0_ := Aside0.mk (below_step (by repeat (first | (with_reducible first | exact HB.out | apply below_alloc | apply pw_below_drewN | apply below_drew1) | exact HB.out)) hb); clear HB; have HB := n0_; clear n0_; (try clear hb); (try clear hb2); (try clear hk); (try clear hi)))
                    go_ret
                    exact ⟨by first | rfl | (simp [errW_none, errW_some] <;> rfl) | (simp [*, errW_none, errW_some] <;> rfl), by repeat (first | (with_reducible first | exact HB.out | apply below_alloc | apply pw_below_drewN | apply below_drew1) | exact HB.out)⟩
                · rw [if_neg c22] at H
                  have c22b0 : (t220 == t222) = false := beq_eq_false_iff_ne.mpr c22
                  have c22b1 : (t220 != t222) = true := bne_iff_ne.mpr c22
                  obtain rfl := Option.some.inj H
                  go_wp2_with (first | ((first | ((with_reducible refine gate_callee (f := 13) rfl ?_); refine goesL_ (some 36) rfl rfl Try.func13 (by kernel_rfl) rfl #[.string a0] rfl (by (try simp only [List.map_toArray, List.map_cons, List.map_nil]); first | done | rfl | (simp only [List.length_drop, List.length_take]; rfl)) ?_; (with_reducible refine (quant_Number.calls kj1 a0 t216 t217 _ A12.out).mono ?_); rintro e w' ⟨rfl, ⟨nd, rfl⟩⟩; refine ⟨_, rfl, ?_⟩) | (go_at_call 13; (with_reducible refine (quant_Number.calls kj1 a0 t216 t217 _ A12.out).mono ?_); rintro e w' ⟨rfl, ⟨nd, rfl⟩⟩))) | ((first | ((with_reducible refine gate_callee (f := 13) rfl ?_); refine goesL_ (some 42) rfl rfl Try.func13 (by kernel_rfl) rfl #[.string ((⟨#[48]⟩ : ByteArray) ++ a0)] rfl (by (try simp only [List.map_toArray, List.map_cons, List.map_nil]); first | done | rfl | (simp only [List.length_drop, List.length_take]; rfl)) ?_; (with_reducible refine (quant_Number.calls kj1 ((⟨#[48]⟩ : ByteArray) ++ a0) t218 t219 _ A14.out).mono ?_); rintro e w' ⟨rfl, ⟨nd, rfl⟩⟩; refine ⟨_, rfl, ?_⟩) | (go_at_call 13; (with_reducible refine (quant_Number.calls kj1 ((⟨#[48]⟩ : ByteArray) ++ a0) t218 t219 _ A14.out).mono ?_); rintro e w' ⟨rfl, ⟨nd, rfl⟩⟩))) | ((first | ((with_reducible refine gate_callee (f := 9) rfl ?_); refine goesL_ (some 47) rfl rfl Try.func9 (by kernel_rfl) rfl #[.string a0] rfl (by (try simp only [List.map_toArray, List.map_cons, List.map_nil]); first | done | rfl | (simp only [List.length_drop, List.length_take]; rfl)) ?_; (with_reducible refine (quant_Parse.calls kj1 a0 t220 t221 _ A15.out).mono ?_); rintro e w44 ⟨rfl, hb⟩; refine ⟨_, rfl, ?_⟩) | (go_at_call 9; (with_reducible refine (quant_Parse.calls kj1 a0 t220 t221 _ A15.out).mono ?_); rintro e w44 ⟨rfl, hb⟩)); have n0_ := Aside0.mk (below_step (by repeat (first | (with_reducible first | exact HB.out | apply below_alloc | apply pw_below_drewN | apply below_drew1) | exact HB.out)) hb); clear HB; have HB := n0_; clear n0_; (try clear hb); (try clear hb2); (try clear hk); (try clear hi)) | ((first | ((with_reducible refine gate_callee (f := 9) rfl ?_); refine goesL_ (some 53) rfl rfl Try.func9 (by kernel_rfl) rfl #[.string ((⟨#[48]⟩ : ByteArray) ++ a0)] rfl (by (try simp only [List.map_toArray, List.map_cons, List.map_nil]); first | done | rfl | (simp only [List.length_drop, List.length_take]; rfl)) ?_; (with_reducible refine (quant_Parse.calls kj1 ((⟨#[48]⟩ : ByteArray) ++ a0) t222 t223 _ A16.out).mono ?_); rintro e w45 ⟨rfl, hb⟩; refine ⟨_, rfl, ?_⟩) | (go_at_call 9; (with_reducible refine (quant_Parse.calls kj1 ((⟨#[48]⟩ : ByteArray) ++ a0) t222 t223 _ A16.out).mono ?_); rintro e w45 ⟨rfl, hb⟩)); have n0_ := Aside0.mk (below_step (by repeat (first | (with_reducible first | exact HB.out | apply below_alloc | apply pw_below_drewN | apply below_drew1) | exact HB.out)) hb); clear HB; have HB := n0_; clear n0_; (try clear hb); (try clear hb2); (try clear hk); (try clear hi)) | ((first | ((with_reducible refine gate_callee (f := 11) rfl ?_); refine goesL_ (some 58) rfl rfl Try.func11 (by kernel_rfl) rfl #[.string a0] rfl (by (try simp only [List.map_toArray, List.map_cons, List.map_nil]); first | done | rfl | (simp only [List.length_drop, List.length_take]; rfl)) ?_; (with_reducible refine (quant_Milli.calls kj1 a0 t224 t225 _ A17.out).mono ?_); rintro e w46 ⟨rfl, hb⟩; refine ⟨_, rfl, ?_⟩) | (go_at_call 11; (with_reducible refine (quant_Milli.calls kj1 a0 t224 t225 _ A17.out).mono ?_); rintro e w46 ⟨rfl, hb⟩)); have n0_ := Aside0.mk (below_step (by repeat (first | (with_reducible first | exact HB.out | apply below_alloc | apply pw_below_drewN | apply below_drew1) | exact HB.out)) hb); clear HB; have HB := n0_; clear n0_; (try clear hb); (try clear hb2); (try clear hk); (try clear hi)) | ((first | ((with_reducible refine gate_callee (f := 11) rfl ?_); refine goesL_ (some 64) rfl rfl Try.func11 (by kernel_rfl) rfl #[.string ((⟨#[48, 48]⟩ : ByteArray) ++ a0)] rfl (by (try simp only [List.map_toArray, List.map_cons, List.map_nil]); first | done | rfl | (simp only [List.length_drop, List.length_take]; rfl)) ?_; (with_reducible refine (quant_Milli.calls kj1 ((⟨#[48, 48]⟩ : ByteArray) ++ a0) t226 t227 _ A19.out).mono ?_); rintro e w47 ⟨rfl, hb⟩; refine ⟨_, rfl, ?_⟩) | (go_at_call 11; (with_reducible refine (quant_Milli.calls kj1 ((⟨#[48, 48]⟩ : ByteArray) ++ a0) t226 t227 _ A19.out).mono ?_); rintro e w47 ⟨rfl, hb⟩)); have n0_ := Aside0.mk (below_step (by repeat (first | (with_reducible first | exact HB.out | apply below_alloc | apply pw_below_drewN | apply below_drew1) | exact HB.out)) hb); clear HB; have HB := n0_; clear n0_; (try clear hb); (try clear hb2); (try clear hk); (try clear hi)))
                  go_ret
                  exact ⟨by first | rfl | (simp [errW_none, errW_some] <;> rfl) | (simp [*, errW_none, errW_some] <;> rfl), by repeat (first | (with_reducible first | exact HB.out | apply below_alloc | apply pw_below_drewN | apply below_drew1) | exact HB.out)⟩
              · rw [if_neg c21] at H
                have c21b0 : (t217 == t219) = false := beq_eq_false_iff_ne.mpr c21
                have c21b1 : (t217 != t219) = true := bne_iff_ne.mpr c21
                obtain rfl := Option.some.inj H
                go_wp2_with (first | ((first | ((with_reducible refine gate_callee (f := 13) rfl ?_); refine goesL_ (some 36) rfl rfl Try.func13 (by kernel_rfl) rfl #[.string a0] rfl (by (try simp only [List.map_toArray, List.map_cons, List.map_nil]); first | done | rfl | (simp only [List.length_drop, List.length_take]; rfl)) ?_; (with_reducible refine (quant_Number.calls kj1 a0 t216 t217 _ A12.out).mono ?_); rintro e w' ⟨rfl, ⟨nd, rfl⟩⟩; refine ⟨_, rfl, ?_⟩) | (go_at_call 13; (with_reducible refine (quant_Number.calls kj1 a0 t216 t217 _ A12.out).mono ?_); rintro e w' ⟨rfl, ⟨nd, rfl⟩⟩))) | ((first | ((with_reducible refine gate_callee (f := 13) rfl ?_); refine goesL_ (some 42) rfl rfl Try.func13 (by kernel_rfl) rfl #[.string ((⟨#[48]⟩ : ByteArray) ++ a0)] rfl (by (try simp only [List.map_toArray, List.map_cons, List.map_nil]); first | done | rfl | (simp only [List.length_drop, List.length_take]; rfl)) ?_; (with_reducible refine (quant_Number.calls kj1 ((⟨#[48]⟩ : ByteArray) ++ a0) t218 t219 _ A14.out).mono ?_); rintro e w' ⟨rfl, ⟨nd, rfl⟩⟩; refine ⟨_, rfl, ?_⟩) | (go_at_call 13; (with_reducible refine (quant_Number.calls kj1 ((⟨#[48]⟩ : ByteArray) ++ a0) t218 t219 _ A14.out).mono ?_); rintro e w' ⟨rfl, ⟨nd, rfl⟩⟩))) | ((first | ((with_reducible refine gate_callee (f := 9) rfl ?_); refine goesL_ (some 47) rfl rfl Try.func9 (by kernel_rfl) rfl #[.string a0] rfl (by (try simp only [List.map_toArray, List.map_cons, List.map_nil]); first | done | rfl | (simp only [List.length_drop, List.length_take]; rfl)) ?_; (with_reducible refine (quant_Parse.calls kj1 a0 t220 t221 _ A15.out).mono ?_); rintro e w48 ⟨rfl, hb⟩; refine ⟨_, rfl, ?_⟩) | (go_at_call 9; (with_reducible refine (quant_Parse.calls kj1 a0 t220 t221 _ A15.out).mono ?_); rintro e w48 ⟨rfl, hb⟩)); have n0_ := Aside0.mk (below_step (by repeat (first | (with_reducible first | exact HB.out | apply below_alloc | apply pw_below_drewN | apply below_drew1) | exact HB.out)) hb); clear HB; have HB := n0_; clear n0_; (try clear hb); (try clear hb2); (try clear hk); (try clear hi)) | ((first | ((with_reducible refine gate_callee (f := 9) rfl ?_); refine goesL_ (some 53) rfl rfl Try.func9 (by kernel_rfl) rfl #[.string ((⟨#[48]⟩ : ByteArray) ++ a0)] rfl (by (try simp only [List.map_toArray, List.map_cons, List.map_nil]); first | done | rfl | (simp only [List.length_drop, List.length_take]; rfl)) ?_; (with_reducible refine (quant_Parse.calls kj1 ((⟨#[48]⟩ : ByteArray) ++ a0) t222 t223 _ A16.out).mono ?_); rintro e w49 ⟨rfl, hb⟩; refine ⟨_, rfl, ?_⟩) | (go_at_call 9; (with_reducible refine (quant_Parse.calls kj1 ((⟨#[48]⟩ : ByteArray) ++ a0) t222 t223 _ A16.out).mono ?_); rintro e w49 ⟨rfl, hb⟩)); have n0_ := Aside0.mk (below_step (by repeat (first | (with_reducible first | exact HB.out | apply below_alloc | apply pw_below_drewN | apply below_drew1) | exact HB.out)) hb); clear HB; have HB := n0_; clear n0_; (try clear hb); (try clear hb2); (try clear hk); (try clear hi)) | ((first | ((with_reducible refine gate_callee (f := 11) rfl ?_); refine goesL_ (some 58) rfl rfl Try.func11 (by kernel_rfl) rfl #[.string a0] rfl (by (try simp only [List.map_toArray, List.map_cons, List.map_nil]); first | done | rfl | (simp only [List.length_drop, List.length_take]; rfl)) ?_; (with_reducible refine (quant_Milli.calls kj1 a0 t224 t225 _ A17.out).mono ?_); rintro e w50 ⟨rfl, hb⟩; refine ⟨_, rfl, ?_⟩) | (go_at_call 11; (with_reducible refine (quant_Milli.calls kj1 a0 t224 t225 _ A17.out).mono ?_); rintro e w50 ⟨rfl, hb⟩)); have n0_ := Aside0.mk (below_step (by repeat (first | (with_reducible first | exact HB.out | apply below_alloc | apply pw_below_drewN | apply below_drew1) | exact HB.out)) hb); clear HB; have HB := n0_; clear n0_; (try clear hb); (try clear hb2); (try clear hk); (try clear hi)) | ((first | ((with_reducible refine gate_callee (f := 11) rfl ?_); refine goesL_ (some 64) rfl rfl Try.func11 (by kernel_rfl) rfl #[.string ((⟨#[48, 48]⟩ : ByteArray) ++ a0)] rfl (by (try simp only [List.map_toArray, List.map_cons, List.map_nil]); first | done | rfl | (simp only [List.length_drop, List.length_take]; rfl)) ?_; (with_reducible refine (quant_Milli.calls kj1 ((⟨#[48, 48]⟩ : ByteArray) ++ a0) t226 t227 _ A19.out).mono ?_); rintro e w51 ⟨rfl, hb⟩; refine ⟨_, rfl, ?_⟩) | (go_at_call 11; (with_reducible refine (quant_Milli.calls kj1 ((⟨#[48, 48]⟩ : ByteArray) ++ a0) t226 t227 _ A19.out).mono ?_); rintro e w51 ⟨rfl, hb⟩)); have n0_ := Aside0.mk (below_step (by repeat (first | (with_reducible first | exact HB.out | apply below_alloc | apply pw_below_drewN | apply below_drew1) | exact HB.out)) hb); clear HB; have HB := n0_; clear n0_; (try clear hb); (try clear hb2); (try clear hk); (try clear hi)))
                go_ret
                exact ⟨by first | rfl | (simp [errW_none, errW_some] <;> rfl) | (simp [*, errW_none, errW_some] <;> rfl), by repeat (first | (with_reducible first | exact HB.out | apply below_alloc | apply pw_below_drewN | apply below_drew1) | exact HB.out)⟩
            · rw [if_neg c20] at H
              have c20b0 : (t216 == t218) = false := beq_eq_false_iff_ne.mpr c20
              have c20b1 : (t216 != t218) = true := bne_iff_ne.mpr c20
              obtain rfl := Option.some.inj H
              go_wp2_with (first | ((first | ((with_reducible refine gate_callee (f := 13) rfl ?_); refine goesL_ (some 36) rfl rfl Try.func13 (by kernel_rfl) rfl #[.string a0] rfl (by (try simp only [List.map_toArray, List.map_cons, List.map_nil]); first | done | rfl | (simp only [List.length_drop, List.length_take]; rfl)) ?_; (with_reducible refine (quant_Number.calls kj1 a0 t216 t217 _ A12.out).mono ?_); rintro e w' ⟨rfl, ⟨nd, rfl⟩⟩; refine ⟨_, rfl, ?_⟩) | (go_at_call 13; (with_reducible refine (quant_Number.calls kj1 a0 t216 t217 _ A12.out).mono ?_); rintro e w' ⟨rfl, ⟨nd, rfl⟩⟩))) | ((first | ((with_reducible refine gate_callee (f := 13) rfl ?_); refine goesL_ (some 42) rfl rfl Try.func13 (by kernel_rfl) rfl #[.string ((⟨#[48]⟩ : ByteArray) ++ a0)] rfl (by (try simp only [List.map_toArray, List.map_cons, List.map_nil]); first | done | rfl | (simp only [List.length_drop, List.length_take]; rfl)) ?_; (with_reducible refine (quant_Number.calls kj1 ((⟨#[48]⟩ : ByteArray) ++ a0) t218 t219 _ A14.out).mono ?_); rintro e w' ⟨rfl, ⟨nd, rfl⟩⟩; refine ⟨_, rfl, ?_⟩) | (go_at_call 13; (with_reducible refine (quant_Number.calls kj1 ((⟨#[48]⟩ : ByteArray) ++ a0) t218 t219 _ A14.out).mono ?_); rintro e w' ⟨rfl, ⟨nd, rfl⟩⟩))) | ((first | ((with_reducible refine gate_callee (f := 9) rfl ?_); refine goesL_ (some 47) rfl rfl Try.func9 (by kernel_rfl) rfl #[.string a0] rfl (by (try simp only [List.map_toArray, List.map_cons, List.map_nil]); first | done | rfl | (simp only [List.length_drop, List.length_take]; rfl)) ?_; (with_reducible refine (quant_Parse.calls kj1 a0 t220 t221 _ A15.out).mono ?_); rintro e w52 ⟨rfl, hb⟩; refine ⟨_, rfl, ?_⟩) | (go_at_call 9; (with_reducible refine (quant_Parse.calls kj1 a0 t220 t221 _ A15.out).mono ?_); rintro e w52 ⟨rfl, hb⟩)); have n0_ := Aside0.mk (below_step (by repeat (first | (with_reducible first | exact HB.out | apply below_alloc | apply pw_below_drewN | apply below_drew1) | exact HB.out)) hb); clear HB; have HB := n0_; clear n0_; (try clear hb); (try clear hb2); (try clear hk); (try clear hi)) | ((first | ((with_reducible refine gate_callee (f := 9) rfl ?_); refine goesL_ (some 53) rfl rfl Try.func9 (by kernel_rfl) rfl #[.string ((⟨#[48]⟩ : ByteArray) ++ a0)] rfl (by (try simp only [List.map_toArray, List.map_cons, List.map_nil]); first | done | rfl | (simp only [List.length_drop, List.length_take]; rfl)) ?_; (with_reducible refine (quant_Parse.calls kj1 ((⟨#[48]⟩ : ByteArray) ++ a0) t222 t223 _ A16.out).mono ?_); rintro e w53 ⟨rfl, hb⟩; refine ⟨_, rfl, ?_⟩) | (go_at_call 9; (with_reducible refine (quant_Parse.calls kj1 ((⟨#[48]⟩ : ByteArray) ++ a0) t222 t223 _ A16.out).mono ?_); rintro e w53 ⟨rfl, hb⟩)); have n0_ := Aside0.mk (below_step (by repeat (first | (with_reducible first | exact HB.out | apply below_alloc | apply pw_below_drewN | apply below_drew1) | exact HB.out)) hb); clear HB; have HB := n0_; clear n0_; (try clear hb); (try clear hb2); (try clear hk); (try clear hi)) | ((first | ((with_reducible refine gate_callee (f := 11) rfl ?_); refine goesL_ (some 58) rfl rfl Try.func11 (by kernel_rfl) rfl #[.string a0] rfl (by (try simp only [List.map_toArray, List.map_cons, List.map_nil]); first | done | rfl | (simp only [List.length_drop, List.length_take]; rfl)) ?_; (with_reducible refine (quant_Milli.calls kj1 a0 t224 t225 _ A17.out).mono ?_); rintro e w54 ⟨rfl, hb⟩; refine ⟨_, rfl, ?_⟩) | (go_at_call 11; (with_reducible refine (quant_Milli.calls kj1 a0 t224 t225 _ A17.out).mono ?_); rintro e w54 ⟨rfl, hb⟩)); have n0_ := Aside0.mk (below_step (by repeat (first | (with_reducible first | exact HB.out | apply below_alloc | apply pw_below_drewN | apply below_drew1) | exact HB.out)) hb); clear HB; have HB := n0_; clear n0_; (try clear hb); (try clear hb2); (try clear hk); (try clear hi)) | ((first | ((with_reducible refine gate_callee (f := 11) rfl ?_); refine goesL_ (some 64) rfl rfl Try.func11 (by kernel_rfl) rfl #[.string ((⟨#[48, 48]⟩ : ByteArray) ++ a0)] rfl (by (try simp only [List.map_toArray, List.map_cons, List.map_nil]); first | done | rfl | (simp only [List.length_drop, List.length_take]; rfl)) ?_; (with_reducible refine (quant_Milli.calls kj1 ((⟨#[48, 48]⟩ : ByteArray) ++ a0) t226 t227 _ A19.out).mono ?_); rintro e w55 ⟨rfl, hb⟩; refine ⟨_, rfl, ?_⟩) | (go_at_call 11; (with_reducible refine (quant_Milli.calls kj1 ((⟨#[48, 48]⟩ : ByteArray) ++ a0) t226 t227 _ A19.out).mono ?_); rintro e w55 ⟨rfl, hb⟩)); have n0_ := Aside0.mk (below_step (by repeat (first | (with_reducible first | exact HB.out | apply below_alloc | apply pw_below_drewN | apply below_drew1) | exact HB.out)) hb); clear HB; have HB := n0_; clear n0_; (try clear hb); (try clear hb2); (try clear hk); (try clear hi)))
              go_ret
              exact ⟨by first | rfl | (simp [errW_none, errW_some] <;> rfl) | (simp [*, errW_none, errW_some] <;> rfl), by repeat (first | (with_reducible first | exact HB.out | apply below_alloc | apply pw_below_drewN | apply below_drew1) | exact HB.out)⟩
          · rw [if_neg c18] at H
            exact absurd H (by simp)
        · rw [if_neg c13] at H
          exact absurd H (by simp)
/-- THE ONE PURE STATEMENT of triremelaw03_QuantZeros: yours. -/
def triremelaw03_QuantZeros.Pure : Prop := ∀ (a0 : ByteArray), a0.size ≤ 140737488351232 → ∃ k, triremelaw03_QuantZeros.f k a0 = some true
theorem triremelaw03_QuantZeros.walk (P : triremelaw03_QuantZeros.Pure) (a0 : ByteArray) (w : World) (w0 : a0.size ≤ 140737488351232) :
    Calls Try.prog 7 #[.string a0] w fun e w' => e = .returned (.bool true) ∧ Below w.heap.size w w' := by
  obtain ⟨k, h⟩ := P a0 w0
  refine (triremelaw03_QuantZeros.calls k a0 true w h).mono ?_
  rintro e w' ⟨rfl, hd⟩
  exact ⟨rfl, hd⟩
end Go.Proofs.Ytpmmiabcfnejmaa.H
end
section
namespace Go.Proofs.Ytpmmiabcfnejmaa.H
open Go.RowKit Go.Proofs.YtpmmiabcfnejmaaW.PrintWords Go.Proofs.YtpmmiabcfnejmaaW.PrintLast Go.Proofs.YtpmmiabcfnejmaaW.PrintMore
attribute [local go_sem] max2_int min2_int max_two min_two max_three min_three max_four min_four   -- for this text's walks alone
set_option linter.unusedVariables false
set_option linter.unusedSimpArgs false
def triremeref03_digit.f (a0 : Int) : Option (Bool) := if a0 ≥ 48 then (some (decide (a0 ≤ 57))) else (some false)
set_option maxHeartbeats 8000000 in
set_option maxRecDepth 100000 in
theorem triremeref03_digit.calls (a0 : Int) (r : Bool) (w : World) (h : triremeref03_digit.f a0 = some r) :
    Calls Try.prog 34 #[.int .u8 a0] w fun e w' => e = .returned (.bool r) ∧ Drawn0 w w' := by
  have H : (if a0 ≥ 48 then (some (decide (a0 ≤ 57))) else (some false)) = some r := h
  clear h
  by_cases c2 : a0 ≥ 48
  · rw [if_pos c2] at H
    have c2b0 : decide (48 ≤ a0) = true := decide_eq_true c2
    clear c2
    obtain rfl := Option.some.inj H
    go_enter Try.func34, Try.ntmps34
    go_wp2
    go_ret
    exact ⟨by first | rfl | (simp; done) | (simp [*]; done), by repeat (first | exact Drawn0.refl _ | apply Drawn0.step)⟩
  · rw [if_neg c2] at H
    have c2b0 : decide (48 ≤ a0) = false := decide_eq_false c2
    clear c2
    obtain rfl := Option.some.inj H
    go_enter Try.func34, Try.ntmps34
    go_wp2
    go_ret
    exact ⟨by first | rfl | (simp; done) | (simp [*]; done), by repeat (first | exact Drawn0.refl _ | apply Drawn0.step)⟩
end Go.Proofs.Ytpmmiabcfnejmaa.H
end
section
namespace Go.Proofs.Ytpmmiabcfnejmaa.H
open Go.RowKit Go.Proofs.YtpmmiabcfnejmaaW.PrintWords Go.Proofs.YtpmmiabcfnejmaaW.PrintLast Go.Proofs.YtpmmiabcfnejmaaW.PrintMore
attribute [local go_sem] max2_int min2_int max_two min_two max_three min_three max_four min_four   -- for this text's walks alone
set_option linter.unusedVariables false
set_option linter.unusedSimpArgs false
def triremeref03_digits.l0 : Nat → ByteArray → Int → Option (Int)
  | 0, _, _ => none
  | k + 1, x0, x3 => if x3 < (x0.size : Int) then (if 0 ≤ x3 then ((triremeref03_digit.f (bt x0 x3)).bind fun t162 => (if t162 = true then (triremeref03_digits.l0 k x0 (wrap64 (x3 + 1))) else (some x3))) else (none)) else (some x3)
def triremeref03_digits.f (k : Nat) (a0 : ByteArray) : Option (Int) := triremeref03_digits.l0 k a0 0
theorem triremeref03_digits.mono_l : ∀ k, (∀ y0 y1, LeO (triremeref03_digits.l0 k y0 y1) (triremeref03_digits.l0 (k + 1) y0 y1))
  | 0 => fun _ _ r h => by simp [triremeref03_digits.l0] at h
  | k + 1 => by
    have ih0 := triremeref03_digits.mono_l k
    · intro y0 y1
      unfold triremeref03_digits.l0
      repeat' first
      | (with_reducible exact ih0 _ _)
      | (with_reducible exact LeO.refl _)
      | (with_reducible exact LeO.none _)
      | (with_reducible refine LeO.ite ?_ ?_)
      | (with_reducible refine LeO.bind ?_ (fun _ => ?_))
      | exact ih0 _ _
      | exact LeO.none _
      | refine LeO.ite ?_ ?_
      | refine LeO.bind ?_ (fun _ => ?_)
theorem triremeref03_digits.mono : ∀ a0 k, LeO (triremeref03_digits.f k a0) (triremeref03_digits.f (k + 1) a0) := by
  intro a0 k
  have ih0 := triremeref03_digits.mono_l k
  unfold triremeref03_digits.f
  repeat' first
      | (with_reducible exact ih0 _ _)
      | (with_reducible exact LeO.refl _)
      | (with_reducible exact LeO.none _)
      | (with_reducible refine LeO.ite ?_ ?_)
      | (with_reducible refine LeO.bind ?_ (fun _ => ?_))
      | exact ih0 _ _
      | exact LeO.none _
      | refine LeO.ite ?_ ?_
      | refine LeO.bind ?_ (fun _ => ?_)
set_option maxHeartbeats 8000000 in
set_option maxRecDepth 100000 in
theorem triremeref03_digits.calls (k : Nat) (a0 : ByteArray) (r : Int) (w : World) (h : triremeref03_digits.f k a0 = some r) :
    Calls Try.prog 24 #[.string a0] w fun e w' => e = .returned (.int .i64 r) ∧ Drawn0 w w' := by
  have H : (triremeref03_digits.l0 k a0 0) = some r := h
  clear h
  have H' := Aside0.mk H
  clear H
  go_enter Try.func24, Try.ntmps24
  go_wp2
  go_loopg [3] k (fun kq v3 w' => ∃ (x3_1 : Int), v3 = .int .i64 x3_1 ∧ Aside0 (triremeref03_digits.l0 kq a0 x3_1 = some r) ∧ Aside0 (kq ≤ k) ∧ Drawn0 w w')
  case atStart => exact ⟨(0), (by first | rfl | (simp; done) | (simp [*]; done)), H', ⟨Nat.le_refl _⟩, by repeat (first | exact Drawn0.refl _ | apply Drawn0.step)⟩
  case round =>
    clear H'
    obtain ⟨x3_1, rfl, HA, HK1, ⟨m1, rfl⟩⟩ := hrel
    cases gk with
    | zero => exact absurd HA.out (by simp [triremeref03_digits.l0])
    | succ k1 =>
      have H := HA.out
      clear HA
      simp only [triremeref03_digits.l0] at H
      by_cases c2 : x3_1 < (a0.size : Int)
      · rw [if_pos c2] at H
        have c2b0 : decide (x3_1 < (a0.size : Int)) = true := decide_eq_true c2
        clear c2
        by_cases c3 : 0 ≤ x3_1
        · rw [if_pos c3] at H
          have c3b0 : decide (0 ≤ x3_1) = true := decide_eq_true c3
          clear c3
          replace H := Option.bind_eq_some_iff.mp H
          obtain ⟨t162, A50, H⟩ := H
          replace H : (if t162 = true then (triremeref03_digits.l0 k1 a0 (wrap64 (x3_1 + 1))) else (some x3_1)) = some r := H
          have A5 := Aside0.mk A50
          clear A50
          by_cases c6 : t162 = true
          · subst c6
            have H1 : (triremeref03_digits.l0 k1 a0 (wrap64 (x3_1 + 1))) = some r := by rw [if_pos rfl] at H; exact H
            clear H
            have H := H1
            clear H1
            have H' := Aside0.mk H
            clear H
            have p4 : 0 ≤ (x3_1 : Int) := of_decide_eq_true (by first | (with_reducible assumption) | assumption)
            have q4 : x3_1 < (a0.size : Int) := of_decide_eq_true (by first | (with_reducible assumption) | assumption)
            have hx4 := bt_at a0 x3_1
            replace p4 := eq_true p4
            replace q4 := eq_true q4
            (try (have qz4 := q4; rw [ByteArray.size_extract, Nat.min_self] at qz4))
            go_wp2_with (first | (go_at_call 34; (with_reducible refine (triremeref03_digit.calls (bt a0 x3_1) true _ A5.out).mono ?_); rintro e w' ⟨rfl, ⟨nd, rfl⟩⟩))
            go_roundg k1
            case measure => have := HK1.out; omega
            case rel => exact ⟨(wrap64 (x3_1 + 1)), (by first | rfl | (simp; done) | (simp [*]; done)), H', ⟨by have := HK1.out; omega⟩, by repeat (first | exact Drawn0.refl _ | apply Drawn0.step)⟩
          · replace c6 := Bool.eq_false_iff.mpr c6
            subst c6
            have H1 : (some x3_1) = some r := by rw [if_neg (show ¬ (false = true) by decide)] at H; exact H
            clear H
            have H := H1
            clear H1
            obtain rfl := Option.some.inj H
            have p4 : 0 ≤ (x3_1 : Int) := of_decide_eq_true (by first | (with_reducible assumption) | assumption)
            have q4 : x3_1 < (a0.size : Int) := of_decide_eq_true (by first | (with_reducible assumption) | assumption)
            have hx4 := bt_at a0 x3_1
            replace p4 := eq_true p4
            replace q4 := eq_true q4
            (try (have qz4 := q4; rw [ByteArray.size_extract, Nat.min_self] at qz4))
            go_wp2_with (first | (go_at_call 34; (with_reducible refine (triremeref03_digit.calls (bt a0 x3_1) false _ A5.out).mono ?_); rintro e w' ⟨rfl, ⟨nd, rfl⟩⟩))
            go_ret
            exact ⟨by first | rfl | (simp; done) | (simp [*]; done), by repeat (first | exact Drawn0.refl _ | apply Drawn0.step)⟩
        · rw [if_neg c3] at H
          exact absurd H (by simp)
      · rw [if_neg c2] at H
        have c2b0 : decide (x3_1 < (a0.size : Int)) = false := decide_eq_false c2
        clear c2
        obtain rfl := Option.some.inj H
        go_wp2
        go_ret
        exact ⟨by first | rfl | (simp; done) | (simp [*]; done), by repeat (first | exact Drawn0.refl _ | apply Drawn0.step)⟩
end Go.Proofs.Ytpmmiabcfnejmaa.H
end
section
namespace Go.Proofs.Ytpmmiabcfnejmaa.H
open Go.RowKit Go.Proofs.YtpmmiabcfnejmaaW.PrintWords Go.Proofs.YtpmmiabcfnejmaaW.PrintLast Go.Proofs.YtpmmiabcfnejmaaW.PrintMore
attribute [local go_sem] max2_int min2_int max_two min_two max_three min_three max_four min_four   -- for this text's walks alone
set_option linter.unusedVariables false
set_option linter.unusedSimpArgs false
def triremeref03_value.l0 : Nat → ByteArray → Int → Int → Option (Int)
  | 0, _, _, _ => none
  | k + 1, x0, x3, x4 => if x4 < (x0.size : Int) then (if 0 ≤ x4 then (triremeref03_value.l0 k x0 (mn (wrap64 ((wrap64 (10 * x3)) + (((bt x0 x4) - 48) % 256))) 1125899906842625) (wrap64 (x4 + 1))) else (none)) else (some x3)
def triremeref03_value.f (k : Nat) (a0 : ByteArray) : Option (Int) := triremeref03_value.l0 k a0 0 0
theorem triremeref03_value.mono_l : ∀ k, (∀ y0 y1 y2, LeO (triremeref03_value.l0 k y0 y1 y2) (triremeref03_value.l0 (k + 1) y0 y1 y2))
  | 0 => fun _ _ _ r h => by simp [triremeref03_value.l0] at h
  | k + 1 => by
    have ih0 := triremeref03_value.mono_l k
    · intro y0 y1 y2
      unfold triremeref03_value.l0
      repeat' first
      | (with_reducible exact ih0 _ _ _)
      | (with_reducible exact LeO.refl _)
      | (with_reducible exact LeO.none _)
      | (with_reducible refine LeO.ite ?_ ?_)
      | (with_reducible refine LeO.bind ?_ (fun _ => ?_))
      | exact ih0 _ _ _
      | exact LeO.none _
      | refine LeO.ite ?_ ?_
      | refine LeO.bind ?_ (fun _ => ?_)
theorem triremeref03_value.mono : ∀ a0 k, LeO (triremeref03_value.f k a0) (triremeref03_value.f (k + 1) a0) := by
  intro a0 k
  have ih0 := triremeref03_value.mono_l k
  unfold triremeref03_value.f
  repeat' first
      | (with_reducible exact ih0 _ _ _)
      | (with_reducible exact LeO.refl _)
      | (with_reducible exact LeO.none _)
      | (with_reducible refine LeO.ite ?_ ?_)
      | (with_reducible refine LeO.bind ?_ (fun _ => ?_))
      | exact ih0 _ _ _
      | exact LeO.none _
      | refine LeO.ite ?_ ?_
      | refine LeO.bind ?_ (fun _ => ?_)
set_option maxHeartbeats 8000000 in
set_option maxRecDepth 100000 in
theorem triremeref03_value.calls (k : Nat) (a0 : ByteArray) (r : Int) (w : World) (h : triremeref03_value.f k a0 = some r) :
    Calls Try.prog 25 #[.string a0] w fun e w' => e = .returned (.int .i64 r) ∧ Below w.heap.size w w' := by
  have HB := Aside0.mk (Below.refl w.heap.size w)
  have H : (triremeref03_value.l0 k a0 0 0) = some r := h
  clear h
  have H' := Aside0.mk H
  clear H
  go_enter Try.func25, Try.ntmps25
  go_wp2
  go_loopg [3, 4] k (fun kq v3 v4 w' => ∃ (x3_1 : Int) (x4_1 : Int), v3 = .int .i64 x3_1 ∧ v4 = .int .i64 x4_1 ∧ Aside0 (triremeref03_value.l0 kq a0 x3_1 x4_1 = some r) ∧ Aside0 (kq ≤ k) ∧ Aside0 (Below w.heap.size w w'))
  case atStart => exact ⟨(0), (0), (by first | rfl | (simp; done) | (simp [*]; done)), (by first | rfl | (simp; done) | (simp [*]; done)), H', ⟨Nat.le_refl _⟩, ⟨by repeat (first | (with_reducible first | exact HB.out | apply below_alloc | apply pw_below_drewN | apply below_drew1) | exact HB.out)⟩⟩
  case round =>
    clear H'
    obtain ⟨x3_1, x4_1, rfl, rfl, HA, HK1, HB⟩ := hrel
    cases gk with
    | zero => exact absurd HA.out (by simp [triremeref03_value.l0])
    | succ k1 =>
      have H := HA.out
      clear HA
      simp only [triremeref03_value.l0] at H
      by_cases c2 : x4_1 < (a0.size : Int)
      · rw [if_pos c2] at H
        have c2b0 : decide (x4_1 < (a0.size : Int)) = true := decide_eq_true c2
        clear c2
        by_cases c3 : 0 ≤ x4_1
        · rw [if_pos c3] at H
          have c3b0 : decide (0 ≤ x4_1) = true := decide_eq_true c3
          clear c3
          obtain ⟨ji5, hji5⟩ : ∃ j_ : Int, (mn (wrap64 ((wrap64 (10 * x3_1)) + (((bt a0 x4_1) - 48) % 256))) 1125899906842625) = j_ := ⟨_, rfl⟩
          replace H : (triremeref03_value.l0 k1 a0 ji5 (wrap64 (x4_1 + 1))) = some r := by first | (rw [hji5] at H; exact H) | (simp only [hji5] at H ⊢; exact H)
          have hji5_ : (if 1125899906842625 < (wrap64 ((wrap64 (10 * x3_1)) + (((bt a0 x4_1) - 48) % 256))) then 1125899906842625 else (wrap64 ((wrap64 (10 * x3_1)) + (((bt a0 x4_1) - 48) % 256)))) = ji5 := hji5
          have H' := Aside0.mk H
          clear H
          have p4 : 0 ≤ (x4_1 : Int) := of_decide_eq_true (by first | (with_reducible assumption) | assumption)
          have q4 : x4_1 < (a0.size : Int) := of_decide_eq_true (by first | (with_reducible assumption) | assumption)
          have hx4 := bt_at a0 x4_1
          replace p4 := eq_true p4
          replace q4 := eq_true q4
          (try (have qz4 := q4; rw [ByteArray.size_extract, Nat.min_self] at qz4))
          go_wp2
          go_roundg k1
          case measure => have := HK1.out; omega
          case rel => exact ⟨(ji5), (wrap64 (x4_1 + 1)), (by first | rfl | (simp; done) | (simp only [← hji5] <;> (first | rfl | simp)) | (simp [*]; done)), (by first | rfl | (simp; done) | (simp [*]; done)), H', ⟨by have := HK1.out; omega⟩, ⟨by repeat (first | (with_reducible first | exact HB.out | apply below_alloc | apply pw_below_drewN | apply below_drew1) | exact HB.out)⟩⟩
        · rw [if_neg c3] at H
          exact absurd H (by simp)
      · rw [if_neg c2] at H
        have c2b0 : decide (x4_1 < (a0.size : Int)) = false := decide_eq_false c2
        clear c2
        obtain rfl := Option.some.inj H
        go_wp2
        go_ret
        exact ⟨by first | rfl | (simp [errW_none, errW_some] <;> rfl) | (simp [*, errW_none, errW_some] <;> rfl), by repeat (first | (with_reducible first | exact HB.out | apply below_alloc | apply pw_below_drewN | apply below_drew1) | exact HB.out)⟩
end Go.Proofs.Ytpmmiabcfnejmaa.H
end
section
namespace Go.Proofs.Ytpmmiabcfnejmaa.H
open Go.RowKit Go.Proofs.YtpmmiabcfnejmaaW.PrintWords Go.Proofs.YtpmmiabcfnejmaaW.PrintLast Go.Proofs.YtpmmiabcfnejmaaW.PrintMore
attribute [local go_sem] max2_int min2_int max_two min_two max_three min_three max_four min_four   -- for this text's walks alone
set_option linter.unusedVariables false
set_option linter.unusedSimpArgs false
def triremeref03_Number.j0 : Nat → ByteArray → Bool → Option (Int × Int)
  | 0, _, _ => none
  | k + 1, x0, x14 => if x14 = true then (some (0, 8)) else ((triremeref03_value.f k x0).bind fun t174 => (if t174 > 1125899906842624 then (some (0, 10)) else (some (t174, 0))))
def triremeref03_Number.f (k : Nat) (a0 : ByteArray) : Option (Int × Int) := if (a0.size : Int) = 0 then (triremeref03_Number.j0 k a0 true) else ((triremeref03_digits.f k a0).bind fun t173 => (triremeref03_Number.j0 k a0 (decide (t173 < (a0.size : Int)))))
theorem triremeref03_Number.mono_l : ∀ k, (∀ y0 y1, LeO (triremeref03_Number.j0 k y0 y1) (triremeref03_Number.j0 (k + 1) y0 y1))
  | 0 => fun _ _ r h => by simp [triremeref03_Number.j0] at h
  | k + 1 => by
    have ih0 := triremeref03_Number.mono_l k
    · intro y0 y1
      unfold triremeref03_Number.j0
      repeat' first
      | (with_reducible exact ih0 _ _)
      | (with_reducible exact triremeref03_digits.mono _ _)
      | (with_reducible exact triremeref03_value.mono _ _)
      | (with_reducible exact LeO.refl _)
      | (with_reducible exact LeO.none _)
      | (with_reducible refine LeO.ite ?_ ?_)
      | (with_reducible refine LeO.bind ?_ (fun _ => ?_))
      | exact ih0 _ _
      | exact triremeref03_digits.mono _ _
      | exact triremeref03_value.mono _ _
      | exact LeO.none _
      | refine LeO.ite ?_ ?_
      | refine LeO.bind ?_ (fun _ => ?_)
theorem triremeref03_Number.mono : ∀ a0 k, LeO (triremeref03_Number.f k a0) (triremeref03_Number.f (k + 1) a0) := by
  intro a0 k
  have ih0 := triremeref03_Number.mono_l k
  unfold triremeref03_Number.f
  repeat' first
      | (with_reducible exact ih0 _ _)
      | (with_reducible exact triremeref03_digits.mono _ _)
      | (with_reducible exact triremeref03_value.mono _ _)
      | (with_reducible exact LeO.refl _)
      | (with_reducible exact LeO.none _)
      | (with_reducible refine LeO.ite ?_ ?_)
      | (with_reducible refine LeO.bind ?_ (fun _ => ?_))
      | exact ih0 _ _
      | exact triremeref03_digits.mono _ _
      | exact triremeref03_value.mono _ _
      | exact LeO.none _
      | refine LeO.ite ?_ ?_
      | refine LeO.bind ?_ (fun _ => ?_)
set_option maxHeartbeats 8000000 in
set_option maxRecDepth 100000 in
theorem triremeref03_Number.calls (k : Nat) (a0 : ByteArray) (r1 : Int) (r2 : Int) (w : World) (h : triremeref03_Number.f k a0 = some (r1, r2)) :
    Calls Try.prog 14 #[.string a0] w fun e w' => e = .returned (.tuple #[.int .i64 r1, .int .i64 r2]) ∧ Below w.heap.size w w' := by
  have HB := Aside0.mk (Below.refl w.heap.size w)
  have H : (if (a0.size : Int) = 0 then (triremeref03_Number.j0 k a0 true) else ((triremeref03_digits.f k a0).bind fun t173 => (triremeref03_Number.j0 k a0 (decide (t173 < (a0.size : Int)))))) = some (r1, r2) := h
  clear h
  have HC2 := Aside0.mk H
  clear H
  go_enter Try.func14, Try.ntmps14
  go_upto_region 1 with (fail)
  go_cut [14] (fun v14 wc => ∃ (kq : Nat) (x14_1 : Bool), v14 = .bool x14_1 ∧ Aside0 (triremeref03_Number.j0 kq a0 x14_1 = some (r1, r2)) ∧ Aside0 (kq ≤ k) ∧ Aside0 (Below w.heap.size w wc))
  case first =>
    have H := HC2.out
    clear HC2
    by_cases c3 : (a0.size : Int) = 0
    · rw [if_pos c3] at H
      have c3b0 : ((a0.size : Int) == 0) = true := beq_iff_eq.mpr c3
      have c3b1 : ((a0.size : Int) != 0) = false := bne_eq_false_iff_eq.mpr c3
      clear c3
      (first | rw [c3b0] | (simp only [i64_w, i32_w]; rw [c3b0]) | skip)
      have H' := Aside0.mk H
      clear H
      go_wp2
      go_meet
      case rel => exact ⟨_, (true), (by first | rfl | (simp; done) | (simp [*]; done)), H', ⟨by first | omega | exact Nat.le_refl _⟩, ⟨by repeat (first | (with_reducible first | exact HB.out | apply below_alloc | apply pw_below_drewN | apply below_drew1) | exact HB.out)⟩⟩
    · rw [if_neg c3] at H
      have c3b0 : ((a0.size : Int) == 0) = false := beq_eq_false_iff_ne.mpr c3
      have c3b1 : ((a0.size : Int) != 0) = true := bne_iff_ne.mpr c3
      (first | rw [c3b0] | (simp only [i64_w, i32_w]; rw [c3b0]) | skip)
      replace H := Option.bind_eq_some_iff.mp H
      obtain ⟨t173, A40, H⟩ := H
      replace H : (triremeref03_Number.j0 k a0 (decide (t173 < (a0.size : Int)))) = some (r1, r2) := H
      have A4 := Aside0.mk A40
      clear A40
      have H' := Aside0.mk H
      clear H
      go_wp2_with (first | (go_at_call 24; (with_reducible refine (triremeref03_digits.calls k a0 t173 _ A4.out).mono ?_); rintro e w' ⟨rfl, ⟨nd, rfl⟩⟩))
      go_meet
      case rel => exact ⟨_, (decide (t173 < (a0.size : Int))), (by first | rfl | (simp; done) | (simp [*]; done)), H', ⟨by first | omega | exact Nat.le_refl _⟩, ⟨by repeat (first | (with_reducible first | exact HB.out | apply below_alloc | apply pw_below_drewN | apply below_drew1) | exact HB.out)⟩⟩
  case rest =>
    clear HC2
    try clear c1
    try clear p2
    try clear c3
    try clear c3b0
    try clear c3b1
    obtain ⟨kq, x14_1, rfl, HA, HJ1, HB⟩ := hcut
    cases kq with
    | zero => exact absurd HA.out (by simp [triremeref03_Number.j0])
    | succ kj1 =>
      have H := HA.out
      clear HA
      simp only [triremeref03_Number.j0] at H
      by_cases c5 : x14_1 = true
      · subst c5
        have H1 : (some (0, 8)) = some (r1, r2) := by rw [if_pos rfl] at H; exact H
        clear H
        have H := H1
        clear H1
        simp only [Option.some.injEq, Prod.mk.injEq] at H
        obtain ⟨rfl, rfl⟩ := H
        go_wp2
        go_ret2
        exact ⟨by first | rfl | (simp [errW_none, errW_some] <;> rfl) | (simp [*, errW_none, errW_some] <;> rfl), by repeat (first | (with_reducible first | exact HB.out | apply below_alloc | apply pw_below_drewN | apply below_drew1) | exact HB.out)⟩
      · replace c5 := Bool.eq_false_iff.mpr c5
        subst c5
        have H1 : ((triremeref03_value.f kj1 a0).bind fun t174 => (if t174 > 1125899906842624 then (some (0, 10)) else (some (t174, 0)))) = some (r1, r2) := by rw [if_neg (show ¬ (false = true) by decide)] at H; exact H
        clear H
        have H := H1
        clear H1
        replace H := Option.bind_eq_some_iff.mp H
        obtain ⟨t174, A60, H⟩ := H
        replace H : (if t174 > 1125899906842624 then (some (0, 10)) else (some (t174, 0))) = some (r1, r2) := H
        have A6 := Aside0.mk A60
        clear A60
        by_cases c7 : t174 > 1125899906842624
        · rw [if_pos c7] at H
          have c7b0 : decide (1125899906842624 < t174) = true := decide_eq_true c7
          clear c7
          simp only [Option.some.injEq, Prod.mk.injEq] at H
          obtain ⟨rfl, rfl⟩ := H
          go_wp2_with (first | ((first | ((with_reducible refine gate_callee (f := 25) rfl ?_); refine goesL_ (some 16) rfl rfl Try.func25 (by kernel_rfl) rfl #[.string a0] rfl (by (try simp only [List.map_toArray, List.map_cons, List.map_nil]); first | done | rfl | (simp only [List.length_drop, List.length_take]; rfl)) ?_; (with_reducible refine (triremeref03_value.calls kj1 a0 t174 _ A6.out).mono ?_); rintro e w8 ⟨rfl, hb⟩; refine ⟨_, rfl, ?_⟩) | (go_at_call 25; (with_reducible refine (triremeref03_value.calls kj1 a0 t174 _ A6.out).mono ?_); rintro e w8 ⟨rfl, hb⟩)); have n0_ := Aside0.mk (below_step (by repeat (first | (with_reducible first | exact HB.out | apply below_alloc | apply pw_below_drewN | apply below_drew1) | exact HB.out)) hb); clear HB; have HB := n0_; clear n0_; (try clear hb); (try clear hb2); (try clear hk); (try clear hi)))
          go_ret2
          exact ⟨by first | rfl | (simp [errW_none, errW_some] <;> rfl) | (simp [*, errW_none, errW_some] <;> rfl), by repeat (first | (with_reducible first | exact HB.out | apply below_alloc | apply pw_below_drewN | apply below_drew1) | exact HB.out)⟩
        · rw [if_neg c7] at H
          have c7b0 : decide (1125899906842624 < t174) = false := decide_eq_false c7
          clear c7
          simp only [Option.some.injEq, Prod.mk.injEq] at H
          obtain ⟨rfl, rfl⟩ := H
          go_wp2_with (first | ((first | ((with_reducible refine gate_callee (f := 25) rfl ?_); refine goesL_ (some 16) rfl rfl Try.func25 (by kernel_rfl) rfl #[.string a0] rfl (by (try simp only [List.map_toArray, List.map_cons, List.map_nil]); first | done | rfl | (simp only [List.length_drop, List.length_take]; rfl)) ?_; (with_reducible refine (triremeref03_value.calls kj1 a0 t174 _ A6.out).mono ?_); rintro e w9 ⟨rfl, hb⟩; refine ⟨_, rfl, ?_⟩) | (go_at_call 25; (with_reducible refine (triremeref03_value.calls kj1 a0 t174 _ A6.out).mono ?_); rintro e w9 ⟨rfl, hb⟩)); have n0_ := Aside0.mk (below_step (by repeat (first | (with_reducible first | exact HB.out | apply below_alloc | apply pw_below_drewN | apply below_drew1) | exact HB.out)) hb); clear HB; have HB := n0_; clear n0_; (try clear hb); (try clear hb2); (try clear hk); (try clear hi)))
          go_ret2
          exact ⟨by first | rfl | (simp [errW_none, errW_some] <;> rfl) | (simp [*, errW_none, errW_some] <;> rfl), by repeat (first | (with_reducible first | exact HB.out | apply below_alloc | apply pw_below_drewN | apply below_drew1) | exact HB.out)⟩
end Go.Proofs.Ytpmmiabcfnejmaa.H
end
section
namespace Go.Proofs.Ytpmmiabcfnejmaa.H
open Go.RowKit Go.Proofs.YtpmmiabcfnejmaaW.PrintWords Go.Proofs.YtpmmiabcfnejmaaW.PrintLast Go.Proofs.YtpmmiabcfnejmaaW.PrintMore
theorem wrap_small {i : Int} (h0 : -9223372036854775808 ≤ i) (h1 : i ≤ 9223372036854775807) : wrap64 i = i := by unfold wrap64; omega
theorem bytes_inj {a b : ByteArray} (h : a.data.toList = b.data.toList) : a = b := by
  cases a; cases b
  simp only at h
  rw [Array.toList_inj.mp h]
theorem toList_inj {a b : ByteArray} (h : a.toList = b.toList) : a = b := by
  rw [ByteArray.toList_eq, ByteArray.toList_eq] at h
  exact bytes_inj h
theorem drop_bt (s : ByteArray) (i : Nat) (h : i < s.size) : s.toList.drop i = (s[i]'h) :: s.toList.drop (i + 1) := by
  rw [ByteArray.toList_eq]
  rw [List.drop_eq_getElem_cons (by simpa using h)]
  rfl
theorem bt_nat (s : ByteArray) (i : Nat) (h : i < s.size) : bt s (i : Int) = ((s[i]'h).toNat : Int) := by
  unfold bt
  simp only [Int.toNat_natCast]
  rw [dif_pos h]
theorem ev_if {α : Type} {c : Prop} [Decidable c] {f g : Nat → Option α} {r : α} (h1 : c → Ev f r) (h2 : ¬ c → Ev g r) : Ev (fun k => if c then f k else g k) r := by
  by_cases h : c
  · simp only [h, if_true]; exact h1 h
  · simp only [h, if_false]; exact h2 h
def digB (c : UInt8) : Bool := decide (48 ≤ c.toNat) && decide (c.toNat ≤ 57)
def heads (l : List UInt8) : Nat := (l.takeWhile digB).length
theorem toList_len (s : ByteArray) : s.toList.length = s.size := by rw [ByteArray.toList_eq]; rfl
theorem head_l0 (s : ByteArray) (hs : s.size ≤ 1000000000) : ∀ d i : Nat, i + d = s.size → Ev (fun k => quant_head.l0 k s (i : Int)) ((i + heads (s.toList.drop i) : Nat) : Int) := by
  intro d
  induction d with
  | zero =>
    intro i h
    refine Ev.step (fun k => by rw [quant_head.l0]) ?_
    have h3 : ¬ ((i : Int) < (s.size : Int)) := by omega
    rw [List.drop_eq_nil_of_le (by rw [toList_len]; omega)]
    simp only [h3, if_false, heads, List.takeWhile_nil, List.length_nil, Nat.add_zero]
    exact Ev.now _
  | succ d ih =>
    intro i h
    refine Ev.step (fun k => by rw [quant_head.l0]) ?_
    have h3 : ((i : Int) < (s.size : Int)) := by omega
    have h4 : (0 : Int) ≤ (i : Int) := by omega
    have h5 : i < s.size := by omega
    simp only [h3, h4, if_true]
    rw [wrap_small (i := (i : Int) + 1) (by omega) (by omega), drop_bt s i h5, bt_nat s i h5]
    unfold heads
    rw [List.takeWhile_cons]
    refine ev_if (fun h6 => ev_if (fun h7 => ?_) (fun h7 => ?_)) (fun h6 => ?_)
    · have : digB s[i] = true := by simp [digB]; omega
      rw [this]
      have := ih (i + 1) (by omega)
      unfold heads at this
      rw [show i + 1 + (List.takeWhile digB (List.drop (i + 1) s.toList)).length = i + (s[i] :: List.takeWhile digB (List.drop (i + 1) s.toList)).length by simp; omega] at this
      exact this
    · have : digB s[i] = false := by simp [digB]; omega
      rw [this]
      exact Ev.now _
    · have : digB s[i] = false := by simp [digB]; omega
      rw [this]
      exact Ev.now _
theorem head_ev (s : ByteArray) (hs : s.size ≤ 1000000000) : Ev (fun k => quant_head.f k s) ((heads s.toList : Nat) : Int) := by
  have := head_l0 s hs s.size 0 (by omega)
  rw [List.drop_zero, Nat.zero_add] at this
  exact this
theorem heads_le (l : List UInt8) : heads l ≤ l.length := by
  have h := congrArg List.length (List.takeWhile_append_dropWhile (p := digB) (l := l))
  rw [List.length_append] at h
  unfold heads
  omega
theorem heads_all {l : List UInt8} (h : heads l = l.length) : ∀ c ∈ l, digB c = true := by
  unfold heads at h
  have e : l.takeWhile digB = l := by
    have h1 := List.takeWhile_append_dropWhile (p := digB) (l := l)
    have h2 := congrArg List.length h1
    rw [List.length_append] at h2
    have h3 : l.dropWhile digB = [] := List.eq_nil_of_length_eq_zero (by omega)
    rw [h3, List.append_nil] at h1
    exact h1
  intro c hc
  rw [← e] at hc
  exact List.all_eq_true.1 (List.all_takeWhile (p := digB) (l := l)) c hc
/-- The number that digits tell, behind n. -/
def dval : List UInt8 → Nat → Nat
  | [], n => n
  | c :: l, n => dval l (10 * n + (c.toNat - 48))
theorem dval_ge : ∀ (l : List UInt8) (n : Nat), n ≤ dval l n
  | [], n => Nat.le_refl _
  | c :: l, n => Nat.le_trans (by omega) (dval_ge l (10 * n + (c.toNat - 48)))
def valR (v most : Nat) : Int × Bool := if v ≤ most then ((v : Int), true) else (0, false)
theorem value_l0 (s : ByteArray) (most : Nat) (hm : 9 ≤ most) (hm2 : most ≤ 9000000000000000000) (hs : s.size ≤ 1000000000) (hd : ∀ c ∈ s.toList, digB c = true) : ∀ (d i n : Nat), i + d = s.size → n ≤ most →
    Ev (fun k => quant_value.l0 k s (most : Int) (n : Int) (s.size : Int) (i : Int)) (valR (dval (s.toList.drop i) n) most) := by
  intro d
  induction d with
  | zero =>
    intro i n h hn
    refine Ev.step (fun k => by rw [quant_value.l0]) ?_
    have h3 : ¬ ((i : Int) < (s.size : Int)) := by omega
    rw [List.drop_eq_nil_of_le (by rw [toList_len]; omega)]
    simp only [h3, if_false, dval, valR, hn, if_true]
    exact Ev.now _
  | succ d ih =>
    intro i n h hn
    refine Ev.step (fun k => by rw [quant_value.l0]) ?_
    have h3 : ((i : Int) < (s.size : Int)) := by omega
    have h4 : (0 : Int) ≤ (i : Int) := by omega
    have h5 : i < s.size := by omega
    simp only [h3, h4, if_true]
    have hg : digB s[i] = true := hd _ (by
      have := drop_bt s i h5
      have h6 : s[i] ∈ s.toList.drop i := by rw [this]; exact List.mem_cons_self
      exact List.mem_of_mem_drop h6)
    simp only [digB, Bool.and_eq_true, decide_eq_true_eq] at hg
    rw [drop_bt s i h5, bt_nat s i h5]
    simp only [dval]
    have e1 : (((s[i]'h5).toNat : Int) - 48) % 256 = (((s[i]'h5).toNat - 48 : Nat) : Int) := by omega
    rw [e1]
    have hq9 : ((s[i]'h5).toNat - 48) ≤ 9 := by omega
    rw [wrap_small (i := (most : Int) - ((((s[i]'h5).toNat - 48) : Nat) : Int)) (by omega) (by omega), wrap_small (i := (i : Int) + 1) (by omega) (by omega)]
    have e2 : Int.tdiv ((most : Int) - ((((s[i]'h5).toNat - 48) : Nat) : Int)) 10 = (((most - ((s[i]'h5).toNat - 48)) / 10 : Nat) : Int) := by
      rw [show (most : Int) - ((((s[i]'h5).toNat - 48) : Nat) : Int) = ((most - ((s[i]'h5).toNat - 48) : Nat) : Int) by omega]
      rfl
    rw [e2, wrap_small (i := (((most - ((s[i]'h5).toNat - 48)) / 10 : Nat) : Int)) (by omega) (by omega)]
    refine ev_if (fun h6 => ?_) (fun h6 => ?_)
    · have h7 : most < 10 * n + ((s[i]'h5).toNat - 48) := by omega
      have h8 := dval_ge (s.toList.drop (i + 1)) (10 * n + ((s[i]'h5).toNat - 48))
      have h9 : ¬ (dval (s.toList.drop (i + 1)) (10 * n + ((s[i]'h5).toNat - 48)) ≤ most) := by omega
      unfold valR
      rw [if_neg h9]
      exact Ev.now _
    · have h7 : 10 * n + ((s[i]'h5).toNat - 48) ≤ most := by omega
      rw [wrap_small (i := 10 * (n : Int)) (by omega) (by omega), wrap_small (i := 10 * (n : Int) + ((((s[i]'h5).toNat - 48) : Nat) : Int)) (by omega) (by omega)]
      have := ih (i + 1) (10 * n + ((s[i]'h5).toNat - 48)) (by omega) h7
      rw [show ((10 * n + ((s[i]'h5).toNat - 48) : Nat) : Int) = 10 * (n : Int) + ((((s[i]'h5).toNat - 48) : Nat) : Int) by push_cast; rfl] at this
      exact this
theorem value_ev (s : ByteArray) (most : Nat) (hm : 9 ≤ most) (hm2 : most ≤ 9000000000000000000) (hs : s.size ≤ 1000000000) (hd : ∀ c ∈ s.toList, digB c = true) :
    Ev (fun k => quant_value.f k s (most : Int)) (valR (dval s.toList 0) most) := by
  have := value_l0 s most hm hm2 hs hd s.size 0 0 (by omega) (by omega)
  rw [List.drop_zero] at this
  exact this
/-- A number's number, or what is wrong. -/
def numR (s : ByteArray) : Int × Int :=
  if s.size = 0 then (0, 8) else if heads s.toList < s.size then (0, 8) else if dval s.toList 0 ≤ 1125899906842624 then (((dval s.toList 0 : Nat) : Int), 0) else (0, 10)
theorem quantNumber_ev (s : ByteArray) (hs : s.size ≤ 1000000000) : Ev (fun k => quant_Number.f k s) (numR s) := by
  have hj : ∀ b : Bool, (b = true → (s.size = 0 ∨ heads s.toList < s.size)) → (b = false → s.size ≠ 0 ∧ heads s.toList = s.size) → Ev (fun k => quant_Number.j0 k s b) (numR s) := by
    intro b h1 h2
    refine Ev.step (fun k => by rw [quant_Number.j0]) ?_
    unfold numR
    cases b with
    | true =>
      simp only [if_true]
      have h3 := h1 rfl
      by_cases h4 : s.size = 0
      · rw [if_pos h4]; exact Ev.now _
      · rw [if_neg h4, if_pos (by omega)]; exact Ev.now _
    | false =>
      simp only [Bool.false_eq_true, if_false]
      have h3 := h2 rfl
      rw [if_neg h3.1, if_neg (by omega)]
      refine Ev.bind (value_ev s 1125899906842624 (by omega) (by omega) hs (heads_all (by rw [toList_len]; exact h3.2))) ?_
      by_cases h4 : dval s.toList 0 ≤ 1125899906842624
      · simp only [valR, h4, if_true]; exact Ev.now _
      · simp only [valR, h4, if_false, Bool.false_eq_true]; exact Ev.now _
  unfold quant_Number.f
  refine ev_if (fun h => ?_) (fun h => ?_)
  · exact hj true (fun _ => Or.inl (by have := toList_len s; rw [h] at this; exact this.symm)) (fun e => by cases e)
  · refine Ev.bind (head_ev s hs) ?_
    have hl := heads_le s.toList
    rw [toList_len] at hl
    have hne : s.size ≠ 0 := fun e => h (List.eq_nil_of_length_eq_zero (by rw [toList_len]; exact e))
    refine hj _ (fun e => Or.inr ?_) (fun e => ⟨hne, ?_⟩)
    · simp at e; omega
    · simp at e; omega
end Go.Proofs.Ytpmmiabcfnejmaa.H
end
section
namespace Go.Proofs.Ytpmmiabcfnejmaa.H
open Go.RowKit Go.Proofs.YtpmmiabcfnejmaaW.PrintWords Go.Proofs.YtpmmiabcfnejmaaW.PrintLast Go.Proofs.YtpmmiabcfnejmaaW.PrintMore
set_option linter.unusedVariables false
set_option linter.unusedSimpArgs false
theorem u64w {n : Int} (h0 : 0 ≤ n) (h1 : n < 18446744073709551616) : IntKind.u64.wrap n = n := by rw [IntKind.wrap_u64]; omega
theorem and32 (x : Int) (h0 : 0 ≤ x) (h1 : x < 18446744073709551616) : Go.bits .and .u64 x 4294967295 = x % 4294967296 := by
  have h := bits_mask .u64 64 (by decide) (fun n a b => u64w a (by have e : (2 : Int) ^ 64 = 18446744073709551616 := by decide
                                                                   omega)) 32 (by decide) x h0 (by have e : (2 : Int) ^ 64 = 18446744073709551616 := by decide
                                                                                                   omega)
  have e : ((2 : Int) ^ 32 - 1) = 4294967295 := by decide
  have e2 : ((2 : Int) ^ 32) = 4294967296 := by decide
  rw [e, e2] at h
  exact h
theorem mul_split (x y u v : Int) : (4294967296 * x + u) * (4294967296 * y + v) = x * y * 18446744073709551616 + (x * v + u * y) * 4294967296 + u * v := by
  grind
theorem mul_bound {x y m : Int} (hx0 : 0 ≤ x) (hx : x ≤ m) (hy0 : 0 ≤ y) (hy : y ≤ m) : 0 ≤ x * y ∧ x * y ≤ m * m :=
  ⟨Int.mul_nonneg hx0 hy0, Int.mul_le_mul hx hy hy0 (by omega)⟩
theorem mul64 (a b : Int) (ha0 : 0 ≤ a) (ha : a < 18446744073709551616) (hb0 : 0 ≤ b) (hb : b < 18446744073709551616) :
    bits_Mul64.f a b = some (a * b / 18446744073709551616, a * b % 18446744073709551616) := by
  have e := mul_split (a / 4294967296) (b / 4294967296) (a % 4294967296) (b % 4294967296)
  rw [show 4294967296 * (a / 4294967296) + a % 4294967296 = a by omega, show 4294967296 * (b / 4294967296) + b % 4294967296 = b by omega] at e
  unfold bits_Mul64.f
  rw [and32 a ha0 ha, and32 b hb0 hb]
  have b11 := mul_bound (m := 4294967295) (show 0 ≤ a / 4294967296 by omega) (by omega) (show 0 ≤ b / 4294967296 by omega) (by omega)
  have b10 := mul_bound (m := 4294967295) (show 0 ≤ a / 4294967296 by omega) (by omega) (show 0 ≤ b % 4294967296 by omega) (by omega)
  have b01 := mul_bound (m := 4294967295) (show 0 ≤ a % 4294967296 by omega) (by omega) (show 0 ≤ b / 4294967296 by omega) (by omega)
  have b00 := mul_bound (m := 4294967295) (show 0 ≤ a % 4294967296 by omega) (by omega) (show 0 ≤ b % 4294967296 by omega) (by omega)
  generalize (a / 4294967296) * (b / 4294967296) = p11 at *
  generalize (a / 4294967296) * (b % 4294967296) = p10 at *
  generalize (a % 4294967296) * (b / 4294967296) = p01 at *
  generalize (a % 4294967296) * (b % 4294967296) = p00 at *
  generalize a * b = p at *
  clear ha0 ha hb0 hb
  rw [u64w b11.1 (by omega), u64w b10.1 (by omega), u64w b01.1 (by omega), u64w b00.1 (by omega)]
  rw [u64w (n := p10 + p00 / 4294967296) (by omega) (by omega), and32 _ (by omega) (by omega)]
  rw [u64w (n := (p10 + p00 / 4294967296) % 4294967296 + p01) (by omega) (by omega), u64w (n := p11 + (p10 + p00 / 4294967296) / 4294967296) (by omega) (by omega)]
  rw [u64w (n := p11 + (p10 + p00 / 4294967296) / 4294967296 + ((p10 + p00 / 4294967296) % 4294967296 + p01) / 4294967296) (by omega) (by omega), IntKind.wrap_u64]
  congr 2
  omega
theorem tdiv_nn {a b : Int} (h : 0 ≤ a) : Int.tdiv a b = a / b := Int.tdiv_eq_ediv_of_nonneg h
theorem or_low (a b : Int) (i : Nat) (hi : i ≤ 64) (ha0 : 0 ≤ a) (ha : a < 18446744073709551616) (hb0 : 0 ≤ b) (hb : b < 2 ^ i) (hb1 : b < 18446744073709551616) (hm : a % 2 ^ i = 0) : Go.bits .or .u64 a b = a + b := by
  obtain ⟨c, hc⟩ : ∃ c : Int, a = c * 2 ^ i := ⟨a / 2 ^ i, (Int.ediv_mul_cancel (Int.dvd_of_emod_eq_zero hm)).symm⟩
  have hp : (0 : Int) < 2 ^ i := Int.pow_pos (by decide)
  have hc0 : 0 ≤ c := by
    rcases Int.lt_or_le c 0 with h | h
    · exfalso
      have := Int.mul_neg_of_neg_of_pos h hp
      omega
    · exact h
  obtain ⟨c', rfl⟩ := Int.eq_ofNat_of_zero_le hc0
  obtain ⟨b', rfl⟩ := Int.eq_ofNat_of_zero_le hb0
  have hb' : b' < 2 ^ i := by exact_mod_cast hb
  have ea : a = ((c' * 2 ^ i : Nat) : Int) := by rw [hc]; push_cast; rfl
  have h := (bits_nat .u64 64 (by decide) (fun n a b => u64w a (by have e : (2 : Int) ^ 64 = 18446744073709551616 := by decide
                                                                   omega)) (c' * 2 ^ i) b' (by have : (2 : Nat) ^ 64 = 18446744073709551616 := by decide
                                                                                               omega) (by have : (2 : Nat) ^ 64 = 18446744073709551616 := by decide
                                                                                                          omega)).2
  rw [ea, h, Nat.mul_comm, ← Nat.two_pow_add_eq_or_of_lt hb']
  push_cast
  rfl
theorem div64m_lz : Ev (fun k => bits_LeadingZeros64.f k 1000000) 44 := Ev.of (fun k => bits_LeadingZeros64.mono _ k) (k := 4) (by kernel_rfl)
theorem div64m_j4 (x10 x14 x15 x16 x17 x18 : Int) (x2 x9 : Int) (h15 : 0 ≤ x15) (h15b : x15 < 4294967296) (h18 : 0 ≤ x18) (h18b : x18 < 4294967296) : ∃ r, Ev (fun k => bits_Div64.j4 k x2 44 x9 x10 x14 x15 x16 x17 x18 false) (x15 * 4294967296 + x18, r) := by
  refine ⟨shr .u64 (IntKind.u64.wrap ((IntKind.u64.wrap ((IntKind.u64.wrap (x17 * 4294967296)) + x14)) - (IntKind.u64.wrap (x18 * x2)))) 44, Ev.step (fun k => by rw [bits_Div64.j4]) ?_⟩
  · simp only [Bool.false_eq_true, if_false, show (0 : Int) ≤ 44 by decide, if_true]
    rw [u64w (n := x15 * 4294967296) (by omega) (by omega), u64w (n := x15 * 4294967296 + x18) (by omega) (by omega)]
    exact Ev.now _
theorem div64m_l0 (un32 un1 un0 q1 q0 un21 : Int) (h0 : 0 ≤ un32) (h1 : un32 < 17592186044416000000) (g0 : 0 ≤ un1) (g1 : un1 < 4294967296) (hq : q1 = un32 / 4096000000) (hu : un21 = (un32 - q1 * 4096000000) * 4294967296 + un1) (hq0 : q0 = un21 / 4096000000) (rh : Int) :
    ∃ r, Ev (fun k => bits_Div64.l0 k 17592186044416000000 44 4096000000 0 un32 un1 un0 q1 rh) (q1 * 4294967296 + q0, r) := by
  have b1 : 0 ≤ q1 ∧ q1 < 4294967296 := by omega
  have b2 : 0 ≤ un21 ∧ un21 < 17592186044416000000 := by omega
  have b3 : 0 ≤ q0 ∧ q0 < 4294967296 := by omega
  obtain ⟨r, hr⟩ := div64m_j4 0 un0 q1 (IntKind.u64.wrap (un21 - IntKind.u64.wrap (q0 * 4096000000))) un21 q0 17592186044416000000 4096000000 b1.1 b1.2 b3.1 b3.2
  refine ⟨r, Ev.step (fun k => by rw [bits_Div64.l0]) ?_⟩
  simp only [show ¬ q1 ≥ 4294967296 by omega, if_false]
  rw [show decide (IntKind.u64.wrap (q1 * 0) > IntKind.u64.wrap (IntKind.u64.wrap (4294967296 * rh) + un1)) = false from decide_eq_false (by rw [Int.mul_zero, IntKind.wrap_u64, IntKind.wrap_u64]; omega)]
  refine Ev.step (fun k => by rw [bits_Div64.j1]) ?_
  simp only [Bool.false_eq_true, if_false]
  refine Ev.step (fun k => by rw [bits_Div64.j2]) ?_
  simp only [show ¬ (4096000000 : Int) = 0 by decide, if_false]
  have e21 : IntKind.u64.wrap (IntKind.u64.wrap (IntKind.u64.wrap (un32 * 4294967296) + un1) - IntKind.u64.wrap (q1 * 17592186044416000000)) = un21 := by
    rw [IntKind.wrap_u64, IntKind.wrap_u64, IntKind.wrap_u64, IntKind.wrap_u64]; omega
  have eq0 : IntKind.u64.wrap (Int.tdiv un21 4096000000) = q0 := by rw [tdiv_nn b2.1, ← hq0, u64w b3.1 (by omega)]
  rw [e21, eq0]
  refine Ev.step (fun k => by rw [bits_Div64.l1]) ?_
  simp only [show ¬ q0 ≥ 4294967296 by omega, if_false]
  rw [show decide (IntKind.u64.wrap (q0 * 0) > IntKind.u64.wrap (IntKind.u64.wrap (4294967296 * IntKind.u64.wrap (un21 - IntKind.u64.wrap (q0 * 4096000000))) + un0)) = false from decide_eq_false (by rw [Int.mul_zero, IntKind.wrap_u64 0, IntKind.wrap_u64 (_ + un0)]; omega)]
  exact hr
theorem div64m (hi lo : Int) (h0 : 0 ≤ hi) (h1 : hi < 1000000) (l0 : 0 ≤ lo) (l1 : lo < 18446744073709551616) :
    ∃ r, Ev (fun k => bits_Div64.f k hi lo 1000000) ((hi * 18446744073709551616 + lo) / 1000000, r) := by
  unfold bits_Div64.f
  simp only [show ¬ (1000000 : Int) = 0 by decide, if_false, show ¬ (1000000 : Int) ≤ hi by omega]
  by_cases hz : hi = 0
  · subst hz
    simp only [if_true]
    refine ⟨Int.tmod lo 1000000, ?_⟩
    rw [tdiv_nn l0, u64w (by omega) (by omega), show ((0 : Int) * 18446744073709551616 + lo) = lo by omega]
    exact Ev.now _
  · simp only [hz, if_false]
    have e1 : shl .u64 hi 44 = hi * 17592186044416 := by show IntKind.u64.wrap (hi * 17592186044416) = _; exact u64w (by omega) (by omega)
    have e2 : shr .u64 lo 20 = lo / 1048576 := rfl
    have e3 : Go.bits .or .u64 (hi * 17592186044416) (lo / 1048576) = hi * 17592186044416 + lo / 1048576 := or_low _ _ 44 (by decide) (by omega) (by omega) (by omega) (by show lo / 1048576 < 17592186044416; omega) (by omega) (by show hi * 17592186044416 % 17592186044416 = 0; omega)
    have e4 : shl .u64 lo 44 = (lo % 1048576) * 17592186044416 := by show IntKind.u64.wrap (lo * 17592186044416) = _; rw [IntKind.wrap_u64]; omega
    obtain ⟨r, hr⟩ := div64m_l0 (hi * 17592186044416 + lo / 1048576) ((lo % 1048576) * 17592186044416 / 4294967296) (Go.bits .and .u64 ((lo % 1048576) * 17592186044416) 4294967295) _ _ _ (by omega) (by omega) (by omega) (by omega) rfl rfl rfl (IntKind.u64.wrap ((hi * 17592186044416 + lo / 1048576) - IntKind.u64.wrap (((hi * 17592186044416 + lo / 1048576) / 4096000000) * 4096000000)))
    refine ⟨r, Ev.bind div64m_lz ?_⟩
    have ew : IntKind.u64.wrap 44 = 44 := by kernel_rfl
    have ew2 : IntKind.u64.wrap (64 - 44) = 20 := by kernel_rfl
    have ey : shl .u64 1000000 44 = 17592186044416000000 := by kernel_rfl
    have ey2 : (17592186044416000000 : Int) / 4294967296 = 4096000000 := by decide
    have ey3 : Go.bits .and .u64 17592186044416000000 4294967295 = 0 := by kernel_rfl
    simp only [ew, ew2, ey, ey2, ey3, e1, e2, e3, e4]
    simp only [show (0 : Int) ≤ 44 by decide, show (0 : Int) ≤ 20 by decide, show ¬ (4096000000 : Int) = 0 by decide, if_true, if_false]
    rw [tdiv_nn (a := hi * 17592186044416 + lo / 1048576) (by omega), u64w (n := (hi * 17592186044416 + lo / 1048576) / 4096000000) (by omega) (by omega)]
    have er : (hi * 17592186044416 + lo / 1048576) / 4096000000 * 4294967296 + ((hi * 17592186044416 + lo / 1048576 - (hi * 17592186044416 + lo / 1048576) / 4096000000 * 4096000000) * 4294967296 + lo % 1048576 * 17592186044416 / 4294967296) / 4096000000 = (hi * 18446744073709551616 + lo) / 1000000 := by omega
    rw [← er]
    exact hr
theorem div64k_lz : Ev (fun k => bits_LeadingZeros64.f k 1000) 54 := Ev.of (fun k => bits_LeadingZeros64.mono _ k) (k := 4) (by kernel_rfl)
theorem div64k_j4 (x10 x14 x15 x16 x17 x18 : Int) (x2 x9 : Int) (h15 : 0 ≤ x15) (h15b : x15 < 4294967296) (h18 : 0 ≤ x18) (h18b : x18 < 4294967296) : ∃ r, Ev (fun k => bits_Div64.j4 k x2 54 x9 x10 x14 x15 x16 x17 x18 false) (x15 * 4294967296 + x18, r) := by
  refine ⟨shr .u64 (IntKind.u64.wrap ((IntKind.u64.wrap ((IntKind.u64.wrap (x17 * 4294967296)) + x14)) - (IntKind.u64.wrap (x18 * x2)))) 54, Ev.step (fun k => by rw [bits_Div64.j4]) ?_⟩
  · simp only [Bool.false_eq_true, if_false, show (0 : Int) ≤ 54 by decide, if_true]
    rw [u64w (n := x15 * 4294967296) (by omega) (by omega), u64w (n := x15 * 4294967296 + x18) (by omega) (by omega)]
    exact Ev.now _
theorem div64k_l0 (un32 un1 un0 q1 q0 un21 : Int) (h0 : 0 ≤ un32) (h1 : un32 < 18014398509481984000) (g0 : 0 ≤ un1) (g1 : un1 < 4294967296) (hq : q1 = un32 / 4194304000) (hu : un21 = (un32 - q1 * 4194304000) * 4294967296 + un1) (hq0 : q0 = un21 / 4194304000) (rh : Int) :
    ∃ r, Ev (fun k => bits_Div64.l0 k 18014398509481984000 54 4194304000 0 un32 un1 un0 q1 rh) (q1 * 4294967296 + q0, r) := by
  have b1 : 0 ≤ q1 ∧ q1 < 4294967296 := by omega
  have b2 : 0 ≤ un21 ∧ un21 < 18014398509481984000 := by omega
  have b3 : 0 ≤ q0 ∧ q0 < 4294967296 := by omega
  obtain ⟨r, hr⟩ := div64k_j4 0 un0 q1 (IntKind.u64.wrap (un21 - IntKind.u64.wrap (q0 * 4194304000))) un21 q0 18014398509481984000 4194304000 b1.1 b1.2 b3.1 b3.2
  refine ⟨r, Ev.step (fun k => by rw [bits_Div64.l0]) ?_⟩
  simp only [show ¬ q1 ≥ 4294967296 by omega, if_false]
  rw [show decide (IntKind.u64.wrap (q1 * 0) > IntKind.u64.wrap (IntKind.u64.wrap (4294967296 * rh) + un1)) = false from decide_eq_false (by rw [Int.mul_zero, IntKind.wrap_u64, IntKind.wrap_u64]; omega)]
  refine Ev.step (fun k => by rw [bits_Div64.j1]) ?_
  simp only [Bool.false_eq_true, if_false]
  refine Ev.step (fun k => by rw [bits_Div64.j2]) ?_
  simp only [show ¬ (4194304000 : Int) = 0 by decide, if_false]
  have e21 : IntKind.u64.wrap (IntKind.u64.wrap (IntKind.u64.wrap (un32 * 4294967296) + un1) - IntKind.u64.wrap (q1 * 18014398509481984000)) = un21 := by
    rw [IntKind.wrap_u64, IntKind.wrap_u64, IntKind.wrap_u64, IntKind.wrap_u64]; omega
  have eq0 : IntKind.u64.wrap (Int.tdiv un21 4194304000) = q0 := by rw [tdiv_nn b2.1, ← hq0, u64w b3.1 (by omega)]
  rw [e21, eq0]
  refine Ev.step (fun k => by rw [bits_Div64.l1]) ?_
  simp only [show ¬ q0 ≥ 4294967296 by omega, if_false]
  rw [show decide (IntKind.u64.wrap (q0 * 0) > IntKind.u64.wrap (IntKind.u64.wrap (4294967296 * IntKind.u64.wrap (un21 - IntKind.u64.wrap (q0 * 4194304000))) + un0)) = false from decide_eq_false (by rw [Int.mul_zero, IntKind.wrap_u64 0, IntKind.wrap_u64 (_ + un0)]; omega)]
  exact hr
theorem div64k (hi lo : Int) (h0 : 0 ≤ hi) (h1 : hi < 1000) (l0 : 0 ≤ lo) (l1 : lo < 18446744073709551616) :
    ∃ r, Ev (fun k => bits_Div64.f k hi lo 1000) ((hi * 18446744073709551616 + lo) / 1000, r) := by
  unfold bits_Div64.f
  simp only [show ¬ (1000 : Int) = 0 by decide, if_false, show ¬ (1000 : Int) ≤ hi by omega]
  by_cases hz : hi = 0
  · subst hz
    simp only [if_true]
    refine ⟨Int.tmod lo 1000, ?_⟩
    rw [tdiv_nn l0, u64w (by omega) (by omega), show ((0 : Int) * 18446744073709551616 + lo) = lo by omega]
    exact Ev.now _
  · simp only [hz, if_false]
    have e1 : shl .u64 hi 54 = hi * 18014398509481984 := by show IntKind.u64.wrap (hi * 18014398509481984) = _; exact u64w (by omega) (by omega)
    have e2 : shr .u64 lo 10 = lo / 1024 := rfl
    have e3 : Go.bits .or .u64 (hi * 18014398509481984) (lo / 1024) = hi * 18014398509481984 + lo / 1024 := or_low _ _ 54 (by decide) (by omega) (by omega) (by omega) (by show lo / 1024 < 18014398509481984; omega) (by omega) (by show hi * 18014398509481984 % 18014398509481984 = 0; omega)
    have e4 : shl .u64 lo 54 = (lo % 1024) * 18014398509481984 := by show IntKind.u64.wrap (lo * 18014398509481984) = _; rw [IntKind.wrap_u64]; omega
    obtain ⟨r, hr⟩ := div64k_l0 (hi * 18014398509481984 + lo / 1024) ((lo % 1024) * 18014398509481984 / 4294967296) (Go.bits .and .u64 ((lo % 1024) * 18014398509481984) 4294967295) _ _ _ (by omega) (by omega) (by omega) (by omega) rfl rfl rfl (IntKind.u64.wrap ((hi * 18014398509481984 + lo / 1024) - IntKind.u64.wrap (((hi * 18014398509481984 + lo / 1024) / 4194304000) * 4194304000)))
    refine ⟨r, Ev.bind div64k_lz ?_⟩
    have ew : IntKind.u64.wrap 54 = 54 := by kernel_rfl
    have ew2 : IntKind.u64.wrap (64 - 54) = 10 := by kernel_rfl
    have ey : shl .u64 1000 54 = 18014398509481984000 := by kernel_rfl
    have ey2 : (18014398509481984000 : Int) / 4294967296 = 4194304000 := by decide
    have ey3 : Go.bits .and .u64 18014398509481984000 4294967295 = 0 := by kernel_rfl
    simp only [ew, ew2, ey, ey2, ey3, e1, e2, e3, e4]
    simp only [show (0 : Int) ≤ 54 by decide, show (0 : Int) ≤ 10 by decide, show ¬ (4194304000 : Int) = 0 by decide, if_true, if_false]
    rw [tdiv_nn (a := hi * 18014398509481984 + lo / 1024) (by omega), u64w (n := (hi * 18014398509481984 + lo / 1024) / 4194304000) (by omega) (by omega)]
    have er : (hi * 18014398509481984 + lo / 1024) / 4194304000 * 4294967296 + ((hi * 18014398509481984 + lo / 1024 - (hi * 18014398509481984 + lo / 1024) / 4194304000 * 4194304000) * 4294967296 + lo % 1024 * 18014398509481984 / 4294967296) / 4194304000 = (hi * 18446744073709551616 + lo) / 1000 := by omega
    rw [← er]
    exact hr
end Go.Proofs.Ytpmmiabcfnejmaa.H
end
section
namespace Go.Proofs.Ytpmmiabcfnejmaa.H
open Go.RowKit Go.Proofs.YtpmmiabcfnejmaaW.PrintWords Go.Proofs.YtpmmiabcfnejmaaW.PrintLast Go.Proofs.YtpmmiabcfnejmaaW.PrintMore
set_option linter.unusedVariables false
set_option linter.unusedSimpArgs false
theorem dval_congr (m : Nat) : ∀ (l : List UInt8) (x y : Nat), x % m = y % m → dval l x % m = dval l y % m
  | [], x, y, h => h
  | c :: l, x, y, h => dval_congr m l _ _ (by rw [Nat.add_mod, Nat.mul_mod, h, ← Nat.mul_mod, ← Nat.add_mod])
theorem wrap_nat (n : Nat) (h : n ≤ 9223372036854775807) : wrap64 (n : Int) = (n : Int) := wrap_small (by omega) (by omega)
def vOf (A p u : Nat) : Nat := (A * 1000 + p) * u
theorem vOf_congr (m A B p u : Nat) (h : A % m = B % m) : vOf A p u % m = vOf B p u % m := by
  unfold vOf
  rw [Nat.mul_mod, Nat.add_mod, Nat.mul_mod A, h, ← Nat.mul_mod B, ← Nat.add_mod, ← Nat.mul_mod]
theorem tmod_nat (a b : Nat) : Int.tmod (a : Int) (b : Int) = ((a % b : Nat) : Int) := rfl
theorem tdiv_nat (a b : Nat) : Int.tdiv (a : Int) (b : Int) = ((a / b : Nat) : Int) := rfl
set_option maxRecDepth 100000 in
theorem exact_l0 (s : ByteArray) (each : Nat) (he : 0 < each) (he2 : each ≤ 1000000) (p u : Nat) (hp : p < 1000) (hs : s.size ≤ 1000000000) (hd : ∀ c ∈ s.toList, digB c = true) : ∀ (d i r : Nat), i + d = s.size → r < each →
    Ev (fun k => quant_exact.l0 k s (p : Int) (u : Int) (each : Int) (r : Int) (s.size : Int) (i : Int)) (decide (vOf (dval (s.toList.drop i) r) p u % each = 0)) := by
  intro d
  induction d with
  | zero =>
    intro i r h hr
    refine Ev.step (fun k => by rw [quant_exact.l0]) ?_
    have h3 : ¬ ((i : Int) < (s.size : Int)) := by omega
    rw [List.drop_eq_nil_of_le (by rw [toList_len]; omega)]
    simp only [h3, if_false, dval, show ¬ (each : Int) = 0 by omega]
    rw [wrap_small (i := (r : Int) * 1000) (by omega) (by omega), wrap_small (i := (r : Int) * 1000 + p) (by omega) (by omega)]
    rw [show (r : Int) * 1000 + (p : Int) = ((r * 1000 + p : Nat) : Int) by omega, tmod_nat, tmod_nat]
    have b1 : (r * 1000 + p) % each < 1000000 := Nat.lt_of_lt_of_le (Nat.mod_lt _ he) he2
    have b2 : u % each < 1000000 := Nat.lt_of_lt_of_le (Nat.mod_lt _ he) he2
    have b3 : (r * 1000 + p) % each * (u % each) ≤ 1000000 * 1000000 := Nat.mul_le_mul (by omega) (by omega)
    rw [show (((r * 1000 + p) % each : Nat) : Int) * ((u % each : Nat) : Int) = (((r * 1000 + p) % each * (u % each) : Nat) : Int) from (Int.natCast_mul _ _).symm, wrap_small (by omega) (by omega), tmod_nat, ← Nat.mul_mod]
    have e : (((((r * 1000 + p) * u % each : Nat) : Int)) == 0) = decide (vOf r p u % each = 0) := by
      unfold vOf
      by_cases h : (r * 1000 + p) * u % each = 0
      · simp [h]
      · rw [decide_eq_false h, beq_eq_false_iff_ne]; omega
    rw [e]
    exact Ev.now _
  | succ d ih =>
    intro i r h hr
    refine Ev.step (fun k => by rw [quant_exact.l0]) ?_
    have h3 : ((i : Int) < (s.size : Int)) := by omega
    have h4 : (0 : Int) ≤ (i : Int) := by omega
    have h5 : i < s.size := by omega
    simp only [h3, h4, if_true, show ¬ (each : Int) = 0 by omega, if_false]
    have hg : digB s[i] = true := hd _ (by
      have := drop_bt s i h5
      have h6 : s[i] ∈ s.toList.drop i := by rw [this]; exact List.mem_cons_self
      exact List.mem_of_mem_drop h6)
    simp only [digB, Bool.and_eq_true, decide_eq_true_eq] at hg
    rw [drop_bt s i h5, bt_nat s i h5]
    simp only [dval]
    have e1 : (((s[i]'h5).toNat : Int) - 48) % 256 = (((s[i]'h5).toNat - 48 : Nat) : Int) := by omega
    rw [e1]
    have hq9 : ((s[i]'h5).toNat - 48) ≤ 9 := by omega
    rw [wrap_small (i := (i : Int) + 1) (by omega) (by omega), wrap_small (i := 10 * (r : Int)) (by omega) (by omega), wrap_small (i := 10 * (r : Int) + (((s[i]'h5).toNat - 48 : Nat) : Int)) (by omega) (by omega)]
    rw [show 10 * (r : Int) + (((s[i]'h5).toNat - 48 : Nat) : Int) = ((10 * r + ((s[i]'h5).toNat - 48) : Nat) : Int) by omega, tmod_nat]
    have := ih (i + 1) ((10 * r + ((s[i]'h5).toNat - 48)) % each) (by omega) (Nat.mod_lt _ he)
    rw [vOf_congr each _ _ p u (dval_congr each (s.toList.drop (i + 1)) ((10 * r + ((s[i]'h5).toNat - 48)) % each) (10 * r + ((s[i]'h5).toNat - 48)) (Nat.mod_mod _ _))] at this
    exact this
theorem exact_ev (s : ByteArray) (each : Nat) (he : 0 < each) (he2 : each ≤ 1000000) (p u : Nat) (hp : p < 1000) (hs : s.size ≤ 1000000000) (hd : ∀ c ∈ s.toList, digB c = true) :
    Ev (fun k => quant_exact.f k s (p : Int) (u : Int) (each : Int)) (decide (vOf (dval s.toList 0) p u % each = 0)) := by
  have := exact_l0 s each he he2 p u hp hs hd s.size 0 0 (by omega) he
  rw [List.drop_zero] at this
  exact this
def amtFin (V each : Nat) : Int × Int := if V / each ≤ 1125899906842624 then (((V / each : Nat) : Int), 0) else (0, 10)
def finOf (n : Int × Bool) : Int × Int := if n.2 = true then (if n.1 > 1125899906842624 then (0, 10) else (n.1, 0)) else (0, 10)
set_option maxRecDepth 100000 in
theorem whole_ev (s : ByteArray) (each : Nat) (he : each = 1000 ∨ each = 1000000) (p u : Nat) (hp : p < 1000) (hu : u = 1 ∨ 1000 ≤ u) (hu2 : u ≤ 1099511627776000) (hs : s.size ≤ 1000000000) (hd : ∀ c ∈ s.toList, digB c = true)
    (hx : vOf (dval s.toList 0) p u % each = 0) : ∃ n, Ev (fun k => quant_whole.f k s (p : Int) (u : Int) (each : Int)) n ∧ finOf n = amtFin (vOf (dval s.toList 0) p u) each := by
  unfold quant_whole.f
  rcases hu with rfl | hu
  · have hv := value_ev s 1125899906842624000 (by omega) (by omega) hs hd
    simp only [show ((1 : Nat) : Int) = 1 from rfl, if_true]
    generalize dval s.toList 0 = A at *
    have hp0 : p = 0 := by
      unfold vOf at hx
      rcases he with rfl | rfl <;> omega
    subst hp0
    unfold vOf at hx ⊢
    have ew1 : wrap64 (Int.tdiv (each : Int) 1000) = ((each / 1000 : Nat) : Int) := by
      rw [show Int.tdiv (each : Int) 1000 = ((each / 1000 : Nat) : Int) from rfl, wrap_small (by omega) (by omega)]
    have hq : A / (each / 1000) ≤ A := Nat.div_le_self _ _
    refine ⟨(wrap64 (Int.tdiv (valR A 1125899906842624000).1 (wrap64 (Int.tdiv (each : Int) 1000))), (valR A 1125899906842624000).2), Ev.bind hv ?_, ?_⟩
    · have : ¬ wrap64 (Int.tdiv (each : Int) 1000) = 0 := by rw [ew1]; rcases he with rfl | rfl <;> decide
      simp only [this, if_false]
      exact Ev.now _
    · rw [ew1]
      unfold finOf amtFin valR
      by_cases hA : A ≤ 1125899906842624000
      · simp only [hA, if_true]
        rw [tdiv_nat, wrap_nat _ (by omega)]
        have e2 : (A * 1000 + 0) * 1 / each = A / (each / 1000) := by rcases he with rfl | rfl <;> omega
        rw [e2]
        by_cases hB : A / (each / 1000) ≤ 1125899906842624
        · rw [if_pos hB, if_neg (by omega)]
        · rw [if_neg hB, if_pos (by omega)]
      · simp only [hA, if_false, Bool.false_eq_true]
        rw [if_neg (by rcases he with rfl | rfl <;> omega)]
  · have hv := value_ev s 1125899906842624 (by omega) (by omega) hs hd
    simp only [show ¬ (u : Int) = 1 by omega, if_false]
    generalize dval s.toList 0 = A at *
    by_cases hA : A ≤ 1125899906842624
    · rw [show valR A 1125899906842624 = ((A : Int), true) by unfold valR; rw [if_pos hA]] at hv
      have eV : (((A * 1000 + p : Nat) : Int)) * (u : Int) = ((vOf A p u : Nat) : Int) := by unfold vOf; push_cast; rfl
      have em := mul64 ((A * 1000 + p : Nat) : Int) (u : Int) (by omega) (by omega) (by omega) (by omega)
      rw [eV] at em
      have ew : IntKind.u64.wrap (wrap64 ((wrap64 ((A : Int) * 1000)) + (p : Int))) = ((A * 1000 + p : Nat) : Int) := by
        rw [wrap_small (i := (A : Int) * 1000) (by omega) (by omega), wrap_small (by omega) (by omega), u64w (by omega) (by omega)]; push_cast; rfl
      have ewu : IntKind.u64.wrap (u : Int) = (u : Int) := u64w (by omega) (by omega)
      have ewe : IntKind.u64.wrap (each : Int) = (each : Int) := u64w (by omega) (by omega)
      generalize vOf A p u = V at *
      by_cases hh : V / 18446744073709551616 ≥ each
      · refine ⟨(0, false), Ev.bind hv ?_, ?_⟩
        · simp only [ew, ewu, ewe, em, Option.bind_some, if_true]
          refine ev_if (fun _ => Ev.now _) (fun h => absurd (show (V : Int) / 18446744073709551616 ≥ (each : Int) by omega) h)
        · unfold finOf amtFin
          simp only [Bool.false_eq_true, if_false]
          rw [if_neg (by rcases he with rfl | rfl <;> omega)]
      · have hdv : ∃ r, Ev (fun k => bits_Div64.f k ((V : Int) / 18446744073709551616) ((V : Int) % 18446744073709551616) (each : Int)) (((V / each : Nat) : Int), r) := by
          rcases he with rfl | rfl
          · obtain ⟨r, hr⟩ := div64k ((V : Int) / 18446744073709551616) ((V : Int) % 18446744073709551616) (by omega) (by omega) (by omega) (by omega)
            rw [show ((V : Int) / 18446744073709551616 * 18446744073709551616 + (V : Int) % 18446744073709551616) / 1000 = ((V / 1000 : Nat) : Int) by omega] at hr
            exact ⟨r, hr⟩
          · obtain ⟨r, hr⟩ := div64m ((V : Int) / 18446744073709551616) ((V : Int) % 18446744073709551616) (by omega) (by omega) (by omega) (by omega)
            rw [show ((V : Int) / 18446744073709551616 * 18446744073709551616 + (V : Int) % 18446744073709551616) / 1000000 = ((V / 1000000 : Nat) : Int) by omega] at hr
            exact ⟨r, hr⟩
        obtain ⟨r, hr⟩ := hdv
        refine ⟨(wrap64 (mn ((V / each : Nat) : Int) 1125899906842625), true), Ev.bind hv ?_, ?_⟩
        · simp only [ew, ewu, ewe, em, Option.bind_some, if_true]
          exact ev_if (fun h => absurd h (show ¬ (V : Int) / 18446744073709551616 ≥ (each : Int) by omega)) (fun _ => Ev.bind hr (Ev.now _))
        · have e3 : wrap64 (mn ((V / each : Nat) : Int) 1125899906842625) = ((min (V / each) 1125899906842625 : Nat) : Int) := by
            have e4 : mn ((V / each : Nat) : Int) 1125899906842625 = ((min (V / each) 1125899906842625 : Nat) : Int) := by unfold mn; split <;> omega
            rw [e4, wrap_nat _ (by omega)]
          rw [e3]
          unfold finOf amtFin
          simp only [if_true]
          by_cases hB : V / each ≤ 1125899906842624
          · rw [if_pos hB, if_neg (by omega)]
            congr 2
            omega
          · rw [if_neg hB, if_pos (by omega)]
    · rw [show valR A 1125899906842624 = (0, false) by unfold valR; rw [if_neg hA]] at hv
      refine ⟨(0, false), Ev.bind hv ?_, ?_⟩
      · rw [mul64 _ _ (by rw [IntKind.wrap_u64]; omega) (by rw [IntKind.wrap_u64]; omega) (by rw [IntKind.wrap_u64]; omega) (by rw [IntKind.wrap_u64]; omega)]
        simp only [Option.bind_some, Bool.false_eq_true, if_false]
        exact Ev.now _
      · have h1 : 1125899906842625 * 1000 * 1000 ≤ vOf A p u := Nat.mul_le_mul (by omega) hu
        unfold finOf amtFin
        simp only [Bool.false_eq_true, if_false]
        rw [if_neg (by rcases he with rfl | rfl <;> omega)]
theorem extract_toList (s : ByteArray) (i j : Nat) : (s.extract i j).toList = (s.toList.take j).drop i := by
  rw [ByteArray.toList_eq, ByteArray.toList_eq]
  rw [ByteArray.data_extract, Array.toList_extract, List.extract_eq_take_drop, List.drop_take]
theorem heads_take (l : List UInt8) : ∀ c ∈ l.take (heads l), digB c = true := by
  have e : l.take (heads l) = l.takeWhile digB := by
    have h1 := List.takeWhile_append_dropWhile (p := digB) (l := l)
    have h2 : (l.takeWhile digB ++ l.dropWhile digB).take (heads l) = l.takeWhile digB := List.take_left
    rw [h1] at h2
    exact h2
  intro c hc
  rw [e] at hc
  exact List.all_eq_true.1 (List.all_takeWhile (p := digB) (l := l)) c hc
end Go.Proofs.Ytpmmiabcfnejmaa.H
end
section
namespace Go.Proofs.Ytpmmiabcfnejmaa.H
open Go.RowKit Go.Proofs.YtpmmiabcfnejmaaW.PrintWords Go.Proofs.YtpmmiabcfnejmaaW.PrintLast Go.Proofs.YtpmmiabcfnejmaaW.PrintMore
set_option linter.unusedVariables false
set_option linter.unusedSimpArgs false
theorem zz2 : ∀ c ∈ (⟨#[48, 48]⟩ : ByteArray).toList, digB c = true := by rw [ByteArray.toList_eq]; decide
theorem fin_now (n : Int × Bool) : Ev (fun _ => if n.2 = true then (if n.1 > 1125899906842624 then some ((0, 10) : Int × Int) else some (n.1, 0)) else some (0, 10)) (finOf n) := by
  unfold finOf
  by_cases h : n.2 = true
  · by_cases h1 : n.1 > 1125899906842624
    · simp only [h, h1, if_true]; exact Ev.now _
    · simp only [h, h1, if_true, if_false]; exact Ev.now _
  · simp only [h, if_false, Bool.false_eq_true]; exact Ev.now _
theorem toList_nil {s : ByteArray} (h : s.size = 0) : s.toList = [] := List.eq_nil_of_length_eq_zero (by rw [toList_len]; exact h)
theorem size_nil {s : ByteArray} (h : s.toList = []) : s.size = 0 := by rw [← toList_len, h]; rfl
def cutR (s : ByteArray) : ByteArray × Int × ByteArray × Int :=
  let n := heads s.toList
  if n = 0 then (⟨#[]⟩, 0, ⟨#[]⟩, 8) else
  let rest := s.extract n s.size
  if rest.size = 0 ∨ bt rest 0 ≠ 46 then (s.extract 0 n, 0, rest, 0) else
  let k := heads (rest.extract 1 rest.size).toList
  if k < 1 ∨ 3 < k then (⟨#[]⟩, 0, ⟨#[]⟩, 8) else
  (s.extract 0 n, ((dval (((rest.extract 1 (1 + k)) ++ (⟨#[48, 48]⟩ : ByteArray)).extract 0 3).toList 0 : Nat) : Int), rest.extract (1 + k) rest.size, 0)
theorem dval_lt : ∀ (l : List UInt8) (n : Nat), (∀ c ∈ l, digB c = true) → dval l n < (n + 1) * 10 ^ l.length
  | [], n, _ => by simp [dval]
  | c :: l, n, h => by
    have hc := h c List.mem_cons_self
    simp only [digB, Bool.and_eq_true, decide_eq_true_eq] at hc
    have := dval_lt l (10 * n + (c.toNat - 48)) (fun c hc => h c (List.mem_cons_of_mem _ hc))
    simp only [dval, List.length_cons]
    have e : (10 * n + (c.toNat - 48) + 1) * 10 ^ l.length ≤ (n + 1) * 10 * 10 ^ l.length := Nat.mul_le_mul_right _ (by omega)
    rw [Nat.pow_succ, Nat.mul_comm (10 ^ l.length) 10, ← Nat.mul_assoc]
    omega
theorem append_toList (a b : ByteArray) : (a ++ b).toList = a.toList ++ b.toList := by
  rw [ByteArray.toList_eq, ByteArray.toList_eq, ByteArray.toList_eq, ByteArray.data_append, Array.toList_append]
theorem frac_dig (rest : ByteArray) (k : Nat) (hk : k = heads (rest.extract 1 rest.size).toList) (z : ByteArray) (hz : ∀ c ∈ z.toList, digB c = true) (j : Nat) : ∀ c ∈ (((rest.extract 1 (1 + k)) ++ z).extract 0 j).toList, digB c = true := by
  intro c hc
  rw [extract_toList, List.drop_zero, append_toList] at hc
  rcases List.mem_append.1 (List.mem_of_mem_take hc) with h | h
  · have h1 := heads_take (rest.extract 1 rest.size).toList c
    rw [← hk] at h1
    apply h1
    rw [extract_toList] at h ⊢
    rw [show List.take rest.size rest.toList = rest.toList from List.take_of_length_le (by rw [toList_len]; exact Nat.le_refl _)]
    rw [Nat.add_comm, List.drop_take, Nat.add_sub_cancel] at h
    exact h
  · exact hz c h
theorem cut_ev (s : ByteArray) (hs : s.size ≤ 1000000000) : Ev (fun k => quant_cut.f k s) (cutR s) := by
  unfold quant_cut.f
  refine Ev.bind (head_ev s hs) ?_
  have hl := heads_le s.toList
  rw [toList_len] at hl
  unfold cutR
  simp only
  generalize hn : heads s.toList = n at *
  by_cases h0 : n = 0
  · subst h0
    simp only [show ((0 : Nat) : Int) = 0 from rfl, if_true]
    exact Ev.now _
  · simp only [h0, show ¬ (n : Int) = 0 by omega, show (0 : Int) ≤ (n : Int) by omega, show (n : Int) ≤ (s.size : Int) by omega, if_true, if_false, Int.toNat_natCast]
    generalize hr : s.extract n s.size = rest at *
    have hrs : rest.size = s.size - n := by rw [← hr, ByteArray.size_extract]; omega
    have hj : ∀ b : Bool, (b = true ↔ (rest.size = 0 ∨ bt rest 0 ≠ 46)) → Ev (fun k => quant_cut.j0 k (s.extract 0 n) rest b)
        (if rest.size = 0 ∨ bt rest 0 ≠ 46 then (s.extract 0 n, 0, rest, 0) else
          if heads (rest.extract 1 rest.size).toList < 1 ∨ 3 < heads (rest.extract 1 rest.size).toList then (⟨#[]⟩, 0, ⟨#[]⟩, 8) else
          (s.extract 0 n, ((dval (((rest.extract 1 (1 + heads (rest.extract 1 rest.size).toList)) ++ (⟨#[48, 48]⟩ : ByteArray)).extract 0 3).toList 0 : Nat) : Int), rest.extract (1 + heads (rest.extract 1 rest.size).toList) rest.size, 0)) := by
      intro b hb
      refine Ev.step (fun k => by rw [quant_cut.j0]) ?_
      by_cases hc : rest.size = 0 ∨ bt rest 0 ≠ 46
      · rw [if_pos hc, hb.2 hc]
        simp only [if_true]
        exact Ev.now _
      · rw [if_neg hc]
        have hbf : b = false := by cases b with
          | false => rfl
          | true => exact absurd (hb.1 rfl) hc
        subst hbf
        have h1 : 1 ≤ rest.size := by omega
        simp only [Bool.false_eq_true, if_false, show (1 : Int) ≤ (rest.size : Int) by omega, if_true]
        have hx : (rest.extract 1 rest.size).size = rest.size - 1 := by rw [ByteArray.size_extract]; omega
        refine Ev.bind (head_ev _ (by omega)) ?_
        have hl2 := heads_le (rest.extract 1 rest.size).toList
        rw [toList_len, hx] at hl2
        generalize hk : heads (rest.extract 1 rest.size).toList = m at *
        by_cases hm1 : m < 1
        · simp only [show (m : Int) < 1 by omega, hm1, true_or, if_true]; exact Ev.now _
        · by_cases hm3 : 3 < m
          · simp only [show ¬ (m : Int) < 1 by omega, show (m : Int) > 3 by omega, hm3, or_true, if_true, if_false]; exact Ev.now _
          · rw [wrap_small (i := 1 + (m : Int)) (by omega) (by omega)]
            have e1 : (1 + (m : Int)).toNat = 1 + m := by omega
            rw [e1]
            have hsz : (rest.extract 1 (1 + m)).size = m := by rw [ByteArray.size_extract]; omega
            have hsz2 : ((rest.extract 1 (1 + m)) ++ (⟨#[48, 48]⟩ : ByteArray)).size = m + 2 := by rw [ByteArray.size_append, hsz]; rfl
            simp only [show ¬ (m : Int) < 1 by omega, show ¬ (m : Int) > 3 by omega, hm1, hm3, or_self, if_false, show (1 : Int) ≤ 1 + (m : Int) by omega, show (0 : Int) ≤ 1 + (m : Int) by omega, show 1 + (m : Int) ≤ (rest.size : Int) by omega, if_true, hsz, hsz2, show m + 2 ≤ 9223372036854775807 by omega, show (0 : Int) ≤ 3 by decide, show (3 : Int) ≤ ((m + 2 : Nat) : Int) by omega]
            have hd := frac_dig rest m hk.symm ⟨#[48, 48]⟩ zz2 3
            have hlt := dval_lt _ 0 hd
            have hsz3 : (((rest.extract 1 (1 + m)) ++ (⟨#[48, 48]⟩ : ByteArray)).extract 0 3).size = 3 := by rw [ByteArray.size_extract, hsz2]; omega
            rw [toList_len, hsz3] at hlt
            have hv := value_ev _ 1000 (by omega) (by omega) (by rw [hsz3]; omega) hd
            rw [show valR (dval (((rest.extract 1 (1 + m)) ++ (⟨#[48, 48]⟩ : ByteArray)).extract 0 3).toList 0) 1000 = (((dval (((rest.extract 1 (1 + m)) ++ (⟨#[48, 48]⟩ : ByteArray)).extract 0 3).toList 0 : Nat) : Int), true) from if_pos (by omega)] at hv
            exact Ev.bind hv (Ev.now _)
    by_cases hc : rest.size = 0
    · simp only [toList_nil hc, if_true]
      exact hj true ⟨fun _ => .inl hc, fun _ => rfl⟩
    · have hne : ¬ rest.toList = [] := fun e => hc (size_nil e)
      simp only [hne, if_false, show (0 : Int) < (rest.size : Int) by omega, if_true]
      refine hj _ ⟨fun h => .inr (by simpa using h), fun h => ?_⟩
      rcases h with h | h
      · exact absurd h hc
      · simpa using h
theorem unitO_ok (s : ByteArray) (u : Int) (h : unitO s = some u) : ∃ v : Nat, u = (v : Int) ∧ (v = 1 ∨ 1000 ≤ v) ∧ v ≤ 1099511627776000 := by
  unfold unitO at h
  repeat' (split at h)
  all_goals first | (cases h; done) | (cases h; exact ⟨Int.toNat _, (Int.toNat_of_nonneg (by decide)).symm, by decide, by decide⟩)
def tailR (whole : ByteArray) (p : Nat) (rest : ByteArray) (each : Nat) : Int × Int :=
  match unitO rest with
  | none => (0, 9)
  | some u => if vOf (dval whole.toList 0) p u.toNat % each = 0 then amtFin (vOf (dval whole.toList 0) p u.toNat) each else (0, 8)
def amtR (s : ByteArray) (each : Nat) : Int × Int :=
  let c := cutR s
  if c.2.2.2 = 0 then tailR c.1 c.2.1.toNat c.2.2.1 each else (0, c.2.2.2)
theorem cutR_ok (s : ByteArray) (h : (cutR s).2.2.2 = 0) : ∃ p : Nat, (cutR s).2.1 = (p : Int) ∧ p < 1000 ∧ (cutR s).1 = s.extract 0 (heads s.toList) := by
  unfold cutR at h ⊢
  simp only at h ⊢
  by_cases h0 : heads s.toList = 0
  · rw [if_pos h0] at h; exact absurd h (by decide)
  · rw [if_neg h0] at h ⊢
    by_cases h1 : (s.extract (heads s.toList) s.size).size = 0 ∨ bt (s.extract (heads s.toList) s.size) 0 ≠ 46
    · rw [if_pos h1]; exact ⟨0, rfl, by decide, rfl⟩
    · rw [if_neg h1] at h ⊢
      generalize hr : s.extract (heads s.toList) s.size = rest at *
      generalize hk : heads (rest.extract 1 rest.size).toList = m at *
      by_cases h2 : m < 1 ∨ 3 < m
      · rw [if_pos h2] at h; exact absurd h (by decide)
      · rw [if_neg h2]
        have hd := frac_dig rest m hk.symm ⟨#[48, 48]⟩ zz2 3
        have hlt := dval_lt _ 0 hd
        rw [toList_len] at hlt
        have hsz3 : (((rest.extract 1 (1 + m)) ++ (⟨#[48, 48]⟩ : ByteArray)).extract 0 3).size ≤ 3 := by rw [ByteArray.size_extract]; omega
        have : 10 ^ (((rest.extract 1 (1 + m)) ++ (⟨#[48, 48]⟩ : ByteArray)).extract 0 3).size ≤ 10 ^ 3 := Nat.pow_le_pow_right (by decide) hsz3
        exact ⟨_, rfl, by omega, rfl⟩
theorem whole_dig (s : ByteArray) : ∀ c ∈ (s.extract 0 (heads s.toList)).toList, digB c = true := by
  intro c hc
  rw [extract_toList, List.drop_zero] at hc
  exact heads_take _ c hc
theorem amount_ev (s : ByteArray) (each : Nat) (he : each = 1000 ∨ each = 1000000) (hs : s.size ≤ 1000000000) : Ev (fun k => quant_amount.f k s (each : Int)) (amtR s each) := by
  unfold quant_amount.f amtR
  refine Ev.bind (cut_ev s hs) ?_
  simp only
  by_cases h : (cutR s).2.2.2 = 0
  · simp only [h, if_true]
    obtain ⟨p, hp, hp2, hw⟩ := cutR_ok s h
    unfold tailR
    cases hu : unitO (cutR s).2.2.1 with
    | none => exact Ev.now _
    | some u =>
      obtain ⟨v, rfl, hv, hv2⟩ := unitO_ok _ u hu
      simp only [Int.toNat_natCast, hp, hw]
      have hwz : (s.extract 0 (heads s.toList)).size ≤ 1000000000 := by rw [ByteArray.size_extract]; omega
      refine Ev.bind (exact_ev _ each (by omega) (by omega) p v hp2 hwz (whole_dig s)) ?_
      by_cases hx : vOf (dval (s.extract 0 (heads s.toList)).toList 0) p v % each = 0
      · rw [if_pos hx, decide_eq_true hx]
        simp only [if_true]
        obtain ⟨n, hn, hf⟩ := whole_ev _ each he p v hp2 hv hv2 hwz (whole_dig s) hx
        rw [← hf]
        exact Ev.bind hn (fin_now _)
      · rw [if_neg hx, decide_eq_false hx]
        simp only [Bool.false_eq_true, if_false]
        exact Ev.now _
  · simp only [h, if_false]
    exact Ev.now _
theorem quantParse_ev (s : ByteArray) (hs : s.size ≤ 1000000000) : Ev (fun k => quant_Parse.f k s) (amtR s 1000000) := by
  unfold quant_Parse.f
  exact Ev.bind (amount_ev s 1000000 (.inr rfl) hs) (Ev.now _)
theorem quantMilli_ev (s : ByteArray) (hs : s.size ≤ 1000000000) : Ev (fun k => quant_Milli.f k s) (amtR s 1000) := by
  unfold quant_Milli.f
  exact Ev.bind (amount_ev s 1000 (.inl rfl) hs) (Ev.now _)
end Go.Proofs.Ytpmmiabcfnejmaa.H
end
section
namespace Go.Proofs.Ytpmmiabcfnejmaa.H
open Go.RowKit Go.Proofs.YtpmmiabcfnejmaaW.PrintWords Go.Proofs.YtpmmiabcfnejmaaW.PrintLast Go.Proofs.YtpmmiabcfnejmaaW.PrintMore
attribute [local go_sem] max2_int min2_int max_two min_two max_three min_three max_four min_four   -- for this text's walks alone
set_option linter.unusedVariables false
set_option linter.unusedSimpArgs false
def triremeref03_unit.f (a0 : ByteArray) : Option (Int) := if a0.toList = ([] : List UInt8) then (some 1000) else (if a0.toList = ([109] : List UInt8) then (some 1) else (if a0.toList = ([75, 105] : List UInt8) then (some 1024000) else (if a0.toList = ([77, 105] : List UInt8) then (some 1048576000) else (if a0.toList = ([71, 105] : List UInt8) then (some 1073741824000) else (if a0.toList = ([84, 105] : List UInt8) then (some 1099511627776000) else (if a0.toList = ([107] : List UInt8) then (some 1000000) else (if a0.toList = ([77] : List UInt8) then (some 1000000000) else (if a0.toList = ([71] : List UInt8) then (some 1000000000000) else (if a0.toList = ([84] : List UInt8) then (some 1000000000000000) else (some 0))))))))))
set_option maxHeartbeats 8000000 in
set_option maxRecDepth 100000 in
theorem triremeref03_unit.calls (a0 : ByteArray) (r : Int) (w : World) (h : triremeref03_unit.f a0 = some r) :
    Calls Try.prog 31 #[.string a0] w fun e w' => e = .returned (.int .i64 r) ∧ Drawn0 w w' := by
  have H : (if a0.toList = ([] : List UInt8) then (some 1000) else (if a0.toList = ([109] : List UInt8) then (some 1) else (if a0.toList = ([75, 105] : List UInt8) then (some 1024000) else (if a0.toList = ([77, 105] : List UInt8) then (some 1048576000) else (if a0.toList = ([71, 105] : List UInt8) then (some 1073741824000) else (if a0.toList = ([84, 105] : List UInt8) then (some 1099511627776000) else (if a0.toList = ([107] : List UInt8) then (some 1000000) else (if a0.toList = ([77] : List UInt8) then (some 1000000000) else (if a0.toList = ([71] : List UInt8) then (some 1000000000000) else (if a0.toList = ([84] : List UInt8) then (some 1000000000000000) else (some 0))))))))))) = some r := h
  clear h
  by_cases c2 : a0.toList = ([] : List UInt8)
  · rw [if_pos c2] at H
    have c2b0 : (a0.toList == ([] : List UInt8)) = true := beq_iff_eq.mpr c2
    have c2b1 : (a0.toList != ([] : List UInt8)) = false := bne_eq_false_iff_eq.mpr c2
    clear c2
    obtain rfl := Option.some.inj H
    go_enter Try.func31, Try.ntmps31
    go_wp2
    go_ret
    exact ⟨by first | rfl | (simp; done) | (simp [*]; done), by repeat (first | exact Drawn0.refl _ | apply Drawn0.step)⟩
  · rw [if_neg c2] at H
    have c2b0 : (a0.toList == ([] : List UInt8)) = false := beq_eq_false_iff_ne.mpr c2
    have c2b1 : (a0.toList != ([] : List UInt8)) = true := bne_iff_ne.mpr c2
    by_cases c3 : a0.toList = ([109] : List UInt8)
    · rw [if_pos c3] at H
      have c3b0 : (a0.toList == ([109] : List UInt8)) = true := beq_iff_eq.mpr c3
      have c3b1 : (a0.toList != ([109] : List UInt8)) = false := bne_eq_false_iff_eq.mpr c3
      clear c3
      obtain rfl := Option.some.inj H
      go_enter Try.func31, Try.ntmps31
      go_wp2
      go_ret
      exact ⟨by first | rfl | (simp; done) | (simp [*]; done), by repeat (first | exact Drawn0.refl _ | apply Drawn0.step)⟩
    · rw [if_neg c3] at H
      have c3b0 : (a0.toList == ([109] : List UInt8)) = false := beq_eq_false_iff_ne.mpr c3
      have c3b1 : (a0.toList != ([109] : List UInt8)) = true := bne_iff_ne.mpr c3
      by_cases c4 : a0.toList = ([75, 105] : List UInt8)
      · rw [if_pos c4] at H
        have c4b0 : (a0.toList == ([75, 105] : List UInt8)) = true := beq_iff_eq.mpr c4
        have c4b1 : (a0.toList != ([75, 105] : List UInt8)) = false := bne_eq_false_iff_eq.mpr c4
        clear c4
        obtain rfl := Option.some.inj H
        go_enter Try.func31, Try.ntmps31
        go_wp2
        go_ret
        exact ⟨by first | rfl | (simp; done) | (simp [*]; done), by repeat (first | exact Drawn0.refl _ | apply Drawn0.step)⟩
      · rw [if_neg c4] at H
        have c4b0 : (a0.toList == ([75, 105] : List UInt8)) = false := beq_eq_false_iff_ne.mpr c4
        have c4b1 : (a0.toList != ([75, 105] : List UInt8)) = true := bne_iff_ne.mpr c4
        by_cases c5 : a0.toList = ([77, 105] : List UInt8)
        · rw [if_pos c5] at H
          have c5b0 : (a0.toList == ([77, 105] : List UInt8)) = true := beq_iff_eq.mpr c5
          have c5b1 : (a0.toList != ([77, 105] : List UInt8)) = false := bne_eq_false_iff_eq.mpr c5
          clear c5
          obtain rfl := Option.some.inj H
          go_enter Try.func31, Try.ntmps31
          go_wp2
          go_ret
          exact ⟨by first | rfl | (simp; done) | (simp [*]; done), by repeat (first | exact Drawn0.refl _ | apply Drawn0.step)⟩
        · rw [if_neg c5] at H
          have c5b0 : (a0.toList == ([77, 105] : List UInt8)) = false := beq_eq_false_iff_ne.mpr c5
          have c5b1 : (a0.toList != ([77, 105] : List UInt8)) = true := bne_iff_ne.mpr c5
          by_cases c6 : a0.toList = ([71, 105] : List UInt8)
          · rw [if_pos c6] at H
            have c6b0 : (a0.toList == ([71, 105] : List UInt8)) = true := beq_iff_eq.mpr c6
            have c6b1 : (a0.toList != ([71, 105] : List UInt8)) = false := bne_eq_false_iff_eq.mpr c6
            clear c6
            obtain rfl := Option.some.inj H
            go_enter Try.func31, Try.ntmps31
            go_wp2
            go_ret
            exact ⟨by first | rfl | (simp; done) | (simp [*]; done), by repeat (first | exact Drawn0.refl _ | apply Drawn0.step)⟩
          · rw [if_neg c6] at H
            have c6b0 : (a0.toList == ([71, 105] : List UInt8)) = false := beq_eq_false_iff_ne.mpr c6
            have c6b1 : (a0.toList != ([71, 105] : List UInt8)) = true := bne_iff_ne.mpr c6
            by_cases c7 : a0.toList = ([84, 105] : List UInt8)
            · rw [if_pos c7] at H
              have c7b0 : (a0.toList == ([84, 105] : List UInt8)) = true := beq_iff_eq.mpr c7
              have c7b1 : (a0.toList != ([84, 105] : List UInt8)) = false := bne_eq_false_iff_eq.mpr c7
              clear c7
              obtain rfl := Option.some.inj H
              go_enter Try.func31, Try.ntmps31
              go_wp2
              go_ret
              exact ⟨by first | rfl | (simp; done) | (simp [*]; done), by repeat (first | exact Drawn0.refl _ | apply Drawn0.step)⟩
            · rw [if_neg c7] at H
              have c7b0 : (a0.toList == ([84, 105] : List UInt8)) = false := beq_eq_false_iff_ne.mpr c7
              have c7b1 : (a0.toList != ([84, 105] : List UInt8)) = true := bne_iff_ne.mpr c7
              by_cases c8 : a0.toList = ([107] : List UInt8)
              · rw [if_pos c8] at H
                have c8b0 : (a0.toList == ([107] : List UInt8)) = true := beq_iff_eq.mpr c8
                have c8b1 : (a0.toList != ([107] : List UInt8)) = false := bne_eq_false_iff_eq.mpr c8
                clear c8
                obtain rfl := Option.some.inj H
                go_enter Try.func31, Try.ntmps31
                go_wp2
                go_ret
                exact ⟨by first | rfl | (simp; done) | (simp [*]; done), by repeat (first | exact Drawn0.refl _ | apply Drawn0.step)⟩
              · rw [if_neg c8] at H
                have c8b0 : (a0.toList == ([107] : List UInt8)) = false := beq_eq_false_iff_ne.mpr c8
                have c8b1 : (a0.toList != ([107] : List UInt8)) = true := bne_iff_ne.mpr c8
                by_cases c9 : a0.toList = ([77] : List UInt8)
                · rw [if_pos c9] at H
                  have c9b0 : (a0.toList == ([77] : List UInt8)) = true := beq_iff_eq.mpr c9
                  have c9b1 : (a0.toList != ([77] : List UInt8)) = false := bne_eq_false_iff_eq.mpr c9
                  clear c9
                  obtain rfl := Option.some.inj H
                  go_enter Try.func31, Try.ntmps31
                  go_wp2
                  go_ret
                  exact ⟨by first | rfl | (simp; done) | (simp [*]; done), by repeat (first | exact Drawn0.refl _ | apply Drawn0.step)⟩
                · rw [if_neg c9] at H
                  have c9b0 : (a0.toList == ([77] : List UInt8)) = false := beq_eq_false_iff_ne.mpr c9
                  have c9b1 : (a0.toList != ([77] : List UInt8)) = true := bne_iff_ne.mpr c9
                  by_cases c10 : a0.toList = ([71] : List UInt8)
                  · rw [if_pos c10] at H
                    have c10b0 : (a0.toList == ([71] : List UInt8)) = true := beq_iff_eq.mpr c10
                    have c10b1 : (a0.toList != ([71] : List UInt8)) = false := bne_eq_false_iff_eq.mpr c10
                    clear c10
                    obtain rfl := Option.some.inj H
                    go_enter Try.func31, Try.ntmps31
                    go_wp2
                    go_ret
                    exact ⟨by first | rfl | (simp; done) | (simp [*]; done), by repeat (first | exact Drawn0.refl _ | apply Drawn0.step)⟩
                  · rw [if_neg c10] at H
                    have c10b0 : (a0.toList == ([71] : List UInt8)) = false := beq_eq_false_iff_ne.mpr c10
                    have c10b1 : (a0.toList != ([71] : List UInt8)) = true := bne_iff_ne.mpr c10
                    by_cases c11 : a0.toList = ([84] : List UInt8)
                    · rw [if_pos c11] at H
                      have c11b0 : (a0.toList == ([84] : List UInt8)) = true := beq_iff_eq.mpr c11
                      have c11b1 : (a0.toList != ([84] : List UInt8)) = false := bne_eq_false_iff_eq.mpr c11
                      clear c11
                      obtain rfl := Option.some.inj H
                      go_enter Try.func31, Try.ntmps31
                      go_wp2
                      go_ret
                      exact ⟨by first | rfl | (simp; done) | (simp [*]; done), by repeat (first | exact Drawn0.refl _ | apply Drawn0.step)⟩
                    · rw [if_neg c11] at H
                      have c11b0 : (a0.toList == ([84] : List UInt8)) = false := beq_eq_false_iff_ne.mpr c11
                      have c11b1 : (a0.toList != ([84] : List UInt8)) = true := bne_iff_ne.mpr c11
                      obtain rfl := Option.some.inj H
                      go_enter Try.func31, Try.ntmps31
                      go_wp2
                      go_ret
                      exact ⟨by first | rfl | (simp; done) | (simp [*]; done), by repeat (first | exact Drawn0.refl _ | apply Drawn0.step)⟩
end Go.Proofs.Ytpmmiabcfnejmaa.H
end
section
namespace Go.Proofs.Ytpmmiabcfnejmaa.H
open Go.RowKit Go.Proofs.YtpmmiabcfnejmaaW.PrintWords Go.Proofs.YtpmmiabcfnejmaaW.PrintLast Go.Proofs.YtpmmiabcfnejmaaW.PrintMore
attribute [local go_sem] max2_int min2_int max_two min_two max_three min_three max_four min_four   -- for this text's walks alone
set_option linter.unusedVariables false
set_option linter.unusedSimpArgs false
mutual
def triremeref03_product.l0 : Nat → ByteArray → Int → ByteArray → Int → Int → Option (ByteArray)
  | 0, _, _, _, _, _ => none
  | k + 1, x0, x1, x5, x6, x7 => if x7 ≥ 0 then (triremeref03_product.j1 k x0 x1 x5 x6 x7 true) else (triremeref03_product.j1 k x0 x1 x5 x6 x7 (decide (x6 > 0)))
def triremeref03_product.j1 : Nat → ByteArray → Int → ByteArray → Int → Int → Bool → Option (ByteArray)
  | 0, _, _, _, _, _, _ => none
  | k + 1, x0, x1, x5, x6, x7, x16 => if x16 = true then (if x7 ≥ 0 then (if 0 ≤ x7 then (if x7 < (x0.size : Int) then ((some (([(wrap64 (48 + (Int.tmod (wrap64 (x6 + (wrap64 ((((bt x0 x7) - 48) % 256) * x1)))) 10))) % 256] : List Int) : List Int)).bind fun y163 => (if (strOfNums y163).size + x5.size ≤ 9223372036854775807 then (triremeref03_product.l0 k x0 x1 ((strOfNums y163) ++ x5) (wrap64 (Int.tdiv (wrap64 (x6 + (wrap64 ((((bt x0 x7) - 48) % 256) * x1)))) 10)) (wrap64 (x7 - 1))) else (none))) else (none)) else (none)) else ((some (([(wrap64 (48 + (Int.tmod x6 10))) % 256] : List Int) : List Int)).bind fun y166 => (if (strOfNums y166).size + x5.size ≤ 9223372036854775807 then (triremeref03_product.l0 k x0 x1 ((strOfNums y166) ++ x5) (wrap64 (Int.tdiv x6 10)) (wrap64 (x7 - 1))) else (none)))) else (some x5)
end
def triremeref03_product.f (k : Nat) (a0 : ByteArray) (a1 : Int) : Option (ByteArray) := triremeref03_product.l0 k a0 a1 (⟨#[]⟩ : ByteArray) 0 (wrap64 ((a0.size : Int) - 1))
theorem triremeref03_product.mono_l : ∀ k, (∀ y0 y1 y2 y3 y4, LeO (triremeref03_product.l0 k y0 y1 y2 y3 y4) (triremeref03_product.l0 (k + 1) y0 y1 y2 y3 y4)) ∧ (∀ y0 y1 y2 y3 y4 y5, LeO (triremeref03_product.j1 k y0 y1 y2 y3 y4 y5) (triremeref03_product.j1 (k + 1) y0 y1 y2 y3 y4 y5))
  | 0 => ⟨fun _ _ _ _ _ r h => by simp [triremeref03_product.l0] at h, fun _ _ _ _ _ _ r h => by simp [triremeref03_product.j1] at h⟩
  | k + 1 => by
    obtain ⟨ih0, ih1⟩ := triremeref03_product.mono_l k
    refine ⟨?_, ?_⟩
    · intro y0 y1 y2 y3 y4
      unfold triremeref03_product.l0
      repeat' first
      | (with_reducible exact ih0 _ _ _ _ _)
      | (with_reducible exact ih1 _ _ _ _ _ _)
      | (with_reducible exact LeO.refl _)
      | (with_reducible exact LeO.none _)
      | (with_reducible refine LeO.ite ?_ ?_)
      | (with_reducible refine LeO.bind ?_ (fun _ => ?_))
      | exact ih0 _ _ _ _ _
      | exact ih1 _ _ _ _ _ _
      | exact LeO.none _
      | refine LeO.ite ?_ ?_
      | refine LeO.bind ?_ (fun _ => ?_)
    · intro y0 y1 y2 y3 y4 y5
      unfold triremeref03_product.j1
      repeat' first
      | (with_reducible exact ih0 _ _ _ _ _)
      | (with_reducible exact ih1 _ _ _ _ _ _)
      | (with_reducible exact LeO.refl _)
      | (with_reducible exact LeO.none _)
      | (with_reducible refine LeO.ite ?_ ?_)
      | (with_reducible refine LeO.bind ?_ (fun _ => ?_))
      | exact ih0 _ _ _ _ _
      | exact ih1 _ _ _ _ _ _
      | exact LeO.none _
      | refine LeO.ite ?_ ?_
      | refine LeO.bind ?_ (fun _ => ?_)
theorem triremeref03_product.mono : ∀ a0 a1 k, LeO (triremeref03_product.f k a0 a1) (triremeref03_product.f (k + 1) a0 a1) := by
  intro a0 a1 k
  obtain ⟨ih0, ih1⟩ := triremeref03_product.mono_l k
  unfold triremeref03_product.f
  repeat' first
      | (with_reducible exact ih0 _ _ _ _ _)
      | (with_reducible exact ih1 _ _ _ _ _ _)
      | (with_reducible exact LeO.refl _)
      | (with_reducible exact LeO.none _)
      | (with_reducible refine LeO.ite ?_ ?_)
      | (with_reducible refine LeO.bind ?_ (fun _ => ?_))
      | exact ih0 _ _ _ _ _
      | exact ih1 _ _ _ _ _ _
      | exact LeO.none _
      | refine LeO.ite ?_ ?_
      | refine LeO.bind ?_ (fun _ => ?_)
set_option maxHeartbeats 8000000 in
set_option maxRecDepth 100000 in
theorem triremeref03_product.calls (k : Nat) (a0 : ByteArray) (a1 : Int) (r : ByteArray) (w : World) (h : triremeref03_product.f k a0 a1 = some r) :
    Calls Try.prog 32 #[.string a0, .int .i64 a1] w fun e w' => e = .returned (.string r) ∧ Below w.heap.size w w' := by
  have HB := Aside0.mk (Below.refl w.heap.size w)
  have H : (triremeref03_product.l0 k a0 a1 (⟨#[]⟩ : ByteArray) 0 (wrap64 ((a0.size : Int) - 1))) = some r := h
  clear h
  have H' := Aside0.mk H
  clear H
  go_enter Try.func32, Try.ntmps32
  go_wp2
  go_loopg [5, 6, 7] k (fun kq v5 v6 v7 w' => ∃ (x5_1 : ByteArray) (x6_1 : Int) (x7_1 : Int), v5 = .string x5_1 ∧ v6 = .int .i64 x6_1 ∧ v7 = .int .i64 x7_1 ∧ Aside0 (triremeref03_product.l0 kq a0 a1 x5_1 x6_1 x7_1 = some r) ∧ Aside0 (kq ≤ k) ∧ Aside0 (Below w.heap.size w w'))
  case atStart => exact ⟨((⟨#[]⟩ : ByteArray)), (0), (wrap64 ((a0.size : Int) - 1)), (by first | rfl | (simp; done) | (simp [*]; done)), (by first | rfl | (simp; done) | (simp [*]; done)), (by first | rfl | (simp; done) | (simp [*]; done)), H', ⟨Nat.le_refl _⟩, ⟨by repeat (first | (with_reducible first | exact HB.out | apply below_alloc | apply pw_below_drewN | apply below_drew1) | exact HB.out)⟩⟩
  case round =>
    clear H'
    try clear p2
    obtain ⟨x5_1, x6_1, x7_1, rfl, rfl, rfl, HA, HK1, HB⟩ := hrel
    cases gk with
    | zero => exact absurd HA.out (by simp [triremeref03_product.l0])
    | succ k1 =>
      have H := HA.out
      clear HA
      simp only [triremeref03_product.l0] at H
      have HC3 := Aside0.mk H
      clear H
      go_upto_region 4 with (fail)
      go_cut [16] (fun v16 wc => ∃ (kq : Nat) (x16_2 : Bool), v16 = .bool x16_2 ∧ Aside0 (triremeref03_product.j1 kq a0 a1 x5_1 x6_1 x7_1 x16_2 = some r) ∧ Aside0 (kq ≤ k1) ∧ Aside0 (Below w.heap.size w wc))
      case first =>
        have H := HC3.out
        clear HC3
        by_cases c4 : x7_1 ≥ 0
        · rw [if_pos c4] at H
          have c4b0 : decide (0 ≤ x7_1) = true := decide_eq_true c4
          clear c4
          (first | rw [c4b0] | (simp only [i64_w, i32_w]; rw [c4b0]) | skip)
          have H' := Aside0.mk H
          clear H
          go_wp2
          go_meet
          case rel => exact ⟨_, (true), (by first | rfl | (simp; done) | (simp [*]; done)), H', ⟨by have := HK1.out; first | omega | exact Nat.le_refl _⟩, ⟨by repeat (first | (with_reducible first | exact HB.out | apply below_alloc | apply pw_below_drewN | apply below_drew1) | exact HB.out)⟩⟩
        · rw [if_neg c4] at H
          have c4b0 : decide (0 ≤ x7_1) = false := decide_eq_false c4
          clear c4
          (first | rw [c4b0] | (simp only [i64_w, i32_w]; rw [c4b0]) | skip)
          have H' := Aside0.mk H
          clear H
          go_wp2
          go_meet
          case rel => exact ⟨_, (decide (x6_1 > 0)), (by first | rfl | (simp; done) | (simp [*]; done)), H', ⟨by have := HK1.out; first | omega | exact Nat.le_refl _⟩, ⟨by repeat (first | (with_reducible first | exact HB.out | apply below_alloc | apply pw_below_drewN | apply below_drew1) | exact HB.out)⟩⟩
      case rest =>
        clear HC3
        try clear p2
        try clear c3
        try clear c4
        try clear c4b0
        try clear p2
        obtain ⟨kq, x16_2, rfl, HA, HJ2, HB⟩ := hcut
        cases kq with
        | zero => exact absurd HA.out (by simp [triremeref03_product.j1])
        | succ kj2 =>
          have H := HA.out
          clear HA
          simp only [triremeref03_product.j1] at H
          by_cases c5 : x16_2 = true
          · subst c5
            have H1 : (if x7_1 ≥ 0 then (if 0 ≤ x7_1 then (if x7_1 < (a0.size : Int) then ((some (([(wrap64 (48 + (Int.tmod (wrap64 (x6_1 + (wrap64 ((((bt a0 x7_1) - 48) % 256) * a1)))) 10))) % 256] : List Int) : List Int)).bind fun y163 => (if (strOfNums y163).size + x5_1.size ≤ 9223372036854775807 then (triremeref03_product.l0 kj2 a0 a1 ((strOfNums y163) ++ x5_1) (wrap64 (Int.tdiv (wrap64 (x6_1 + (wrap64 ((((bt a0 x7_1) - 48) % 256) * a1)))) 10)) (wrap64 (x7_1 - 1))) else (none))) else (none)) else (none)) else ((some (([(wrap64 (48 + (Int.tmod x6_1 10))) % 256] : List Int) : List Int)).bind fun y166 => (if (strOfNums y166).size + x5_1.size ≤ 9223372036854775807 then (triremeref03_product.l0 kj2 a0 a1 ((strOfNums y166) ++ x5_1) (wrap64 (Int.tdiv x6_1 10)) (wrap64 (x7_1 - 1))) else (none)))) = some r := by rw [if_pos rfl] at H; exact H
            clear H
            have H := H1
            clear H1
            by_cases c6 : x7_1 ≥ 0
            · rw [if_pos c6] at H
              have c6b0 : decide (0 ≤ x7_1) = true := decide_eq_true c6
              clear c6
              by_cases c7 : 0 ≤ x7_1
              · rw [if_pos c7] at H
                have c7b0 : decide (0 ≤ x7_1) = true := decide_eq_true c7
                clear c7
                by_cases c8 : x7_1 < (a0.size : Int)
                · rw [if_pos c8] at H
                  have c8b0 : decide (x7_1 < (a0.size : Int)) = true := decide_eq_true c8
                  clear c8
                  obtain ⟨y163, hy163⟩ : ∃ y_ : List Int, y_ = (([(wrap64 (48 + (Int.tmod (wrap64 (x6_1 + (wrap64 ((((bt a0 x7_1) - 48) % 256) * a1)))) 10))) % 256] : List Int)) := ⟨_, rfl⟩
                  replace H : (if (strOfNums y163).size + x5_1.size ≤ 9223372036854775807 then (triremeref03_product.l0 kj2 a0 a1 ((strOfNums y163) ++ x5_1) (wrap64 (Int.tdiv (wrap64 (x6_1 + (wrap64 ((((bt a0 x7_1) - 48) % 256) * a1)))) 10)) (wrap64 (x7_1 - 1))) else (none)) = some r := by first | (rw [hy163]; with_reducible exact H) | (have H2_ := (Option.bind_some _ _).symm.trans H; rw [hy163]; with_reducible exact H2_) | (have H2_ := (Option.bind_some _ _).symm.trans H; with_reducible exact H2_) | with_reducible exact H | (rw [hy163]; exact H) | exact H
                  have Ny163 := Aside0.mk hy163
                  clear hy163
                  by_cases c10 : (strOfNums y163).size + x5_1.size ≤ 9223372036854775807
                  · rw [if_pos c10] at H
                    have c10b0 := eq_true c10
                    (try (have c10z := c10b0; rw [ByteArray.size_extract, Nat.min_self] at c10z))
                    have c10b1 : decide ((strOfNums y163).size + x5_1.size ≤ 9223372036854775807) = true := decide_eq_true c10
                    try have c10b2 : (9223372036854775807 < (strOfNums y163).size + x5_1.size) = False := eq_false (Nat.not_lt.2 c10)
                    have H' := Aside0.mk H
                    clear H
                    have p9 : 0 ≤ (x7_1 : Int) := of_decide_eq_true (by first | (with_reducible assumption) | assumption)
                    have q9 : x7_1 < (a0.size : Int) := of_decide_eq_true (by first | (with_reducible assumption) | assumption)
                    have hx9 := bt_at a0 x7_1
                    replace p9 := eq_true p9
                    replace q9 := eq_true q9
                    (try (have qz9 := q9; rw [ByteArray.size_extract, Nat.min_self] at qz9))
                    go_wp2_with (first | ((with_reducible refine gate_dst (N := 34) rfl ?_); refine Kd.R_lit (Kd.int .u8) _ 5 ?hg (N := 34) ?hd (xs := ([(wrap64 (48 + (Int.tmod (wrap64 (x6_1 + (wrap64 ((((bt a0 x7_1) - 48) % 256) * a1)))) 10))) % 256] : List Int)) (inner := [.int .u8 ((wrap64 (48 + (Int.tmod (wrap64 (x6_1 + (wrap64 ((((bt a0 x7_1) - 48) % 256) * a1)))) 10))) % 256)]) (ok := fun _ => True) (okp := fun _ => True) ?hr ?hp (fun _ hk => hk) trivial (Below.refl _ _) (Nat.le_refl _) (by simp) ?_; (case hd => rfl); (case hg => rfl); (case hr => first | (go_simp; done) | (go_simp; rfl)); (case hp => exact (Reps.one (show Kd.M (Kd.int .u8) _ _ _ ((wrap64 (48 + (Int.tmod (wrap64 (x6_1 + (wrap64 ((((bt a0 x7_1) - 48) % 256) * a1)))) 10))) % 256) [.int .u8 ((wrap64 (48 + (Int.tmod (wrap64 (x6_1 + (wrap64 ((((bt a0 x7_1) - 48) % 256) * a1)))) 10))) % 256)] from rfl) (Reps.none _ _))); intro v164 w11 ho12 hb hg_ hnew_; clear hg_ hnew_; (first | rw [← Ny163.out] at ho12 | (simp only [Int.reduceToNat] at ho12; rw [← Ny163.out] at ho12)); have n0_ := Aside0.mk (Kd.R_lower ho12 (below_size (by repeat (first | (with_reducible first | exact HB.out | apply below_alloc | apply pw_below_drewN | apply below_drew1) | exact HB.out)))); have n1_ := Aside0.mk (below_step (by repeat (first | (with_reducible first | exact HB.out | apply below_alloc | apply pw_below_drewN | apply below_drew1) | exact HB.out)) hb); clear HB; have HO165 := n0_; have HB := n1_; clear n0_ n1_; clear hb ho12; have hcv13 := own_string (P := Try.prog) Try.underlying39 Try.underlying5 Try.underlying9 (Kd.own_of_R HO165.out)))
                    go_roundg kj2
                    case measure => have := HK1.out; have := HJ2.out; omega
                    case rel => exact ⟨((strOfNums y163) ++ x5_1), (wrap64 (Int.tdiv (wrap64 (x6_1 + (wrap64 ((((bt a0 x7_1) - 48) % 256) * a1)))) 10)), (wrap64 (x7_1 - 1)), (by first | rfl | (simp; done) | (simp [*]; done)), (by first | rfl | (simp; done) | (simp [*]; done)), (by first | rfl | (simp; done) | (simp [*]; done)), H', ⟨by have := HK1.out; have := HJ2.out; omega⟩, ⟨by repeat (first | (with_reducible first | exact HB.out | apply below_alloc | apply pw_below_drewN | apply below_drew1) | exact HB.out)⟩⟩
                  · rw [if_neg c10] at H
                    exact absurd H (by simp)
                · rw [if_neg c8] at H
                  exact absurd H (by simp)
              · rw [if_neg c7] at H
                exact absurd H (by simp)
            · rw [if_neg c6] at H
              have c6b0 : decide (0 ≤ x7_1) = false := decide_eq_false c6
              clear c6
              obtain ⟨y166, hy166⟩ : ∃ y_ : List Int, y_ = (([(wrap64 (48 + (Int.tmod x6_1 10))) % 256] : List Int)) := ⟨_, rfl⟩
              replace H : (if (strOfNums y166).size + x5_1.size ≤ 9223372036854775807 then (triremeref03_product.l0 kj2 a0 a1 ((strOfNums y166) ++ x5_1) (wrap64 (Int.tdiv x6_1 10)) (wrap64 (x7_1 - 1))) else (none)) = some r := by first | (rw [hy166]; with_reducible exact H) | (have H2_ := (Option.bind_some _ _).symm.trans H; rw [hy166]; with_reducible exact H2_) | (have H2_ := (Option.bind_some _ _).symm.trans H; with_reducible exact H2_) | with_reducible exact H | (rw [hy166]; exact H) | exact H
              have Ny166 := Aside0.mk hy166
              clear hy166
              by_cases c14 : (strOfNums y166).size + x5_1.size ≤ 9223372036854775807
              · rw [if_pos c14] at H
                have c14b0 := eq_true c14
                (try (have c14z := c14b0; rw [ByteArray.size_extract, Nat.min_self] at c14z))
                have c14b1 : decide ((strOfNums y166).size + x5_1.size ≤ 9223372036854775807) = true := decide_eq_true c14
                try have c14b2 : (9223372036854775807 < (strOfNums y166).size + x5_1.size) = False := eq_false (Nat.not_lt.2 c14)
                have H' := Aside0.mk H
                clear H
                go_wp2_with (first | ((with_reducible refine gate_dst (N := 34) rfl ?_); refine Kd.R_lit (Kd.int .u8) _ 5 ?hg (N := 34) ?hd (xs := ([(wrap64 (48 + (Int.tmod x6_1 10))) % 256] : List Int)) (inner := [.int .u8 ((wrap64 (48 + (Int.tmod x6_1 10))) % 256)]) (ok := fun _ => True) (okp := fun _ => True) ?hr ?hp (fun _ hk => hk) trivial (Below.refl _ _) (Nat.le_refl _) (by simp) ?_; (case hd => rfl); (case hg => rfl); (case hr => first | (go_simp; done) | (go_simp; rfl)); (case hp => exact (Reps.one (show Kd.M (Kd.int .u8) _ _ _ ((wrap64 (48 + (Int.tmod x6_1 10))) % 256) [.int .u8 ((wrap64 (48 + (Int.tmod x6_1 10))) % 256)] from rfl) (Reps.none _ _))); intro v167 w15 ho16 hb hg_ hnew_; clear hg_ hnew_; (first | rw [← Ny166.out] at ho16 | (simp only [Int.reduceToNat] at ho16; rw [← Ny166.out] at ho16)); have n0_ := Aside0.mk (Kd.R_lower ho16 (below_size (by repeat (first | (with_reducible first | exact HB.out | apply below_alloc | apply pw_below_drewN | apply below_drew1) | exact HB.out)))); have n1_ := Aside0.mk (below_step (by repeat (first | (with_reducible first | exact HB.out | apply below_alloc | apply pw_below_drewN | apply below_drew1) | exact HB.out)) hb); clear HB; have HO168 := n0_; have HB := n1_; clear n0_ n1_; clear hb ho16; have hcv17 := own_string (P := Try.prog) Try.underlying39 Try.underlying5 Try.underlying9 (Kd.own_of_R HO168.out)))
                go_roundg kj2
                case measure => have := HK1.out; have := HJ2.out; omega
                case rel => exact ⟨((strOfNums y166) ++ x5_1), (wrap64 (Int.tdiv x6_1 10)), (wrap64 (x7_1 - 1)), (by first | rfl | (simp; done) | (simp [*]; done)), (by first | rfl | (simp; done) | (simp [*]; done)), (by first | rfl | (simp; done) | (simp [*]; done)), H', ⟨by have := HK1.out; have := HJ2.out; omega⟩, ⟨by repeat (first | (with_reducible first | exact HB.out | apply below_alloc | apply pw_below_drewN | apply below_drew1) | exact HB.out)⟩⟩
              · rw [if_neg c14] at H
                exact absurd H (by simp)
          · replace c5 := Bool.eq_false_iff.mpr c5
            subst c5
            have H1 : (some x5_1) = some r := by rw [if_neg (show ¬ (false = true) by decide)] at H; exact H
            clear H
            have H := H1
            clear H1
            obtain rfl := Option.some.inj H
            go_wp2
            go_ret
            exact ⟨by first | rfl | (simp [errW_none, errW_some] <;> rfl) | (simp [*, errW_none, errW_some] <;> rfl), by repeat (first | (with_reducible first | exact HB.out | apply below_alloc | apply pw_below_drewN | apply below_drew1) | exact HB.out)⟩
end Go.Proofs.Ytpmmiabcfnejmaa.H
end
section
namespace Go.Proofs.Ytpmmiabcfnejmaa.H
open Go.RowKit Go.Proofs.YtpmmiabcfnejmaaW.PrintWords Go.Proofs.YtpmmiabcfnejmaaW.PrintLast Go.Proofs.YtpmmiabcfnejmaaW.PrintMore
attribute [local go_sem] max2_int min2_int max_two min_two max_three min_three max_four min_four   -- for this text's walks alone
set_option linter.unusedVariables false
set_option linter.unusedSimpArgs false
def triremeref03_zeros.l0 : Nat → ByteArray → Int → Option (Bool)
  | 0, _, _ => none
  | k + 1, x0, x3 => if x3 < (x0.size : Int) then (if 0 ≤ x3 then (if (bt x0 x3) = 48 then (triremeref03_zeros.l0 k x0 (wrap64 (x3 + 1))) else (some false)) else (none)) else (some true)
def triremeref03_zeros.f (k : Nat) (a0 : ByteArray) : Option (Bool) := triremeref03_zeros.l0 k a0 0
theorem triremeref03_zeros.mono_l : ∀ k, (∀ y0 y1, LeO (triremeref03_zeros.l0 k y0 y1) (triremeref03_zeros.l0 (k + 1) y0 y1))
  | 0 => fun _ _ r h => by simp [triremeref03_zeros.l0] at h
  | k + 1 => by
    have ih0 := triremeref03_zeros.mono_l k
    · intro y0 y1
      unfold triremeref03_zeros.l0
      repeat' first
      | (with_reducible exact ih0 _ _)
      | (with_reducible exact LeO.refl _)
      | (with_reducible exact LeO.none _)
      | (with_reducible refine LeO.ite ?_ ?_)
      | (with_reducible refine LeO.bind ?_ (fun _ => ?_))
      | exact ih0 _ _
      | exact LeO.none _
      | refine LeO.ite ?_ ?_
      | refine LeO.bind ?_ (fun _ => ?_)
theorem triremeref03_zeros.mono : ∀ a0 k, LeO (triremeref03_zeros.f k a0) (triremeref03_zeros.f (k + 1) a0) := by
  intro a0 k
  have ih0 := triremeref03_zeros.mono_l k
  unfold triremeref03_zeros.f
  repeat' first
      | (with_reducible exact ih0 _ _)
      | (with_reducible exact LeO.refl _)
      | (with_reducible exact LeO.none _)
      | (with_reducible refine LeO.ite ?_ ?_)
      | (with_reducible refine LeO.bind ?_ (fun _ => ?_))
      | exact ih0 _ _
      | exact LeO.none _
      | refine LeO.ite ?_ ?_
      | refine LeO.bind ?_ (fun _ => ?_)
set_option maxHeartbeats 8000000 in
set_option maxRecDepth 100000 in
theorem triremeref03_zeros.calls (k : Nat) (a0 : ByteArray) (r : Bool) (w : World) (h : triremeref03_zeros.f k a0 = some r) :
    Calls Try.prog 33 #[.string a0] w fun e w' => e = .returned (.bool r) ∧ Drawn0 w w' := by
  have H : (triremeref03_zeros.l0 k a0 0) = some r := h
  clear h
  have H' := Aside0.mk H
  clear H
  go_enter Try.func33, Try.ntmps33
  go_wp2
  go_loopg [3] k (fun kq v3 w' => ∃ (x3_1 : Int), v3 = .int .i64 x3_1 ∧ Aside0 (triremeref03_zeros.l0 kq a0 x3_1 = some r) ∧ Aside0 (kq ≤ k) ∧ Drawn0 w w')
  case atStart => exact ⟨(0), (by first | rfl | (simp; done) | (simp [*]; done)), H', ⟨Nat.le_refl _⟩, by repeat (first | exact Drawn0.refl _ | apply Drawn0.step)⟩
  case round =>
    clear H'
    obtain ⟨x3_1, rfl, HA, HK1, ⟨m1, rfl⟩⟩ := hrel
    cases gk with
    | zero => exact absurd HA.out (by simp [triremeref03_zeros.l0])
    | succ k1 =>
      have H := HA.out
      clear HA
      simp only [triremeref03_zeros.l0] at H
      by_cases c2 : x3_1 < (a0.size : Int)
      · rw [if_pos c2] at H
        have c2b0 : decide (x3_1 < (a0.size : Int)) = true := decide_eq_true c2
        clear c2
        by_cases c3 : 0 ≤ x3_1
        · rw [if_pos c3] at H
          have c3b0 : decide (0 ≤ x3_1) = true := decide_eq_true c3
          clear c3
          by_cases c5 : (bt a0 x3_1) = 48
          · rw [if_pos c5] at H
            have c5b0 : ((bt a0 x3_1) == 48) = true := beq_iff_eq.mpr c5
            have c5b1 : ((bt a0 x3_1) != 48) = false := bne_eq_false_iff_eq.mpr c5
            clear c5
            have H' := Aside0.mk H
            clear H
            have p4 : 0 ≤ (x3_1 : Int) := of_decide_eq_true (by first | (with_reducible assumption) | assumption)
            have q4 : x3_1 < (a0.size : Int) := of_decide_eq_true (by first | (with_reducible assumption) | assumption)
            have hx4 := bt_at a0 x3_1
            replace p4 := eq_true p4
            replace q4 := eq_true q4
            (try (have qz4 := q4; rw [ByteArray.size_extract, Nat.min_self] at qz4))
            go_wp2
            go_roundg k1
            case measure => have := HK1.out; omega
            case rel => exact ⟨(wrap64 (x3_1 + 1)), (by first | rfl | (simp; done) | (simp [*]; done)), H', ⟨by have := HK1.out; omega⟩, by repeat (first | exact Drawn0.refl _ | apply Drawn0.step)⟩
          · rw [if_neg c5] at H
            have c5b0 : ((bt a0 x3_1) == 48) = false := beq_eq_false_iff_ne.mpr c5
            have c5b1 : ((bt a0 x3_1) != 48) = true := bne_iff_ne.mpr c5
            obtain rfl := Option.some.inj H
            have p4 : 0 ≤ (x3_1 : Int) := of_decide_eq_true (by first | (with_reducible assumption) | assumption)
            have q4 : x3_1 < (a0.size : Int) := of_decide_eq_true (by first | (with_reducible assumption) | assumption)
            have hx4 := bt_at a0 x3_1
            replace p4 := eq_true p4
            replace q4 := eq_true q4
            (try (have qz4 := q4; rw [ByteArray.size_extract, Nat.min_self] at qz4))
            go_wp2
            go_ret
            exact ⟨by first | rfl | (simp; done) | (simp [*]; done), by repeat (first | exact Drawn0.refl _ | apply Drawn0.step)⟩
        · rw [if_neg c3] at H
          exact absurd H (by simp)
      · rw [if_neg c2] at H
        have c2b0 : decide (x3_1 < (a0.size : Int)) = false := decide_eq_false c2
        clear c2
        obtain rfl := Option.some.inj H
        go_wp2
        go_ret
        exact ⟨by first | rfl | (simp; done) | (simp [*]; done), by repeat (first | exact Drawn0.refl _ | apply Drawn0.step)⟩
end Go.Proofs.Ytpmmiabcfnejmaa.H
end
section
namespace Go.Proofs.Ytpmmiabcfnejmaa.H
open Go.RowKit Go.Proofs.YtpmmiabcfnejmaaW.PrintWords Go.Proofs.YtpmmiabcfnejmaaW.PrintLast Go.Proofs.YtpmmiabcfnejmaaW.PrintMore
attribute [local go_sem] max2_int min2_int max_two min_two max_three min_three max_four min_four   -- for this text's walks alone
set_option linter.unusedVariables false
set_option linter.unusedSimpArgs false
def ramTail (k : Nat) (a0 : ByteArray) (a1 n : Int) (part rest : ByteArray) : Option (Int × Int) :=
  (triremeref03_unit.f rest).bind fun u => if u = 0 then some (0, 9) else
    if part.size ≤ 3 then (triremeref03_product.f k (a0.extract 0 n.toNat ++ (part ++ ⟨#[48, 48, 48]⟩).extract 0 3) u).bind fun t =>
      if t.size ≤ 1000000000 then (triremeref03_zeros.f k ((⟨#[48, 48, 48, 48, 48, 48]⟩ ++ t).extract ((⟨#[48, 48, 48, 48, 48, 48]⟩ ++ t).size - a1).toNat (⟨#[48, 48, 48, 48, 48, 48]⟩ ++ t).size)).bind fun z =>
        if z = true then (triremeref03_value.f k ((⟨#[48, 48, 48, 48, 48, 48]⟩ ++ t).extract 0 ((⟨#[48, 48, 48, 48, 48, 48]⟩ ++ t).size - a1).toNat)).bind fun o => if o > 1125899906842624 then some (0, 10) else some (o, 0)
        else some (0, 8)
      else none
    else none
def triremeref03_amount.f (k : Nat) (a0 : ByteArray) (a1 : Int) : Option (Int × Int) :=
  if a0.size ≤ 1000000 ∧ 0 ≤ a1 ∧ a1 ≤ 6 then
    (triremeref03_digits.f k a0).bind fun n => if n = 0 then some (0, 8) else
      if 0 ≤ n ∧ n ≤ a0.size then
        if 0 < (a0.extract n.toNat a0.size).size then
          if bt (a0.extract n.toNat a0.size) 0 = 46 then
            (triremeref03_digits.f k ((a0.extract n.toNat a0.size).extract 1 (a0.extract n.toNat a0.size).size)).bind fun m =>
              if m < 1 then some (0, 8) else if 3 < m then some (0, 8) else
                if 1 + m ≤ (a0.extract n.toNat a0.size).size then ramTail k a0 a1 n ((a0.extract n.toNat a0.size).extract 1 (1 + m).toNat) ((a0.extract n.toNat a0.size).extract (1 + m).toNat (a0.extract n.toNat a0.size).size) else none
          else ramTail k a0 a1 n ⟨#[]⟩ (a0.extract n.toNat a0.size)
        else ramTail k a0 a1 n ⟨#[]⟩ (a0.extract n.toNat a0.size)
      else none
  else none
theorem ramTail_mono (k : Nat) (a0 : ByteArray) (a1 n : Int) (part rest : ByteArray) : LeO (ramTail k a0 a1 n part rest) (ramTail (k + 1) a0 a1 n part rest) := by
  unfold ramTail
  repeat' first
    | (with_reducible exact triremeref03_product.mono _ _ _)
    | (with_reducible exact triremeref03_zeros.mono _ _)
    | (with_reducible exact triremeref03_value.mono _ _)
    | (with_reducible exact LeO.refl _)
    | (with_reducible refine LeO.ite ?_ ?_)
    | (with_reducible refine LeO.bind ?_ (fun _ => ?_))
theorem triremeref03_amount.mono : ∀ a0 a1 k, LeO (triremeref03_amount.f k a0 a1) (triremeref03_amount.f (k + 1) a0 a1) := by
  intro a0 a1 k
  unfold triremeref03_amount.f
  repeat' first
    | (with_reducible exact ramTail_mono _ _ _ _ _ _)
    | (with_reducible exact triremeref03_digits.mono _ _)
    | (with_reducible exact LeO.refl _)
    | (with_reducible refine LeO.ite ?_ ?_)
    | (with_reducible refine LeO.bind ?_ (fun _ => ?_))
/-- What the tail's steps compute, as facts about texts that stand for themselves. -/
inductive RamTail (k : Nat) (a0 : ByteArray) (a1 n : Int) (part rest : ByteArray) (r1 r2 : Int) : Prop
  | bad (h : triremeref03_unit.f rest = some 0) (h1 : r1 = 0) (h2 : r2 = 9)
  | run (u : Int) (z : Bool) (whole p3 part3 mid t all zs vs : ByteArray) (cut : Int) (hu : triremeref03_unit.f rest = some u) (hu0 : (u == 0) = false)
      (f1 : ∀ W, (Instr.slice 9 (.string a0) none (some (.int .i64 n)) none).run Try.prog W = .ok (.string whole) W)
      (f2 : ∀ W, (Op.stringOp .add part ⟨#[48, 48, 48]⟩).run Try.prog W = .ok (.string p3) W)
      (f3 : ∀ W, (Instr.slice 9 (.string p3) none (some (.int .i64 3)) none).run Try.prog W = .ok (.string part3) W)
      (f4 : ∀ W, (Op.stringOp .add whole part3).run Try.prog W = .ok (.string mid) W)
      (f5 : triremeref03_product.f k mid u = some t)
      (f6 : ∀ W, (Op.stringOp .add ⟨#[48, 48, 48, 48, 48, 48]⟩ t).run Try.prog W = .ok (.string all) W)
      (f7 : wrap64 ((all.size : Int) - a1) = cut)
      (f8 : ∀ W, (Instr.slice 9 (.string all) (some (.int .i64 cut)) none none).run Try.prog W = .ok (.string zs) W)
      (f9 : triremeref03_zeros.f k zs = some z)
      (f10 : ∀ W, (Instr.slice 9 (.string all) none (some (.int .i64 cut)) none).run Try.prog W = .ok (.string vs) W)
      (f11 : z = false ∧ r1 = 0 ∧ r2 = 8 ∨ z = true ∧ ∃ o, triremeref03_value.f k vs = some o ∧ (1125899906842624 < o ∧ r1 = 0 ∧ r2 = 10 ∨ ¬ 1125899906842624 < o ∧ r1 = o ∧ r2 = 0)) : RamTail k a0 a1 n part rest r1 r2
theorem ramTail_run (k : Nat) (a0 : ByteArray) (a1 n : Int) (part rest : ByteArray) (r1 r2 : Int) (ha : a0.size ≤ 1000000) (hn : 0 ≤ n ∧ n ≤ a0.size) (h1 : 0 ≤ a1 ∧ a1 ≤ 6) (h : ramTail k a0 a1 n part rest = some (r1, r2)) : RamTail k a0 a1 n part rest r1 r2 := by
  unfold ramTail at h
  obtain ⟨u, hu, h⟩ := Option.bind_eq_some_iff.mp h
  by_cases hz : u = 0
  · rw [if_pos hz] at h
    simp only [Option.some.injEq, Prod.mk.injEq] at h
    exact .bad (hz ▸ hu) h.1.symm h.2.symm
  · rw [if_neg hz] at h
    split at h
    case isFalse => cases h
    case isTrue hp =>
      obtain ⟨t, ht, h⟩ := Option.bind_eq_some_iff.mp h
      split at h
      case isFalse => cases h
      case isTrue hts =>
        obtain ⟨z, hzz, h⟩ := Option.bind_eq_some_iff.mp h
        have e1 : (a0.extract 0 n.toNat).size = n.toNat := by rw [ByteArray.size_extract]; omega
        have e2 : (part ++ (⟨#[48, 48, 48]⟩ : ByteArray)).size = part.size + 3 := by rw [ByteArray.size_append]; rfl
        have e3 : ((part ++ (⟨#[48, 48, 48]⟩ : ByteArray)).extract 0 3).size = 3 := by rw [ByteArray.size_extract, e2]; omega
        have e4 : ((⟨#[48, 48, 48, 48, 48, 48]⟩ : ByteArray) ++ t).size = 6 + t.size := by rw [ByteArray.size_append]; rfl
        refine .run u z _ _ _ _ t _ _ _ _ hu (beq_eq_false_iff_ne.mpr hz) (fun W => tx_hi W 9 Try.underlying9 a0 n hn.1 hn.2) (fun W => tx_cat W part _ (by show part.size + 3 ≤ _; omega))
          (fun W => tx_hi W 9 Try.underlying9 _ 3 (by omega) (by rw [e2]; omega)) (fun W => tx_cat W _ _ (by rw [e1]; have := e3; show n.toNat + ((part ++ _).extract 0 3).size ≤ _; omega)) ht (fun W => tx_cat W _ t (by show 6 + t.size ≤ _; omega))
          (show wrap64 _ = ((((⟨#[48, 48, 48, 48, 48, 48]⟩ : ByteArray) ++ t).size : Int) - a1) by unfold wrap64; omega) (fun W => tx_lo W 9 Try.underlying9 _ _ (by omega) (by omega)) hzz (fun W => tx_hi W 9 Try.underlying9 _ _ (by omega) (by omega)) ?_
        cases z with
        | false =>
          rw [if_neg (by simp)] at h
          simp only [Option.some.injEq, Prod.mk.injEq] at h
          exact .inl ⟨rfl, h.1.symm, h.2.symm⟩
        | true =>
          rw [if_pos rfl] at h
          obtain ⟨o, ho, h⟩ := Option.bind_eq_some_iff.mp h
          refine .inr ⟨rfl, o, ho, ?_⟩
          split at h
          case isTrue hm =>
            simp only [Option.some.injEq, Prod.mk.injEq] at h
            exact .inl ⟨hm, h.1.symm, h.2.symm⟩
          case isFalse hm =>
            simp only [Option.some.injEq, Prod.mk.injEq] at h
            exact .inr ⟨hm, h.1.symm, h.2.symm⟩
set_option maxHeartbeats 8000000 in
set_option maxRecDepth 100000 in
theorem triremeref03_amount.calls (k : Nat) (a0 : ByteArray) (a1 : Int) (r1 : Int) (r2 : Int) (w : World) (h : triremeref03_amount.f k a0 a1 = some (r1, r2)) :
    Calls Try.prog 21 #[.string a0, .int .i64 a1] w fun e w' => e = .returned (.tuple #[.int .i64 r1, .int .i64 r2]) ∧ Below w.heap.size w w' := by
  unfold triremeref03_amount.f at h
  split at h
  case isFalse => cases h
  case isTrue hg =>
    obtain ⟨hs, hl0, hl6⟩ := hg
    obtain ⟨n, hn, h⟩ := Option.bind_eq_some_iff.mp h
    have HN := Aside0.mk hn
    clear hn
    by_cases hz : n = 0
    · rw [if_pos hz] at h
      subst hz
      simp only [Option.some.injEq, Prod.mk.injEq] at h
      obtain ⟨rfl, rfl⟩ := h
      go_enter Try.func21, Try.ntmps21
      go_wp2_with (first | (go_at_call 24; (with_reducible refine (triremeref03_digits.calls k a0 0 _ HN.out).mono ?_); rintro e w' ⟨rfl, ⟨nd, rfl⟩⟩))
      refine bodyPost_ret (results_list (rs := [.tmp 4, .tmp 5]) rfl (by simp) (.tmp (.tmp .nil))) rfl ?_
      exact ⟨by first | rfl | (simp; done) | (simp [*]; done), by repeat (first | exact HB.out | exact HB2.out | exact Below.refl _ _ | apply pw_below_drewN)⟩
    · rw [if_neg hz] at h
      have hz0 : (n == 0) = false := beq_eq_false_iff_ne.mpr hz
      split at h
      case isFalse => cases h
      case isTrue hn =>
        have g1 := fun W => tx_lo (P := Try.prog) W 9 Try.underlying9 a0 n hn.1 hn.2
        have HSZ : (a0.extract n.toNat a0.size).size ≤ 1000000 := by rw [ByteArray.size_extract]; omega
        generalize a0.extract n.toNat a0.size = rest at h g1 HSZ
        clear hz
        by_cases hr : 0 < rest.size
        · rw [if_pos hr] at h
          have hr1 : decide ((0 : Int) < (rest.size : Int)) = true := decide_eq_true (by omega)
          have hr2 : decide (0 < rest.size) = true := decide_eq_true hr
          have g2 := fun W => tx_at (P := Try.prog) W 9 Try.underlying9 rest 0 (by omega) (by omega)
          by_cases hd : bt rest 0 = 46
          · rw [if_pos hd] at h
            rw [hd] at g2
            have g3 := fun W => tx_lo (P := Try.prog) W 9 Try.underlying9 rest 1 (by omega) (by omega)
            rw [show (1 : Int).toNat = 1 from rfl] at g3
            generalize rest.extract 1 rest.size = rest1 at h g3
            obtain ⟨m, hm, h⟩ := Option.bind_eq_some_iff.mp h
            have HM := Aside0.mk hm
            clear hm
            by_cases h1 : m < 1
            · rw [if_pos h1] at h
              have h1d : decide (m < 1) = true := decide_eq_true h1
              simp only [Option.some.injEq, Prod.mk.injEq] at h
              obtain ⟨rfl, rfl⟩ := h
              clear hr h1 hs hl0 hl6 hn HSZ hd
              go_enter Try.func21, Try.ntmps21
              go_wp2_with (first | (go_at_call 24; first | ((with_reducible refine (triremeref03_digits.calls k a0 n _ HN.out).mono ?_); rintro e w' ⟨rfl, ⟨nd, rfl⟩⟩) | ((with_reducible refine (triremeref03_digits.calls k rest1 m _ HM.out).mono ?_); rintro e w' ⟨rfl, ⟨nd, rfl⟩⟩)))
              refine bodyPost_ret (results_list (rs := [.tmp 4, .tmp 5]) rfl (by simp) (.tmp (.tmp .nil))) rfl ?_
              exact ⟨by first | rfl | (simp; done) | (simp [*]; done), by repeat (first | exact HB.out | exact HB2.out | exact Below.refl _ _ | apply pw_below_drewN)⟩
            · rw [if_neg h1] at h
              have h1d : decide (m < 1) = false := decide_eq_false h1
              by_cases h3 : 3 < m
              · rw [if_pos h3] at h
                have h3d : decide (3 < m) = true := decide_eq_true h3
                simp only [Option.some.injEq, Prod.mk.injEq] at h
                obtain ⟨rfl, rfl⟩ := h
                clear hr h1 h3 hs hl0 hl6 hn HSZ hd
                go_enter Try.func21, Try.ntmps21
                go_wp2_with (first | (go_at_call 24; first | ((with_reducible refine (triremeref03_digits.calls k a0 n _ HN.out).mono ?_); rintro e w' ⟨rfl, ⟨nd, rfl⟩⟩) | ((with_reducible refine (triremeref03_digits.calls k rest1 m _ HM.out).mono ?_); rintro e w' ⟨rfl, ⟨nd, rfl⟩⟩)))
                refine bodyPost_ret (results_list (rs := [.tmp 4, .tmp 5]) rfl (by simp) (.tmp (.tmp .nil))) rfl ?_
                exact ⟨by first | rfl | (simp; done) | (simp [*]; done), by repeat (first | exact HB.out | exact HB2.out | exact Below.refl _ _ | apply pw_below_drewN)⟩
              · rw [if_neg h3] at h
                have h3d : decide (3 < m) = false := decide_eq_false h3
                split at h
                case isFalse => cases h
                case isTrue hb =>
                  have hw : wrap64 (1 + m) = 1 + m := by unfold wrap64; omega
                  have g4 := fun W => run_slice_string (P := Try.prog) W 9 rest .i64 .i64 1 (1 + m) Try.underlying9 (by omega) (by omega) hb
                  have g5 := fun W => tx_lo (P := Try.prog) W 9 Try.underlying9 rest (1 + m) (by omega) hb
                  rw [show (1 : Int).toNat = 1 from rfl] at g4
                  have HT := Aside0.mk (ramTail_run k a0 a1 n _ _ r1 r2 hs hn ⟨hl0, hl6⟩ h)
                  clear h
                  generalize rest.extract 1 (1 + m).toNat = part at HT g4
                  generalize rest.extract (1 + m).toNat rest.size = rest2 at HT g5
                  generalize hq : 1 + m = m1 at g4 g5 HT
                  have hw2 : wrap64 (1 + m) = m1 := by rw [← hq]; exact hw
                  clear hw hq
                  clear hr h1 h3 hs hl0 hl6 hn HSZ hd hb
                  cases HT.out with
                  | bad hu h1 h2 =>
                    subst h1 h2
                    have HU := Aside0.mk hu
                    clear hu HT
                    go_enter Try.func21, Try.ntmps21
                    go_wp2_with (first | (go_at_call 24; first | ((with_reducible refine (triremeref03_digits.calls k a0 n _ HN.out).mono ?_); rintro e w' ⟨rfl, ⟨nd, rfl⟩⟩) | ((with_reducible refine (triremeref03_digits.calls k rest1 m _ HM.out).mono ?_); rintro e w' ⟨rfl, ⟨nd, rfl⟩⟩)) | (go_at_call 31; (with_reducible refine (triremeref03_unit.calls rest2 0 _ HU.out).mono ?_); rintro e w' ⟨rfl, ⟨nd, rfl⟩⟩))
                    refine bodyPost_ret (results_list (rs := [.tmp 4, .tmp 5]) rfl (by simp) (.tmp (.tmp .nil))) rfl ?_
                    exact ⟨by first | rfl | (simp; done) | (simp [*]; done), by repeat (first | exact HB.out | exact HB2.out | exact Below.refl _ _ | apply pw_below_drewN)⟩
                  | run u z whole p3 part3 mid t all zs vs cut hu hu0 f1 f2 f3 f4 f5 f6 f7 f8 f9 f10 f11 =>
                    have HU := Aside0.mk hu
                    have H5 := Aside0.mk f5
                    have H9 := Aside0.mk f9
                    have H11 := Aside0.mk f11
                    clear hu f5 f9 f11 HT
                    go_enter Try.func21, Try.ntmps21
                    go_wp2_with (first | (go_at_call 24; first | ((with_reducible refine (triremeref03_digits.calls k a0 n _ HN.out).mono ?_); rintro e w' ⟨rfl, ⟨nd, rfl⟩⟩) | ((with_reducible refine (triremeref03_digits.calls k rest1 m _ HM.out).mono ?_); rintro e w' ⟨rfl, ⟨nd, rfl⟩⟩)) | (go_at_call 31; (with_reducible refine (triremeref03_unit.calls rest2 u _ HU.out).mono ?_); rintro e w' ⟨rfl, ⟨nd, rfl⟩⟩))
                    (try simp only [Act.put])
                    refine wp_region_bw (by kernel_rfl) (by kernel_rfl) ?_
                    repeat (go_big_quiet_step (first | (go_at_call 32; exact Calls.bw (triremeref03_product.calls k mid u t _ H5.out))))
                    refine wpQuiet_nil ?_
                    intro q
                    have HB := Aside0.mk (below_step (pw_below_drewN (Below.refl w.heap.size w) _) q.2)
                    rcases H11.out with ⟨rfl, rfl, rfl⟩ | ⟨rfl, o, ho, hh⟩
                    · clear H11
                      go_wp2_with (first | (go_at_call 33; (with_reducible refine (triremeref03_zeros.calls k zs false _ H9.out).mono ?_); rintro e w' ⟨rfl, ⟨nd, rfl⟩⟩))
                      refine bodyPost_ret (results_list (rs := [.tmp 4, .tmp 5]) rfl (by simp) (.tmp (.tmp .nil))) rfl ?_
                      exact ⟨by first | rfl | (simp; done) | (simp [*]; done), by repeat (first | exact HB.out | exact HB2.out | exact Below.refl _ _ | apply pw_below_drewN)⟩
                    · clear H11
                      have HO := Aside0.mk ho
                      clear ho
                      rcases hh with ⟨hm, rfl, rfl⟩ | ⟨hm, rfl, rfl⟩
                      · have hd : decide (1125899906842624 < o) = true := decide_eq_true hm
                        clear hm
                        go_wp2_with (first | (go_at_call 33; (with_reducible refine (triremeref03_zeros.calls k zs true _ H9.out).mono ?_); rintro e w' ⟨rfl, ⟨nd, rfl⟩⟩) | (go_at_call 25; (with_reducible refine (triremeref03_value.calls k vs o _ HO.out).mono ?_); rintro e w' ⟨rfl, hb2⟩; have HB2 := Aside0.mk (below_step (pw_below_drewN HB.out _) hb2); clear hb2))
                        refine bodyPost_ret (results_list (rs := [.tmp 4, .tmp 5]) rfl (by simp) (.tmp (.tmp .nil))) rfl ?_
                        exact ⟨by first | rfl | (simp; done) | (simp [*]; done), by repeat (first | exact HB.out | exact HB2.out | exact Below.refl _ _ | apply pw_below_drewN)⟩
                      · have hd : decide (1125899906842624 < r1) = false := decide_eq_false (by omega)
                        clear hm
                        go_wp2_with (first | (go_at_call 33; (with_reducible refine (triremeref03_zeros.calls k zs true _ H9.out).mono ?_); rintro e w' ⟨rfl, ⟨nd, rfl⟩⟩) | (go_at_call 25; (with_reducible refine (triremeref03_value.calls k vs r1 _ HO.out).mono ?_); rintro e w' ⟨rfl, hb2⟩; have HB2 := Aside0.mk (below_step (pw_below_drewN HB.out _) hb2); clear hb2))
                        refine bodyPost_ret (results_list (rs := [.tmp 4, .tmp 5]) rfl (by simp) (.tmp (.tmp .nil))) rfl ?_
                        exact ⟨by first | rfl | (simp; done) | (simp [*]; done), by repeat (first | exact HB.out | exact HB2.out | exact Below.refl _ _ | apply pw_below_drewN)⟩
          · rw [if_neg hd] at h
            have hde : (bt rest 0 == 46) = false := beq_eq_false_iff_ne.mpr hd
            have HT := Aside0.mk (ramTail_run k a0 a1 n _ _ r1 r2 hs hn ⟨hl0, hl6⟩ h)
            clear h
            generalize bt rest 0 = c at *
            clear hr hs hl0 hl6 hn HSZ hd
            cases HT.out with
            | bad hu h1 h2 =>
              subst h1 h2
              have HU := Aside0.mk hu
              clear hu HT
              go_enter Try.func21, Try.ntmps21
              go_wp2_with (first | (go_at_call 24; (with_reducible refine (triremeref03_digits.calls k a0 n _ HN.out).mono ?_); rintro e w' ⟨rfl, ⟨nd, rfl⟩⟩) | (go_at_call 31; (with_reducible refine (triremeref03_unit.calls rest 0 _ HU.out).mono ?_); rintro e w' ⟨rfl, ⟨nd, rfl⟩⟩))
              refine bodyPost_ret (results_list (rs := [.tmp 4, .tmp 5]) rfl (by simp) (.tmp (.tmp .nil))) rfl ?_
              exact ⟨by first | rfl | (simp; done) | (simp [*]; done), by repeat (first | exact HB.out | exact HB2.out | exact Below.refl _ _ | apply pw_below_drewN)⟩
            | run u z whole p3 part3 mid t all zs vs cut hu hu0 f1 f2 f3 f4 f5 f6 f7 f8 f9 f10 f11 =>
              have HU := Aside0.mk hu
              have H5 := Aside0.mk f5
              have H9 := Aside0.mk f9
              have H11 := Aside0.mk f11
              clear hu f5 f9 f11 HT
              go_enter Try.func21, Try.ntmps21
              go_wp2_with (first | (go_at_call 24; (with_reducible refine (triremeref03_digits.calls k a0 n _ HN.out).mono ?_); rintro e w' ⟨rfl, ⟨nd, rfl⟩⟩) | (go_at_call 31; (with_reducible refine (triremeref03_unit.calls rest u _ HU.out).mono ?_); rintro e w' ⟨rfl, ⟨nd, rfl⟩⟩))
              (try simp only [Act.put])
              refine wp_region_bw (by kernel_rfl) (by kernel_rfl) ?_
              repeat (go_big_quiet_step (first | (go_at_call 32; exact Calls.bw (triremeref03_product.calls k mid u t _ H5.out))))
              refine wpQuiet_nil ?_
              intro q
              have HB := Aside0.mk (below_step (pw_below_drewN (Below.refl w.heap.size w) _) q.2)
              rcases H11.out with ⟨rfl, rfl, rfl⟩ | ⟨rfl, o, ho, hh⟩
              · clear H11
                go_wp2_with (first | (go_at_call 33; (with_reducible refine (triremeref03_zeros.calls k zs false _ H9.out).mono ?_); rintro e w' ⟨rfl, ⟨nd, rfl⟩⟩))
                refine bodyPost_ret (results_list (rs := [.tmp 4, .tmp 5]) rfl (by simp) (.tmp (.tmp .nil))) rfl ?_
                exact ⟨by first | rfl | (simp; done) | (simp [*]; done), by repeat (first | exact HB.out | exact HB2.out | exact Below.refl _ _ | apply pw_below_drewN)⟩
              · clear H11
                have HO := Aside0.mk ho
                clear ho
                rcases hh with ⟨hm, rfl, rfl⟩ | ⟨hm, rfl, rfl⟩
                · have hd : decide (1125899906842624 < o) = true := decide_eq_true hm
                  clear hm
                  go_wp2_with (first | (go_at_call 33; (with_reducible refine (triremeref03_zeros.calls k zs true _ H9.out).mono ?_); rintro e w' ⟨rfl, ⟨nd, rfl⟩⟩) | (go_at_call 25; (with_reducible refine (triremeref03_value.calls k vs o _ HO.out).mono ?_); rintro e w' ⟨rfl, hb2⟩; have HB2 := Aside0.mk (below_step (pw_below_drewN HB.out _) hb2); clear hb2))
                  refine bodyPost_ret (results_list (rs := [.tmp 4, .tmp 5]) rfl (by simp) (.tmp (.tmp .nil))) rfl ?_
                  exact ⟨by first | rfl | (simp; done) | (simp [*]; done), by repeat (first | exact HB.out | exact HB2.out | exact Below.refl _ _ | apply pw_below_drewN)⟩
                · have hd : decide (1125899906842624 < r1) = false := decide_eq_false (by omega)
                  clear hm
                  go_wp2_with (first | (go_at_call 33; (with_reducible refine (triremeref03_zeros.calls k zs true _ H9.out).mono ?_); rintro e w' ⟨rfl, ⟨nd, rfl⟩⟩) | (go_at_call 25; (with_reducible refine (triremeref03_value.calls k vs r1 _ HO.out).mono ?_); rintro e w' ⟨rfl, hb2⟩; have HB2 := Aside0.mk (below_step (pw_below_drewN HB.out _) hb2); clear hb2))
                  refine bodyPost_ret (results_list (rs := [.tmp 4, .tmp 5]) rfl (by simp) (.tmp (.tmp .nil))) rfl ?_
                  exact ⟨by first | rfl | (simp; done) | (simp [*]; done), by repeat (first | exact HB.out | exact HB2.out | exact Below.refl _ _ | apply pw_below_drewN)⟩
        · rw [if_neg hr] at h
          have hr1 : decide ((0 : Int) < (rest.size : Int)) = false := decide_eq_false (by omega)
          have hr2 : decide (0 < rest.size) = false := decide_eq_false hr
          have HT := Aside0.mk (ramTail_run k a0 a1 n _ _ r1 r2 hs hn ⟨hl0, hl6⟩ h)
          clear h
          clear hr hs hl0 hl6 hn HSZ
          cases HT.out with
          | bad hu h1 h2 =>
            subst h1 h2
            have HU := Aside0.mk hu
            clear hu HT
            go_enter Try.func21, Try.ntmps21
            go_wp2_with (first | (go_at_call 24; (with_reducible refine (triremeref03_digits.calls k a0 n _ HN.out).mono ?_); rintro e w' ⟨rfl, ⟨nd, rfl⟩⟩) | (go_at_call 31; (with_reducible refine (triremeref03_unit.calls rest 0 _ HU.out).mono ?_); rintro e w' ⟨rfl, ⟨nd, rfl⟩⟩))
            refine bodyPost_ret (results_list (rs := [.tmp 4, .tmp 5]) rfl (by simp) (.tmp (.tmp .nil))) rfl ?_
            exact ⟨by first | rfl | (simp; done) | (simp [*]; done), by repeat (first | exact HB.out | exact HB2.out | exact Below.refl _ _ | apply pw_below_drewN)⟩
          | run u z whole p3 part3 mid t all zs vs cut hu hu0 f1 f2 f3 f4 f5 f6 f7 f8 f9 f10 f11 =>
            have HU := Aside0.mk hu
            have H5 := Aside0.mk f5
            have H9 := Aside0.mk f9
            have H11 := Aside0.mk f11
            clear hu f5 f9 f11 HT
            go_enter Try.func21, Try.ntmps21
            go_wp2_with (first | (go_at_call 24; (with_reducible refine (triremeref03_digits.calls k a0 n _ HN.out).mono ?_); rintro e w' ⟨rfl, ⟨nd, rfl⟩⟩) | (go_at_call 31; (with_reducible refine (triremeref03_unit.calls rest u _ HU.out).mono ?_); rintro e w' ⟨rfl, ⟨nd, rfl⟩⟩))
            (try simp only [Act.put])
            refine wp_region_bw (by kernel_rfl) (by kernel_rfl) ?_
            repeat (go_big_quiet_step (first | (go_at_call 32; exact Calls.bw (triremeref03_product.calls k mid u t _ H5.out))))
            refine wpQuiet_nil ?_
            intro q
            have HB := Aside0.mk (below_step (pw_below_drewN (Below.refl w.heap.size w) _) q.2)
            rcases H11.out with ⟨rfl, rfl, rfl⟩ | ⟨rfl, o, ho, hh⟩
            · clear H11
              go_wp2_with (first | (go_at_call 33; (with_reducible refine (triremeref03_zeros.calls k zs false _ H9.out).mono ?_); rintro e w' ⟨rfl, ⟨nd, rfl⟩⟩))
              refine bodyPost_ret (results_list (rs := [.tmp 4, .tmp 5]) rfl (by simp) (.tmp (.tmp .nil))) rfl ?_
              exact ⟨by first | rfl | (simp; done) | (simp [*]; done), by repeat (first | exact HB.out | exact HB2.out | exact Below.refl _ _ | apply pw_below_drewN)⟩
            · clear H11
              have HO := Aside0.mk ho
              clear ho
              rcases hh with ⟨hm, rfl, rfl⟩ | ⟨hm, rfl, rfl⟩
              · have hd : decide (1125899906842624 < o) = true := decide_eq_true hm
                clear hm
                go_wp2_with (first | (go_at_call 33; (with_reducible refine (triremeref03_zeros.calls k zs true _ H9.out).mono ?_); rintro e w' ⟨rfl, ⟨nd, rfl⟩⟩) | (go_at_call 25; (with_reducible refine (triremeref03_value.calls k vs o _ HO.out).mono ?_); rintro e w' ⟨rfl, hb2⟩; have HB2 := Aside0.mk (below_step (pw_below_drewN HB.out _) hb2); clear hb2))
                refine bodyPost_ret (results_list (rs := [.tmp 4, .tmp 5]) rfl (by simp) (.tmp (.tmp .nil))) rfl ?_
                exact ⟨by first | rfl | (simp; done) | (simp [*]; done), by repeat (first | exact HB.out | exact HB2.out | exact Below.refl _ _ | apply pw_below_drewN)⟩
              · have hd : decide (1125899906842624 < r1) = false := decide_eq_false (by omega)
                clear hm
                go_wp2_with (first | (go_at_call 33; (with_reducible refine (triremeref03_zeros.calls k zs true _ H9.out).mono ?_); rintro e w' ⟨rfl, ⟨nd, rfl⟩⟩) | (go_at_call 25; (with_reducible refine (triremeref03_value.calls k vs r1 _ HO.out).mono ?_); rintro e w' ⟨rfl, hb2⟩; have HB2 := Aside0.mk (below_step (pw_below_drewN HB.out _) hb2); clear hb2))
                refine bodyPost_ret (results_list (rs := [.tmp 4, .tmp 5]) rfl (by simp) (.tmp (.tmp .nil))) rfl ?_
                exact ⟨by first | rfl | (simp; done) | (simp [*]; done), by repeat (first | exact HB.out | exact HB2.out | exact Below.refl _ _ | apply pw_below_drewN)⟩
end Go.Proofs.Ytpmmiabcfnejmaa.H
end
section
namespace Go.Proofs.Ytpmmiabcfnejmaa.H
open Go.RowKit Go.Proofs.YtpmmiabcfnejmaaW.PrintWords Go.Proofs.YtpmmiabcfnejmaaW.PrintLast Go.Proofs.YtpmmiabcfnejmaaW.PrintMore
attribute [local go_sem] max2_int min2_int max_two min_two max_three min_three max_four min_four   -- for this text's walks alone
set_option linter.unusedVariables false
set_option linter.unusedSimpArgs false
def triremeref03_Parse.f (k : Nat) (a0 : ByteArray) : Option (Int × Int) := (triremeref03_amount.f k a0 6).bind fun bt169 => (some (bt169.1, bt169.2))
theorem triremeref03_Parse.mono : ∀ a0 k, LeO (triremeref03_Parse.f k a0) (triremeref03_Parse.f (k + 1) a0) := by
  intro a0 k
  unfold triremeref03_Parse.f
  repeat' first
      | (with_reducible exact triremeref03_amount.mono _ _ _)
      | (with_reducible exact LeO.refl _)
      | (with_reducible exact LeO.none _)
      | (with_reducible refine LeO.ite ?_ ?_)
      | (with_reducible refine LeO.bind ?_ (fun _ => ?_))
      | exact triremeref03_amount.mono _ _ _
      | exact LeO.none _
      | refine LeO.ite ?_ ?_
      | refine LeO.bind ?_ (fun _ => ?_)
set_option maxHeartbeats 8000000 in
set_option maxRecDepth 100000 in
theorem triremeref03_Parse.calls (k : Nat) (a0 : ByteArray) (r1 : Int) (r2 : Int) (w : World) (h : triremeref03_Parse.f k a0 = some (r1, r2)) :
    Calls Try.prog 10 #[.string a0] w fun e w' => e = .returned (.tuple #[.int .i64 r1, .int .i64 r2]) ∧ Below w.heap.size w w' := by
  have HB := Aside0.mk (Below.refl w.heap.size w)
  have H : ((triremeref03_amount.f k a0 6).bind fun bt169 => (some (bt169.1, bt169.2))) = some (r1, r2) := h
  clear h
  replace H := Option.bind_eq_some_iff.mp H
  obtain ⟨⟨t169, t170⟩, A20, H⟩ := H
  replace H : (some (t169, t170)) = some (r1, r2) := H
  have A2 := Aside0.mk A20
  clear A20
  simp only [Option.some.injEq, Prod.mk.injEq] at H
  obtain ⟨rfl, rfl⟩ := H
  go_enter Try.func10, Try.ntmps10
  go_wp2_with (first | ((first | ((with_reducible refine gate_callee (f := 21) rfl ?_); refine goesL_ (some 5) rfl rfl Try.func21 (by kernel_rfl) rfl #[.string a0, .int .i64 6] rfl (by (try simp only [List.map_toArray, List.map_cons, List.map_nil]); first | done | rfl | (simp only [List.length_drop, List.length_take]; rfl)) ?_; (with_reducible refine (triremeref03_amount.calls k a0 6 t169 t170 _ A2.out).mono ?_); rintro e w3 ⟨rfl, hb⟩; refine ⟨_, rfl, ?_⟩) | (go_at_call 21; (with_reducible refine (triremeref03_amount.calls k a0 6 t169 t170 _ A2.out).mono ?_); rintro e w3 ⟨rfl, hb⟩)); have n0_ := Aside0.mk (below_step (by repeat (first | (with_reducible first | exact HB.out | apply below_alloc | apply pw_below_drewN | apply below_drew1) | exact HB.out)) hb); clear HB; have HB := n0_; clear n0_; (try clear hb); (try clear hb2); (try clear hk); (try clear hi)))
  go_ret2
  exact ⟨by first | rfl | (simp [errW_none, errW_some] <;> rfl) | (simp [*, errW_none, errW_some] <;> rfl), by repeat (first | (with_reducible first | exact HB.out | apply below_alloc | apply pw_below_drewN | apply below_drew1) | exact HB.out)⟩
end Go.Proofs.Ytpmmiabcfnejmaa.H
end
section
namespace Go.Proofs.Ytpmmiabcfnejmaa.H
open Go.RowKit Go.Proofs.YtpmmiabcfnejmaaW.PrintWords Go.Proofs.YtpmmiabcfnejmaaW.PrintLast Go.Proofs.YtpmmiabcfnejmaaW.PrintMore
attribute [local go_sem] max2_int min2_int max_two min_two max_three min_three max_four min_four   -- for this text's walks alone
set_option linter.unusedVariables false
set_option linter.unusedSimpArgs false
def triremeref03_Milli.f (k : Nat) (a0 : ByteArray) : Option (Int × Int) := (triremeref03_amount.f k a0 3).bind fun bt171 => (some (bt171.1, bt171.2))
theorem triremeref03_Milli.mono : ∀ a0 k, LeO (triremeref03_Milli.f k a0) (triremeref03_Milli.f (k + 1) a0) := by
  intro a0 k
  unfold triremeref03_Milli.f
  repeat' first
      | (with_reducible exact triremeref03_amount.mono _ _ _)
      | (with_reducible exact LeO.refl _)
      | (with_reducible exact LeO.none _)
      | (with_reducible refine LeO.ite ?_ ?_)
      | (with_reducible refine LeO.bind ?_ (fun _ => ?_))
      | exact triremeref03_amount.mono _ _ _
      | exact LeO.none _
      | refine LeO.ite ?_ ?_
      | refine LeO.bind ?_ (fun _ => ?_)
set_option maxHeartbeats 8000000 in
set_option maxRecDepth 100000 in
theorem triremeref03_Milli.calls (k : Nat) (a0 : ByteArray) (r1 : Int) (r2 : Int) (w : World) (h : triremeref03_Milli.f k a0 = some (r1, r2)) :
    Calls Try.prog 12 #[.string a0] w fun e w' => e = .returned (.tuple #[.int .i64 r1, .int .i64 r2]) ∧ Below w.heap.size w w' := by
  have HB := Aside0.mk (Below.refl w.heap.size w)
  have H : ((triremeref03_amount.f k a0 3).bind fun bt171 => (some (bt171.1, bt171.2))) = some (r1, r2) := h
  clear h
  replace H := Option.bind_eq_some_iff.mp H
  obtain ⟨⟨t171, t172⟩, A20, H⟩ := H
  replace H : (some (t171, t172)) = some (r1, r2) := H
  have A2 := Aside0.mk A20
  clear A20
  simp only [Option.some.injEq, Prod.mk.injEq] at H
  obtain ⟨rfl, rfl⟩ := H
  go_enter Try.func12, Try.ntmps12
  go_wp2_with (first | ((first | ((with_reducible refine gate_callee (f := 21) rfl ?_); refine goesL_ (some 5) rfl rfl Try.func21 (by kernel_rfl) rfl #[.string a0, .int .i64 3] rfl (by (try simp only [List.map_toArray, List.map_cons, List.map_nil]); first | done | rfl | (simp only [List.length_drop, List.length_take]; rfl)) ?_; (with_reducible refine (triremeref03_amount.calls k a0 3 t171 t172 _ A2.out).mono ?_); rintro e w3 ⟨rfl, hb⟩; refine ⟨_, rfl, ?_⟩) | (go_at_call 21; (with_reducible refine (triremeref03_amount.calls k a0 3 t171 t172 _ A2.out).mono ?_); rintro e w3 ⟨rfl, hb⟩)); have n0_ := Aside0.mk (below_step (by repeat (first | (with_reducible first | exact HB.out | apply below_alloc | apply pw_below_drewN | apply below_drew1) | exact HB.out)) hb); clear HB; have HB := n0_; clear n0_; (try clear hb); (try clear hb2); (try clear hk); (try clear hi)))
  go_ret2
  exact ⟨by first | rfl | (simp [errW_none, errW_some] <;> rfl) | (simp [*, errW_none, errW_some] <;> rfl), by repeat (first | (with_reducible first | exact HB.out | apply below_alloc | apply pw_below_drewN | apply below_drew1) | exact HB.out)⟩
end Go.Proofs.Ytpmmiabcfnejmaa.H
end
section
namespace Go.Proofs.Ytpmmiabcfnejmaa.H
open Go.RowKit Go.Proofs.YtpmmiabcfnejmaaW.PrintWords Go.Proofs.YtpmmiabcfnejmaaW.PrintLast Go.Proofs.YtpmmiabcfnejmaaW.PrintMore
attribute [local go_sem] max2_int min2_int max_two min_two max_three min_three max_four min_four   -- for this text's walks alone
set_option linter.unusedVariables false
set_option linter.unusedSimpArgs false
def triremelaw03_QuantParses.f (k : Nat) (a0 : ByteArray) : Option (Bool) := if (a0.size : Int) > 300 then ((triremelaw03_known.f k).bind fun t175 => (some t175)) else ((quant_Parse.f k a0).bind fun bt176 => ((triremeref03_Parse.f k a0).bind fun bt178 => ((quant_Milli.f k a0).bind fun bt180 => ((triremeref03_Milli.f k a0).bind fun bt182 => ((quant_Number.f k a0).bind fun bt184 => ((triremeref03_Number.f k a0).bind fun bt186 => (if bt176.1 = bt178.1 then (if bt176.2 = bt178.2 then (if bt180.1 = bt182.1 then (if bt180.2 = bt182.2 then (if bt184.1 = bt186.1 then (if bt184.2 = bt186.2 then ((triremelaw03_known.f k).bind fun t188 => (some t188)) else (some false)) else (some false)) else (some false)) else (some false)) else (some false)) else (some false))))))))
theorem triremelaw03_QuantParses.mono : ∀ a0 k, LeO (triremelaw03_QuantParses.f k a0) (triremelaw03_QuantParses.f (k + 1) a0) := by
  intro a0 k
  unfold triremelaw03_QuantParses.f
  repeat' first
      | (with_reducible exact quant_Milli.mono _ _)
      | (with_reducible exact quant_Number.mono _ _)
      | (with_reducible exact quant_Parse.mono _ _)
      | (with_reducible exact triremelaw03_known.mono _)
      | (with_reducible exact triremeref03_Milli.mono _ _)
      | (with_reducible exact triremeref03_Number.mono _ _)
      | (with_reducible exact triremeref03_Parse.mono _ _)
      | (with_reducible exact LeO.refl _)
      | (with_reducible exact LeO.none _)
      | (with_reducible refine LeO.ite ?_ ?_)
      | (with_reducible refine LeO.bind ?_ (fun _ => ?_))
      | exact quant_Milli.mono _ _
      | exact quant_Number.mono _ _
      | exact quant_Parse.mono _ _
      | exact triremelaw03_known.mono _
      | exact triremeref03_Milli.mono _ _
      | exact triremeref03_Number.mono _ _
      | exact triremeref03_Parse.mono _ _
      | exact LeO.none _
      | refine LeO.ite ?_ ?_
      | refine LeO.bind ?_ (fun _ => ?_)
set_option maxHeartbeats 8000000 in
set_option maxRecDepth 100000 in
theorem triremelaw03_QuantParses.calls (k : Nat) (a0 : ByteArray) (r : Bool) (w : World) (h : triremelaw03_QuantParses.f k a0 = some r) :
    Calls Try.prog 3 #[.string a0] w fun e w' => e = .returned (.bool r) ∧ Below w.heap.size w w' := by
  have HB := Aside0.mk (Below.refl w.heap.size w)
  have H : (if (a0.size : Int) > 300 then ((triremelaw03_known.f k).bind fun t175 => (some t175)) else ((quant_Parse.f k a0).bind fun bt176 => ((triremeref03_Parse.f k a0).bind fun bt178 => ((quant_Milli.f k a0).bind fun bt180 => ((triremeref03_Milli.f k a0).bind fun bt182 => ((quant_Number.f k a0).bind fun bt184 => ((triremeref03_Number.f k a0).bind fun bt186 => (if bt176.1 = bt178.1 then (if bt176.2 = bt178.2 then (if bt180.1 = bt182.1 then (if bt180.2 = bt182.2 then (if bt184.1 = bt186.1 then (if bt184.2 = bt186.2 then ((triremelaw03_known.f k).bind fun t188 => (some t188)) else (some false)) else (some false)) else (some false)) else (some false)) else (some false)) else (some false))))))))) = some r := h
  clear h
  by_cases c2 : (a0.size : Int) > 300
  · rw [if_pos c2] at H
    have c2b0 : decide (300 < (a0.size : Int)) = true := decide_eq_true c2
    have c2b1 : decide (300 < a0.size) = true := decide_eq_true (by omega)
    clear c2
    replace H := Option.bind_eq_some_iff.mp H
    obtain ⟨t175, A30, H⟩ := H
    replace H : (some t175) = some r := H
    have A3 := Aside0.mk A30
    clear A30
    obtain rfl := Option.some.inj H
    go_enter Try.func3, Try.ntmps3
    go_wp2_with (first | ((first | ((with_reducible refine gate_callee (f := 8) rfl ?_); refine goesL_ (some 18) rfl rfl Try.func8 (by kernel_rfl) rfl #[] rfl (by (try simp only [List.map_toArray, List.map_cons, List.map_nil]); first | done | rfl | (simp only [List.length_drop, List.length_take]; rfl)) ?_; (with_reducible refine (triremelaw03_known.calls k  t175 _ A3.out).mono ?_); rintro e w4 ⟨rfl, hb⟩; refine ⟨_, rfl, ?_⟩) | (go_at_call 8; (with_reducible refine (triremelaw03_known.calls k  t175 _ A3.out).mono ?_); rintro e w4 ⟨rfl, hb⟩)); have n0_ := Aside0.mk (below_step (by repeat (first | (with_reducible first | exact HB.out | apply below_alloc | apply pw_below_drewN | apply below_drew1) | exact HB.out)) hb); clear HB; have HB := n0_; clear n0_; (try clear hb); (try clear hb2); (try clear hk); (try clear hi)))
    go_ret
    exact ⟨by first | rfl | (simp [errW_none, errW_some] <;> rfl) | (simp [*, errW_none, errW_some] <;> rfl), by repeat (first | (with_reducible first | exact HB.out | apply below_alloc | apply pw_below_drewN | apply below_drew1) | exact HB.out)⟩
  · rw [if_neg c2] at H
    have c2b0 : decide (300 < (a0.size : Int)) = false := decide_eq_false c2
    have c2b1 : decide (300 < a0.size) = false := decide_eq_false (by omega)
    clear c2
    replace H := Option.bind_eq_some_iff.mp H
    obtain ⟨⟨t176, t177⟩, A50, H⟩ := H
    replace H : ((triremeref03_Parse.f k a0).bind fun bt178 => ((quant_Milli.f k a0).bind fun bt180 => ((triremeref03_Milli.f k a0).bind fun bt182 => ((quant_Number.f k a0).bind fun bt184 => ((triremeref03_Number.f k a0).bind fun bt186 => (if t176 = bt178.1 then (if t177 = bt178.2 then (if bt180.1 = bt182.1 then (if bt180.2 = bt182.2 then (if bt184.1 = bt186.1 then (if bt184.2 = bt186.2 then ((triremelaw03_known.f k).bind fun t188 => (some t188)) else (some false)) else (some false)) else (some false)) else (some false)) else (some false)) else (some false))))))) = some r := H
    have A5 := Aside0.mk A50
    clear A50
    replace H := Option.bind_eq_some_iff.mp H
    obtain ⟨⟨t178, t179⟩, A60, H⟩ := H
    replace H : ((quant_Milli.f k a0).bind fun bt180 => ((triremeref03_Milli.f k a0).bind fun bt182 => ((quant_Number.f k a0).bind fun bt184 => ((triremeref03_Number.f k a0).bind fun bt186 => (if t176 = t178 then (if t177 = t179 then (if bt180.1 = bt182.1 then (if bt180.2 = bt182.2 then (if bt184.1 = bt186.1 then (if bt184.2 = bt186.2 then ((triremelaw03_known.f k).bind fun t188 => (some t188)) else (some false)) else (some false)) else (some false)) else (some false)) else (some false)) else (some false)))))) = some r := H
    have A6 := Aside0.mk A60
    clear A60
    replace H := Option.bind_eq_some_iff.mp H
    obtain ⟨⟨t180, t181⟩, A70, H⟩ := H
    replace H : ((triremeref03_Milli.f k a0).bind fun bt182 => ((quant_Number.f k a0).bind fun bt184 => ((triremeref03_Number.f k a0).bind fun bt186 => (if t176 = t178 then (if t177 = t179 then (if t180 = bt182.1 then (if t181 = bt182.2 then (if bt184.1 = bt186.1 then (if bt184.2 = bt186.2 then ((triremelaw03_known.f k).bind fun t188 => (some t188)) else (some false)) else (some false)) else (some false)) else (some false)) else (some false)) else (some false))))) = some r := H
    have A7 := Aside0.mk A70
    clear A70
    replace H := Option.bind_eq_some_iff.mp H
    obtain ⟨⟨t182, t183⟩, A80, H⟩ := H
    replace H : ((quant_Number.f k a0).bind fun bt184 => ((triremeref03_Number.f k a0).bind fun bt186 => (if t176 = t178 then (if t177 = t179 then (if t180 = t182 then (if t181 = t183 then (if bt184.1 = bt186.1 then (if bt184.2 = bt186.2 then ((triremelaw03_known.f k).bind fun t188 => (some t188)) else (some false)) else (some false)) else (some false)) else (some false)) else (some false)) else (some false)))) = some r := H
    have A8 := Aside0.mk A80
    clear A80
    replace H := Option.bind_eq_some_iff.mp H
    obtain ⟨⟨t184, t185⟩, A90, H⟩ := H
    replace H : ((triremeref03_Number.f k a0).bind fun bt186 => (if t176 = t178 then (if t177 = t179 then (if t180 = t182 then (if t181 = t183 then (if t184 = bt186.1 then (if t185 = bt186.2 then ((triremelaw03_known.f k).bind fun t188 => (some t188)) else (some false)) else (some false)) else (some false)) else (some false)) else (some false)) else (some false))) = some r := H
    have A9 := Aside0.mk A90
    clear A90
    replace H := Option.bind_eq_some_iff.mp H
    obtain ⟨⟨t186, t187⟩, A100, H⟩ := H
    replace H : (if t176 = t178 then (if t177 = t179 then (if t180 = t182 then (if t181 = t183 then (if t184 = t186 then (if t185 = t187 then ((triremelaw03_known.f k).bind fun t188 => (some t188)) else (some false)) else (some false)) else (some false)) else (some false)) else (some false)) else (some false)) = some r := H
    have A10 := Aside0.mk A100
    clear A100
    by_cases c11 : t176 = t178
    · rw [if_pos c11] at H
      have c11b0 : (t176 == t178) = true := beq_iff_eq.mpr c11
      have c11b1 : (t176 != t178) = false := bne_eq_false_iff_eq.mpr c11
      clear c11
      by_cases c12 : t177 = t179
      · rw [if_pos c12] at H
        have c12b0 : (t177 == t179) = true := beq_iff_eq.mpr c12
        have c12b1 : (t177 != t179) = false := bne_eq_false_iff_eq.mpr c12
        clear c12
        by_cases c13 : t180 = t182
        · rw [if_pos c13] at H
          have c13b0 : (t180 == t182) = true := beq_iff_eq.mpr c13
          have c13b1 : (t180 != t182) = false := bne_eq_false_iff_eq.mpr c13
          clear c13
          by_cases c14 : t181 = t183
          · rw [if_pos c14] at H
            have c14b0 : (t181 == t183) = true := beq_iff_eq.mpr c14
            have c14b1 : (t181 != t183) = false := bne_eq_false_iff_eq.mpr c14
            clear c14
            by_cases c15 : t184 = t186
            · rw [if_pos c15] at H
              have c15b0 : (t184 == t186) = true := beq_iff_eq.mpr c15
              have c15b1 : (t184 != t186) = false := bne_eq_false_iff_eq.mpr c15
              clear c15
              by_cases c16 : t185 = t187
              · rw [if_pos c16] at H
                have c16b0 : (t185 == t187) = true := beq_iff_eq.mpr c16
                have c16b1 : (t185 != t187) = false := bne_eq_false_iff_eq.mpr c16
                clear c16
                replace H := Option.bind_eq_some_iff.mp H
                obtain ⟨t188, A170, H⟩ := H
                replace H : (some t188) = some r := H
                have A17 := Aside0.mk A170
                clear A170
                obtain rfl := Option.some.inj H
                go_enter Try.func3, Try.ntmps3
                go_wp2_with (first | ((first | ((with_reducible refine gate_callee (f := 9) rfl ?_); refine goesL_ (some 21) rfl rfl Try.func9 (by kernel_rfl) rfl #[.string a0] rfl (by (try simp only [List.map_toArray, List.map_cons, List.map_nil]); first | done | rfl | (simp only [List.length_drop, List.length_take]; rfl)) ?_; (with_reducible refine (quant_Parse.calls k a0 t176 t177 _ A5.out).mono ?_); rintro e w18 ⟨rfl, hb⟩; refine ⟨_, rfl, ?_⟩) | (go_at_call 9; (with_reducible refine (quant_Parse.calls k a0 t176 t177 _ A5.out).mono ?_); rintro e w18 ⟨rfl, hb⟩)); have n0_ := Aside0.mk (below_step (by repeat (first | (with_reducible first | exact HB.out | apply below_alloc | apply pw_below_drewN | apply below_drew1) | exact HB.out)) hb); clear HB; have HB := n0_; clear n0_; (try clear hb); (try clear hb2); (try clear hk); (try clear hi)) | ((first | ((with_reducible refine gate_callee (f := 10) rfl ?_); refine goesL_ (some 26) rfl rfl Try.func10 (by kernel_rfl) rfl #[.string a0] rfl (by (try simp only [List.map_toArray, List.map_cons, List.map_nil]); first | done | rfl | (simp only [List.length_drop, List.length_take]; rfl)) ?_; (with_reducible refine (triremeref03_Parse.calls k a0 t178 t179 _ A6.out).mono ?_); rintro e w19 ⟨rfl, hb⟩; refine ⟨_, rfl, ?_⟩) | (go_at_call 10; (with_reducible refine (triremeref03_Parse.calls k a0 t178 t179 _ A6.out).mono ?_); rintro e w19 ⟨rfl, hb⟩)); have n0_ := Aside0.mk (below_step (by repeat (first | (with_reducible first | exact HB.out | apply below_alloc | apply pw_below_drewN | apply below_drew1) | exact HB.out)) hb); clear HB; have HB := n0_; clear n0_; (try clear hb); (try clear hb2); (try clear hk); (try clear hi)) | ((first | ((with_reducible refine gate_callee (f := 11) rfl ?_); refine goesL_ (some 31) rfl rfl Try.func11 (by kernel_rfl) rfl #[.string a0] rfl (by (try simp only [List.map_toArray, List.map_cons, List.map_nil]); first | done | rfl | (simp only [List.length_drop, List.length_take]; rfl)) ?_; (with_reducible refine (quant_Milli.calls k a0 t180 t181 _ A7.out).mono ?_); rintro e w20 ⟨rfl, hb⟩; refine ⟨_, rfl, ?_⟩) | (go_at_call 11; (with_reducible refine (quant_Milli.calls k a0 t180 t181 _ A7.out).mono ?_); rintro e w20 ⟨rfl, hb⟩)); have n0_ := Aside0.mk (below_step (by repeat (first | (with_reducible first | exact HB.out | apply below_alloc | apply pw_below_drewN | apply below_drew1) | exact HB.out)) hb); clear HB; have HB := n0_; clear n0_; (try clear hb); (try clear hb2); (try clear hk); (try clear hi)) | ((first | ((with_reducible refine gate_callee (f := 12) rfl ?_); refine goesL_ (some 36) rfl rfl Try.func12 (by kernel_rfl) rfl #[.string a0] rfl (by (try simp only [List.map_toArray, List.map_cons, List.map_nil]); first | done | rfl | (simp only [List.length_drop, List.length_take]; rfl)) ?_; (with_reducible refine (triremeref03_Milli.calls k a0 t182 t183 _ A8.out).mono ?_); rintro e w21 ⟨rfl, hb⟩; refine ⟨_, rfl, ?_⟩) | (go_at_call 12; (with_reducible refine (triremeref03_Milli.calls k a0 t182 t183 _ A8.out).mono ?_); rintro e w21 ⟨rfl, hb⟩)); have n0_ := Aside0.mk (below_step (by repeat (first | (with_reducible first | exact HB.out | apply below_alloc | apply pw_below_drewN | apply below_drew1) | exact HB.out)) hb); clear HB; have HB := n0_; clear n0_; (try clear hb); (try clear hb2); (try clear hk); (try clear hi)) | ((first | ((with_reducible refine gate_callee (f := 13) rfl ?_); refine goesL_ (some 41) rfl rfl Try.func13 (by kernel_rfl) rfl #[.string a0] rfl (by (try simp only [List.map_toArray, List.map_cons, List.map_nil]); first | done | rfl | (simp only [List.length_drop, List.length_take]; rfl)) ?_; (with_reducible refine (quant_Number.calls k a0 t184 t185 _ A9.out).mono ?_); rintro e w' ⟨rfl, ⟨nd, rfl⟩⟩; refine ⟨_, rfl, ?_⟩) | (go_at_call 13; (with_reducible refine (quant_Number.calls k a0 t184 t185 _ A9.out).mono ?_); rintro e w' ⟨rfl, ⟨nd, rfl⟩⟩))) | ((first | ((with_reducible refine gate_callee (f := 14) rfl ?_); refine goesL_ (some 46) rfl rfl Try.func14 (by kernel_rfl) rfl #[.string a0] rfl (by (try simp only [List.map_toArray, List.map_cons, List.map_nil]); first | done | rfl | (simp only [List.length_drop, List.length_take]; rfl)) ?_; (with_reducible refine (triremeref03_Number.calls k a0 t186 t187 _ A10.out).mono ?_); rintro e w22 ⟨rfl, hb⟩; refine ⟨_, rfl, ?_⟩) | (go_at_call 14; (with_reducible refine (triremeref03_Number.calls k a0 t186 t187 _ A10.out).mono ?_); rintro e w22 ⟨rfl, hb⟩)); have n0_ := Aside0.mk (below_step (by repeat (first | (with_reducible first | exact HB.out | apply below_alloc | apply pw_below_drewN | apply below_drew1) | exact HB.out)) hb); clear HB; have HB := n0_; clear n0_; (try clear hb); (try clear hb2); (try clear hk); (try clear hi)) | (go_at_call 8; (with_reducible refine (triremelaw03_known.calls k  t188 _ A17.out).mono ?_); rintro e w23 ⟨rfl, hb⟩; have n0_ := Aside0.mk (below_step (by repeat (first | (with_reducible first | exact HB.out | apply below_alloc | apply pw_below_drewN | apply below_drew1) | exact HB.out)) hb); clear HB; have HB := n0_; clear n0_; (try clear hb); (try clear hb2); (try clear hk); (try clear hi)))
                go_ret
                exact ⟨by first | rfl | (simp [errW_none, errW_some] <;> rfl) | (simp [*, errW_none, errW_some] <;> rfl), by repeat (first | (with_reducible first | exact HB.out | apply below_alloc | apply pw_below_drewN | apply below_drew1) | exact HB.out)⟩
              · rw [if_neg c16] at H
                have c16b0 : (t185 == t187) = false := beq_eq_false_iff_ne.mpr c16
                have c16b1 : (t185 != t187) = true := bne_iff_ne.mpr c16
                obtain rfl := Option.some.inj H
                go_enter Try.func3, Try.ntmps3
                go_wp2_with (first | ((first | ((with_reducible refine gate_callee (f := 9) rfl ?_); refine goesL_ (some 21) rfl rfl Try.func9 (by kernel_rfl) rfl #[.string a0] rfl (by (try simp only [List.map_toArray, List.map_cons, List.map_nil]); first | done | rfl | (simp only [List.length_drop, List.length_take]; rfl)) ?_; (with_reducible refine (quant_Parse.calls k a0 t176 t177 _ A5.out).mono ?_); rintro e w24 ⟨rfl, hb⟩; refine ⟨_, rfl, ?_⟩) | (go_at_call 9; (with_reducible refine (quant_Parse.calls k a0 t176 t177 _ A5.out).mono ?_); rintro e w24 ⟨rfl, hb⟩)); have n0_ := Aside0.mk (below_step (by repeat (first | (with_reducible first | exact HB.out | apply below_alloc | apply pw_below_drewN | apply below_drew1) | exact HB.out)) hb); clear HB; have HB := n0_; clear n0_; (try clear hb); (try clear hb2); (try clear hk); (try clear hi)) | ((first | ((with_reducible refine gate_callee (f := 10) rfl ?_); refine goesL_ (some 26) rfl rfl Try.func10 (by kernel_rfl) rfl #[.string a0] rfl (by (try simp only [List.map_toArray, List.map_cons, List.map_nil]); first | done | rfl | (simp only [List.length_drop, List.length_take]; rfl)) ?_; (with_reducible refine (triremeref03_Parse.calls k a0 t178 t179 _ A6.out).mono ?_); rintro e w25 ⟨rfl, hb⟩; refine ⟨_, rfl, ?_⟩) | (go_at_call 10; (with_reducible refine (triremeref03_Parse.calls k a0 t178 t179 _ A6.out).mono ?_); rintro e w25 ⟨rfl, hb⟩)); have n0_ := Aside0.mk (below_step (by repeat (first | (with_reducible first | exact HB.out | apply below_alloc | apply pw_below_drewN | apply below_drew1) | exact HB.out)) hb); clear HB; have HB := n0_; clear n0_; (try clear hb); (try clear hb2); (try clear hk); (try clear hi)) | ((first | ((with_reducible refine gate_callee (f := 11) rfl ?_); refine goesL_ (some 31) rfl rfl Try.func11 (by kernel_rfl) rfl #[.string a0] rfl (by (try simp only [List.map_toArray, List.map_cons, List.map_nil]); first | done | rfl | (simp only [List.length_drop, List.length_take]; rfl)) ?_; (with_reducible refine (quant_Milli.calls k a0 t180 t181 _ A7.out).mono ?_); rintro e w26 ⟨rfl, hb⟩; refine ⟨_, rfl, ?_⟩) | (go_at_call 11; (with_reducible refine (quant_Milli.calls k a0 t180 t181 _ A7.out).mono ?_); rintro e w26 ⟨rfl, hb⟩)); have n0_ := Aside0.mk (below_step (by repeat (first | (with_reducible first | exact HB.out | apply below_alloc | apply pw_below_drewN | apply below_drew1) | exact HB.out)) hb); clear HB; have HB := n0_; clear n0_; (try clear hb); (try clear hb2); (try clear hk); (try clear hi)) | ((first | ((with_reducible refine gate_callee (f := 12) rfl ?_); refine goesL_ (some 36) rfl rfl Try.func12 (by kernel_rfl) rfl #[.string a0] rfl (by (try simp only [List.map_toArray, List.map_cons, List.map_nil]); first | done | rfl | (simp only [List.length_drop, List.length_take]; rfl)) ?_; (with_reducible refine (triremeref03_Milli.calls k a0 t182 t183 _ A8.out).mono ?_); rintro e w27 ⟨rfl, hb⟩; refine ⟨_, rfl, ?_⟩) | (go_at_call 12; (with_reducible refine (triremeref03_Milli.calls k a0 t182 t183 _ A8.out).mono ?_); rintro e w27 ⟨rfl, hb⟩)); have n0_ := Aside0.mk (below_step (by repeat (first | (with_reducible first | exact HB.out | apply below_alloc | apply pw_below_drewN | apply below_drew1) | exact HB.out)) hb); clear HB; have HB := n0_; clear n0_; (try clear hb); (try clear hb2); (try clear hk); (try clear hi)) | ((first | ((with_reducible refine gate_callee (f := 13) rfl ?_); refine goesL_ (some 41) rfl rfl Try.func13 (by kernel_rfl) rfl #[.string a0] rfl (by (try simp only [List.map_toArray, List.map_cons, List.map_nil]); first | done | rfl | (simp only [List.length_drop, List.length_take]; rfl)) ?_; (with_reducible refine (quant_Number.calls k a0 t184 t185 _ A9.out).mono ?_); rintro e w' ⟨rfl, ⟨nd, rfl⟩⟩; refine ⟨_, rfl, ?_⟩) | (go_at_call 13; (with_reducible refine (quant_Number.calls k a0 t184 t185 _ A9.out).mono ?_); rintro e w' ⟨rfl, ⟨nd, rfl⟩⟩))) | ((first | ((with_reducible refine gate_callee (f := 14) rfl ?_); refine goesL_ (some 46) rfl rfl Try.func14 (by kernel_rfl) rfl #[.string a0] rfl (by (try simp only [List.map_toArray, List.map_cons, List.map_nil]); first | done | rfl | (simp only [List.length_drop, List.length_take]; rfl)) ?_; (with_reducible refine (triremeref03_Number.calls k a0 t186 t187 _ A10.out).mono ?_); rintro e w28 ⟨rfl, hb⟩; refine ⟨_, rfl, ?_⟩) | (go_at_call 14; (with_reducible refine (triremeref03_Number.calls k a0 t186 t187 _ A10.out).mono ?_); rintro e w28 ⟨rfl, hb⟩)); have n0_ := Aside0.mk (below_step (by repeat (first | (with_reducible first | exact HB.out | apply below_alloc | apply pw_below_drewN | apply below_drew1) | exact HB.out)) hb); clear HB; have HB := n0_; clear n0_; (try clear hb); (try clear hb2); (try clear hk); (try clear hi)))
                go_ret
                exact ⟨by first | rfl | (simp [errW_none, errW_some] <;> rfl) | (simp [*, errW_none, errW_some] <;> rfl), by repeat (first | (with_reducible first | exact HB.out | apply below_alloc | apply pw_below_drewN | apply below_drew1) | exact HB.out)⟩
            · rw [if_neg c15] at H
              have c15b0 : (t184 == t186) = false := beq_eq_false_iff_ne.mpr c15
              have c15b1 : (t184 != t186) = true := bne_iff_ne.mpr c15
              obtain rfl := Option.some.inj H
              go_enter Try.func3, Try.ntmps3
              go_wp2_with (first | ((first | ((with_reducible refine gate_callee (f := 9) rfl ?_); refine goesL_ (some 21) rfl rfl Try.func9 (by kernel_rfl) rfl #[.string a0] rfl (by (try simp only [List.map_toArray, List.map_cons, List.map_nil]); first | done | rfl | (simp only [List.length_drop, List.length_take]; rfl)) ?_; (with_reducible refine (quant_Parse.calls k a0 t176 t177 _ A5.out).mono ?_); rintro e w29 ⟨rfl, hb⟩; refine ⟨_, rfl, ?_⟩) | (go_at_call 9; (with_reducible refine (quant_Parse.calls k a0 t176 t177 _ A5.out).mono ?_); rintro e w29 ⟨rfl, hb⟩)); have n0_ := Aside0.mk (below_step (by repeat (first | (with_reducible first | exact HB.out | apply below_alloc | apply pw_below_drewN | apply below_drew1) | exact HB.out)) hb); clear HB; have HB := n0_; clear n0_; (try clear hb); (try clear hb2); (try clear hk); (try clear hi)) | ((first | ((with_reducible refine gate_callee (f := 10) rfl ?_); refine goesL_ (some 26) rfl rfl Try.func10 (by kernel_rfl) rfl #[.string a0] rfl (by (try simp only [List.map_toArray, List.map_cons, List.map_nil]); first | done | rfl | (simp only [List.length_drop, List.length_take]; rfl)) ?_; (with_reducible refine (triremeref03_Parse.calls k a0 t178 t179 _ A6.out).mono ?_); rintro e w30 ⟨rfl, hb⟩; refine ⟨_, rfl, ?_⟩) | (go_at_call 10; (with_reducible refine (triremeref03_Parse.calls k a0 t178 t179 _ A6.out).mono ?_); rintro e w30 ⟨rfl, hb⟩)); have n0_ := Aside0.mk (below_step (by repeat (first | (with_reducible first | exact HB.out | apply below_alloc | apply pw_below_drewN | apply below_drew1) | exact HB.out)) hb); clear HB; have HB := n0_; clear n0_; (try clear hb); (try clear hb2); (try clear hk); (try clear hi)) | ((first | ((with_reducible refine gate_callee (f := 11) rfl ?_); refine goesL_ (some 31) rfl rfl Try.func11 (by kernel_rfl) rfl #[.string a0] rfl (by (try simp only [List.map_toArray, List.map_cons, List.map_nil]); first | done | rfl | (simp only [List.length_drop, List.length_take]; rfl)) ?_; (with_reducible refine (quant_Milli.calls k a0 t180 t181 _ A7.out).mono ?_); rintro e w31 ⟨rfl, hb⟩; refine ⟨_, rfl, ?_⟩) | (go_at_call 11; (with_reducible refine (quant_Milli.calls k a0 t180 t181 _ A7.out).mono ?_); rintro e w31 ⟨rfl, hb⟩)); have n0_ := Aside0.mk (below_step (by repeat (first | (with_reducible first | exact HB.out | apply below_alloc | apply pw_below_drewN | apply below_drew1) | exact HB.out)) hb); clear HB; have HB := n0_; clear n0_; (try clear hb); (try clear hb2); (try clear hk); (try clear hi)) | ((first | ((with_reducible refine gate_callee (f := 12) rfl ?_); refine goesL_ (some 36) rfl rfl Try.func12 (by kernel_rfl) rfl #[.string a0] rfl (by (try simp only [List.map_toArray, List.map_cons, List.map_nil]); first | done | rfl | (simp only [List.length_drop, List.length_take]; rfl)) ?_; (with_reducible refine (triremeref03_Milli.calls k a0 t182 t183 _ A8.out).mono ?_); rintro e w32 ⟨rfl, hb⟩; refine ⟨_, rfl, ?_⟩) | (go_at_call 12; (with_reducible refine (triremeref03_Milli.calls k a0 t182 t183 _ A8.out).mono ?_); rintro e w32 ⟨rfl, hb⟩)); have n0_ := Aside0.mk (below_step (by repeat (first | (with_reducible first | exact HB.out | apply below_alloc | apply pw_below_drewN | apply below_drew1) | exact HB.out)) hb); clear HB; have HB := n0_; clear n0_; (try clear hb); (try clear hb2); (try clear hk); (try clear hi)) | ((first | ((with_reducible refine gate_callee (f := 13) rfl ?_); refine goesL_ (some 41) rfl rfl Try.func13 (by kernel_rfl) rfl #[.string a0] rfl (by (try simp only [List.map_toArray, List.map_cons, List.map_nil]); first | done | rfl | (simp only [List.length_drop, List.length_take]; rfl)) ?_; (with_reducible refine (quant_Number.calls k a0 t184 t185 _ A9.out).mono ?_); rintro e w' ⟨rfl, ⟨nd, rfl⟩⟩; refine ⟨_, rfl, ?_⟩) | (go_at_call 13; (with_reducible refine (quant_Number.calls k a0 t184 t185 _ A9.out).mono ?_); rintro e w' ⟨rfl, ⟨nd, rfl⟩⟩))) | ((first | ((with_reducible refine gate_callee (f := 14) rfl ?_); refine goesL_ (some 46) rfl rfl Try.func14 (by kernel_rfl) rfl #[.string a0] rfl (by (try simp only [List.map_toArray, List.map_cons, List.map_nil]); first | done | rfl | (simp only [List.length_drop, List.length_take]; rfl)) ?_; (with_reducible refine (triremeref03_Number.calls k a0 t186 t187 _ A10.out).mono ?_); rintro e w33 ⟨rfl, hb⟩; refine ⟨_, rfl, ?_⟩) | (go_at_call 14; (with_reducible refine (triremeref03_Number.calls k a0 t186 t187 _ A10.out).mono ?_); rintro e w33 ⟨rfl, hb⟩)); have n0_ := Aside0.mk (below_step (by repeat (first | (with_reducible first | exact HB.out | apply below_alloc | apply pw_below_drewN | apply below_drew1) | exact HB.out)) hb); clear HB; have HB := n0_; clear n0_; (try clear hb); (try clear hb2); (try clear hk); (try clear hi)))
              go_ret
              exact ⟨by first | rfl | (simp [errW_none, errW_some] <;> rfl) | (simp [*, errW_none, errW_some] <;> rfl), by repeat (first | (with_reducible first | exact HB.out | apply below_alloc | apply pw_below_drewN | apply below_drew1) | exact HB.out)⟩
          · rw [if_neg c14] at H
            have c14b0 : (t181 == t183) = false := beq_eq_false_iff_ne.mpr c14
            have c14b1 : (t181 != t183) = true := bne_iff_ne.mpr c14
            obtain rfl := Option.some.inj H
            go_enter Try.func3, Try.ntmps3
            go_wp2_with (first | ((first | ((with_reducible refine gate_callee (f := 9) rfl ?_); refine goesL_ (some 21) rfl rfl Try.func9 (by kernel_rfl) rfl #[.string a0] rfl (by (try simp only [List.map_toArray, List.map_cons, List.map_nil]); first | done | rfl | (simp only [List.length_drop, List.length_take]; rfl)) ?_; (with_reducible refine (quant_Parse.calls k a0 t176 t177 _ A5.out).mono ?_); rintro e w34 ⟨rfl, hb⟩; refine ⟨_, rfl, ?_⟩) | (go_at_call 9; (with_reducible refine (quant_Parse.calls k a0 t176 t177 _ A5.out).mono ?_); rintro e w34 ⟨rfl, hb⟩)); have n0_ := Aside0.mk (below_step (by repeat (first | (with_reducible first | exact HB.out | apply below_alloc | apply pw_below_drewN | apply below_drew1) | exact HB.out)) hb); clear HB; have HB := n0_; clear n0_; (try clear hb); (try clear hb2); (try clear hk); (try clear hi)) | ((first | ((with_reducible refine gate_callee (f := 10) rfl ?_); refine goesL_ (some 26) rfl rfl Try.func10 (by kernel_rfl) rfl #[.string a0] rfl (by (try simp only [List.map_toArray, List.map_cons, List.map_nil]); first | done | rfl | (simp only [List.length_drop, List.length_take]; rfl)) ?_; (with_reducible refine (triremeref03_Parse.calls k a0 t178 t179 _ A6.out).mono ?_); rintro e w35 ⟨rfl, hb⟩; refine ⟨_, rfl, ?_⟩) | (go_at_call 10; (with_reducible refine (triremeref03_Parse.calls k a0 t178 t179 _ A6.out).mono ?_); rintro e w35 ⟨rfl, hb⟩)); have n0_ := Aside0.mk (below_step (by repeat (first | (with_reducible first | exact HB.out | apply below_alloc | apply pw_below_drewN | apply below_drew1) | exact HB.out)) hb); clear HB; have HB := n0_; clear n0_; (try clear hb); (try clear hb2); (try clear hk); (try clear hi)) | ((first | ((with_reducible refine gate_callee (f := 11) rfl ?_); refine goesL_ (some 31) rfl rfl Try.func11 (by kernel_rfl) rfl #[.string a0] rfl (by (try simp only [List.map_toArray, List.map_cons, List.map_nil]); first | done | rfl | (simp only [List.length_drop, List.length_take]; rfl)) ?_; (with_reducible refine (quant_Milli.calls k a0 t180 t181 _ A7.out).mono ?_); rintro e w36 ⟨rfl, hb⟩; refine ⟨_, rfl, ?_⟩) | (go_at_call 11; (with_reducible refine (quant_Milli.calls k a0 t180 t181 _ A7.out).mono ?_); rintro e w36 ⟨rfl, hb⟩)); have n0_ := Aside0.mk (below_step (by repeat (first | (with_reducible first | exact HB.out | apply below_alloc | apply pw_below_drewN | apply below_drew1) | exact HB.out)) hb); clear HB; have HB := n0_; clear n0_; (try clear hb); (try clear hb2); (try clear hk); (try clear hi)) | ((first | ((with_reducible refine gate_callee (f := 12) rfl ?_); refine goesL_ (some 36) rfl rfl Try.func12 (by kernel_rfl) rfl #[.string a0] rfl (by (try simp only [List.map_toArray, List.map_cons, List.map_nil]); first | done | rfl | (simp only [List.length_drop, List.length_take]; rfl)) ?_; (with_reducible refine (triremeref03_Milli.calls k a0 t182 t183 _ A8.out).mono ?_); rintro e w37 ⟨rfl, hb⟩; refine ⟨_, rfl, ?_⟩) | (go_at_call 12; (with_reducible refine (triremeref03_Milli.calls k a0 t182 t183 _ A8.out).mono ?_); rintro e w37 ⟨rfl, hb⟩)); have n0_ := Aside0.mk (below_step (by repeat (first | (with_reducible first | exact HB.out | apply below_alloc | apply pw_below_drewN | apply below_drew1) | exact HB.out)) hb); clear HB; have HB := n0_; clear n0_; (try clear hb); (try clear hb2); (try clear hk); (try clear hi)) | ((first | ((with_reducible refine gate_callee (f := 13) rfl ?_); refine goesL_ (some 41) rfl rfl Try.func13 (by kernel_rfl) rfl #[.string a0] rfl (by (try simp only [List.map_toArray, List.map_cons, List.map_nil]); first | done | rfl | (simp only [List.length_drop, List.length_take]; rfl)) ?_; (with_reducible refine (quant_Number.calls k a0 t184 t185 _ A9.out).mono ?_); rintro e w' ⟨rfl, ⟨nd, rfl⟩⟩; refine ⟨_, rfl, ?_⟩) | (go_at_call 13; (with_reducible refine (quant_Number.calls k a0 t184 t185 _ A9.out).mono ?_); rintro e w' ⟨rfl, ⟨nd, rfl⟩⟩))) | ((first | ((with_reducible refine gate_callee (f := 14) rfl ?_); refine goesL_ (some 46) rfl rfl Try.func14 (by kernel_rfl) rfl #[.string a0] rfl (by (try simp only [List.map_toArray, List.map_cons, List.map_nil]); first | done | rfl | (simp only [List.length_drop, List.length_take]; rfl)) ?_; (with_reducible refine (triremeref03_Number.calls k a0 t186 t187 _ A10.out).mono ?_); rintro e w38 ⟨rfl, hb⟩; refine ⟨_, rfl, ?_⟩) | (go_at_call 14; (with_reducible refine (triremeref03_Number.calls k a0 t186 t187 _ A10.out).mono ?_); rintro e w38 ⟨rfl, hb⟩)); have n0_ := Aside0.mk (below_step (by repeat (first | (with_reducible first | exact HB.out | apply below_alloc | apply pw_below_drewN | apply below_drew1) | exact HB.out)) hb); clear HB; have HB := n0_; clear n0_; (try clear hb); (try clear hb2); (try clear hk); (try clear hi)))
            go_ret
            exact ⟨by first | rfl | (simp [errW_none, errW_some] <;> rfl) | (simp [*, errW_none, errW_some] <;> rfl), by repeat (first | (with_reducible first | exact HB.out | apply below_alloc | apply pw_below_drewN | apply below_drew1) | exact HB.out)⟩
        · rw [if_neg c13] at H
          have c13b0 : (t180 == t182) = false := beq_eq_false_iff_ne.mpr c13
          have c13b1 : (t180 != t182) = true := bne_iff_ne.mpr c13
          obtain rfl := Option.some.inj H
          go_enter Try.func3, Try.ntmps3
          go_wp2_with (first | ((first | ((with_reducible refine gate_callee (f := 9) rfl ?_); refine goesL_ (some 21) rfl rfl Try.func9 (by kernel_rfl) rfl #[.string a0] rfl (by (try simp only [List.map_toArray, List.map_cons, List.map_nil]); first | done | rfl | (simp only [List.length_drop, List.length_take]; rfl)) ?_; (with_reducible refine (quant_Parse.calls k a0 t176 t177 _ A5.out).mono ?_); rintro e w39 ⟨rfl, hb⟩; refine ⟨_, rfl, ?_⟩) | (go_at_call 9; (with_reducible refine (quant_Parse.calls k a0 t176 t177 _ A5.out).mono ?_); rintro e w39 ⟨rfl, hb⟩)); have n0_ := Aside0.mk (below_step (by repeat (first | (with_reducible first | exact HB.out | apply below_alloc | apply pw_below_drewN | apply below_drew1) | exact HB.out)) hb); clear HB; have HB := n0_; clear n0_; (try clear hb); (try clear hb2); (try clear hk); (try clear hi)) | ((first | ((with_reducible refine gate_callee (f := 10) rfl ?_); refine goesL_ (some 26) rfl rfl Try.func10 (by kernel_rfl) rfl #[.string a0] rfl (by (try simp only [List.map_toArray, List.map_cons, List.map_nil]); first | done | rfl | (simp only [List.length_drop, List.length_take]; rfl)) ?_; (with_reducible refine (triremeref03_Parse.calls k a0 t178 t179 _ A6.out).mono ?_); rintro e w40 ⟨rfl, hb⟩; refine ⟨_, rfl, ?_⟩) | (go_at_call 10; (with_reducible refine (triremeref03_Parse.calls k a0 t178 t179 _ A6.out).mono ?_); rintro e w40 ⟨rfl, hb⟩)); have n0_ := Aside0.mk (below_step (by repeat (first | (with_reducible first | exact HB.out | apply below_alloc | apply pw_below_drewN | apply below_drew1) | exact HB.out)) hb); clear HB; have HB := n0_; clear n0_; (try clear hb); (try clear hb2); (try clear hk); (try clear hi)) | ((first | ((with_reducible refine gate_callee (f := 11) rfl ?_); refine goesL_ (some 31) rfl rfl Try.func11 (by kernel_rfl) rfl #[.string a0] rfl (by (try simp only [List.map_toArray, List.map_cons, List.map_nil]); first | done | rfl | (simp only [List.length_drop, List.length_take]; rfl)) ?_; (with_reducible refine (quant_Milli.calls k a0 t180 t181 _ A7.out).mono ?_); rintro e w41 ⟨rfl, hb⟩; refine ⟨_, rfl, ?_⟩) | (go_at_call 11; (with_reducible refine (quant_Milli.calls k a0 t180 t181 _ A7.out).mono ?_); rintro e w41 ⟨rfl, hb⟩)); have n0_ := Aside0.mk (below_step (by repeat (first | (with_reducible first | exact HB.out | apply below_alloc | apply pw_below_drewN | apply below_drew1) | exact HB.out)) hb); clear HB; have HB := n0_; clear n0_; (try clear hb); (try clear hb2); (try clear hk); (try clear hi)) | ((first | ((with_reducible refine gate_callee (f := 12) rfl ?_); refine goesL_ (some 36) rfl rfl Try.func12 (by kernel_rfl) rfl #[.string a0] rfl (by (try simp only [List.map_toArray, List.map_cons, List.map_nil]); first | done | rfl | (simp only [List.length_drop, List.length_take]; rfl)) ?_; (with_reducible refine (triremeref03_Milli.calls k a0 t182 t183 _ A8.out).mono ?_); rintro e w42 ⟨rfl, hb⟩; refine ⟨_, rfl, ?_⟩) | (go_at_call 12; (with_reducible refine (triremeref03_Milli.calls k a0 t182 t183 _ A8.out).mono ?_); rintro e w42 ⟨rfl, hb⟩)); have n0_ := Aside0.mk (below_step (by repeat (first | (with_reducible first | exact HB.out | apply below_alloc | apply pw_below_drewN | apply below_drew1) | exact HB.out)) hb); clear HB; have HB := n0_; clear n0_; (try clear hb); (try clear hb2); (try clear hk); (try clear hi)) | ((first | ((with_reducible refine gate_callee (f := 13) rfl ?_); refine goesL_ (some 41) rfl rfl Try.func13 (by kernel_rfl) rfl #[.string a0] rfl (by (try simp only [List.map_toArray, List.map_cons, List.map_nil]); first | done | rfl | (simp only [List.length_drop, List.length_take]; rfl)) ?_; (with_reducible refine (quant_Number.calls k a0 t184 t185 _ A9.out).mono ?_); rintro e w' ⟨rfl, ⟨nd, rfl⟩⟩; refine ⟨_, rfl, ?_⟩) | (go_at_call 13; (with_reducible refine (quant_Number.calls k a0 t184 t185 _ A9.out).mono ?_); rintro e w' ⟨rfl, ⟨nd, rfl⟩⟩))) | ((first | ((with_reducible refine gate_callee (f := 14) rfl ?_); refine goesL_ (some 46) rfl rfl Try.func14 (by kernel_rfl) rfl #[.string a0] rfl (by (try simp only [List.map_toArray, List.map_cons, List.map_nil]); first | done | rfl | (simp only [List.length_drop, List.length_take]; rfl)) ?_; (with_reducible refine (triremeref03_Number.calls k a0 t186 t187 _ A10.out).mono ?_); rintro e w43 ⟨rfl, hb⟩; refine ⟨_, rfl, ?_⟩) | (go_at_call 14; (with_reducible refine (triremeref03_Number.calls k a0 t186 t187 _ A10.out).mono ?_); rintro e w43 ⟨rfl, hb⟩)); have n0_ := Aside0.mk (below_step (by repeat (first | (with_reducible first | exact HB.out | apply below_alloc | apply pw_below_drewN | apply below_drew1) | exact HB.out)) hb); clear HB; have HB := n0_; clear n0_; (try clear hb); (try clear hb2); (try clear hk); (try clear hi)))
          go_ret
          exact ⟨by first | rfl | (simp [errW_none, errW_some] <;> rfl) | (simp [*, errW_none, errW_some] <;> rfl), by repeat (first | (with_reducible first | exact HB.out | apply below_alloc | apply pw_below_drewN | apply below_drew1) | exact HB.out)⟩
      · rw [if_neg c12] at H
        have c12b0 : (t177 == t179) = false := beq_eq_false_iff_ne.mpr c12
        have c12b1 : (t177 != t179) = true := bne_iff_ne.mpr c12
        obtain rfl := Option.some.inj H
        go_enter Try.func3, Try.ntmps3
        go_wp2_with (first | ((first | ((with_reducible refine gate_callee (f := 9) rfl ?_); refine goesL_ (some 21) rfl rfl Try.func9 (by kernel_rfl) rfl #[.string a0] rfl (by (try simp only [List.map_toArray, List.map_cons, List.map_nil]); first | done | rfl | (simp only [List.length_drop, List.length_take]; rfl)) ?_; (with_reducible refine (quant_Parse.calls k a0 t176 t177 _ A5.out).mono ?_); rintro e w44 ⟨rfl, hb⟩; refine ⟨_, rfl, ?_⟩) | (go_at_call 9; (with_reducible refine (quant_Parse.calls k a0 t176 t177 _ A5.out).mono ?_); rintro e w44 ⟨rfl, hb⟩)); have n0_ := Aside0.mk (below_step (by repeat (first | (with_reducible first | exact HB.out | apply below_alloc | apply pw_below_drewN | apply below_drew1) | exact HB.out)) hb); clear HB; have HB := n0_; clear n0_; (try clear hb); (try clear hb2); (try clear hk); (try clear hi)) | ((first | ((with_reducible refine gate_callee (f := 10) rfl ?_); refine goesL_ (some 26) rfl rfl Try.func10 (by kernel_rfl) rfl #[.string a0] rfl (by (try simp only [List.map_toArray, List.map_cons, List.map_nil]); first | done | rfl | (simp only [List.length_drop, List.length_take]; rfl)) ?_; (with_reducible refine (triremeref03_Parse.calls k a0 t178 t179 _ A6.out).mono ?_); rintro e w45 ⟨rfl, hb⟩; refine ⟨_, rfl, ?_⟩) | (go_at_call 10; (with_reducible refine (triremeref03_Parse.calls k a0 t178 t179 _ A6.out).mono ?_); rintro e w45 ⟨rfl, hb⟩)); have n0_ := Aside0.mk (below_step (by repeat (first | (with_reducible first | exact HB.out | apply below_alloc | apply pw_below_drewN | apply below_drew1) | exact HB.out)) hb); clear HB; have HB := n0_; clear n0_; (try clear hb); (try clear hb2); (try clear hk); (try clear hi)) | ((first | ((with_reducible refine gate_callee (f := 11) rfl ?_); refine goesL_ (some 31) rfl rfl Try.func11 (by kernel_rfl) rfl #[.string a0] rfl (by (try simp only [List.map_toArray, List.map_cons, List.map_nil]); first | done | rfl | (simp only [List.length_drop, List.length_take]; rfl)) ?_; (with_reducible refine (quant_Milli.calls k a0 t180 t181 _ A7.out).mono ?_); rintro e w46 ⟨rfl, hb⟩; refine ⟨_, rfl, ?_⟩) | (go_at_call 11; (with_reducible refine (quant_Milli.calls k a0 t180 t181 _ A7.out).mono ?_); rintro e w46 ⟨rfl, hb⟩)); have n0_ := Aside0.mk (below_step (by repeat (first | (with_reducible first | exact HB.out | apply below_alloc | apply pw_below_drewN | apply below_drew1) | exact HB.out)) hb); clear HB; have HB := n0_; clear n0_; (try clear hb); (try clear hb2); (try clear hk); (try clear hi)) | ((first | ((with_reducible refine gate_callee (f := 12) rfl ?_); refine goesL_ (some 36) rfl rfl Try.func12 (by kernel_rfl) rfl #[.string a0] rfl (by (try simp only [List.map_toArray, List.map_cons, List.map_nil]); first | done | rfl | (simp only [List.length_drop, List.length_take]; rfl)) ?_; (with_reducible refine (triremeref03_Milli.calls k a0 t182 t183 _ A8.out).mono ?_); rintro e w47 ⟨rfl, hb⟩; refine ⟨_, rfl, ?_⟩) | (go_at_call 12; (with_reducible refine (triremeref03_Milli.calls k a0 t182 t183 _ A8.out).mono ?_); rintro e w47 ⟨rfl, hb⟩)); have n0_ := Aside0.mk (below_step (by repeat (first | (with_reducible first | exact HB.out | apply below_alloc | apply pw_below_drewN | apply below_drew1) | exact HB.out)) hb); clear HB; have HB := n0_; clear n0_; (try clear hb); (try clear hb2); (try clear hk); (try clear hi)) | ((first | ((with_reducible refine gate_callee (f := 13) rfl ?_); refine goesL_ (some 41) rfl rfl Try.func13 (by kernel_rfl) rfl #[.string a0] rfl (by (try simp only [List.map_toArray, List.map_cons, List.map_nil]); first | done | rfl | (simp only [List.length_drop, List.length_take]; rfl)) ?_; (with_reducible refine (quant_Number.calls k a0 t184 t185 _ A9.out).mono ?_); rintro e w' ⟨rfl, ⟨nd, rfl⟩⟩; refine ⟨_, rfl, ?_⟩) | (go_at_call 13; (with_reducible refine (quant_Number.calls k a0 t184 t185 _ A9.out).mono ?_); rintro e w' ⟨rfl, ⟨nd, rfl⟩⟩))) | ((first | ((with_reducible refine gate_callee (f := 14) rfl ?_); refine goesL_ (some 46) rfl rfl Try.func14 (by kernel_rfl) rfl #[.string a0] rfl (by (try simp only [List.map_toArray, List.map_cons, List.map_nil]); first | done | rfl | (simp only [List.length_drop, List.length_take]; rfl)) ?_; (with_reducible refine (triremeref03_Number.calls k a0 t186 t187 _ A10.out).mono ?_); rintro e w48 ⟨rfl, hb⟩; refine ⟨_, rfl, ?_⟩) | (go_at_call 14; (with_reducible refine (triremeref03_Number.calls k a0 t186 t187 _ A10.out).mono ?_); rintro e w48 ⟨rfl, hb⟩)); have n0_ := Aside0.mk (below_step (by repeat (first | (with_reducible first | exact HB.out | apply below_alloc | apply pw_below_drewN | apply below_drew1) | exact HB.out)) hb); clear HB; have HB := n0_; clear n0_; (try clear hb); (try clear hb2); (try clear hk); (try clear hi)))
        go_ret
        exact ⟨by first | rfl | (simp [errW_none, errW_some] <;> rfl) | (simp [*, errW_none, errW_some] <;> rfl), by repeat (first | (with_reducible first | exact HB.out | apply below_alloc | apply pw_below_drewN | apply below_drew1) | exact HB.out)⟩
    · rw [if_neg c11] at H
      have c11b0 : (t176 == t178) = false := beq_eq_false_iff_ne.mpr c11
      have c11b1 : (t176 != t178) = true := bne_iff_ne.mpr c11
      obtain rfl := Option.some.inj H
      go_enter Try.func3, Try.ntmps3
      go_wp2_with (first | ((first | ((with_reducible refine gate_callee (f := 9) rfl ?_); refine goesL_ (some 21) rfl rfl Try.func9 (by kernel_rfl) rfl #[.string a0] rfl (by (try simp only [List.map_toArray, List.map_cons, List.map_nil]); first | done | rfl | (simp only [List.length_drop, List.length_take]; rfl)) ?_; (with_reducible refine (quant_Parse.calls k a0 t176 t177 _ A5.out).mono ?_); rintro e w49 ⟨rfl, hb⟩; refine ⟨_, rfl, ?_⟩) | (go_at_call 9; (with_reducible refine (quant_Parse.calls k a0 t176 t177 _ A5.out).mono ?_); rintro e w49 ⟨rfl, hb⟩)); have n0_ := Aside0.mk (below_step (by repeat (first | (with_reducible first | exact HB.out | apply below_alloc | apply pw_below_drewN | apply below_drew1) | exact HB.out)) hb); clear HB; have HB := n0_; clear n0_; (try clear hb); (try clear hb2); (try clear hk); (try clear hi)) | ((first | ((with_reducible refine gate_callee (f := 10) rfl ?_); refine goesL_ (some 26) rfl rfl Try.func10 (by kernel_rfl) rfl #[.string a0] rfl (by (try simp only [List.map_toArray, List.map_cons, List.map_nil]); first | done | rfl | (simp only [List.length_drop, List.length_take]; rfl)) ?_; (with_reducible refine (triremeref03_Parse.calls k a0 t178 t179 _ A6.out).mono ?_); rintro e w50 ⟨rfl, hb⟩; refine ⟨_, rfl, ?_⟩) | (go_at_call 10; (with_reducible refine (triremeref03_Parse.calls k a0 t178 t179 _ A6.out).mono ?_); rintro e w50 ⟨rfl, hb⟩)); have n0_ := Aside0.mk (below_step (by repeat (first | (with_reducible first | exact HB.out | apply below_alloc | apply pw_below_drewN | apply below_drew1) | exact HB.out)) hb); clear HB; have HB := n0_; clear n0_; (try clear hb); (try clear hb2); (try clear hk); (try clear hi)) | ((first | ((with_reducible refine gate_callee (f := 11) rfl ?_); refine goesL_ (some 31) rfl rfl Try.func11 (by kernel_rfl) rfl #[.string a0] rfl (by (try simp only [List.map_toArray, List.map_cons, List.map_nil]); first | done | rfl | (simp only [List.length_drop, List.length_take]; rfl)) ?_; (with_reducible refine (quant_Milli.calls k a0 t180 t181 _ A7.out).mono ?_); rintro e w51 ⟨rfl, hb⟩; refine ⟨_, rfl, ?_⟩) | (go_at_call 11; (with_reducible refine (quant_Milli.calls k a0 t180 t181 _ A7.out).mono ?_); rintro e w51 ⟨rfl, hb⟩)); have n0_ := Aside0.mk (below_step (by repeat (first | (with_reducible first | exact HB.out | apply below_alloc | apply pw_below_drewN | apply below_drew1) | exact HB.out)) hb); clear HB; have HB := n0_; clear n0_; (try clear hb); (try clear hb2); (try clear hk); (try clear hi)) | ((first | ((with_reducible refine gate_callee (f := 12) rfl ?_); refine goesL_ (some 36) rfl rfl Try.func12 (by kernel_rfl) rfl #[.string a0] rfl (by (try simp only [List.map_toArray, List.map_cons, List.map_nil]); first | done | rfl | (simp only [List.length_drop, List.length_take]; rfl)) ?_; (with_reducible refine (triremeref03_Milli.calls k a0 t182 t183 _ A8.out).mono ?_); rintro e w52 ⟨rfl, hb⟩; refine ⟨_, rfl, ?_⟩) | (go_at_call 12; (with_reducible refine (triremeref03_Milli.calls k a0 t182 t183 _ A8.out).mono ?_); rintro e w52 ⟨rfl, hb⟩)); have n0_ := Aside0.mk (below_step (by repeat (first | (with_reducible first | exact HB.out | apply below_alloc | apply pw_below_drewN | apply below_drew1) | exact HB.out)) hb); clear HB; have HB := n0_; clear n0_; (try clear hb); (try clear hb2); (try clear hk); (try clear hi)) | ((first | ((with_reducible refine gate_callee (f := 13) rfl ?_); refine goesL_ (some 41) rfl rfl Try.func13 (by kernel_rfl) rfl #[.string a0] rfl (by (try simp only [List.map_toArray, List.map_cons, List.map_nil]); first | done | rfl | (simp only [List.length_drop, List.length_take]; rfl)) ?_; (with_reducible refine (quant_Number.calls k a0 t184 t185 _ A9.out).mono ?_); rintro e w' ⟨rfl, ⟨nd, rfl⟩⟩; refine ⟨_, rfl, ?_⟩) | (go_at_call 13; (with_reducible refine (quant_Number.calls k a0 t184 t185 _ A9.out).mono ?_); rintro e w' ⟨rfl, ⟨nd, rfl⟩⟩))) | ((first | ((with_reducible refine gate_callee (f := 14) rfl ?_); refine goesL_ (some 46) rfl rfl Try.func14 (by kernel_rfl) rfl #[.string a0] rfl (by (try simp only [List.map_toArray, List.map_cons, List.map_nil]); first | done | rfl | (simp only [List.length_drop, List.length_take]; rfl)) ?_; (with_reducible refine (triremeref03_Number.calls k a0 t186 t187 _ A10.out).mono ?_); rintro e w53 ⟨rfl, hb⟩; refine ⟨_, rfl, ?_⟩) | (go_at_call 14; (with_reducible refine (triremeref03_Number.calls k a0 t186 t187 _ A10.out).mono ?_); rintro e w53 ⟨rfl, hb⟩)); have n0_ := Aside0.mk (below_step (by repeat (first | (with_reducible first | exact HB.out | apply below_alloc | apply pw_below_drewN | apply below_drew1) | exact HB.out)) hb); clear HB; have HB := n0_; clear n0_; (try clear hb); (try clear hb2); (try clear hk); (try clear hi)))
      go_ret
      exact ⟨by first | rfl | (simp [errW_none, errW_some] <;> rfl) | (simp [*, errW_none, errW_some] <;> rfl), by repeat (first | (with_reducible first | exact HB.out | apply below_alloc | apply pw_below_drewN | apply below_drew1) | exact HB.out)⟩
/-- THE ONE PURE STATEMENT of triremelaw03_QuantParses: yours. -/
def triremelaw03_QuantParses.Pure : Prop := ∀ (a0 : ByteArray), a0.size ≤ 140737488351232 → ∃ k, triremelaw03_QuantParses.f k a0 = some true
theorem triremelaw03_QuantParses.walk (P : triremelaw03_QuantParses.Pure) (a0 : ByteArray) (w : World) (w0 : a0.size ≤ 140737488351232) :
    Calls Try.prog 3 #[.string a0] w fun e w' => e = .returned (.bool true) ∧ Below w.heap.size w w' := by
  obtain ⟨k, h⟩ := P a0 w0
  refine (triremelaw03_QuantParses.calls k a0 true w h).mono ?_
  rintro e w' ⟨rfl, hd⟩
  exact ⟨rfl, hd⟩
end Go.Proofs.Ytpmmiabcfnejmaa.H
end
section
namespace Go.Proofs.Ytpmmiabcfnejmaa.H
open Go.RowKit Go.Proofs.YtpmmiabcfnejmaaW.PrintWords Go.Proofs.YtpmmiabcfnejmaaW.PrintLast Go.Proofs.YtpmmiabcfnejmaaW.PrintMore
set_option linter.unusedVariables false
set_option linter.unusedSimpArgs false
set_option maxRecDepth 100000 in
theorem known_ev : Ev (fun k => triremelaw03_known.f k) true := Ev.of (fun k => triremelaw03_known.mono k) (k := 60) (by kernel_rfl)
end Go.Proofs.Ytpmmiabcfnejmaa.H
end
section
namespace Go.Proofs.Ytpmmiabcfnejmaa.H
open Go.RowKit Go.Proofs.YtpmmiabcfnejmaaW.PrintWords Go.Proofs.YtpmmiabcfnejmaaW.PrintLast Go.Proofs.YtpmmiabcfnejmaaW.PrintMore
set_option linter.unusedVariables false
set_option linter.unusedSimpArgs false
theorem heads_cons (c : UInt8) (l : List UInt8) (h : digB c = true) : heads (c :: l) = heads l + 1 := by
  unfold heads; rw [List.takeWhile_cons, if_pos h]; rfl
theorem z_toList (s : ByteArray) : ((⟨#[48]⟩ : ByteArray) ++ s).toList = 48 :: s.toList := by
  rw [append_toList, ByteArray.toList_eq]; rfl
theorem z_size (s : ByteArray) : ((⟨#[48]⟩ : ByteArray) ++ s).size = s.size + 1 := by rw [ByteArray.size_append]; show 1 + s.size = _; omega
theorem z_heads (s : ByteArray) : heads ((⟨#[48]⟩ : ByteArray) ++ s).toList = heads s.toList + 1 := by
  rw [z_toList, heads_cons _ _ (by decide)]
theorem z_extract (s : ByteArray) (n m : Nat) : ((⟨#[48]⟩ : ByteArray) ++ s).extract (n + 1) (m + 1) = s.extract n m := by
  apply toList_inj
  rw [extract_toList, extract_toList, z_toList]; rfl
theorem z_whole (s : ByteArray) (n : Nat) : (((⟨#[48]⟩ : ByteArray) ++ s).extract 0 (n + 1)).toList = 48 :: (s.extract 0 n).toList := by
  rw [extract_toList, extract_toList, z_toList]; rfl
theorem cutR_zero (s : ByteArray) (h : heads s.toList ≠ 0) : (cutR ((⟨#[48]⟩ : ByteArray) ++ s)).2 = (cutR s).2 ∧ dval (cutR ((⟨#[48]⟩ : ByteArray) ++ s)).1.toList 0 = dval (cutR s).1.toList 0 := by
  have hz : dval (((⟨#[48]⟩ : ByteArray) ++ s).extract 0 (heads s.toList + 1)).toList 0 = dval (s.extract 0 (heads s.toList)).toList 0 := by rw [z_whole]; rfl
  unfold cutR
  simp only [z_heads, z_size, z_extract, h, show ¬ heads s.toList + 1 = 0 by omega, if_false]
  generalize s.extract (heads s.toList) s.size = rest
  by_cases h1 : rest.size = 0 ∨ bt rest 0 ≠ 46
  · simp only [h1, if_true]; exact ⟨trivial, hz⟩
  · simp only [h1, if_false]
    by_cases h2 : heads (rest.extract 1 rest.size).toList < 1 ∨ 3 < heads (rest.extract 1 rest.size).toList
    · simp only [h2, if_true]; exact ⟨trivial, trivial⟩
    · simp only [h2, if_false]; exact ⟨trivial, hz⟩
theorem amtR_zero (s : ByteArray) (each : Nat) (h : heads s.toList ≠ 0) : amtR ((⟨#[48]⟩ : ByteArray) ++ s) each = amtR s each := by
  obtain ⟨h1, h2⟩ := cutR_zero s h
  unfold amtR tailR
  simp only [h1, h2]
theorem numR_zero (s : ByteArray) (h : heads s.toList ≠ 0) : numR ((⟨#[48]⟩ : ByteArray) ++ s) = numR s := by
  have hl := heads_le s.toList
  rw [toList_len] at hl
  unfold numR
  rw [z_size, z_heads, if_neg (by omega), if_neg (show ¬ s.size = 0 by omega), z_toList, show dval (48 :: s.toList) 0 = dval s.toList 0 from rfl]
  by_cases h1 : heads s.toList < s.size
  · rw [if_pos (by omega), if_pos h1]
  · rw [if_neg (by omega), if_neg h1]
theorem zz_app (s : ByteArray) : (⟨#[48, 48]⟩ : ByteArray) ++ s = (⟨#[48]⟩ : ByteArray) ++ ((⟨#[48]⟩ : ByteArray) ++ s) := by
  apply toList_inj
  rw [z_toList, z_toList, append_toList, ByteArray.toList_eq]; rfl
set_option maxRecDepth 100000 in
theorem zeros_pure : triremelaw03_QuantZeros.Pure := by
  intro a0 h0
  apply Ev.rounds
  unfold triremelaw03_QuantZeros.f
  have hk : Ev (fun k => triremelaw03_QuantZeros.j0 k a0 true) true := by
    refine Ev.step (fun k => by rw [triremelaw03_QuantZeros.j0]) ?_
    simp only [if_true]
    exact Ev.bind known_ev (Ev.now _)
  refine ev_if (fun h => hk) (fun h1 => ?_)
  refine ev_if (fun h => hk) (fun h2 => ?_)
  refine ev_if (fun h3 => ?_) (fun h => absurd (by omega) h)
  refine ev_if (fun h => hk) (fun h4 => ?_)
  by_cases h5 : bt a0 0 > 57
  · rw [decide_eq_true h5]; exact hk
  rw [decide_eq_false h5]
  have hs : 0 < a0.size := by omega
  have hh : heads a0.toList ≠ 0 := by
    have e := drop_bt a0 0 hs
    have e2 := bt_nat a0 0 hs
    rw [show ((0 : Nat) : Int) = 0 from rfl] at e2
    rw [List.drop_zero] at e
    rw [e, heads_cons]
    · omega
    · unfold digB; simp; omega
  refine Ev.step (fun k => by rw [triremelaw03_QuantZeros.j0]) ?_
  simp only [Bool.false_eq_true, if_false]
  refine Ev.bind (quantNumber_ev a0 (by omega)) ?_
  refine ev_if (fun _ => ?_) (fun h => absurd (by omega) h)
  have hz := z_size a0
  have hz2 := z_size ((⟨#[48]⟩ : ByteArray) ++ a0)
  have n1 := quantNumber_ev ((⟨#[48]⟩ : ByteArray) ++ a0) (by omega)
  rw [numR_zero a0 hh] at n1
  refine Ev.bind n1 ?_
  refine Ev.bind (quantParse_ev a0 (by omega)) ?_
  have n2 := quantParse_ev ((⟨#[48]⟩ : ByteArray) ++ a0) (by omega)
  rw [amtR_zero a0 _ hh] at n2
  refine Ev.bind n2 ?_
  refine Ev.bind (quantMilli_ev a0 (by omega)) ?_
  refine ev_if (fun _ => ?_) (fun h => absurd (by omega) h)
  have n3 := quantMilli_ev ((⟨#[48, 48]⟩ : ByteArray) ++ a0) (by rw [zz_app]; omega)
  rw [zz_app, amtR_zero _ _ (by rw [z_heads]; omega), amtR_zero a0 _ hh, ← zz_app] at n3
  refine Ev.bind n3 ?_
  simp only [if_true]
  exact Ev.bind known_ev (Ev.now _)
end Go.Proofs.Ytpmmiabcfnejmaa.H
end
section
namespace Go.Proofs.Ytpmmiabcfnejmaa.Pure
open Go.RowKit Go.Proofs.Ytpmmiabcfnejmaa.H Go.Proofs.YtpmmiabcfnejmaaW.PrintWords Go.Proofs.YtpmmiabcfnejmaaW.PrintLast
theorem QuantZeros : triremelaw03_QuantZeros.Pure -- proved in PuO
  := H.zeros_pure
end Go.Proofs.Ytpmmiabcfnejmaa.Pure
end
section
namespace Go.Proofs.Ytpmmiabcfnejmaa.quantZeros
open Go.ChangeShapes Go.WideShapes Go.ChangeAt Go.RowKit
open Go.ChangeMaps (open_string shut_string)
set_option linter.unusedVariables false
theorem own : ownKnob Try.prog.godebug = none := by kernel_rfl
set_option maxRecDepth 100000 in
theorem lifted (os : Os) (started : os.Started) (H : Type) (enc : TypeId × Value → H) :
    ReturnsInHanded {} Try.checked os 7 .any (Rows.quantZerosSpec.pre6 enc Try.prog Try.f7 Rows.quantZerosRow.domain false) (Rows.quantZerosSpec.post enc Try.prog Try.f7 false true false false) := by
  refine returnsInHanded_of_change_sized (C := Try.checked) own started (by kernel_rfl) Try.func7
    (ChangeSpec.witness6 (enc := enc) (C := Try.checked) false ⟨#[], #[.string ByteArray.empty], []⟩ 8 (by kernel_rfl) (by kernel_rfl) (by kernel_rfl) (by kernel_rfl)) ?_
  intro W base args ds gs before hval0 hW hcnd hsz0 _
  have hsz : (DataW.weightsEach Try.prog (Try.f7.params.toList ++ Rows.quantZerosSpec.plain.varTypes Try.prog) (ds ++ gs)).all (· ≤ reachBytes) = true := hsz0
  have hval : ∀ (j : Nat) t v, Try.f7.params[j]? = some t → args[j]? = some v → Value.okWide Try.prog W .any base t v := hval0
  have hW' := hW
  obtain ⟨p, q, hA0, hV, rfl, hfz, hnd⟩ := hW
  have hA : DataW.TrodAll enc Try.prog W 0 (fun _ => true) true Try.f7.params.toList args.toList ds p := hA0
  rw [Try.params7] at hA hval hsz
  obtain ⟨v0, vs0, d0, ds0, p0, q0, hargs, rfl, rfl, h0, r0⟩ := trodAll_cons hA
  obtain ⟨rfl, rfl, rfl⟩ := trodAll_nil r0
  obtain rfl : args = #[v0] := by cases args; simp_all
  obtain ⟨rfl, rfl⟩ := trodVars_none hV
  obtain ⟨a0, rfl, rfl, rfl, y0⟩ := open_string Try.underlying9 (hval 0 9 v0 rfl rfl) h0
  have w0 : a0.size ≤ 140737488351232 := by
    have z := sized_string hsz (j := 0) (t := 9) rfl rfl
    rw [Array.length_toList] at z
    exact z
  clear hA0 hval0 hsz0 hsz
  refine (_root_.Go.Proofs.Ytpmmiabcfnejmaa.H.triremelaw03_QuantZeros.walk Pure.QuantZeros a0 W w0).mono fun e W' ⟨he, bel⟩ => ?_
  subst he
  exact ⟨_, rfl, _, _, _, [], _, [], hW', trodAll_mk1 (shut_bool Try.underlying4 _), (trodAll_cons_mk (shut_string Try.underlying9 y0) trodAll_mk0), rfl, bel.frame _, fun h => by cases h⟩
theorem over : Rows.quantZerosRow.holds Try.pinned (OpenSpec.ofChange Rows.quantZerosSpec) :=
  OpenClaim.holds_of_wide 7 Try.f7 rfl rfl rfl rfl rfl rfl rfl ⟨rfl, rfl, rfl, rfl, rfl⟩ rfl rfl rfl rfl rfl (by kernel_rfl) Try.func7 (by kernel_rfl)
    (of_decide_eq_true (by kernel_rfl)) (by unfold Func.isWrapper; first | (rw [if_pos (by decide +kernel)]; kernel_rfl) | (rw [if_neg (by decide +kernel)]; exact ⟨rfl, rfl⟩))
    (fun os started H enc _ => lifted os started H enc)
theorem proved : Rows.QuantZerosSaid := over
end Go.Proofs.Ytpmmiabcfnejmaa.quantZeros
namespace Go.Proofs.Ytpmmiabcfnejmaa
/-- The row, under a short name, for the claim. -/
theorem quantZeros_holds : Rows.QuantZerosSaid := quantZeros.proved
end Go.Proofs.Ytpmmiabcfnejmaa
end
