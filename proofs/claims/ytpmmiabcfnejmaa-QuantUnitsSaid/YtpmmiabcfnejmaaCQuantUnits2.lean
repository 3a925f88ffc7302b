import Derived.Laws.BitsLemmas
import Derived.Lib.EndianBits
import Derived.Test.YtpmmiabcfnejmaaCQuantUnits0
import Derived.Test.YtpmmiabcfnejmaaCQuantUnits1
section
namespace Go.Proofs.Ytpmmiabcfnejmaa.H
open Go.RowKit Go.Proofs.YtpmmiabcfnejmaaW.PrintWords Go.Proofs.YtpmmiabcfnejmaaW.PrintLast Go.Proofs.YtpmmiabcfnejmaaW.PrintMore
attribute [local go_sem] max2_int min2_int max_two min_two max_three min_three max_four min_four   -- for this text's walks alone
set_option linter.unusedVariables false
set_option linter.unusedSimpArgs false
def triremelaw03_QuantUnits.f (k : Nat) (a0 : Int) (a1 : Int) (a2 : Int) : Option (Bool) := (some (([(⟨#[]⟩ : ByteArray), (⟨#[107]⟩ : ByteArray), (⟨#[77]⟩ : ByteArray), (⟨#[75, 105]⟩ : ByteArray), (⟨#[77, 105]⟩ : ByteArray)] : List ByteArray) : List ByteArray)).bind fun y197 => ((some (([1, 1000, 1000000, 1024, 1048576] : List Int) : List Int)).bind fun y200 => ((triremeref01_Digits.f k (wrap64 (1000 + (Int.tmod (wrap64 (a1)) 1000)))).bind fun t203 => ((triremeref01_Digits.f k (wrap64 (a0))).bind fun t204 => (if 0 ≤ (Int.tmod (wrap64 (a2)) 5) then (if (Int.tmod (wrap64 (a2)) 5) < (y197.length : Int) then (if t204.size + (rdOf ByteArray.empty y197 (Int.tmod (wrap64 (a2)) 5)).size ≤ 9223372036854775807 then ((quant_Parse.f k (t204 ++ (rdOf ByteArray.empty y197 (Int.tmod (wrap64 (a2)) 5)))).bind fun bt206 => ((triremeref01_Digits.f k (wrap64 (a0))).bind fun t208 => (if t208.size + 1 ≤ 9223372036854775807 then (if 1 ≤ (t203.size : Int) then (if (t208 ++ (⟨#[46]⟩ : ByteArray)).size + (t203.extract 1 t203.size).size ≤ 9223372036854775807 then (if ((t208 ++ (⟨#[46]⟩ : ByteArray)) ++ (t203.extract 1 t203.size)).size + (rdOf ByteArray.empty y197 (Int.tmod (wrap64 (a2)) 5)).size ≤ 9223372036854775807 then ((quant_Milli.f k (((t208 ++ (⟨#[46]⟩ : ByteArray)) ++ (t203.extract 1 t203.size)) ++ (rdOf ByteArray.empty y197 (Int.tmod (wrap64 (a2)) 5)))).bind fun bt210 => (if (Int.tmod (wrap64 (a2)) 5) < (y200.length : Int) then (if bt206.1 = (wrap64 ((wrap64 (a0)) * (rd y200 (Int.tmod (wrap64 (a2)) 5)))) then (if bt206.2 = 0 then (if bt210.1 = (wrap64 ((wrap64 ((wrap64 (1000 * (wrap64 (a0)))) + (Int.tmod (wrap64 (a1)) 1000))) * (rd y200 (Int.tmod (wrap64 (a2)) 5)))) then (if bt210.2 = 0 then ((triremelaw03_known.f k).bind fun t214 => (some t214)) else (some false)) else (some false)) else (some false)) else (some false)) else (none))) else (none)) else (none)) else (none)) else (none)))) else (none)) else (none)) else (none)))))
theorem triremelaw03_QuantUnits.mono : ∀ a0 a1 a2 k, LeO (triremelaw03_QuantUnits.f k a0 a1 a2) (triremelaw03_QuantUnits.f (k + 1) a0 a1 a2) := by
  intro a0 a1 a2 k
  unfold triremelaw03_QuantUnits.f
  repeat' first
      | (with_reducible exact quant_Milli.mono _ _)
      | (with_reducible exact quant_Parse.mono _ _)
      | (with_reducible exact triremelaw03_known.mono _)
      | (with_reducible exact triremeref01_Digits.mono _ _)
      | (with_reducible exact LeO.refl _)
      | (with_reducible exact LeO.none _)
      | (with_reducible refine LeO.ite ?_ ?_)
      | (with_reducible refine LeO.bind ?_ (fun _ => ?_))
      | exact quant_Milli.mono _ _
      | exact quant_Parse.mono _ _
      | exact triremelaw03_known.mono _
      | exact triremeref01_Digits.mono _ _
      | exact LeO.none _
      | refine LeO.ite ?_ ?_
      | refine LeO.bind ?_ (fun _ => ?_)
def triremelaw03_QuantUnits.T6 : Bool × List (List Nat × List Nat) := (true, [([], []), ([0], [0]), ([1], [1]), ([], []), ([], []), ([3, 4], [3, 4]), ([5], [5]), ([2, 6], [2, 6]), ([7, 2], [7]), ([8], [8]), ([9], [9]), ([9], [9]), ([10, 8, 0, 1, 2, 3, 4, 5, 6, 7, 8, 9, 10], [10]), ([11, 12, 0, 1, 2, 3, 4, 5, 6, 7, 8, 9, 10, 11, 12], [11])])
def triremelaw03_QuantUnits.B6 : List Nat := [0, 1, 3, 0, 0, 24, 56, 127, 255, 511, 1023, 1023, 2047, 8191]
theorem triremelaw03_QuantUnits.tab6 : rtab .any (opsOf Try.f6 6) = triremelaw03_QuantUnits.T6 := by kernel_rfl
theorem triremelaw03_QuantUnits.bits6 : waitsOk triremelaw03_QuantUnits.T6.2 triremelaw03_QuantUnits.B6 = true := by kernel_rfl
def triremelaw03_QuantUnits.T7 : Bool × List (List Nat × List Nat) := (true, [([], []), ([0], [0]), ([1], [1]), ([2], [2]), ([], []), ([4], [4]), ([3, 5], [3, 5]), ([], []), ([], []), ([7, 8], [7, 8]), ([9], [9]), ([6, 10], [6, 10]), ([11, 2], [11]), ([12], [12]), ([13], [13]), ([13], [13]), ([14, 12, 0, 1, 2, 3, 4, 5, 6, 7, 8, 9, 10, 11, 12, 13, 14], [14]), ([15, 16, 0, 1, 2, 3, 4, 5, 6, 7, 8, 9, 10, 11, 12, 13, 14, 15, 16], [15])])
def triremelaw03_QuantUnits.B7 : List Nat := [0, 1, 3, 7, 0, 16, 63, 0, 0, 384, 896, 2047, 4095, 8191, 16383, 16383, 32767, 131071]
theorem triremelaw03_QuantUnits.tab7 : rtab .any (opsOf Try.f6 7) = triremelaw03_QuantUnits.T7 := by kernel_rfl
theorem triremelaw03_QuantUnits.bits7 : waitsOk triremelaw03_QuantUnits.T7.2 triremelaw03_QuantUnits.B7 = true := by kernel_rfl
set_option maxHeartbeats 8000000 in
set_option maxRecDepth 100000 in
theorem triremelaw03_QuantUnits.calls (k : Nat) (a0 : Int) (a1 : Int) (a2 : Int) (r : Bool) (w : World) (h : triremelaw03_QuantUnits.f k a0 a1 a2 = some r) :
    Calls Try.prog 6 #[.int .u16 a0, .int .u16 a1, .int .u8 a2] w fun e w' => e = .returned (.bool r) ∧ Below w.heap.size w w' := by
  have HB := Aside0.mk (Below.refl w.heap.size w)
  have H : ((some (([(⟨#[]⟩ : ByteArray), (⟨#[107]⟩ : ByteArray), (⟨#[77]⟩ : ByteArray), (⟨#[75, 105]⟩ : ByteArray), (⟨#[77, 105]⟩ : ByteArray)] : List ByteArray) : List ByteArray)).bind fun y197 => ((some (([1, 1000, 1000000, 1024, 1048576] : List Int) : List Int)).bind fun y200 => ((triremeref01_Digits.f k (wrap64 (1000 + (Int.tmod (wrap64 (a1)) 1000)))).bind fun t203 => ((triremeref01_Digits.f k (wrap64 (a0))).bind fun t204 => (if 0 ≤ (Int.tmod (wrap64 (a2)) 5) then (if (Int.tmod (wrap64 (a2)) 5) < (y197.length : Int) then (if t204.size + (rdOf ByteArray.empty y197 (Int.tmod (wrap64 (a2)) 5)).size ≤ 9223372036854775807 then ((quant_Parse.f k (t204 ++ (rdOf ByteArray.empty y197 (Int.tmod (wrap64 (a2)) 5)))).bind fun bt206 => ((triremeref01_Digits.f k (wrap64 (a0))).bind fun t208 => (if t208.size + 1 ≤ 9223372036854775807 then (if 1 ≤ (t203.size : Int) then (if (t208 ++ (⟨#[46]⟩ : ByteArray)).size + (t203.extract 1 t203.size).size ≤ 9223372036854775807 then (if ((t208 ++ (⟨#[46]⟩ : ByteArray)) ++ (t203.extract 1 t203.size)).size + (rdOf ByteArray.empty y197 (Int.tmod (wrap64 (a2)) 5)).size ≤ 9223372036854775807 then ((quant_Milli.f k (((t208 ++ (⟨#[46]⟩ : ByteArray)) ++ (t203.extract 1 t203.size)) ++ (rdOf ByteArray.empty y197 (Int.tmod (wrap64 (a2)) 5)))).bind fun bt210 => (if (Int.tmod (wrap64 (a2)) 5) < (y200.length : Int) then (if bt206.1 = (wrap64 ((wrap64 (a0)) * (rd y200 (Int.tmod (wrap64 (a2)) 5)))) then (if bt206.2 = 0 then (if bt210.1 = (wrap64 ((wrap64 ((wrap64 (1000 * (wrap64 (a0)))) + (Int.tmod (wrap64 (a1)) 1000))) * (rd y200 (Int.tmod (wrap64 (a2)) 5)))) then (if bt210.2 = 0 then ((triremelaw03_known.f k).bind fun t214 => (some t214)) else (some false)) else (some false)) else (some false)) else (some false)) else (none))) else (none)) else (none)) else (none)) else (none)))) else (none)) else (none)) else (none)))))) = some r := h
  clear h
  obtain ⟨y197, hy197⟩ : ∃ y_ : List ByteArray, y_ = (([(⟨#[]⟩ : ByteArray), (⟨#[107]⟩ : ByteArray), (⟨#[77]⟩ : ByteArray), (⟨#[75, 105]⟩ : ByteArray), (⟨#[77, 105]⟩ : ByteArray)] : List ByteArray)) := ⟨_, rfl⟩
  replace H : ((some (([1, 1000, 1000000, 1024, 1048576] : List Int) : List Int)).bind fun y200 => ((triremeref01_Digits.f k (wrap64 (1000 + (Int.tmod (wrap64 (a1)) 1000)))).bind fun t203 => ((triremeref01_Digits.f k (wrap64 (a0))).bind fun t204 => (if 0 ≤ (Int.tmod (wrap64 (a2)) 5) then (if (Int.tmod (wrap64 (a2)) 5) < (y197.length : Int) then (if t204.size + (rdOf ByteArray.empty y197 (Int.tmod (wrap64 (a2)) 5)).size ≤ 9223372036854775807 then ((quant_Parse.f k (t204 ++ (rdOf ByteArray.empty y197 (Int.tmod (wrap64 (a2)) 5)))).bind fun bt206 => ((triremeref01_Digits.f k (wrap64 (a0))).bind fun t208 => (if t208.size + 1 ≤ 9223372036854775807 then (if 1 ≤ (t203.size : Int) then (if (t208 ++ (⟨#[46]⟩ : ByteArray)).size + (t203.extract 1 t203.size).size ≤ 9223372036854775807 then (if ((t208 ++ (⟨#[46]⟩ : ByteArray)) ++ (t203.extract 1 t203.size)).size + (rdOf ByteArray.empty y197 (Int.tmod (wrap64 (a2)) 5)).size ≤ 9223372036854775807 then ((quant_Milli.f k (((t208 ++ (⟨#[46]⟩ : ByteArray)) ++ (t203.extract 1 t203.size)) ++ (rdOf ByteArray.empty y197 (Int.tmod (wrap64 (a2)) 5)))).bind fun bt210 => (if (Int.tmod (wrap64 (a2)) 5) < (y200.length : Int) then (if bt206.1 = (wrap64 ((wrap64 (a0)) * (rd y200 (Int.tmod (wrap64 (a2)) 5)))) then (if bt206.2 = 0 then (if bt210.1 = (wrap64 ((wrap64 ((wrap64 (1000 * (wrap64 (a0)))) + (Int.tmod (wrap64 (a1)) 1000))) * (rd y200 (Int.tmod (wrap64 (a2)) 5)))) then (if bt210.2 = 0 then ((triremelaw03_known.f k).bind fun t214 => (some t214)) else (some false)) else (some false)) else (some false)) else (some false)) else (none))) else (none)) else (none)) else (none)) else (none)))) else (none)) else (none)) else (none))))) = some r := by first | (rw [hy197]; with_reducible exact H) | (have H2_ := (Option.bind_some _ _).symm.trans H; rw [hy197]; with_reducible exact H2_) | (have H2_ := (Option.bind_some _ _).symm.trans H; with_reducible exact H2_) | with_reducible exact H | (rw [hy197]; exact H) | exact H
  have Ny197 := Aside0.mk hy197
  clear hy197
  obtain ⟨y200, hy200⟩ : ∃ y_ : List Int, y_ = (([1, 1000, 1000000, 1024, 1048576] : List Int)) := ⟨_, rfl⟩
  replace H : ((triremeref01_Digits.f k (wrap64 (1000 + (Int.tmod (wrap64 (a1)) 1000)))).bind fun t203 => ((triremeref01_Digits.f k (wrap64 (a0))).bind fun t204 => (if 0 ≤ (Int.tmod (wrap64 (a2)) 5) then (if (Int.tmod (wrap64 (a2)) 5) < (y197.length : Int) then (if t204.size + (rdOf ByteArray.empty y197 (Int.tmod (wrap64 (a2)) 5)).size ≤ 9223372036854775807 then ((quant_Parse.f k (t204 ++ (rdOf ByteArray.empty y197 (Int.tmod (wrap64 (a2)) 5)))).bind fun bt206 => ((triremeref01_Digits.f k (wrap64 (a0))).bind fun t208 => (if t208.size + 1 ≤ 9223372036854775807 then (if 1 ≤ (t203.size : Int) then (if (t208 ++ (⟨#[46]⟩ : ByteArray)).size + (t203.extract 1 t203.size).size ≤ 9223372036854775807 then (if ((t208 ++ (⟨#[46]⟩ : ByteArray)) ++ (t203.extract 1 t203.size)).size + (rdOf ByteArray.empty y197 (Int.tmod (wrap64 (a2)) 5)).size ≤ 9223372036854775807 then ((quant_Milli.f k (((t208 ++ (⟨#[46]⟩ : ByteArray)) ++ (t203.extract 1 t203.size)) ++ (rdOf ByteArray.empty y197 (Int.tmod (wrap64 (a2)) 5)))).bind fun bt210 => (if (Int.tmod (wrap64 (a2)) 5) < (y200.length : Int) then (if bt206.1 = (wrap64 ((wrap64 (a0)) * (rd y200 (Int.tmod (wrap64 (a2)) 5)))) then (if bt206.2 = 0 then (if bt210.1 = (wrap64 ((wrap64 ((wrap64 (1000 * (wrap64 (a0)))) + (Int.tmod (wrap64 (a1)) 1000))) * (rd y200 (Int.tmod (wrap64 (a2)) 5)))) then (if bt210.2 = 0 then ((triremelaw03_known.f k).bind fun t214 => (some t214)) else (some false)) else (some false)) else (some false)) else (some false)) else (none))) else (none)) else (none)) else (none)) else (none)))) else (none)) else (none)) else (none)))) = some r := by first | (rw [hy200]; with_reducible exact H) | (have H2_ := (Option.bind_some _ _).symm.trans H; rw [hy200]; with_reducible exact H2_) | (have H2_ := (Option.bind_some _ _).symm.trans H; with_reducible exact H2_) | with_reducible exact H | (rw [hy200]; exact H) | exact H
  have Ny200 := Aside0.mk hy200
  clear hy200
  replace H := Option.bind_eq_some_iff.mp H
  obtain ⟨t203, A40, H⟩ := H
  replace H : ((triremeref01_Digits.f k (wrap64 (a0))).bind fun t204 => (if 0 ≤ (Int.tmod (wrap64 (a2)) 5) then (if (Int.tmod (wrap64 (a2)) 5) < (y197.length : Int) then (if t204.size + (rdOf ByteArray.empty y197 (Int.tmod (wrap64 (a2)) 5)).size ≤ 9223372036854775807 then ((quant_Parse.f k (t204 ++ (rdOf ByteArray.empty y197 (Int.tmod (wrap64 (a2)) 5)))).bind fun bt206 => ((triremeref01_Digits.f k (wrap64 (a0))).bind fun t208 => (if t208.size + 1 ≤ 9223372036854775807 then (if 1 ≤ (t203.size : Int) then (if (t208 ++ (⟨#[46]⟩ : ByteArray)).size + (t203.extract 1 t203.size).size ≤ 9223372036854775807 then (if ((t208 ++ (⟨#[46]⟩ : ByteArray)) ++ (t203.extract 1 t203.size)).size + (rdOf ByteArray.empty y197 (Int.tmod (wrap64 (a2)) 5)).size ≤ 9223372036854775807 then ((quant_Milli.f k (((t208 ++ (⟨#[46]⟩ : ByteArray)) ++ (t203.extract 1 t203.size)) ++ (rdOf ByteArray.empty y197 (Int.tmod (wrap64 (a2)) 5)))).bind fun bt210 => (if (Int.tmod (wrap64 (a2)) 5) < (y200.length : Int) then (if bt206.1 = (wrap64 ((wrap64 (a0)) * (rd y200 (Int.tmod (wrap64 (a2)) 5)))) then (if bt206.2 = 0 then (if bt210.1 = (wrap64 ((wrap64 ((wrap64 (1000 * (wrap64 (a0)))) + (Int.tmod (wrap64 (a1)) 1000))) * (rd y200 (Int.tmod (wrap64 (a2)) 5)))) then (if bt210.2 = 0 then ((triremelaw03_known.f k).bind fun t214 => (some t214)) else (some false)) else (some false)) else (some false)) else (some false)) else (none))) else (none)) else (none)) else (none)) else (none)))) else (none)) else (none)) else (none))) = some r := H
  have A4 := Aside0.mk A40
  clear A40
  replace H := Option.bind_eq_some_iff.mp H
  obtain ⟨t204, A50, H⟩ := H
  replace H : (if 0 ≤ (Int.tmod (wrap64 (a2)) 5) then (if (Int.tmod (wrap64 (a2)) 5) < (y197.length : Int) then (if t204.size + (rdOf ByteArray.empty y197 (Int.tmod (wrap64 (a2)) 5)).size ≤ 9223372036854775807 then ((quant_Parse.f k (t204 ++ (rdOf ByteArray.empty y197 (Int.tmod (wrap64 (a2)) 5)))).bind fun bt206 => ((triremeref01_Digits.f k (wrap64 (a0))).bind fun t208 => (if t208.size + 1 ≤ 9223372036854775807 then (if 1 ≤ (t203.size : Int) then (if (t208 ++ (⟨#[46]⟩ : ByteArray)).size + (t203.extract 1 t203.size).size ≤ 9223372036854775807 then (if ((t208 ++ (⟨#[46]⟩ : ByteArray)) ++ (t203.extract 1 t203.size)).size + (rdOf ByteArray.empty y197 (Int.tmod (wrap64 (a2)) 5)).size ≤ 9223372036854775807 then ((quant_Milli.f k (((t208 ++ (⟨#[46]⟩ : ByteArray)) ++ (t203.extract 1 t203.size)) ++ (rdOf ByteArray.empty y197 (Int.tmod (wrap64 (a2)) 5)))).bind fun bt210 => (if (Int.tmod (wrap64 (a2)) 5) < (y200.length : Int) then (if bt206.1 = (wrap64 ((wrap64 (a0)) * (rd y200 (Int.tmod (wrap64 (a2)) 5)))) then (if bt206.2 = 0 then (if bt210.1 = (wrap64 ((wrap64 ((wrap64 (1000 * (wrap64 (a0)))) + (Int.tmod (wrap64 (a1)) 1000))) * (rd y200 (Int.tmod (wrap64 (a2)) 5)))) then (if bt210.2 = 0 then ((triremelaw03_known.f k).bind fun t214 => (some t214)) else (some false)) else (some false)) else (some false)) else (some false)) else (none))) else (none)) else (none)) else (none)) else (none)))) else (none)) else (none)) else (none)) = some r := H
  have A5 := Aside0.mk A50
  clear A50
  obtain ⟨ji6, hji6⟩ : ∃ j_ : Int, (Int.tmod (wrap64 (a2)) 5) = j_ := ⟨_, rfl⟩
  replace H : (if 0 ≤ (ji6) then (if (ji6) < (y197.length : Int) then (if t204.size + (rdOf ByteArray.empty y197 (ji6)).size ≤ 9223372036854775807 then ((quant_Parse.f k (t204 ++ (rdOf ByteArray.empty y197 (ji6)))).bind fun bt206 => ((triremeref01_Digits.f k (wrap64 (a0))).bind fun t208 => (if t208.size + 1 ≤ 9223372036854775807 then (if 1 ≤ (t203.size : Int) then (if (t208 ++ (⟨#[46]⟩ : ByteArray)).size + (t203.extract 1 t203.size).size ≤ 9223372036854775807 then (if ((t208 ++ (⟨#[46]⟩ : ByteArray)) ++ (t203.extract 1 t203.size)).size + (rdOf ByteArray.empty y197 (ji6)).size ≤ 9223372036854775807 then ((quant_Milli.f k (((t208 ++ (⟨#[46]⟩ : ByteArray)) ++ (t203.extract 1 t203.size)) ++ (rdOf ByteArray.empty y197 (ji6)))).bind fun bt210 => (if (ji6) < (y200.length : Int) then (if bt206.1 = (wrap64 ((wrap64 (a0)) * (rd y200 (ji6)))) then (if bt206.2 = 0 then (if bt210.1 = (wrap64 ((wrap64 ((wrap64 (1000 * (wrap64 (a0)))) + (Int.tmod (wrap64 (a1)) 1000))) * (rd y200 (ji6)))) then (if bt210.2 = 0 then ((triremelaw03_known.f k).bind fun t214 => (some t214)) else (some false)) else (some false)) else (some false)) else (some false)) else (none))) else (none)) else (none)) else (none)) else (none)))) else (none)) else (none)) else (none)) = some r := by first | (rw [hji6] at H; exact H) | (simp only [hji6] at H ⊢; exact H)
  (try rw [hji6] at A4)
  (try rw [hji6] at A5)
  by_cases c7 : 0 ≤ (ji6)
  · rw [if_pos c7] at H
    have c7b0 : decide (0 ≤ (ji6)) = true := decide_eq_true c7
    clear c7
    by_cases c8 : (ji6) < (y197.length : Int)
    · rw [if_pos c8] at H
      have c8b0 : decide ((ji6) < (y197.length : Int)) = true := decide_eq_true c8
      clear c8
      by_cases c9 : t204.size + (rdOf ByteArray.empty y197 (ji6)).size ≤ 9223372036854775807
      · rw [if_pos c9] at H
        have c9b0 := eq_true c9
        (try (have c9z := c9b0; rw [ByteArray.size_extract, Nat.min_self] at c9z))
        have c9b1 : decide (t204.size + (rdOf ByteArray.empty y197 (ji6)).size ≤ 9223372036854775807) = true := decide_eq_true c9
        try have c9b2 : (9223372036854775807 < t204.size + (rdOf ByteArray.empty y197 (ji6)).size) = False := eq_false (Nat.not_lt.2 c9)
        replace H := Option.bind_eq_some_iff.mp H
        obtain ⟨⟨t206, t207⟩, A100, H⟩ := H
        replace H : ((triremeref01_Digits.f k (wrap64 (a0))).bind fun t208 => (if t208.size + 1 ≤ 9223372036854775807 then (if 1 ≤ (t203.size : Int) then (if (t208 ++ (⟨#[46]⟩ : ByteArray)).size + (t203.extract 1 t203.size).size ≤ 9223372036854775807 then (if ((t208 ++ (⟨#[46]⟩ : ByteArray)) ++ (t203.extract 1 t203.size)).size + (rdOf ByteArray.empty y197 (ji6)).size ≤ 9223372036854775807 then ((quant_Milli.f k (((t208 ++ (⟨#[46]⟩ : ByteArray)) ++ (t203.extract 1 t203.size)) ++ (rdOf ByteArray.empty y197 (ji6)))).bind fun bt210 => (if (ji6) < (y200.length : Int) then (if t206 = (wrap64 ((wrap64 (a0)) * (rd y200 (ji6)))) then (if t207 = 0 then (if bt210.1 = (wrap64 ((wrap64 ((wrap64 (1000 * (wrap64 (a0)))) + (Int.tmod (wrap64 (a1)) 1000))) * (rd y200 (ji6)))) then (if bt210.2 = 0 then ((triremelaw03_known.f k).bind fun t214 => (some t214)) else (some false)) else (some false)) else (some false)) else (some false)) else (none))) else (none)) else (none)) else (none)) else (none))) = some r := H
        have A10 := Aside0.mk A100
        clear A100
        replace H := Option.bind_eq_some_iff.mp H
        obtain ⟨t208, A110, H⟩ := H
        replace H : (if t208.size + 1 ≤ 9223372036854775807 then (if 1 ≤ (t203.size : Int) then (if (t208 ++ (⟨#[46]⟩ : ByteArray)).size + (t203.extract 1 t203.size).size ≤ 9223372036854775807 then (if ((t208 ++ (⟨#[46]⟩ : ByteArray)) ++ (t203.extract 1 t203.size)).size + (rdOf ByteArray.empty y197 (ji6)).size ≤ 9223372036854775807 then ((quant_Milli.f k (((t208 ++ (⟨#[46]⟩ : ByteArray)) ++ (t203.extract 1 t203.size)) ++ (rdOf ByteArray.empty y197 (ji6)))).bind fun bt210 => (if (ji6) < (y200.length : Int) then (if t206 = (wrap64 ((wrap64 (a0)) * (rd y200 (ji6)))) then (if t207 = 0 then (if bt210.1 = (wrap64 ((wrap64 ((wrap64 (1000 * (wrap64 (a0)))) + (Int.tmod (wrap64 (a1)) 1000))) * (rd y200 (ji6)))) then (if bt210.2 = 0 then ((triremelaw03_known.f k).bind fun t214 => (some t214)) else (some false)) else (some false)) else (some false)) else (some false)) else (none))) else (none)) else (none)) else (none)) else (none)) = some r := H
        have A11 := Aside0.mk A110
        clear A110
        by_cases c12 : t208.size + 1 ≤ 9223372036854775807
        · rw [if_pos c12] at H
          have c12b0 := eq_true c12
          (try (have c12z := c12b0; rw [ByteArray.size_extract, Nat.min_self] at c12z))
          have c12b1 : decide (t208.size + 1 ≤ 9223372036854775807) = true := decide_eq_true c12
          try have c12b2 : (9223372036854775807 < t208.size + 1) = False := eq_false (Nat.not_lt.2 c12)
          by_cases c13 : 1 ≤ (t203.size : Int)
          · rw [if_pos c13] at H
            have c13b0 := eq_true c13
            (try (have c13z := c13b0; rw [ByteArray.size_extract, Nat.min_self] at c13z))
            have c13b1 : decide (1 ≤ (t203.size : Int)) = true := decide_eq_true c13
            clear c13
            by_cases c14 : (t208 ++ (⟨#[46]⟩ : ByteArray)).size + (t203.extract 1 t203.size).size ≤ 9223372036854775807
            · rw [if_pos c14] at H
              have c14b0 := eq_true c14
              (try (have c14z := c14b0; rw [ByteArray.size_extract, Nat.min_self] at c14z))
              have c14b1 : decide ((t208 ++ (⟨#[46]⟩ : ByteArray)).size + (t203.extract 1 t203.size).size ≤ 9223372036854775807) = true := decide_eq_true c14
              try have c14b2 : (9223372036854775807 < (t208 ++ (⟨#[46]⟩ : ByteArray)).size + (t203.extract 1 t203.size).size) = False := eq_false (Nat.not_lt.2 c14)
              (try (have c14z2 := c14b2; simp only [ByteArray.size_append, ByteArray.size_extract, Nat.min_self, show (⟨#[46]⟩ : ByteArray).size = 1 from rfl] at c14z2))
              by_cases c15 : ((t208 ++ (⟨#[46]⟩ : ByteArray)) ++ (t203.extract 1 t203.size)).size + (rdOf ByteArray.empty y197 (ji6)).size ≤ 9223372036854775807
              · rw [if_pos c15] at H
                have c15b0 := eq_true c15
                (try (have c15z := c15b0; rw [ByteArray.size_extract, Nat.min_self] at c15z))
                have c15b1 : decide (((t208 ++ (⟨#[46]⟩ : ByteArray)) ++ (t203.extract 1 t203.size)).size + (rdOf ByteArray.empty y197 (ji6)).size ≤ 9223372036854775807) = true := decide_eq_true c15
                try have c15b2 : (9223372036854775807 < ((t208 ++ (⟨#[46]⟩ : ByteArray)) ++ (t203.extract 1 t203.size)).size + (rdOf ByteArray.empty y197 (ji6)).size) = False := eq_false (Nat.not_lt.2 c15)
                (try (have c15z2 := c15b2; simp only [ByteArray.size_append, ByteArray.size_extract, Nat.min_self, show (⟨#[46]⟩ : ByteArray).size = 1 from rfl] at c15z2))
                replace H := Option.bind_eq_some_iff.mp H
                obtain ⟨⟨t210, t211⟩, A160, H⟩ := H
                replace H : (if (ji6) < (y200.length : Int) then (if t206 = (wrap64 ((wrap64 (a0)) * (rd y200 (ji6)))) then (if t207 = 0 then (if t210 = (wrap64 ((wrap64 ((wrap64 (1000 * (wrap64 (a0)))) + (Int.tmod (wrap64 (a1)) 1000))) * (rd y200 (ji6)))) then (if t211 = 0 then ((triremelaw03_known.f k).bind fun t214 => (some t214)) else (some false)) else (some false)) else (some false)) else (some false)) else (none)) = some r := H
                have A16 := Aside0.mk A160
                clear A160
                by_cases c17 : (ji6) < (y200.length : Int)
                · rw [if_pos c17] at H
                  have c17b0 : decide ((ji6) < (y200.length : Int)) = true := decide_eq_true c17
                  clear c17
                  by_cases c18 : t206 = (wrap64 ((wrap64 (a0)) * (rd y200 (ji6))))
                  · rw [if_pos c18] at H
                    have c18b0 : (t206 == (wrap64 ((wrap64 (a0)) * (rd y200 (ji6))))) = true := beq_iff_eq.mpr c18
                    have c18b1 : (t206 != (wrap64 ((wrap64 (a0)) * (rd y200 (ji6))))) = false := bne_eq_false_iff_eq.mpr c18
                    clear c18
                    by_cases c19 : t207 = 0
                    · rw [if_pos c19] at H
                      have c19b0 : (t207 == 0) = true := beq_iff_eq.mpr c19
                      have c19b1 : (t207 != 0) = false := bne_eq_false_iff_eq.mpr c19
                      clear c19
                      by_cases c20 : t210 = (wrap64 ((wrap64 ((wrap64 (1000 * (wrap64 (a0)))) + (Int.tmod (wrap64 (a1)) 1000))) * (rd y200 (ji6))))
                      · rw [if_pos c20] at H
                        have c20b0 : (t210 == (wrap64 ((wrap64 ((wrap64 (1000 * (wrap64 (a0)))) + (Int.tmod (wrap64 (a1)) 1000))) * (rd y200 (ji6))))) = true := beq_iff_eq.mpr c20
                        have c20b1 : (t210 != (wrap64 ((wrap64 ((wrap64 (1000 * (wrap64 (a0)))) + (Int.tmod (wrap64 (a1)) 1000))) * (rd y200 (ji6))))) = false := bne_eq_false_iff_eq.mpr c20
                        clear c20
                        by_cases c21 : t211 = 0
                        · rw [if_pos c21] at H
                          have c21b0 : (t211 == 0) = true := beq_iff_eq.mpr c21
                          have c21b1 : (t211 != 0) = false := bne_eq_false_iff_eq.mpr c21
                          clear c21
                          replace H := Option.bind_eq_some_iff.mp H
                          obtain ⟨t214, A220, H⟩ := H
                          replace H : (some t214) = some r := H
                          have A22 := Aside0.mk A220
                          clear A220
                          obtain rfl := Option.some.inj H
                          go_enter Try.func6, Try.ntmps6
                          try go_wp2_with (first | ((with_reducible refine gate_dst (N := 17) rfl ?_); refine Kd.R_lit Kd.string _ 9 ?hg (N := 17) ?hd (xs := ([(⟨#[]⟩ : ByteArray), (⟨#[107]⟩ : ByteArray), (⟨#[77]⟩ : ByteArray), (⟨#[75, 105]⟩ : ByteArray), (⟨#[77, 105]⟩ : ByteArray)] : List ByteArray)) (inner := [.string (⟨#[]⟩ : ByteArray), .string (⟨#[107]⟩ : ByteArray), .string (⟨#[77]⟩ : ByteArray), .string (⟨#[75, 105]⟩ : ByteArray), .string (⟨#[77, 105]⟩ : ByteArray)]) (ok := fun _ => True) (okp := fun _ => True) ?hr ?hp (fun _ hk => hk) trivial (Below.refl _ _) (Nat.le_refl _) (by simp) ?_; (case hd => rfl); (case hg => rfl); (case hr => first | (go_simp; done) | (go_simp; rfl)); (case hp => exact (Reps.one (show Kd.M Kd.string _ _ _ (⟨#[]⟩ : ByteArray) [.string (⟨#[]⟩ : ByteArray)] from rfl) (Reps.one (show Kd.M Kd.string _ _ _ (⟨#[107]⟩ : ByteArray) [.string (⟨#[107]⟩ : ByteArray)] from rfl) (Reps.one (show Kd.M Kd.string _ _ _ (⟨#[77]⟩ : ByteArray) [.string (⟨#[77]⟩ : ByteArray)] from rfl) (Reps.one (show Kd.M Kd.string _ _ _ (⟨#[75, 105]⟩ : ByteArray) [.string (⟨#[75, 105]⟩ : ByteArray)] from rfl) (Reps.one (show Kd.M Kd.string _ _ _ (⟨#[77, 105]⟩ : ByteArray) [.string (⟨#[77, 105]⟩ : ByteArray)] from rfl) (Reps.none _ _))))))); intro v198 w23 ho24 hb hg_ hnew_; clear hg_ hnew_; (first | rw [← Ny197.out] at ho24 | (simp only [Int.reduceToNat] at ho24; rw [← Ny197.out] at ho24)); have n0_ := Aside0.mk (Kd.R_lower ho24 (below_size (by repeat (first | (with_reducible first | exact HB.out | apply below_alloc | apply pw_below_drewN | apply below_drew1) | exact HB.out)))); have n1_ := Aside0.mk (below_step (by repeat (first | (with_reducible first | exact HB.out | apply below_alloc | apply pw_below_drewN | apply below_drew1) | exact HB.out)) hb); clear HB; have HO199 := n0_; have HB := n1_; clear n0_ n1_; clear hb ho24) | ((with_reducible refine gate_dst (N := 18) rfl ?_); refine Kd.R_lit (Kd.int .i64) _ 3 ?hg (N := 18) ?hd (xs := ([1, 1000, 1000000, 1024, 1048576] : List Int)) (inner := [.int .i64 1, .int .i64 1000, .int .i64 1000000, .int .i64 1024, .int .i64 1048576]) (ok := fun _ => True) (okp := fun _ => True) ?hr ?hp (fun _ hk => hk) trivial (Below.refl _ _) (Nat.le_refl _) (by simp) ?_; (case hd => rfl); (case hg => rfl); (case hr => first | (go_simp; done) | (go_simp; rfl)); (case hp => exact (Reps.one (show Kd.M (Kd.int .i64) _ _ _ 1 [.int .i64 1] from rfl) (Reps.one (show Kd.M (Kd.int .i64) _ _ _ 1000 [.int .i64 1000] from rfl) (Reps.one (show Kd.M (Kd.int .i64) _ _ _ 1000000 [.int .i64 1000000] from rfl) (Reps.one (show Kd.M (Kd.int .i64) _ _ _ 1024 [.int .i64 1024] from rfl) (Reps.one (show Kd.M (Kd.int .i64) _ _ _ 1048576 [.int .i64 1048576] from rfl) (Reps.none _ _))))))); intro v201 w25 ho26 hb hg_ hnew_; clear hg_ hnew_; (first | rw [← Ny200.out] at ho26 | (simp only [Int.reduceToNat] at ho26; rw [← Ny200.out] at ho26)); have n0_ := Aside0.mk (Kd.R_below (by (with_reducible repeat (first | apply Kd.R_alloc | apply Kd.R_drewN | apply Kd.R_drew)); exact HO199.out) hb); have n1_ := Aside0.mk (Kd.R_lower ho26 (below_size (by repeat (first | (with_reducible first | exact HB.out | apply below_alloc | apply pw_below_drewN | apply below_drew1) | exact HB.out)))); have n2_ := Aside0.mk (below_step (by repeat (first | (with_reducible first | exact HB.out | apply below_alloc | apply pw_below_drewN | apply below_drew1) | exact HB.out)) hb); clear HO199; clear HB; have HO199 := n0_; have HO202 := n1_; have HB := n2_; clear n0_ n1_ n2_; clear hb ho26) | ((first | ((with_reducible refine gate_callee (f := 19) rfl ?_); refine goesL_ (some 27) rfl rfl Try.func19 (by kernel_rfl) rfl #[.int .i64 (wrap64 (1000 + (Int.tmod (wrap64 (a1)) 1000)))] rfl (by (try simp only [List.map_toArray, List.map_cons, List.map_nil]); first | done | rfl | (simp only [List.length_drop, List.length_take]; rfl)) ?_; (with_reducible refine (triremeref01_Digits.calls k (wrap64 (1000 + (Int.tmod (wrap64 (a1)) 1000))) t203 _ A4.out).mono ?_); rintro e w27 ⟨rfl, hb⟩; refine ⟨_, rfl, ?_⟩) | (go_at_call 19; (with_reducible refine (triremeref01_Digits.calls k (wrap64 (1000 + (Int.tmod (wrap64 (a1)) 1000))) t203 _ A4.out).mono ?_); rintro e w27 ⟨rfl, hb⟩)); have n0_ := Aside0.mk (Kd.R_below (by (with_reducible repeat (first | apply Kd.R_alloc | apply Kd.R_drewN | apply Kd.R_drew)); exact HO199.out) hb); have n1_ := Aside0.mk (Kd.R_below (by (with_reducible repeat (first | apply Kd.R_alloc | apply Kd.R_drewN | apply Kd.R_drew)); exact HO202.out) hb); have n2_ := Aside0.mk (below_step (by repeat (first | (with_reducible first | exact HB.out | apply below_alloc | apply pw_below_drewN | apply below_drew1) | exact HB.out)) hb); clear HO199; clear HO202; clear HB; have HO199 := n0_; have HO202 := n1_; have HB := n2_; clear n0_ n1_ n2_; (try clear hb); (try clear hb2); (try clear hk); (try clear hi)))
                          have n0_ := Aside0.mk (Kd.R_drew HO199.out)
                          have n1_ := Aside0.mk (Kd.R_drew HO202.out)
                          have n2_ := Aside0.mk (below_drew1 HB.out)
                          clear HO199
                          clear HO202
                          clear HB
                          have HO199 := n0_
                          have HO202 := n1_
                          have HB := n2_
                          clear n0_ n1_ n2_
                          obtain ⟨Ao29, co29, eo29⟩ := Kd.R_slice HO199.out
                          (first | subst eo29 | (injection eo29 with f1_ f2_ f3_; have f4_ := f1_.symm; have f5_ := f3_.symm; clear f1_ f2_ f3_; subst f4_; subst f5_))
                          have p205 : 0 ≤ ((ji6) : Int) := of_decide_eq_true (by first | (with_reducible assumption) | assumption)
                          have q205 : (ji6) < (y197.length : Int) := of_decide_eq_true (by first | (with_reducible assumption) | assumption)
                          obtain ⟨ad205, e205, hx205_0⟩ := Kd.at_string (Kd.R_reads' HO199.out).2.2 (ji6) p205 q205
                          cases e205
                          replace p205 := eq_true p205
                          replace q205 := eq_true q205
                          (try (have qz205 := q205; rw [ByteArray.size_extract, Nat.min_self] at qz205))
                          refine start_ (n := 14) (S := fun w' => w'.cell? (ad205.add ((ji6)).toNat) = some (.string (rdOf ByteArray.empty y197 (ji6)))) (ds := []) #[false, false, false, false, false, false, false, false, false, false, false, false, false, false] (by kernel_rfl) rfl rfl (hx205_0) (fun hHeld => ?_); refine with_tabW triremelaw03_QuantUnits.tab6 triremelaw03_QuantUnits.bits6 (fun HT_ HW_ => ?_)
                          generalize w27.drew = w28 at HO199 HO202 HB hx205_0 hHeld ⊢
                          refine pure_ (i := 0) (N := some 29) (v := ?_) (a' := ?_) #[true, false, false, false, false, false, false, false, false, false, false, false, false, false] rfl rfl (any_of HT_.out (by kernel_rfl)) (fun _ _ _ h => h) (Or.inl ⟨by rfl, ?_⟩) ?_ ?_
                          rotate_left
                          · intro w'
                            go_simp
                            with_reducible rfl
                          rotate_left
                          · simp only [Act.put, List.setIfInBounds_toArray, List.set_cons_zero, List.set_cons_succ, i64_w, i32_w]
                            rfl
                          refine pure_ (i := 1) (N := some 30) (v := ?_) (a' := ?_) #[true, true, false, false, false, false, false, false, false, false, false, false, false, false] rfl rfl (any_of HT_.out (by kernel_rfl)) (fun _ _ _ h => h) (Or.inl ⟨by rfl, ?_⟩) ?_ ?_
                          rotate_left
                          · intro w'
                            go_simp
                            with_reducible rfl
                          rotate_left
                          · simp only [Act.put, List.setIfInBounds_toArray, List.set_cons_zero, List.set_cons_succ, i64_w, i32_w]
                            rfl
                          refine pure_ (i := 3) (N := some 32) (v := ?_) (a' := ?_) #[true, true, false, true, false, false, false, false, false, false, false, false, false, false] rfl rfl (any_of HT_.out (by kernel_rfl)) (fun _ _ _ h => h) (Or.inl ⟨by rfl, ?_⟩) ?_ ?_
                          rotate_left
                          · intro w'
                            go_simp
                            with_reducible rfl
                          rotate_left
                          · simp only [Act.put, List.setIfInBounds_toArray, List.set_cons_zero, List.set_cons_succ, i64_w, i32_w]
                            rfl
                          refine pure_ (i := 4) (N := some 33) (v := ?_) (a' := ?_) #[true, true, false, true, true, false, false, false, false, false, false, false, false, false] rfl rfl (any_of HT_.out (by kernel_rfl)) (fun _ _ _ h => h) (Or.inl ⟨by rfl, ?_⟩) ?_ ?_
                          rotate_left
                          · intro w'
                            go_simp
                            with_reducible rfl
                          rotate_left
                          · simp only [Act.put, List.setIfInBounds_toArray, List.set_cons_zero, List.set_cons_succ, i64_w, i32_w]
                            rfl
                          refine pure_ (i := 5) (N := some 34) (v := ?_) (a' := ?_) #[true, true, false, true, true, true, false, false, false, false, false, false, false, false] rfl rfl (any_of HT_.out (by kernel_rfl)) (fun _ _ _ h => h) (Or.inl ⟨by rfl, ?_⟩) ?_ ?_
                          rotate_left
                          · intro w'
                            go_simp
                            with_reducible rfl
                          rotate_left
                          · simp only [Act.put, List.setIfInBounds_toArray, List.set_cons_zero, List.set_cons_succ, i64_w, i32_w]
                            rfl
                          refine take_ (i := 6) (N := some 35) (v := ?_) (a' := ?_) #[true, true, false, true, true, true, true, false, false, false, false, false, false, false] rfl rfl (take_ofW HT_.out HW_.out (by kernel_rfl)) (fun _ _ _ h => h) (Or.inl ⟨by rfl, ?_⟩) hHeld ?_ ?_
                          rotate_left
                          · intro w' s0
                            go_simp
                            with_reducible rfl
                          rotate_left
                          · simp only [Act.put, List.setIfInBounds_toArray, List.set_cons_zero, List.set_cons_succ, i64_w, i32_w]
                            rfl
                          refine one_ (i := 2) (N := some 31) #[true, true, true, true, true, true, true, false, false, false, false, false, false, false] rfl rfl (one_of HT_.out (by kernel_rfl)) (by decide) (fun K hK => ?_)
                          refine goes_ Try.func19 (by kernel_rfl) rfl #[.int .i64 (wrap64 (a0))] (by rfl) rfl rfl (by (try simp only [List.map_toArray, List.map_cons, List.map_nil]); first | done | rfl | (simp only [List.length_drop, List.length_take]; rfl)) ?_
                          with_reducible refine (triremeref01_Digits.calls k (wrap64 (a0)) t204 _ A5.out).mono ?_
                          rintro e w30 ⟨rfl, hb⟩
                          have HS0_ := (hb.cell (World.block_lt_of_cell? _ _ (hHeld))).trans (hHeld)
                          refine ⟨_, rfl, ?_⟩
                          have n0_ := Aside0.mk (Kd.R_below (by (with_reducible repeat (first | apply Kd.R_alloc | apply Kd.R_drewN | apply Kd.R_drew)); exact HO199.out) hb)
                          have n1_ := Aside0.mk (Kd.R_below (by (with_reducible repeat (first | apply Kd.R_alloc | apply Kd.R_drewN | apply Kd.R_drew)); exact HO202.out) hb)
                          have n2_ := Aside0.mk (below_step (by repeat (first | (with_reducible first | exact HB.out | apply below_alloc | apply pw_below_drewN | apply below_drew1) | exact HB.out)) hb)
                          clear HO199
                          clear HO202
                          clear HB
                          have HO199 := n0_
                          have HO202 := n1_
                          have HB := n2_
                          clear n0_ n1_ n2_
                          (try clear hb)
                          (try clear hb2)
                          (try clear hk)
                          (try clear hi)
                          refine hK.out _ _ (HS0_) (fun hHeld => ?_)
                          clear hK K
                          refine norm_ (a' := ?_) ?_ ?_
                          rotate_left
                          · show Act.put _ (some 31) _ = _
                            simp only [Act.put, List.setIfInBounds_toArray, List.set_cons_zero, List.set_cons_succ, i64_w, i32_w]
                            rfl
                          refine pure_ (i := 7) (N := some 36) (v := ?_) (a' := ?_) #[true, true, true, true, true, true, true, true, false, false, false, false, false, false] rfl rfl (any_of HT_.out (by kernel_rfl)) (fun _ _ _ h => h) (Or.inl ⟨by rfl, ?_⟩) ?_ ?_
                          rotate_left
                          · intro w'
                            go_simp
                            with_reducible rfl
                          rotate_left
                          · simp only [Act.put, List.setIfInBounds_toArray, List.set_cons_zero, List.set_cons_succ, i64_w, i32_w]
                            rfl
                          refine one_ (i := 8) (N := some 37) #[true, true, true, true, true, true, true, true, true, false, false, false, false, false] rfl rfl (one_of HT_.out (by kernel_rfl)) (by decide) (fun K hK => ?_)
                          refine goes_ Try.func9 (by kernel_rfl) rfl #[.string (t204 ++ (rdOf ByteArray.empty y197 (ji6)))] (by rfl) rfl rfl (by (try simp only [List.map_toArray, List.map_cons, List.map_nil]); first | done | (simp only [hji6]; rfl) | rfl | (simp only [List.length_drop, List.length_take]; rfl)) ?_
                          with_reducible refine (quant_Parse.calls k (t204 ++ (rdOf ByteArray.empty y197 (ji6))) t206 t207 _ A10.out).mono ?_
                          rintro e w31 ⟨rfl, hb⟩
                          have HS0_ := (hb.cell (World.block_lt_of_cell? _ _ (hHeld))).trans (hHeld)
                          refine ⟨_, rfl, ?_⟩
                          have n0_ := Aside0.mk (Kd.R_below (by (with_reducible repeat (first | apply Kd.R_alloc | apply Kd.R_drewN | apply Kd.R_drew)); exact HO199.out) hb)
                          have n1_ := Aside0.mk (Kd.R_below (by (with_reducible repeat (first | apply Kd.R_alloc | apply Kd.R_drewN | apply Kd.R_drew)); exact HO202.out) hb)
                          have n2_ := Aside0.mk (below_step (by repeat (first | (with_reducible first | exact HB.out | apply below_alloc | apply pw_below_drewN | apply below_drew1) | exact HB.out)) hb)
                          clear HO199
                          clear HO202
                          clear HB
                          have HO199 := n0_
                          have HO202 := n1_
                          have HB := n2_
                          clear n0_ n1_ n2_
                          (try clear hb)
                          (try clear hb2)
                          (try clear hk)
                          (try clear hi)
                          refine hK.out _ _ (HS0_) (fun hHeld => ?_)
                          clear hK K
                          refine norm_ (a' := ?_) ?_ ?_
                          rotate_left
                          · show Act.put _ (some 37) _ = _
                            simp only [Act.put, List.setIfInBounds_toArray, List.set_cons_zero, List.set_cons_succ, i64_w, i32_w]
                            rfl
                          refine pure_ (i := 9) (N := some 28) (v := ?_) (a' := ?_) #[true, true, true, true, true, true, true, true, true, true, false, false, false, false] rfl rfl (any_of HT_.out (by kernel_rfl)) (fun _ _ _ h => h) (Or.inl ⟨by rfl, ?_⟩) ?_ ?_
                          rotate_left
                          · intro w'
                            go_simp
                            with_reducible rfl
                          rotate_left
                          · simp only [Act.put, List.setIfInBounds_toArray, List.set_cons_zero, List.set_cons_succ, i64_w, i32_w]
                            rfl
                          refine pure_ (i := 10) (N := some 38) (v := ?_) (a' := ?_) #[true, true, true, true, true, true, true, true, true, true, true, false, false, false] rfl rfl (any_of HT_.out (by kernel_rfl)) (fun _ _ _ h => h) (Or.inl ⟨by rfl, ?_⟩) ?_ ?_
                          rotate_left
                          · intro w'
                            go_simp
                            with_reducible rfl
                          rotate_left
                          · simp only [Act.put, List.setIfInBounds_toArray, List.set_cons_zero, List.set_cons_succ, i64_w, i32_w]
                            rfl
                          refine pure_ (i := 11) (N := some 39) (v := ?_) (a' := ?_) #[true, true, true, true, true, true, true, true, true, true, true, true, false, false] rfl rfl (any_of HT_.out (by kernel_rfl)) (fun _ _ _ h => h) (Or.inl ⟨by rfl, ?_⟩) ?_ ?_
                          rotate_left
                          · intro w'
                            go_simp
                            with_reducible rfl
                          rotate_left
                          · simp only [Act.put, List.setIfInBounds_toArray, List.set_cons_zero, List.set_cons_succ, i64_w, i32_w]
                            rfl
                          refine pure_ (i := 12) (N := some 12) (v := ?_) (a' := ?_) #[true, true, true, true, true, true, true, true, true, true, true, true, true, false] rfl rfl (any_of HT_.out (by kernel_rfl)) (fun _ _ _ h => h) (Or.inl ⟨by rfl, ?_⟩) ?_ ?_
                          rotate_left
                          · intro w'
                            go_simp
                            with_reducible rfl
                          rotate_left
                          · simp only [Act.put, List.setIfInBounds_toArray, List.set_cons_zero, List.set_cons_succ, i64_w, i32_w]
                            rfl
                          refine pure_ (i := 13) (N := some 13) (v := ?_) (a' := ?_) #[true, true, true, true, true, true, true, true, true, true, true, true, true, true] rfl rfl (any_of HT_.out (by kernel_rfl)) (fun _ _ _ h => h) (Or.inl ⟨by rfl, ?_⟩) ?_ ?_
                          rotate_left
                          · intro w'
                            go_simp
                            with_reducible rfl
                          rotate_left
                          · simp only [Act.put, List.setIfInBounds_toArray, List.set_cons_zero, List.set_cons_succ, i64_w, i32_w]
                            rfl
                          refine done_ (done_of HT_.out (by kernel_rfl)) ?_
                          try go_wp2
                          have n0_ := Aside0.mk (Kd.R_drew HO199.out)
                          have n1_ := Aside0.mk (Kd.R_drew HO202.out)
                          have n2_ := Aside0.mk (below_drew1 HB.out)
                          clear HO199
                          clear HO202
                          clear HB
                          have HO199 := n0_
                          have HO202 := n1_
                          have HB := n2_
                          clear n0_ n1_ n2_
                          have p209 : 0 ≤ ((ji6) : Int) := of_decide_eq_true (by first | (with_reducible assumption) | assumption)
                          have q209 : (ji6) < (y197.length : Int) := of_decide_eq_true (by first | (with_reducible assumption) | assumption)
                          obtain ⟨ad209, e209, hx209_0⟩ := Kd.at_string (Kd.R_reads' HO199.out).2.2 (ji6) p209 q209
                          obtain rfl : ad205 = ad209 := (by injection e209)
                          replace p209 := eq_true p209
                          replace q209 := eq_true q209
                          (try (have qz209 := q209; rw [ByteArray.size_extract, Nat.min_self] at qz209))
                          refine start_ (n := 18) (S := fun w' => w'.cell? (ad205.add ((ji6)).toNat) = some (.string (rdOf ByteArray.empty y197 (ji6)))) (ds := []) #[false, false, false, false, false, false, false, false, false, false, false, false, false, false, false, false, false, false] (by kernel_rfl) rfl rfl (hx209_0) (fun hHeld => ?_); refine with_tabW triremelaw03_QuantUnits.tab7 triremelaw03_QuantUnits.bits7 (fun HT_ HW_ => ?_)
                          generalize w31.drew = w32 at HO199 HO202 HB hx209_0 hHeld ⊢
                          refine pure_ (i := 0) (N := some 41) (v := ?_) (a' := ?_) #[true, false, false, false, false, false, false, false, false, false, false, false, false, false, false, false, false, false] rfl rfl (any_of HT_.out (by kernel_rfl)) (fun _ _ _ h => h) (Or.inl ⟨by rfl, ?_⟩) ?_ ?_
                          rotate_left
                          · intro w'
                            go_simp
                            with_reducible rfl
                          rotate_left
                          · simp only [Act.put, List.setIfInBounds_toArray, List.set_cons_zero, List.set_cons_succ, i64_w, i32_w]
                            rfl
                          refine pure_ (i := 1) (N := some 42) (v := ?_) (a' := ?_) #[true, true, false, false, false, false, false, false, false, false, false, false, false, false, false, false, false, false] rfl rfl (any_of HT_.out (by kernel_rfl)) (fun _ _ _ h => h) (Or.inl ⟨by rfl, ?_⟩) ?_ ?_
                          rotate_left
                          · intro w'
                            go_simp
                            with_reducible rfl
                          rotate_left
                          · simp only [Act.put, List.setIfInBounds_toArray, List.set_cons_zero, List.set_cons_succ, i64_w, i32_w]
                            rfl
                          refine pure_ (i := 4) (N := some 45) (v := ?_) (a' := ?_) #[true, true, false, false, true, false, false, false, false, false, false, false, false, false, false, false, false, false] rfl rfl (any_of HT_.out (by kernel_rfl)) (fun _ _ _ h => h) (Or.inl ⟨by rfl, ?_⟩) ?_ ?_
                          rotate_left
                          · intro w'
                            go_simp
                            with_reducible rfl
                          rotate_left
                          · simp only [Act.put, List.setIfInBounds_toArray, List.set_cons_zero, List.set_cons_succ, i64_w, i32_w]
                            rfl
                          refine pure_ (i := 5) (N := some 46) (v := ?_) (a' := ?_) #[true, true, false, false, true, true, false, false, false, false, false, false, false, false, false, false, false, false] rfl rfl (any_of HT_.out (by kernel_rfl)) (fun _ _ _ h => h) (Or.inl ⟨by rfl, ?_⟩) ?_ ?_
                          rotate_left
                          · intro w'
                            go_simp
                            with_reducible rfl
                          rotate_left
                          · simp only [Act.put, List.setIfInBounds_toArray, List.set_cons_zero, List.set_cons_succ, i64_w, i32_w]
                            rfl
                          refine pure_ (i := 7) (N := some 48) (v := ?_) (a' := ?_) #[true, true, false, false, true, true, false, true, false, false, false, false, false, false, false, false, false, false] rfl rfl (any_of HT_.out (by kernel_rfl)) (fun _ _ _ h => h) (Or.inl ⟨by rfl, ?_⟩) ?_ ?_
                          rotate_left
                          · intro w'
                            go_simp
                            with_reducible rfl
                          rotate_left
                          · simp only [Act.put, List.setIfInBounds_toArray, List.set_cons_zero, List.set_cons_succ, i64_w, i32_w]
                            rfl
                          refine pure_ (i := 8) (N := some 49) (v := ?_) (a' := ?_) #[true, true, false, false, true, true, false, true, true, false, false, false, false, false, false, false, false, false] rfl rfl (any_of HT_.out (by kernel_rfl)) (fun _ _ _ h => h) (Or.inl ⟨by rfl, ?_⟩) ?_ ?_
                          rotate_left
                          · intro w'
                            go_simp
                            with_reducible rfl
                          rotate_left
                          · simp only [Act.put, List.setIfInBounds_toArray, List.set_cons_zero, List.set_cons_succ, i64_w, i32_w]
                            rfl
                          refine pure_ (i := 9) (N := some 50) (v := ?_) (a' := ?_) #[true, true, false, false, true, true, false, true, true, true, false, false, false, false, false, false, false, false] rfl rfl (any_of HT_.out (by kernel_rfl)) (fun _ _ _ h => h) (Or.inl ⟨by rfl, ?_⟩) ?_ ?_
                          rotate_left
                          · intro w'
                            go_simp
                            with_reducible rfl
                          rotate_left
                          · simp only [Act.put, List.setIfInBounds_toArray, List.set_cons_zero, List.set_cons_succ, i64_w, i32_w]
                            rfl
                          refine take_ (i := 10) (N := some 51) (v := ?_) (a' := ?_) #[true, true, false, false, true, true, false, true, true, true, true, false, false, false, false, false, false, false] rfl rfl (take_ofW HT_.out HW_.out (by kernel_rfl)) (fun _ _ _ h => h) (Or.inl ⟨by rfl, ?_⟩) hHeld ?_ ?_
                          rotate_left
                          · intro w' s0
                            go_simp
                            with_reducible rfl
                          rotate_left
                          · simp only [Act.put, List.setIfInBounds_toArray, List.set_cons_zero, List.set_cons_succ, i64_w, i32_w]
                            rfl
                          refine one_ (i := 2) (N := some 43) #[true, true, true, false, true, true, false, true, true, true, true, false, false, false, false, false, false, false] rfl rfl (one_of HT_.out (by kernel_rfl)) (by decide) (fun K hK => ?_)
                          refine goes_ Try.func19 (by kernel_rfl) rfl #[.int .i64 (wrap64 (a0))] (by rfl) rfl rfl (by (try simp only [List.map_toArray, List.map_cons, List.map_nil]); first | done | rfl | (simp only [List.length_drop, List.length_take]; rfl)) ?_
                          with_reducible refine (triremeref01_Digits.calls k (wrap64 (a0)) t208 _ A11.out).mono ?_
                          rintro e w33 ⟨rfl, hb⟩
                          have HS0_ := (hb.cell (World.block_lt_of_cell? _ _ (hHeld))).trans (hHeld)
                          refine ⟨_, rfl, ?_⟩
                          have n0_ := Aside0.mk (Kd.R_below (by (with_reducible repeat (first | apply Kd.R_alloc | apply Kd.R_drewN | apply Kd.R_drew)); exact HO199.out) hb)
                          have n1_ := Aside0.mk (Kd.R_below (by (with_reducible repeat (first | apply Kd.R_alloc | apply Kd.R_drewN | apply Kd.R_drew)); exact HO202.out) hb)
                          have n2_ := Aside0.mk (below_step (by repeat (first | (with_reducible first | exact HB.out | apply below_alloc | apply pw_below_drewN | apply below_drew1) | exact HB.out)) hb)
                          clear HO199
                          clear HO202
                          clear HB
                          have HO199 := n0_
                          have HO202 := n1_
                          have HB := n2_
                          clear n0_ n1_ n2_
                          (try clear hb)
                          (try clear hb2)
                          (try clear hk)
                          (try clear hi)
                          refine hK.out _ _ (HS0_) (fun hHeld => ?_)
                          clear hK K
                          refine norm_ (a' := ?_) ?_ ?_
                          rotate_left
                          · show Act.put _ (some 43) _ = _
                            simp only [Act.put, List.setIfInBounds_toArray, List.set_cons_zero, List.set_cons_succ, i64_w, i32_w]
                            rfl
                          refine pure_ (i := 3) (N := some 44) (v := ?_) (a' := ?_) #[true, true, true, true, true, true, false, true, true, true, true, false, false, false, false, false, false, false] rfl rfl (any_of HT_.out (by kernel_rfl)) (fun _ _ _ h => h) (Or.inl ⟨by rfl, ?_⟩) ?_ ?_
                          rotate_left
                          · intro w'
                            go_simp
                            with_reducible rfl
                          rotate_left
                          · simp only [Act.put, List.setIfInBounds_toArray, List.set_cons_zero, List.set_cons_succ, i64_w, i32_w]
                            rfl
                          refine pure_ (i := 6) (N := some 47) (v := ?_) (a' := ?_) #[true, true, true, true, true, true, true, true, true, true, true, false, false, false, false, false, false, false] rfl rfl (any_of HT_.out (by kernel_rfl)) (fun _ _ _ h => h) (Or.inl ⟨by rfl, ?_⟩) ?_ ?_
                          rotate_left
                          · intro w'
                            go_simp
                            with_reducible rfl
                          rotate_left
                          · simp only [Act.put, List.setIfInBounds_toArray, List.set_cons_zero, List.set_cons_succ, i64_w, i32_w]
                            rfl
                          refine pure_ (i := 11) (N := some 52) (v := ?_) (a' := ?_) #[true, true, true, true, true, true, true, true, true, true, true, true, false, false, false, false, false, false] rfl rfl (any_of HT_.out (by kernel_rfl)) (fun _ _ _ h => h) (Or.inl ⟨by rfl, ?_⟩) ?_ ?_
                          rotate_left
                          · intro w'
                            go_simp
                            with_reducible rfl
                          rotate_left
                          · simp only [Act.put, List.setIfInBounds_toArray, List.set_cons_zero, List.set_cons_succ, i64_w, i32_w]
                            rfl
                          refine one_ (i := 12) (N := some 53) #[true, true, true, true, true, true, true, true, true, true, true, true, true, false, false, false, false, false] rfl rfl (one_of HT_.out (by kernel_rfl)) (by decide) (fun K hK => ?_)
                          refine goes_ Try.func11 (by kernel_rfl) rfl #[.string (((t208 ++ (⟨#[46]⟩ : ByteArray)) ++ (t203.extract 1 t203.size)) ++ (rdOf ByteArray.empty y197 (ji6)))] (by rfl) rfl rfl (by (try simp only [List.map_toArray, List.map_cons, List.map_nil]); first | done | (simp only [hji6]; rfl) | rfl | (simp only [List.length_drop, List.length_take]; rfl)) ?_
                          with_reducible refine (quant_Milli.calls k (((t208 ++ (⟨#[46]⟩ : ByteArray)) ++ (t203.extract 1 t203.size)) ++ (rdOf ByteArray.empty y197 (ji6))) t210 t211 _ A16.out).mono ?_
                          rintro e w34 ⟨rfl, hb⟩
                          have HS0_ := (hb.cell (World.block_lt_of_cell? _ _ (hHeld))).trans (hHeld)
                          refine ⟨_, rfl, ?_⟩
                          have n0_ := Aside0.mk (Kd.R_below (by (with_reducible repeat (first | apply Kd.R_alloc | apply Kd.R_drewN | apply Kd.R_drew)); exact HO199.out) hb)
                          have n1_ := Aside0.mk (Kd.R_below (by (with_reducible repeat (first | apply Kd.R_alloc | apply Kd.R_drewN | apply Kd.R_drew)); exact HO202.out) hb)
                          have n2_ := Aside0.mk (below_step (by repeat (first | (with_reducible first | exact HB.out | apply below_alloc | apply pw_below_drewN | apply below_drew1) | exact HB.out)) hb)
                          clear HO199
                          clear HO202
                          clear HB
                          have HO199 := n0_
                          have HO202 := n1_
                          have HB := n2_
                          clear n0_ n1_ n2_
                          (try clear hb)
                          (try clear hb2)
                          (try clear hk)
                          (try clear hi)
                          refine hK.out _ _ (HS0_) (fun hHeld => ?_)
                          clear hK K
                          refine norm_ (a' := ?_) ?_ ?_
                          rotate_left
                          · show Act.put _ (some 53) _ = _
                            simp only [Act.put, List.setIfInBounds_toArray, List.set_cons_zero, List.set_cons_succ, i64_w, i32_w]
                            rfl
                          refine pure_ (i := 13) (N := some 40) (v := ?_) (a' := ?_) #[true, true, true, true, true, true, true, true, true, true, true, true, true, true, false, false, false, false] rfl rfl (any_of HT_.out (by kernel_rfl)) (fun _ _ _ h => h) (Or.inl ⟨by rfl, ?_⟩) ?_ ?_
                          rotate_left
                          · intro w'
                            go_simp
                            with_reducible rfl
                          rotate_left
                          · simp only [Act.put, List.setIfInBounds_toArray, List.set_cons_zero, List.set_cons_succ, i64_w, i32_w]
                            rfl
                          refine pure_ (i := 14) (N := some 54) (v := ?_) (a' := ?_) #[true, true, true, true, true, true, true, true, true, true, true, true, true, true, true, false, false, false] rfl rfl (any_of HT_.out (by kernel_rfl)) (fun _ _ _ h => h) (Or.inl ⟨by rfl, ?_⟩) ?_ ?_
                          rotate_left
                          · intro w'
                            go_simp
                            with_reducible rfl
                          rotate_left
                          · simp only [Act.put, List.setIfInBounds_toArray, List.set_cons_zero, List.set_cons_succ, i64_w, i32_w]
                            rfl
                          refine pure_ (i := 15) (N := some 55) (v := ?_) (a' := ?_) #[true, true, true, true, true, true, true, true, true, true, true, true, true, true, true, true, false, false] rfl rfl (any_of HT_.out (by kernel_rfl)) (fun _ _ _ h => h) (Or.inl ⟨by rfl, ?_⟩) ?_ ?_
                          rotate_left
                          · intro w'
                            go_simp
                            with_reducible rfl
                          rotate_left
                          · simp only [Act.put, List.setIfInBounds_toArray, List.set_cons_zero, List.set_cons_succ, i64_w, i32_w]
                            rfl
                          refine pure_ (i := 16) (N := some 14) (v := ?_) (a' := ?_) #[true, true, true, true, true, true, true, true, true, true, true, true, true, true, true, true, true, false] rfl rfl (any_of HT_.out (by kernel_rfl)) (fun _ _ _ h => h) (Or.inl ⟨by rfl, ?_⟩) ?_ ?_
                          rotate_left
                          · intro w'
                            go_simp
                            with_reducible rfl
                          rotate_left
                          · simp only [Act.put, List.setIfInBounds_toArray, List.set_cons_zero, List.set_cons_succ, i64_w, i32_w]
                            rfl
                          refine pure_ (i := 17) (N := some 15) (v := ?_) (a' := ?_) #[true, true, true, true, true, true, true, true, true, true, true, true, true, true, true, true, true, true] rfl rfl (any_of HT_.out (by kernel_rfl)) (fun _ _ _ h => h) (Or.inl ⟨by rfl, ?_⟩) ?_ ?_
                          rotate_left
                          · intro w'
                            go_simp
                            with_reducible rfl
                          rotate_left
                          · simp only [Act.put, List.setIfInBounds_toArray, List.set_cons_zero, List.set_cons_succ, i64_w, i32_w]
                            rfl
                          refine done_ (done_of HT_.out (by kernel_rfl)) ?_
                          obtain ⟨Ao35, co35, eo35⟩ := Kd.R_slice HO202.out
                          subst eo35
                          have p212 : 0 ≤ ((ji6) : Int) := of_decide_eq_true (by first | (with_reducible assumption) | assumption)
                          have q212 : (ji6) < (y200.length : Int) := of_decide_eq_true (by first | (with_reducible assumption) | assumption)
                          obtain ⟨ad212, e212, hx212_0⟩ := Kd.at_int (Kd.R_reads' HO202.out).2.2 (ji6) p212 q212
                          cases e212
                          replace p212 := eq_true p212
                          replace q212 := eq_true q212
                          (try (have qz212 := q212; rw [ByteArray.size_extract, Nat.min_self] at qz212))
                          have p213 : 0 ≤ ((ji6) : Int) := of_decide_eq_true (by first | (with_reducible assumption) | assumption)
                          have q213 : (ji6) < (y200.length : Int) := of_decide_eq_true (by first | (with_reducible assumption) | assumption)
                          obtain ⟨ad213, e213, hx213_0⟩ := Kd.at_int (Kd.R_reads' HO202.out).2.2 (ji6) p213 q213
                          obtain rfl : ad212 = ad213 := (by injection e213)
                          replace p213 := eq_true p213
                          replace q213 := eq_true q213
                          (try (have qz213 := q213; rw [ByteArray.size_extract, Nat.min_self] at qz213))
                          try go_wp2_with (first | (go_at_call 8; (with_reducible refine (triremelaw03_known.calls k  t214 _ A22.out).mono ?_); rintro e w36 ⟨rfl, hb⟩; have n0_ := Aside0.mk (Kd.R_below (by (with_reducible repeat (first | apply Kd.R_alloc | apply Kd.R_drewN | apply Kd.R_drew)); exact HO199.out) hb); have n1_ := Aside0.mk (Kd.R_below (by (with_reducible repeat (first | apply Kd.R_alloc | apply Kd.R_drewN | apply Kd.R_drew)); exact HO202.out) hb); have n2_ := Aside0.mk (below_step (by repeat (first | (with_reducible first | exact HB.out | apply below_alloc | apply pw_below_drewN | apply below_drew1) | exact HB.out)) hb); clear HO199; clear HO202; clear HB; have HO199 := n0_; have HO202 := n1_; have HB := n2_; clear n0_ n1_ n2_; (try clear hb); (try clear hb2); (try clear hk); (try clear hi)))
                          go_ret
                          exact ⟨by first | rfl | (simp [errW_none, errW_some] <;> rfl) | (simp only [← hji6]; first | rfl | (simp [errW_none, errW_some] <;> rfl)) | (simp [*, errW_none, errW_some] <;> rfl), by repeat (first | (with_reducible first | exact HB.out | apply below_alloc | apply pw_below_drewN | apply below_drew1) | exact HB.out)⟩
                        · rw [if_neg c21] at H
                          have c21b0 : (t211 == 0) = false := beq_eq_false_iff_ne.mpr c21
                          have c21b1 : (t211 != 0) = true := bne_iff_ne.mpr c21
                          obtain rfl := Option.some.inj H
                          go_enter Try.func6, Try.ntmps6
                          try go_wp2_with (first | ((with_reducible refine gate_dst (N := 17) rfl ?_); refine Kd.R_lit Kd.string _ 9 ?hg (N := 17) ?hd (xs := ([(⟨#[]⟩ : ByteArray), (⟨#[107]⟩ : ByteArray), (⟨#[77]⟩ : ByteArray), (⟨#[75, 105]⟩ : ByteArray), (⟨#[77, 105]⟩ : ByteArray)] : List ByteArray)) (inner := [.string (⟨#[]⟩ : ByteArray), .string (⟨#[107]⟩ : ByteArray), .string (⟨#[77]⟩ : ByteArray), .string (⟨#[75, 105]⟩ : ByteArray), .string (⟨#[77, 105]⟩ : ByteArray)]) (ok := fun _ => True) (okp := fun _ => True) ?hr ?hp (fun _ hk => hk) trivial (Below.refl _ _) (Nat.le_refl _) (by simp) ?_; (case hd => rfl); (case hg => rfl); (case hr => first | (go_simp; done) | (go_simp; rfl)); (case hp => exact (Reps.one (show Kd.M Kd.string _ _ _ (⟨#[]⟩ : ByteArray) [.string (⟨#[]⟩ : ByteArray)] from rfl) (Reps.one (show Kd.M Kd.string _ _ _ (⟨#[107]⟩ : ByteArray) [.string (⟨#[107]⟩ : ByteArray)] from rfl) (Reps.one (show Kd.M Kd.string _ _ _ (⟨#[77]⟩ : ByteArray) [.string (⟨#[77]⟩ : ByteArray)] from rfl) (Reps.one (show Kd.M Kd.string _ _ _ (⟨#[75, 105]⟩ : ByteArray) [.string (⟨#[75, 105]⟩ : ByteArray)] from rfl) (Reps.one (show Kd.M Kd.string _ _ _ (⟨#[77, 105]⟩ : ByteArray) [.string (⟨#[77, 105]⟩ : ByteArray)] from rfl) (Reps.none _ _))))))); intro v198 w37 ho38 hb hg_ hnew_; clear hg_ hnew_; (first | rw [← Ny197.out] at ho38 | (simp only [Int.reduceToNat] at ho38; rw [← Ny197.out] at ho38)); have n0_ := Aside0.mk (Kd.R_lower ho38 (below_size (by repeat (first | (with_reducible first | exact HB.out | apply below_alloc | apply pw_below_drewN | apply below_drew1) | exact HB.out)))); have n1_ := Aside0.mk (below_step (by repeat (first | (with_reducible first | exact HB.out | apply below_alloc | apply pw_below_drewN | apply below_drew1) | exact HB.out)) hb); clear HB; have HO199 := n0_; have HB := n1_; clear n0_ n1_; clear hb ho38) | ((with_reducible refine gate_dst (N := 18) rfl ?_); refine Kd.R_lit (Kd.int .i64) _ 3 ?hg (N := 18) ?hd (xs := ([1, 1000, 1000000, 1024, 1048576] : List Int)) (inner := [.int .i64 1, .int .i64 1000, .int .i64 1000000, .int .i64 1024, .int .i64 1048576]) (ok := fun _ => True) (okp := fun _ => True) ?hr ?hp (fun _ hk => hk) trivial (Below.refl _ _) (Nat.le_refl _) (by simp) ?_; (case hd => rfl); (case hg => rfl); (case hr => first | (go_simp; done) | (go_simp; rfl)); (case hp => exact (Reps.one (show Kd.M (Kd.int .i64) _ _ _ 1 [.int .i64 1] from rfl) (Reps.one (show Kd.M (Kd.int .i64) _ _ _ 1000 [.int .i64 1000] from rfl) (Reps.one (show Kd.M (Kd.int .i64) _ _ _ 1000000 [.int .i64 1000000] from rfl) (Reps.one (show Kd.M (Kd.int .i64) _ _ _ 1024 [.int .i64 1024] from rfl) (Reps.one (show Kd.M (Kd.int .i64) _ _ _ 1048576 [.int .i64 1048576] from rfl) (Reps.none _ _))))))); intro v201 w39 ho40 hb hg_ hnew_; clear hg_ hnew_; (first | rw [← Ny200.out] at ho40 | (simp only [Int.reduceToNat] at ho40; rw [← Ny200.out] at ho40)); have n0_ := Aside0.mk (Kd.R_below (by (with_reducible repeat (first | apply Kd.R_alloc | apply Kd.R_drewN | apply Kd.R_drew)); exact HO199.out) hb); have n1_ := Aside0.mk (Kd.R_lower ho40 (below_size (by repeat (first | (with_reducible first | exact HB.out | apply below_alloc | apply pw_below_drewN | apply below_drew1) | exact HB.out)))); have n2_ := Aside0.mk (below_step (by repeat (first | (with_reducible first | exact HB.out | apply below_alloc | apply pw_below_drewN | apply below_drew1) | exact HB.out)) hb); clear HO199; clear HB; have HO199 := n0_; have HO202 := n1_; have HB := n2_; clear n0_ n1_ n2_; clear hb ho40) | ((first | ((with_reducible refine gate_callee (f := 19) rfl ?_); refine goesL_ (some 27) rfl rfl Try.func19 (by kernel_rfl) rfl #[.int .i64 (wrap64 (1000 + (Int.tmod (wrap64 (a1)) 1000)))] rfl (by (try simp only [List.map_toArray, List.map_cons, List.map_nil]); first | done | rfl | (simp only [List.length_drop, List.length_take]; rfl)) ?_; (with_reducible refine (triremeref01_Digits.calls k (wrap64 (1000 + (Int.tmod (wrap64 (a1)) 1000))) t203 _ A4.out).mono ?_); rintro e w41 ⟨rfl, hb⟩; refine ⟨_, rfl, ?_⟩) | (go_at_call 19; (with_reducible refine (triremeref01_Digits.calls k (wrap64 (1000 + (Int.tmod (wrap64 (a1)) 1000))) t203 _ A4.out).mono ?_); rintro e w41 ⟨rfl, hb⟩)); have n0_ := Aside0.mk (Kd.R_below (by (with_reducible repeat (first | apply Kd.R_alloc | apply Kd.R_drewN | apply Kd.R_drew)); exact HO199.out) hb); have n1_ := Aside0.mk (Kd.R_below (by (with_reducible repeat (first | apply Kd.R_alloc | apply Kd.R_drewN | apply Kd.R_drew)); exact HO202.out) hb); have n2_ := Aside0.mk (below_step (by repeat (first | (with_reducible first | exact HB.out | apply below_alloc | apply pw_below_drewN | apply below_drew1) | exact HB.out)) hb); clear HO199; clear HO202; clear HB; have HO199 := n0_; have HO202 := n1_; have HB := n2_; clear n0_ n1_ n2_; (try clear hb); (try clear hb2); (try clear hk); (try clear hi)))
                          have n0_ := Aside0.mk (Kd.R_drew HO199.out)
                          have n1_ := Aside0.mk (Kd.R_drew HO202.out)
                          have n2_ := Aside0.mk (below_drew1 HB.out)
                          clear HO199
                          clear HO202
                          clear HB
                          have HO199 := n0_
                          have HO202 := n1_
                          have HB := n2_
                          clear n0_ n1_ n2_
                          obtain ⟨Ao43, co43, eo43⟩ := Kd.R_slice HO199.out
                          (first | subst eo43 | (injection eo43 with f1_ f2_ f3_; have f4_ := f1_.symm; have f5_ := f3_.symm; clear f1_ f2_ f3_; subst f4_; subst f5_))
                          have p205 : 0 ≤ ((ji6) : Int) := of_decide_eq_true (by first | (with_reducible assumption) | assumption)
                          have q205 : (ji6) < (y197.length : Int) := of_decide_eq_true (by first | (with_reducible assumption) | assumption)
                          obtain ⟨ad205, e205, hx205_0⟩ := Kd.at_string (Kd.R_reads' HO199.out).2.2 (ji6) p205 q205
                          cases e205
                          replace p205 := eq_true p205
                          replace q205 := eq_true q205
                          (try (have qz205 := q205; rw [ByteArray.size_extract, Nat.min_self] at qz205))
                          refine start_ (n := 14) (S := fun w' => w'.cell? (ad205.add ((ji6)).toNat) = some (.string (rdOf ByteArray.empty y197 (ji6)))) (ds := []) #[false, false, false, false, false, false, false, false, false, false, false, false, false, false] (by kernel_rfl) rfl rfl (hx205_0) (fun hHeld => ?_); refine with_tabW triremelaw03_QuantUnits.tab6 triremelaw03_QuantUnits.bits6 (fun HT_ HW_ => ?_)
                          generalize w41.drew = w42 at HO199 HO202 HB hx205_0 hHeld ⊢
                          refine pure_ (i := 0) (N := some 29) (v := ?_) (a' := ?_) #[true, false, false, false, false, false, false, false, false, false, false, false, false, false] rfl rfl (any_of HT_.out (by kernel_rfl)) (fun _ _ _ h => h) (Or.inl ⟨by rfl, ?_⟩) ?_ ?_
                          rotate_left
                          · intro w'
                            go_simp
                            with_reducible rfl
                          rotate_left
                          · simp only [Act.put, List.setIfInBounds_toArray, List.set_cons_zero, List.set_cons_succ, i64_w, i32_w]
                            rfl
                          refine pure_ (i := 1) (N := some 30) (v := ?_) (a' := ?_) #[true, true, false, false, false, false, false, false, false, false, false, false, false, false] rfl rfl (any_of HT_.out (by kernel_rfl)) (fun _ _ _ h => h) (Or.inl ⟨by rfl, ?_⟩) ?_ ?_
                          rotate_left
                          · intro w'
                            go_simp
                            with_reducible rfl
                          rotate_left
                          · simp only [Act.put, List.setIfInBounds_toArray, List.set_cons_zero, List.set_cons_succ, i64_w, i32_w]
                            rfl
                          refine pure_ (i := 3) (N := some 32) (v := ?_) (a' := ?_) #[true, true, false, true, false, false, false, false, false, false, false, false, false, false] rfl rfl (any_of HT_.out (by kernel_rfl)) (fun _ _ _ h => h) (Or.inl ⟨by rfl, ?_⟩) ?_ ?_
                          rotate_left
                          · intro w'
                            go_simp
                            with_reducible rfl
                          rotate_left
                          · simp only [Act.put, List.setIfInBounds_toArray, List.set_cons_zero, List.set_cons_succ, i64_w, i32_w]
                            rfl
                          refine pure_ (i := 4) (N := some 33) (v := ?_) (a' := ?_) #[true, true, false, true, true, false, false, false, false, false, false, false, false, false] rfl rfl (any_of HT_.out (by kernel_rfl)) (fun _ _ _ h => h) (Or.inl ⟨by rfl, ?_⟩) ?_ ?_
                          rotate_left
                          · intro w'
                            go_simp
                            with_reducible rfl
                          rotate_left
                          · simp only [Act.put, List.setIfInBounds_toArray, List.set_cons_zero, List.set_cons_succ, i64_w, i32_w]
                            rfl
                          refine pure_ (i := 5) (N := some 34) (v := ?_) (a' := ?_) #[true, true, false, true, true, true, false, false, false, false, false, false, false, false] rfl rfl (any_of HT_.out (by kernel_rfl)) (fun _ _ _ h => h) (Or.inl ⟨by rfl, ?_⟩) ?_ ?_
                          rotate_left
                          · intro w'
                            go_simp
                            with_reducible rfl
                          rotate_left
                          · simp only [Act.put, List.setIfInBounds_toArray, List.set_cons_zero, List.set_cons_succ, i64_w, i32_w]
                            rfl
                          refine take_ (i := 6) (N := some 35) (v := ?_) (a' := ?_) #[true, true, false, true, true, true, true, false, false, false, false, false, false, false] rfl rfl (take_ofW HT_.out HW_.out (by kernel_rfl)) (fun _ _ _ h => h) (Or.inl ⟨by rfl, ?_⟩) hHeld ?_ ?_
                          rotate_left
                          · intro w' s0
                            go_simp
                            with_reducible rfl
                          rotate_left
                          · simp only [Act.put, List.setIfInBounds_toArray, List.set_cons_zero, List.set_cons_succ, i64_w, i32_w]
                            rfl
                          refine one_ (i := 2) (N := some 31) #[true, true, true, true, true, true, true, false, false, false, false, false, false, false] rfl rfl (one_of HT_.out (by kernel_rfl)) (by decide) (fun K hK => ?_)
                          refine goes_ Try.func19 (by kernel_rfl) rfl #[.int .i64 (wrap64 (a0))] (by rfl) rfl rfl (by (try simp only [List.map_toArray, List.map_cons, List.map_nil]); first | done | rfl | (simp only [List.length_drop, List.length_take]; rfl)) ?_
                          with_reducible refine (triremeref01_Digits.calls k (wrap64 (a0)) t204 _ A5.out).mono ?_
                          rintro e w44 ⟨rfl, hb⟩
                          have HS0_ := (hb.cell (World.block_lt_of_cell? _ _ (hHeld))).trans (hHeld)
                          refine ⟨_, rfl, ?_⟩
                          have n0_ := Aside0.mk (Kd.R_below (by (with_reducible repeat (first | apply Kd.R_alloc | apply Kd.R_drewN | apply Kd.R_drew)); exact HO199.out) hb)
                          have n1_ := Aside0.mk (Kd.R_below (by (with_reducible repeat (first | apply Kd.R_alloc | apply Kd.R_drewN | apply Kd.R_drew)); exact HO202.out) hb)
                          have n2_ := Aside0.mk (below_step (by repeat (first | (with_reducible first | exact HB.out | apply below_alloc | apply pw_below_drewN | apply below_drew1) | exact HB.out)) hb)
                          clear HO199
                          clear HO202
                          clear HB
                          have HO199 := n0_
                          have HO202 := n1_
                          have HB := n2_
                          clear n0_ n1_ n2_
                          (try clear hb)
                          (try clear hb2)
                          (try clear hk)
                          (try clear hi)
                          refine hK.out _ _ (HS0_) (fun hHeld => ?_)
                          clear hK K
                          refine norm_ (a' := ?_) ?_ ?_
                          rotate_left
                          · show Act.put _ (some 31) _ = _
                            simp only [Act.put, List.setIfInBounds_toArray, List.set_cons_zero, List.set_cons_succ, i64_w, i32_w]
                            rfl
                          refine pure_ (i := 7) (N := some 36) (v := ?_) (a' := ?_) #[true, true, true, true, true, true, true, true, false, false, false, false, false, false] rfl rfl (any_of HT_.out (by kernel_rfl)) (fun _ _ _ h => h) (Or.inl ⟨by rfl, ?_⟩) ?_ ?_
                          rotate_left
                          · intro w'
                            go_simp
                            with_reducible rfl
                          rotate_left
                          · simp only [Act.put, List.setIfInBounds_toArray, List.set_cons_zero, List.set_cons_succ, i64_w, i32_w]
                            rfl
                          refine one_ (i := 8) (N := some 37) #[true, true, true, true, true, true, true, true, true, false, false, false, false, false] rfl rfl (one_of HT_.out (by kernel_rfl)) (by decide) (fun K hK => ?_)
                          refine goes_ Try.func9 (by kernel_rfl) rfl #[.string (t204 ++ (rdOf ByteArray.empty y197 (ji6)))] (by rfl) rfl rfl (by (try simp only [List.map_toArray, List.map_cons, List.map_nil]); first | done | (simp only [hji6]; rfl) | rfl | (simp only [List.length_drop, List.length_take]; rfl)) ?_
                          with_reducible refine (quant_Parse.calls k (t204 ++ (rdOf ByteArray.empty y197 (ji6))) t206 t207 _ A10.out).mono ?_
                          rintro e w45 ⟨rfl, hb⟩
                          have HS0_ := (hb.cell (World.block_lt_of_cell? _ _ (hHeld))).trans (hHeld)
                          refine ⟨_, rfl, ?_⟩
                          have n0_ := Aside0.mk (Kd.R_below (by (with_reducible repeat (first | apply Kd.R_alloc | apply Kd.R_drewN | apply Kd.R_drew)); exact HO199.out) hb)
                          have n1_ := Aside0.mk (Kd.R_below (by (with_reducible repeat (first | apply Kd.R_alloc | apply Kd.R_drewN | apply Kd.R_drew)); exact HO202.out) hb)
                          have n2_ := Aside0.mk (below_step (by repeat (first | (with_reducible first | exact HB.out | apply below_alloc | apply pw_below_drewN | apply below_drew1) | exact HB.out)) hb)
                          clear HO199
                          clear HO202
                          clear HB
                          have HO199 := n0_
                          have HO202 := n1_
                          have HB := n2_
                          clear n0_ n1_ n2_
                          (try clear hb)
                          (try clear hb2)
                          (try clear hk)
                          (try clear hi)
                          refine hK.out _ _ (HS0_) (fun hHeld => ?_)
                          clear hK K
                          refine norm_ (a' := ?_) ?_ ?_
                          rotate_left
                          · show Act.put _ (some 37) _ = _
                            simp only [Act.put, List.setIfInBounds_toArray, List.set_cons_zero, List.set_cons_succ, i64_w, i32_w]
                            rfl
                          refine pure_ (i := 9) (N := some 28) (v := ?_) (a' := ?_) #[true, true, true, true, true, true, true, true, true, true, false, false, false, false] rfl rfl (any_of HT_.out (by kernel_rfl)) (fun _ _ _ h => h) (Or.inl ⟨by rfl, ?_⟩) ?_ ?_
                          rotate_left
                          · intro w'
                            go_simp
                            with_reducible rfl
                          rotate_left
                          · simp only [Act.put, List.setIfInBounds_toArray, List.set_cons_zero, List.set_cons_succ, i64_w, i32_w]
                            rfl
                          refine pure_ (i := 10) (N := some 38) (v := ?_) (a' := ?_) #[true, true, true, true, true, true, true, true, true, true, true, false, false, false] rfl rfl (any_of HT_.out (by kernel_rfl)) (fun _ _ _ h => h) (Or.inl ⟨by rfl, ?_⟩) ?_ ?_
                          rotate_left
                          · intro w'
                            go_simp
                            with_reducible rfl
                          rotate_left
                          · simp only [Act.put, List.setIfInBounds_toArray, List.set_cons_zero, List.set_cons_succ, i64_w, i32_w]
                            rfl
                          refine pure_ (i := 11) (N := some 39) (v := ?_) (a' := ?_) #[true, true, true, true, true, true, true, true, true, true, true, true, false, false] rfl rfl (any_of HT_.out (by kernel_rfl)) (fun _ _ _ h => h) (Or.inl ⟨by rfl, ?_⟩) ?_ ?_
                          rotate_left
                          · intro w'
                            go_simp
                            with_reducible rfl
                          rotate_left
                          · simp only [Act.put, List.setIfInBounds_toArray, List.set_cons_zero, List.set_cons_succ, i64_w, i32_w]
                            rfl
                          refine pure_ (i := 12) (N := some 12) (v := ?_) (a' := ?_) #[true, true, true, true, true, true, true, true, true, true, true, true, true, false] rfl rfl (any_of HT_.out (by kernel_rfl)) (fun _ _ _ h => h) (Or.inl ⟨by rfl, ?_⟩) ?_ ?_
                          rotate_left
                          · intro w'
                            go_simp
                            with_reducible rfl
                          rotate_left
                          · simp only [Act.put, List.setIfInBounds_toArray, List.set_cons_zero, List.set_cons_succ, i64_w, i32_w]
                            rfl
                          refine pure_ (i := 13) (N := some 13) (v := ?_) (a' := ?_) #[true, true, true, true, true, true, true, true, true, true, true, true, true, true] rfl rfl (any_of HT_.out (by kernel_rfl)) (fun _ _ _ h => h) (Or.inl ⟨by rfl, ?_⟩) ?_ ?_
                          rotate_left
                          · intro w'
                            go_simp
                            with_reducible rfl
                          rotate_left
                          · simp only [Act.put, List.setIfInBounds_toArray, List.set_cons_zero, List.set_cons_succ, i64_w, i32_w]
                            rfl
                          refine done_ (done_of HT_.out (by kernel_rfl)) ?_
                          try go_wp2
                          have n0_ := Aside0.mk (Kd.R_drew HO199.out)
                          have n1_ := Aside0.mk (Kd.R_drew HO202.out)
                          have n2_ := Aside0.mk (below_drew1 HB.out)
                          clear HO199
                          clear HO202
                          clear HB
                          have HO199 := n0_
                          have HO202 := n1_
                          have HB := n2_
                          clear n0_ n1_ n2_
                          have p209 : 0 ≤ ((ji6) : Int) := of_decide_eq_true (by first | (with_reducible assumption) | assumption)
                          have q209 : (ji6) < (y197.length : Int) := of_decide_eq_true (by first | (with_reducible assumption) | assumption)
                          obtain ⟨ad209, e209, hx209_0⟩ := Kd.at_string (Kd.R_reads' HO199.out).2.2 (ji6) p209 q209
                          obtain rfl : ad205 = ad209 := (by injection e209)
                          replace p209 := eq_true p209
                          replace q209 := eq_true q209
                          (try (have qz209 := q209; rw [ByteArray.size_extract, Nat.min_self] at qz209))
                          refine start_ (n := 18) (S := fun w' => w'.cell? (ad205.add ((ji6)).toNat) = some (.string (rdOf ByteArray.empty y197 (ji6)))) (ds := []) #[false, false, false, false, false, false, false, false, false, false, false, false, false, false, false, false, false, false] (by kernel_rfl) rfl rfl (hx209_0) (fun hHeld => ?_); refine with_tabW triremelaw03_QuantUnits.tab7 triremelaw03_QuantUnits.bits7 (fun HT_ HW_ => ?_)
                          generalize w45.drew = w46 at HO199 HO202 HB hx209_0 hHeld ⊢
                          refine pure_ (i := 0) (N := some 41) (v := ?_) (a' := ?_) #[true, false, false, false, false, false, false, false, false, false, false, false, false, false, false, false, false, false] rfl rfl (any_of HT_.out (by kernel_rfl)) (fun _ _ _ h => h) (Or.inl ⟨by rfl, ?_⟩) ?_ ?_
                          rotate_left
                          · intro w'
                            go_simp
                            with_reducible rfl
                          rotate_left
                          · simp only [Act.put, List.setIfInBounds_toArray, List.set_cons_zero, List.set_cons_succ, i64_w, i32_w]
                            rfl
                          refine pure_ (i := 1) (N := some 42) (v := ?_) (a' := ?_) #[true, true, false, false, false, false, false, false, false, false, false, false, false, false, false, false, false, false] rfl rfl (any_of HT_.out (by kernel_rfl)) (fun _ _ _ h => h) (Or.inl ⟨by rfl, ?_⟩) ?_ ?_
                          rotate_left
                          · intro w'
                            go_simp
                            with_reducible rfl
                          rotate_left
                          · simp only [Act.put, List.setIfInBounds_toArray, List.set_cons_zero, List.set_cons_succ, i64_w, i32_w]
                            rfl
                          refine pure_ (i := 4) (N := some 45) (v := ?_) (a' := ?_) #[true, true, false, false, true, false, false, false, false, false, false, false, false, false, false, false, false, false] rfl rfl (any_of HT_.out (by kernel_rfl)) (fun _ _ _ h => h) (Or.inl ⟨by rfl, ?_⟩) ?_ ?_
                          rotate_left
                          · intro w'
                            go_simp
                            with_reducible rfl
                          rotate_left
                          · simp only [Act.put, List.setIfInBounds_toArray, List.set_cons_zero, List.set_cons_succ, i64_w, i32_w]
                            rfl
                          refine pure_ (i := 5) (N := some 46) (v := ?_) (a' := ?_) #[true, true, false, false, true, true, false, false, false, false, false, false, false, false, false, false, false, false] rfl rfl (any_of HT_.out (by kernel_rfl)) (fun _ _ _ h => h) (Or.inl ⟨by rfl, ?_⟩) ?_ ?_
                          rotate_left
                          · intro w'
                            go_simp
                            with_reducible rfl
                          rotate_left
                          · simp only [Act.put, List.setIfInBounds_toArray, List.set_cons_zero, List.set_cons_succ, i64_w, i32_w]
                            rfl
                          refine pure_ (i := 7) (N := some 48) (v := ?_) (a' := ?_) #[true, true, false, false, true, true, false, true, false, false, false, false, false, false, false, false, false, false] rfl rfl (any_of HT_.out (by kernel_rfl)) (fun _ _ _ h => h) (Or.inl ⟨by rfl, ?_⟩) ?_ ?_
                          rotate_left
                          · intro w'
                            go_simp
                            with_reducible rfl
                          rotate_left
                          · simp only [Act.put, List.setIfInBounds_toArray, List.set_cons_zero, List.set_cons_succ, i64_w, i32_w]
                            rfl
                          refine pure_ (i := 8) (N := some 49) (v := ?_) (a' := ?_) #[true, true, false, false, true, true, false, true, true, false, false, false, false, false, false, false, false, false] rfl rfl (any_of HT_.out (by kernel_rfl)) (fun _ _ _ h => h) (Or.inl ⟨by rfl, ?_⟩) ?_ ?_
                          rotate_left
                          · intro w'
                            go_simp
                            with_reducible rfl
                          rotate_left
                          · simp only [Act.put, List.setIfInBounds_toArray, List.set_cons_zero, List.set_cons_succ, i64_w, i32_w]
                            rfl
                          refine pure_ (i := 9) (N := some 50) (v := ?_) (a' := ?_) #[true, true, false, false, true, true, false, true, true, true, false, false, false, false, false, false, false, false] rfl rfl (any_of HT_.out (by kernel_rfl)) (fun _ _ _ h => h) (Or.inl ⟨by rfl, ?_⟩) ?_ ?_
                          rotate_left
                          · intro w'
                            go_simp
                            with_reducible rfl
                          rotate_left
                          · simp only [Act.put, List.setIfInBounds_toArray, List.set_cons_zero, List.set_cons_succ, i64_w, i32_w]
                            rfl
                          refine take_ (i := 10) (N := some 51) (v := ?_) (a' := ?_) #[true, true, false, false, true, true, false, true, true, true, true, false, false, false, false, false, false, false] rfl rfl (take_ofW HT_.out HW_.out (by kernel_rfl)) (fun _ _ _ h => h) (Or.inl ⟨by rfl, ?_⟩) hHeld ?_ ?_
                          rotate_left
                          · intro w' s0
                            go_simp
                            with_reducible rfl
                          rotate_left
                          · simp only [Act.put, List.setIfInBounds_toArray, List.set_cons_zero, List.set_cons_succ, i64_w, i32_w]
                            rfl
                          refine one_ (i := 2) (N := some 43) #[true, true, true, false, true, true, false, true, true, true, true, false, false, false, false, false, false, false] rfl rfl (one_of HT_.out (by kernel_rfl)) (by decide) (fun K hK => ?_)
                          refine goes_ Try.func19 (by kernel_rfl) rfl #[.int .i64 (wrap64 (a0))] (by rfl) rfl rfl (by (try simp only [List.map_toArray, List.map_cons, List.map_nil]); first | done | rfl | (simp only [List.length_drop, List.length_take]; rfl)) ?_
                          with_reducible refine (triremeref01_Digits.calls k (wrap64 (a0)) t208 _ A11.out).mono ?_
                          rintro e w47 ⟨rfl, hb⟩
                          have HS0_ := (hb.cell (World.block_lt_of_cell? _ _ (hHeld))).trans (hHeld)
                          refine ⟨_, rfl, ?_⟩
                          have n0_ := Aside0.mk (Kd.R_below (by (with_reducible repeat (first | apply Kd.R_alloc | apply Kd.R_drewN | apply Kd.R_drew)); exact HO199.out) hb)
                          have n1_ := Aside0.mk (Kd.R_below (by (with_reducible repeat (first | apply Kd.R_alloc | apply Kd.R_drewN | apply Kd.R_drew)); exact HO202.out) hb)
                          have n2_ := Aside0.mk (below_step (by repeat (first | (with_reducible first | exact HB.out | apply below_alloc | apply pw_below_drewN | apply below_drew1) | exact HB.out)) hb)
                          clear HO199
                          clear HO202
                          clear HB
                          have HO199 := n0_
                          have HO202 := n1_
                          have HB := n2_
                          clear n0_ n1_ n2_
                          (try clear hb)
                          (try clear hb2)
                          (try clear hk)
                          (try clear hi)
                          refine hK.out _ _ (HS0_) (fun hHeld => ?_)
                          clear hK K
                          refine norm_ (a' := ?_) ?_ ?_
                          rotate_left
                          · show Act.put _ (some 43) _ = _
                            simp only [Act.put, List.setIfInBounds_toArray, List.set_cons_zero, List.set_cons_succ, i64_w, i32_w]
                            rfl
                          refine pure_ (i := 3) (N := some 44) (v := ?_) (a' := ?_) #[true, true, true, true, true, true, false, true, true, true, true, false, false, false, false, false, false, false] rfl rfl (any_of HT_.out (by kernel_rfl)) (fun _ _ _ h => h) (Or.inl ⟨by rfl, ?_⟩) ?_ ?_
                          rotate_left
                          · intro w'
                            go_simp
                            with_reducible rfl
                          rotate_left
                          · simp only [Act.put, List.setIfInBounds_toArray, List.set_cons_zero, List.set_cons_succ, i64_w, i32_w]
                            rfl
                          refine pure_ (i := 6) (N := some 47) (v := ?_) (a' := ?_) #[true, true, true, true, true, true, true, true, true, true, true, false, false, false, false, false, false, false] rfl rfl (any_of HT_.out (by kernel_rfl)) (fun _ _ _ h => h) (Or.inl ⟨by rfl, ?_⟩) ?_ ?_
                          rotate_left
                          · intro w'
                            go_simp
                            with_reducible rfl
                          rotate_left
                          · simp only [Act.put, List.setIfInBounds_toArray, List.set_cons_zero, List.set_cons_succ, i64_w, i32_w]
                            rfl
                          refine pure_ (i := 11) (N := some 52) (v := ?_) (a' := ?_) #[true, true, true, true, true, true, true, true, true, true, true, true, false, false, false, false, false, false] rfl rfl (any_of HT_.out (by kernel_rfl)) (fun _ _ _ h => h) (Or.inl ⟨by rfl, ?_⟩) ?_ ?_
                          rotate_left
                          · intro w'
                            go_simp
                            with_reducible rfl
                          rotate_left
                          · simp only [Act.put, List.setIfInBounds_toArray, List.set_cons_zero, List.set_cons_succ, i64_w, i32_w]
                            rfl
                          refine one_ (i := 12) (N := some 53) #[true, true, true, true, true, true, true, true, true, true, true, true, true, false, false, false, false, false] rfl rfl (one_of HT_.out (by kernel_rfl)) (by decide) (fun K hK => ?_)
                          refine goes_ Try.func11 (by kernel_rfl) rfl #[.string (((t208 ++ (⟨#[46]⟩ : ByteArray)) ++ (t203.extract 1 t203.size)) ++ (rdOf ByteArray.empty y197 (ji6)))] (by rfl) rfl rfl (by (try simp only [List.map_toArray, List.map_cons, List.map_nil]); first | done | (simp only [hji6]; rfl) | rfl | (simp only [List.length_drop, List.length_take]; rfl)) ?_
                          with_reducible refine (quant_Milli.calls k (((t208 ++ (⟨#[46]⟩ : ByteArray)) ++ (t203.extract 1 t203.size)) ++ (rdOf ByteArray.empty y197 (ji6))) t210 t211 _ A16.out).mono ?_
                          rintro e w48 ⟨rfl, hb⟩
                          have HS0_ := (hb.cell (World.block_lt_of_cell? _ _ (hHeld))).trans (hHeld)
                          refine ⟨_, rfl, ?_⟩
                          have n0_ := Aside0.mk (Kd.R_below (by (with_reducible repeat (first | apply Kd.R_alloc | apply Kd.R_drewN | apply Kd.R_drew)); exact HO199.out) hb)
                          have n1_ := Aside0.mk (Kd.R_below (by (with_reducible repeat (first | apply Kd.R_alloc | apply Kd.R_drewN | apply Kd.R_drew)); exact HO202.out) hb)
                          have n2_ := Aside0.mk (below_step (by repeat (first | (with_reducible first | exact HB.out | apply below_alloc | apply pw_below_drewN | apply below_drew1) | exact HB.out)) hb)
                          clear HO199
                          clear HO202
                          clear HB
                          have HO199 := n0_
                          have HO202 := n1_
                          have HB := n2_
                          clear n0_ n1_ n2_
                          (try clear hb)
                          (try clear hb2)
                          (try clear hk)
                          (try clear hi)
                          refine hK.out _ _ (HS0_) (fun hHeld => ?_)
                          clear hK K
                          refine norm_ (a' := ?_) ?_ ?_
                          rotate_left
                          · show Act.put _ (some 53) _ = _
                            simp only [Act.put, List.setIfInBounds_toArray, List.set_cons_zero, List.set_cons_succ, i64_w, i32_w]
                            rfl
                          refine pure_ (i := 13) (N := some 40) (v := ?_) (a' := ?_) #[true, true, true, true, true, true, true, true, true, true, true, true, true, true, false, false, false, false] rfl rfl (any_of HT_.out (by kernel_rfl)) (fun _ _ _ h => h) (Or.inl ⟨by rfl, ?_⟩) ?_ ?_
                          rotate_left
                          · intro w'
                            go_simp
                            with_reducible rfl
                          rotate_left
                          · simp only [Act.put, List.setIfInBounds_toArray, List.set_cons_zero, List.set_cons_succ, i64_w, i32_w]
                            rfl
                          refine pure_ (i := 14) (N := some 54) (v := ?_) (a' := ?_) #[true, true, true, true, true, true, true, true, true, true, true, true, true, true, true, false, false, false] rfl rfl (any_of HT_.out (by kernel_rfl)) (fun _ _ _ h => h) (Or.inl ⟨by rfl, ?_⟩) ?_ ?_
                          rotate_left
                          · intro w'
                            go_simp
                            with_reducible rfl
                          rotate_left
                          · simp only [Act.put, List.setIfInBounds_toArray, List.set_cons_zero, List.set_cons_succ, i64_w, i32_w]
                            rfl
                          refine pure_ (i := 15) (N := some 55) (v := ?_) (a' := ?_) #[true, true, true, true, true, true, true, true, true, true, true, true, true, true, true, true, false, false] rfl rfl (any_of HT_.out (by kernel_rfl)) (fun _ _ _ h => h) (Or.inl ⟨by rfl, ?_⟩) ?_ ?_
                          rotate_left
                          · intro w'
                            go_simp
                            with_reducible rfl
                          rotate_left
                          · simp only [Act.put, List.setIfInBounds_toArray, List.set_cons_zero, List.set_cons_succ, i64_w, i32_w]
                            rfl
                          refine pure_ (i := 16) (N := some 14) (v := ?_) (a' := ?_) #[true, true, true, true, true, true, true, true, true, true, true, true, true, true, true, true, true, false] rfl rfl (any_of HT_.out (by kernel_rfl)) (fun _ _ _ h => h) (Or.inl ⟨by rfl, ?_⟩) ?_ ?_
                          rotate_left
                          · intro w'
                            go_simp
                            with_reducible rfl
                          rotate_left
                          · simp only [Act.put, List.setIfInBounds_toArray, List.set_cons_zero, List.set_cons_succ, i64_w, i32_w]
                            rfl
                          refine pure_ (i := 17) (N := some 15) (v := ?_) (a' := ?_) #[true, true, true, true, true, true, true, true, true, true, true, true, true, true, true, true, true, true] rfl rfl (any_of HT_.out (by kernel_rfl)) (fun _ _ _ h => h) (Or.inl ⟨by rfl, ?_⟩) ?_ ?_
                          rotate_left
                          · intro w'
                            go_simp
                            with_reducible rfl
                          rotate_left
                          · simp only [Act.put, List.setIfInBounds_toArray, List.set_cons_zero, List.set_cons_succ, i64_w, i32_w]
                            rfl
                          refine done_ (done_of HT_.out (by kernel_rfl)) ?_
                          obtain ⟨Ao49, co49, eo49⟩ := Kd.R_slice HO202.out
                          subst eo49
                          have p212 : 0 ≤ ((ji6) : Int) := of_decide_eq_true (by first | (with_reducible assumption) | assumption)
                          have q212 : (ji6) < (y200.length : Int) := of_decide_eq_true (by first | (with_reducible assumption) | assumption)
                          obtain ⟨ad212, e212, hx212_0⟩ := Kd.at_int (Kd.R_reads' HO202.out).2.2 (ji6) p212 q212
                          cases e212
                          replace p212 := eq_true p212
                          replace q212 := eq_true q212
                          (try (have qz212 := q212; rw [ByteArray.size_extract, Nat.min_self] at qz212))
                          have p213 : 0 ≤ ((ji6) : Int) := of_decide_eq_true (by first | (with_reducible assumption) | assumption)
                          have q213 : (ji6) < (y200.length : Int) := of_decide_eq_true (by first | (with_reducible assumption) | assumption)
                          obtain ⟨ad213, e213, hx213_0⟩ := Kd.at_int (Kd.R_reads' HO202.out).2.2 (ji6) p213 q213
                          obtain rfl : ad212 = ad213 := (by injection e213)
                          replace p213 := eq_true p213
                          replace q213 := eq_true q213
                          (try (have qz213 := q213; rw [ByteArray.size_extract, Nat.min_self] at qz213))
                          try go_wp2
                          go_ret
                          exact ⟨by first | rfl | (simp [errW_none, errW_some] <;> rfl) | (simp only [← hji6]; first | rfl | (simp [errW_none, errW_some] <;> rfl)) | (simp [*, errW_none, errW_some] <;> rfl), by repeat (first | (with_reducible first | exact HB.out | apply below_alloc | apply pw_below_drewN | apply below_drew1) | exact HB.out)⟩
                      · rw [if_neg c20] at H
                        have c20b0 : (t210 == (wrap64 ((wrap64 ((wrap64 (1000 * (wrap64 (a0)))) + (Int.tmod (wrap64 (a1)) 1000))) * (rd y200 (ji6))))) = false := beq_eq_false_iff_ne.mpr c20
                        have c20b1 : (t210 != (wrap64 ((wrap64 ((wrap64 (1000 * (wrap64 (a0)))) + (Int.tmod (wrap64 (a1)) 1000))) * (rd y200 (ji6))))) = true := bne_iff_ne.mpr c20
                        obtain rfl := Option.some.inj H
                        go_enter Try.func6, Try.ntmps6
                        try go_wp2_with (first | ((with_reducible refine gate_dst (N := 17) rfl ?_); refine Kd.R_lit Kd.string _ 9 ?hg (N := 17) ?hd (xs := ([(⟨#[]⟩ : ByteArray), (⟨#[107]⟩ : ByteArray), (⟨#[77]⟩ : ByteArray), (⟨#[75, 105]⟩ : ByteArray), (⟨#[77, 105]⟩ : ByteArray)] : List ByteArray)) (inner := [.string (⟨#[]⟩ : ByteArray), .string (⟨#[107]⟩ : ByteArray), .string (⟨#[77]⟩ : ByteArray), .string (⟨#[75, 105]⟩ : ByteArray), .string (⟨#[77, 105]⟩ : ByteArray)]) (ok := fun _ => True) (okp := fun _ => True) ?hr ?hp (fun _ hk => hk) trivial (Below.refl _ _) (Nat.le_refl _) (by simp) ?_; (case hd => rfl); (case hg => rfl); (case hr => first | (go_simp; done) | (go_simp; rfl)); (case hp => exact (Reps.one (show Kd.M Kd.string _ _ _ (⟨#[]⟩ : ByteArray) [.string (⟨#[]⟩ : ByteArray)] from rfl) (Reps.one (show Kd.M Kd.string _ _ _ (⟨#[107]⟩ : ByteArray) [.string (⟨#[107]⟩ : ByteArray)] from rfl) (Reps.one (show Kd.M Kd.string _ _ _ (⟨#[77]⟩ : ByteArray) [.string (⟨#[77]⟩ : ByteArray)] from rfl) (Reps.one (show Kd.M Kd.string _ _ _ (⟨#[75, 105]⟩ : ByteArray) [.string (⟨#[75, 105]⟩ : ByteArray)] from rfl) (Reps.one (show Kd.M Kd.string _ _ _ (⟨#[77, 105]⟩ : ByteArray) [.string (⟨#[77, 105]⟩ : ByteArray)] from rfl) (Reps.none _ _))))))); intro v198 w50 ho51 hb hg_ hnew_; clear hg_ hnew_; (first | rw [← Ny197.out] at ho51 | (simp only [Int.reduceToNat] at ho51; rw [← Ny197.out] at ho51)); have n0_ := Aside0.mk (Kd.R_lower ho51 (below_size (by repeat (first | (with_reducible first | exact HB.out | apply below_alloc | apply pw_below_drewN | apply below_drew1) | exact HB.out)))); have n1_ := Aside0.mk (below_step (by repeat (first | (with_reducible first | exact HB.out | apply below_alloc | apply pw_below_drewN | apply below_drew1) | exact HB.out)) hb); clear HB; have HO199 := n0_; have HB := n1_; clear n0_ n1_; clear hb ho51) | ((with_reducible refine gate_dst (N := 18) rfl ?_); refine Kd.R_lit (Kd.int .i64) _ 3 ?hg (N := 18) ?hd (xs := ([1, 1000, 1000000, 1024, 1048576] : List Int)) (inner := [.int .i64 1, .int .i64 1000, .int .i64 1000000, .int .i64 1024, .int .i64 1048576]) (ok := fun _ => True) (okp := fun _ => True) ?hr ?hp (fun _ hk => hk) trivial (Below.refl _ _) (Nat.le_refl _) (by simp) ?_; (case hd => rfl); (case hg => rfl); (case hr => first | (go_simp; done) | (go_simp; rfl)); (case hp => exact (Reps.one (show Kd.M (Kd.int .i64) _ _ _ 1 [.int .i64 1] from rfl) (Reps.one (show Kd.M (Kd.int .i64) _ _ _ 1000 [.int .i64 1000] from rfl) (Reps.one (show Kd.M (Kd.int .i64) _ _ _ 1000000 [.int .i64 1000000] from rfl) (Reps.one (show Kd.M (Kd.int .i64) _ _ _ 1024 [.int .i64 1024] from rfl) (Reps.one (show Kd.M (Kd.int .i64) _ _ _ 1048576 [.int .i64 1048576] from rfl) (Reps.none _ _))))))); intro v201 w52 ho53 hb hg_ hnew_; clear hg_ hnew_; (first | rw [← Ny200.out] at ho53 | (simp only [Int.reduceToNat] at ho53; rw [← Ny200.out] at ho53)); have n0_ := Aside0.mk (Kd.R_below (by (with_reducible repeat (first | apply Kd.R_alloc | apply Kd.R_drewN | apply Kd.R_drew)); exact HO199.out) hb); have n1_ := Aside0.mk (Kd.R_lower ho53 (below_size (by repeat (first | (with_reducible first | exact HB.out | apply below_alloc | apply pw_below_drewN | apply below_drew1) | exact HB.out)))); have n2_ := Aside0.mk (below_step (by repeat (first | (with_reducible first | exact HB.out | apply below_alloc | apply pw_below_drewN | apply below_drew1) | exact HB.out)) hb); clear HO199; clear HB; have HO199 := n0_; have HO202 := n1_; have HB := n2_; clear n0_ n1_ n2_; clear hb ho53) | ((first | ((with_reducible refine gate_callee (f := 19) rfl ?_); refine goesL_ (some 27) rfl rfl Try.func19 (by kernel_rfl) rfl #[.int .i64 (wrap64 (1000 + (Int.tmod (wrap64 (a1)) 1000)))] rfl (by (try simp only [List.map_toArray, List.map_cons, List.map_nil]); first | done | rfl | (simp only [List.length_drop, List.length_take]; rfl)) ?_; (with_reducible refine (triremeref01_Digits.calls k (wrap64 (1000 + (Int.tmod (wrap64 (a1)) 1000))) t203 _ A4.out).mono ?_); rintro e w54 ⟨rfl, hb⟩; refine ⟨_, rfl, ?_⟩) | (go_at_call 19; (with_reducible refine (triremeref01_Digits.calls k (wrap64 (1000 + (Int.tmod (wrap64 (a1)) 1000))) t203 _ A4.out).mono ?_); rintro e w54 ⟨rfl, hb⟩)); have n0_ := Aside0.mk (Kd.R_below (by (with_reducible repeat (first | apply Kd.R_alloc | apply Kd.R_drewN | apply Kd.R_drew)); exact HO199.out) hb); have n1_ := Aside0.mk (Kd.R_below (by (with_reducible repeat (first | apply Kd.R_alloc | apply Kd.R_drewN | apply Kd.R_drew)); exact HO202.out) hb); have n2_ := Aside0.mk (below_step (by repeat (first | (with_reducible first | exact HB.out | apply below_alloc | apply pw_below_drewN | apply below_drew1) | exact HB.out)) hb); clear HO199; clear HO202; clear HB; have HO199 := n0_; have HO202 := n1_; have HB := n2_; clear n0_ n1_ n2_; (try clear hb); (try clear hb2); (try clear hk); (try clear hi)))
                        have n0_ := Aside0.mk (Kd.R_drew HO199.out)
                        have n1_ := Aside0.mk (Kd.R_drew HO202.out)
                        have n2_ := Aside0.mk (below_drew1 HB.out)
                        clear HO199
                        clear HO202
                        clear HB
                        have HO199 := n0_
                        have HO202 := n1_
                        have HB := n2_
                        clear n0_ n1_ n2_
                        obtain ⟨Ao56, co56, eo56⟩ := Kd.R_slice HO199.out
                        (first | subst eo56 | (injection eo56 with f1_ f2_ f3_; have f4_ := f1_.symm; have f5_ := f3_.symm; clear f1_ f2_ f3_; subst f4_; subst f5_))
                        have p205 : 0 ≤ ((ji6) : Int) := of_decide_eq_true (by first | (with_reducible assumption) | assumption)
                        have q205 : (ji6) < (y197.length : Int) := of_decide_eq_true (by first | (with_reducible assumption) | assumption)
                        obtain ⟨ad205, e205, hx205_0⟩ := Kd.at_string (Kd.R_reads' HO199.out).2.2 (ji6) p205 q205
                        cases e205
                        replace p205 := eq_true p205
                        replace q205 := eq_true q205
                        (try (have qz205 := q205; rw [ByteArray.size_extract, Nat.min_self] at qz205))
                        refine start_ (n := 14) (S := fun w' => w'.cell? (ad205.add ((ji6)).toNat) = some (.string (rdOf ByteArray.empty y197 (ji6)))) (ds := []) #[false, false, false, false, false, false, false, false, false, false, false, false, false, false] (by kernel_rfl) rfl rfl (hx205_0) (fun hHeld => ?_); refine with_tabW triremelaw03_QuantUnits.tab6 triremelaw03_QuantUnits.bits6 (fun HT_ HW_ => ?_)
                        generalize w54.drew = w55 at HO199 HO202 HB hx205_0 hHeld ⊢
                        refine pure_ (i := 0) (N := some 29) (v := ?_) (a' := ?_) #[true, false, false, false, false, false, false, false, false, false, false, false, false, false] rfl rfl (any_of HT_.out (by kernel_rfl)) (fun _ _ _ h => h) (Or.inl ⟨by rfl, ?_⟩) ?_ ?_
                        rotate_left
                        · intro w'
                          go_simp
                          with_reducible rfl
                        rotate_left
                        · simp only [Act.put, List.setIfInBounds_toArray, List.set_cons_zero, List.set_cons_succ, i64_w, i32_w]
                          rfl
                        refine pure_ (i := 1) (N := some 30) (v := ?_) (a' := ?_) #[true, true, false, false, false, false, false, false, false, false, false, false, false, false] rfl rfl (any_of HT_.out (by kernel_rfl)) (fun _ _ _ h => h) (Or.inl ⟨by rfl, ?_⟩) ?_ ?_
                        rotate_left
                        · intro w'
                          go_simp
                          with_reducible rfl
                        rotate_left
                        · simp only [Act.put, List.setIfInBounds_toArray, List.set_cons_zero, List.set_cons_succ, i64_w, i32_w]
                          rfl
                        refine pure_ (i := 3) (N := some 32) (v := ?_) (a' := ?_) #[true, true, false, true, false, false, false, false, false, false, false, false, false, false] rfl rfl (any_of HT_.out (by kernel_rfl)) (fun _ _ _ h => h) (Or.inl ⟨by rfl, ?_⟩) ?_ ?_
                        rotate_left
                        · intro w'
                          go_simp
                          with_reducible rfl
                        rotate_left
                        · simp only [Act.put, List.setIfInBounds_toArray, List.set_cons_zero, List.set_cons_succ, i64_w, i32_w]
                          rfl
                        refine pure_ (i := 4) (N := some 33) (v := ?_) (a' := ?_) #[true, true, false, true, true, false, false, false, false, false, false, false, false, false] rfl rfl (any_of HT_.out (by kernel_rfl)) (fun _ _ _ h => h) (Or.inl ⟨by rfl, ?_⟩) ?_ ?_
                        rotate_left
                        · intro w'
                          go_simp
                          with_reducible rfl
                        rotate_left
                        · simp only [Act.put, List.setIfInBounds_toArray, List.set_cons_zero, List.set_cons_succ, i64_w, i32_w]
                          rfl
                        refine pure_ (i := 5) (N := some 34) (v := ?_) (a' := ?_) #[true, true, false, true, true, true, false, false, false, false, false, false, false, false] rfl rfl (any_of HT_.out (by kernel_rfl)) (fun _ _ _ h => h) (Or.inl ⟨by rfl, ?_⟩) ?_ ?_
                        rotate_left
                        · intro w'
                          go_simp
                          with_reducible rfl
                        rotate_left
                        · simp only [Act.put, List.setIfInBounds_toArray, List.set_cons_zero, List.set_cons_succ, i64_w, i32_w]
                          rfl
                        refine take_ (i := 6) (N := some 35) (v := ?_) (a' := ?_) #[true, true, false, true, true, true, true, false, false, false, false, false, false, false] rfl rfl (take_ofW HT_.out HW_.out (by kernel_rfl)) (fun _ _ _ h => h) (Or.inl ⟨by rfl, ?_⟩) hHeld ?_ ?_
                        rotate_left
                        · intro w' s0
                          go_simp
                          with_reducible rfl
                        rotate_left
                        · simp only [Act.put, List.setIfInBounds_toArray, List.set_cons_zero, List.set_cons_succ, i64_w, i32_w]
                          rfl
                        refine one_ (i := 2) (N := some 31) #[true, true, true, true, true, true, true, false, false, false, false, false, false, false] rfl rfl (one_of HT_.out (by kernel_rfl)) (by decide) (fun K hK => ?_)
                        refine goes_ Try.func19 (by kernel_rfl) rfl #[.int .i64 (wrap64 (a0))] (by rfl) rfl rfl (by (try simp only [List.map_toArray, List.map_cons, List.map_nil]); first | done | rfl | (simp only [List.length_drop, List.length_take]; rfl)) ?_
                        with_reducible refine (triremeref01_Digits.calls k (wrap64 (a0)) t204 _ A5.out).mono ?_
                        rintro e w57 ⟨rfl, hb⟩
                        have HS0_ := (hb.cell (World.block_lt_of_cell? _ _ (hHeld))).trans (hHeld)
                        refine ⟨_, rfl, ?_⟩
                        have n0_ := Aside0.mk (Kd.R_below (by (with_reducible repeat (first | apply Kd.R_alloc | apply Kd.R_drewN | apply Kd.R_drew)); exact HO199.out) hb)
                        have n1_ := Aside0.mk (Kd.R_below (by (with_reducible repeat (first | apply Kd.R_alloc | apply Kd.R_drewN | apply Kd.R_drew)); exact HO202.out) hb)
                        have n2_ := Aside0.mk (below_step (by repeat (first | (with_reducible first | exact HB.out | apply below_alloc | apply pw_below_drewN | apply below_drew1) | exact HB.out)) hb)
                        clear HO199
                        clear HO202
                        clear HB
                        have HO199 := n0_
                        have HO202 := n1_
                        have HB := n2_
                        clear n0_ n1_ n2_
                        (try clear hb)
                        (try clear hb2)
                        (try clear hk)
                        (try clear hi)
                        refine hK.out _ _ (HS0_) (fun hHeld => ?_)
                        clear hK K
                        refine norm_ (a' := ?_) ?_ ?_
                        rotate_left
                        · show Act.put _ (some 31) _ = _
                          simp only [Act.put, List.setIfInBounds_toArray, List.set_cons_zero, List.set_cons_succ, i64_w, i32_w]
                          rfl
                        refine pure_ (i := 7) (N := some 36) (v := ?_) (a' := ?_) #[true, true, true, true, true, true, true, true, false, false, false, false, false, false] rfl rfl (any_of HT_.out (by kernel_rfl)) (fun _ _ _ h => h) (Or.inl ⟨by rfl, ?_⟩) ?_ ?_
                        rotate_left
                        · intro w'
                          go_simp
                          with_reducible rfl
                        rotate_left
                        · simp only [Act.put, List.setIfInBounds_toArray, List.set_cons_zero, List.set_cons_succ, i64_w, i32_w]
                          rfl
                        refine one_ (i := 8) (N := some 37) #[true, true, true, true, true, true, true, true, true, false, false, false, false, false] rfl rfl (one_of HT_.out (by kernel_rfl)) (by decide) (fun K hK => ?_)
                        refine goes_ Try.func9 (by kernel_rfl) rfl #[.string (t204 ++ (rdOf ByteArray.empty y197 (ji6)))] (by rfl) rfl rfl (by (try simp only [List.map_toArray, List.map_cons, List.map_nil]); first | done | (simp only [hji6]; rfl) | rfl | (simp only [List.length_drop, List.length_take]; rfl)) ?_
                        with_reducible refine (quant_Parse.calls k (t204 ++ (rdOf ByteArray.empty y197 (ji6))) t206 t207 _ A10.out).mono ?_
                        rintro e w58 ⟨rfl, hb⟩
                        have HS0_ := (hb.cell (World.block_lt_of_cell? _ _ (hHeld))).trans (hHeld)
                        refine ⟨_, rfl, ?_⟩
                        have n0_ := Aside0.mk (Kd.R_below (by (with_reducible repeat (first | apply Kd.R_alloc | apply Kd.R_drewN | apply Kd.R_drew)); exact HO199.out) hb)
                        have n1_ := Aside0.mk (Kd.R_below (by (with_reducible repeat (first | apply Kd.R_alloc | apply Kd.R_drewN | apply Kd.R_drew)); exact HO202.out) hb)
                        have n2_ := Aside0.mk (below_step (by repeat (first | (with_reducible first | exact HB.out | apply below_alloc | apply pw_below_drewN | apply below_drew1) | exact HB.out)) hb)
                        clear HO199
                        clear HO202
                        clear HB
                        have HO199 := n0_
                        have HO202 := n1_
                        have HB := n2_
                        clear n0_ n1_ n2_
                        (try clear hb)
                        (try clear hb2)
                        (try clear hk)
                        (try clear hi)
                        refine hK.out _ _ (HS0_) (fun hHeld => ?_)
                        clear hK K
                        refine norm_ (a' := ?_) ?_ ?_
                        rotate_left
                        · show Act.put _ (some 37) _ = _
                          simp only [Act.put, List.setIfInBounds_toArray, List.set_cons_zero, List.set_cons_succ, i64_w, i32_w]
                          rfl
                        refine pure_ (i := 9) (N := some 28) (v := ?_) (a' := ?_) #[true, true, true, true, true, true, true, true, true, true, false, false, false, false] rfl rfl (any_of HT_.out (by kernel_rfl)) (fun _ _ _ h => h) (Or.inl ⟨by rfl, ?_⟩) ?_ ?_
                        rotate_left
                        · intro w'
                          go_simp
                          with_reducible rfl
                        rotate_left
                        · simp only [Act.put, List.setIfInBounds_toArray, List.set_cons_zero, List.set_cons_succ, i64_w, i32_w]
                          rfl
                        refine pure_ (i := 10) (N := some 38) (v := ?_) (a' := ?_) #[true, true, true, true, true, true, true, true, true, true, true, false, false, false] rfl rfl (any_of HT_.out (by kernel_rfl)) (fun _ _ _ h => h) (Or.inl ⟨by rfl, ?_⟩) ?_ ?_
                        rotate_left
                        · intro w'
                          go_simp
                          with_reducible rfl
                        rotate_left
                        · simp only [Act.put, List.setIfInBounds_toArray, List.set_cons_zero, List.set_cons_succ, i64_w, i32_w]
                          rfl
                        refine pure_ (i := 11) (N := some 39) (v := ?_) (a' := ?_) #[true, true, true, true, true, true, true, true, true, true, true, true, false, false] rfl rfl (any_of HT_.out (by kernel_rfl)) (fun _ _ _ h => h) (Or.inl ⟨by rfl, ?_⟩) ?_ ?_
                        rotate_left
                        · intro w'
                          go_simp
                          with_reducible rfl
                        rotate_left
                        · simp only [Act.put, List.setIfInBounds_toArray, List.set_cons_zero, List.set_cons_succ, i64_w, i32_w]
                          rfl
                        refine pure_ (i := 12) (N := some 12) (v := ?_) (a' := ?_) #[true, true, true, true, true, true, true, true, true, true, true, true, true, false] rfl rfl (any_of HT_.out (by kernel_rfl)) (fun _ _ _ h => h) (Or.inl ⟨by rfl, ?_⟩) ?_ ?_
                        rotate_left
                        · intro w'
                          go_simp
                          with_reducible rfl
                        rotate_left
                        · simp only [Act.put, List.setIfInBounds_toArray, List.set_cons_zero, List.set_cons_succ, i64_w, i32_w]
                          rfl
                        refine pure_ (i := 13) (N := some 13) (v := ?_) (a' := ?_) #[true, true, true, true, true, true, true, true, true, true, true, true, true, true] rfl rfl (any_of HT_.out (by kernel_rfl)) (fun _ _ _ h => h) (Or.inl ⟨by rfl, ?_⟩) ?_ ?_
                        rotate_left
                        · intro w'
                          go_simp
                          with_reducible rfl
                        rotate_left
                        · simp only [Act.put, List.setIfInBounds_toArray, List.set_cons_zero, List.set_cons_succ, i64_w, i32_w]
                          rfl
                        refine done_ (done_of HT_.out (by kernel_rfl)) ?_
                        try go_wp2
                        have n0_ := Aside0.mk (Kd.R_drew HO199.out)
                        have n1_ := Aside0.mk (Kd.R_drew HO202.out)
                        have n2_ := Aside0.mk (below_drew1 HB.out)
                        clear HO199
                        clear HO202
                        clear HB
                        have HO199 := n0_
                        have HO202 := n1_
                        have HB := n2_
                        clear n0_ n1_ n2_
                        have p209 : 0 ≤ ((ji6) : Int) := of_decide_eq_true (by first | (with_reducible assumption) | assumption)
                        have q209 : (ji6) < (y197.length : Int) := of_decide_eq_true (by first | (with_reducible assumption) | assumption)
                        obtain ⟨ad209, e209, hx209_0⟩ := Kd.at_string (Kd.R_reads' HO199.out).2.2 (ji6) p209 q209
                        obtain rfl : ad205 = ad209 := (by injection e209)
                        replace p209 := eq_true p209
                        replace q209 := eq_true q209
                        (try (have qz209 := q209; rw [ByteArray.size_extract, Nat.min_self] at qz209))
                        refine start_ (n := 18) (S := fun w' => w'.cell? (ad205.add ((ji6)).toNat) = some (.string (rdOf ByteArray.empty y197 (ji6)))) (ds := []) #[false, false, false, false, false, false, false, false, false, false, false, false, false, false, false, false, false, false] (by kernel_rfl) rfl rfl (hx209_0) (fun hHeld => ?_); refine with_tabW triremelaw03_QuantUnits.tab7 triremelaw03_QuantUnits.bits7 (fun HT_ HW_ => ?_)
                        generalize w58.drew = w59 at HO199 HO202 HB hx209_0 hHeld ⊢
                        refine pure_ (i := 0) (N := some 41) (v := ?_) (a' := ?_) #[true, false, false, false, false, false, false, false, false, false, false, false, false, false, false, false, false, false] rfl rfl (any_of HT_.out (by kernel_rfl)) (fun _ _ _ h => h) (Or.inl ⟨by rfl, ?_⟩) ?_ ?_
                        rotate_left
                        · intro w'
                          go_simp
                          with_reducible rfl
                        rotate_left
                        · simp only [Act.put, List.setIfInBounds_toArray, List.set_cons_zero, List.set_cons_succ, i64_w, i32_w]
                          rfl
                        refine pure_ (i := 1) (N := some 42) (v := ?_) (a' := ?_) #[true, true, false, false, false, false, false, false, false, false, false, false, false, false, false, false, false, false] rfl rfl (any_of HT_.out (by kernel_rfl)) (fun _ _ _ h => h) (Or.inl ⟨by rfl, ?_⟩) ?_ ?_
                        rotate_left
                        · intro w'
                          go_simp
                          with_reducible rfl
                        rotate_left
                        · simp only [Act.put, List.setIfInBounds_toArray, List.set_cons_zero, List.set_cons_succ, i64_w, i32_w]
                          rfl
                        refine pure_ (i := 4) (N := some 45) (v := ?_) (a' := ?_) #[true, true, false, false, true, false, false, false, false, false, false, false, false, false, false, false, false, false] rfl rfl (any_of HT_.out (by kernel_rfl)) (fun _ _ _ h => h) (Or.inl ⟨by rfl, ?_⟩) ?_ ?_
                        rotate_left
                        · intro w'
                          go_simp
                          with_reducible rfl
                        rotate_left
                        · simp only [Act.put, List.setIfInBounds_toArray, List.set_cons_zero, List.set_cons_succ, i64_w, i32_w]
                          rfl
                        refine pure_ (i := 5) (N := some 46) (v := ?_) (a' := ?_) #[true, true, false, false, true, true, false, false, false, false, false, false, false, false, false, false, false, false] rfl rfl (any_of HT_.out (by kernel_rfl)) (fun _ _ _ h => h) (Or.inl ⟨by rfl, ?_⟩) ?_ ?_
                        rotate_left
                        · intro w'
                          go_simp
                          with_reducible rfl
                        rotate_left
                        · simp only [Act.put, List.setIfInBounds_toArray, List.set_cons_zero, List.set_cons_succ, i64_w, i32_w]
                          rfl
                        refine pure_ (i := 7) (N := some 48) (v := ?_) (a' := ?_) #[true, true, false, false, true, true, false, true, false, false, false, false, false, false, false, false, false, false] rfl rfl (any_of HT_.out (by kernel_rfl)) (fun _ _ _ h => h) (Or.inl ⟨by rfl, ?_⟩) ?_ ?_
                        rotate_left
                        · intro w'
                          go_simp
                          with_reducible rfl
                        rotate_left
                        · simp only [Act.put, List.setIfInBounds_toArray, List.set_cons_zero, List.set_cons_succ, i64_w, i32_w]
                          rfl
                        refine pure_ (i := 8) (N := some 49) (v := ?_) (a' := ?_) #[true, true, false, false, true, true, false, true, true, false, false, false, false, false, false, false, false, false] rfl rfl (any_of HT_.out (by kernel_rfl)) (fun _ _ _ h => h) (Or.inl ⟨by rfl, ?_⟩) ?_ ?_
                        rotate_left
                        · intro w'
                          go_simp
                          with_reducible rfl
                        rotate_left
                        · simp only [Act.put, List.setIfInBounds_toArray, List.set_cons_zero, List.set_cons_succ, i64_w, i32_w]
                          rfl
                        refine pure_ (i := 9) (N := some 50) (v := ?_) (a' := ?_) #[true, true, false, false, true, true, false, true, true, true, false, false, false, false, false, false, false, false] rfl rfl (any_of HT_.out (by kernel_rfl)) (fun _ _ _ h => h) (Or.inl ⟨by rfl, ?_⟩) ?_ ?_
                        rotate_left
                        · intro w'
                          go_simp
                          with_reducible rfl
                        rotate_left
                        · simp only [Act.put, List.setIfInBounds_toArray, List.set_cons_zero, List.set_cons_succ, i64_w, i32_w]
                          rfl
                        refine take_ (i := 10) (N := some 51) (v := ?_) (a' := ?_) #[true, true, false, false, true, true, false, true, true, true, true, false, false, false, false, false, false, false] rfl rfl (take_ofW HT_.out HW_.out (by kernel_rfl)) (fun _ _ _ h => h) (Or.inl ⟨by rfl, ?_⟩) hHeld ?_ ?_
                        rotate_left
                        · intro w' s0
                          go_simp
                          with_reducible rfl
                        rotate_left
                        · simp only [Act.put, List.setIfInBounds_toArray, List.set_cons_zero, List.set_cons_succ, i64_w, i32_w]
                          rfl
                        refine one_ (i := 2) (N := some 43) #[true, true, true, false, true, true, false, true, true, true, true, false, false, false, false, false, false, false] rfl rfl (one_of HT_.out (by kernel_rfl)) (by decide) (fun K hK => ?_)
                        refine goes_ Try.func19 (by kernel_rfl) rfl #[.int .i64 (wrap64 (a0))] (by rfl) rfl rfl (by (try simp only [List.map_toArray, List.map_cons, List.map_nil]); first | done | rfl | (simp only [List.length_drop, List.length_take]; rfl)) ?_
                        with_reducible refine (triremeref01_Digits.calls k (wrap64 (a0)) t208 _ A11.out).mono ?_
                        rintro e w60 ⟨rfl, hb⟩
                        have HS0_ := (hb.cell (World.block_lt_of_cell? _ _ (hHeld))).trans (hHeld)
                        refine ⟨_, rfl, ?_⟩
                        have n0_ := Aside0.mk (Kd.R_below (by (with_reducible repeat (first | apply Kd.R_alloc | apply Kd.R_drewN | apply Kd.R_drew)); exact HO199.out) hb)
                        have n1_ := Aside0.mk (Kd.R_below (by (with_reducible repeat (first | apply Kd.R_alloc | apply Kd.R_drewN | apply Kd.R_drew)); exact HO202.out) hb)
                        have n2_ := Aside0.mk (below_step (by repeat (first | (with_reducible first | exact HB.out | apply below_alloc | apply pw_below_drewN | apply below_drew1) | exact HB.out)) hb)
                        clear HO199
                        clear HO202
                        clear HB
                        have HO199 := n0_
                        have HO202 := n1_
                        have HB := n2_
                        clear n0_ n1_ n2_
                        (try clear hb)
                        (try clear hb2)
                        (try clear hk)
                        (try clear hi)
                        refine hK.out _ _ (HS0_) (fun hHeld => ?_)
                        clear hK K
                        refine norm_ (a' := ?_) ?_ ?_
                        rotate_left
                        · show Act.put _ (some 43) _ = _
                          simp only [Act.put, List.setIfInBounds_toArray, List.set_cons_zero, List.set_cons_succ, i64_w, i32_w]
                          rfl
                        refine pure_ (i := 3) (N := some 44) (v := ?_) (a' := ?_) #[true, true, true, true, true, true, false, true, true, true, true, false, false, false, false, false, false, false] rfl rfl (any_of HT_.out (by kernel_rfl)) (fun _ _ _ h => h) (Or.inl ⟨by rfl, ?_⟩) ?_ ?_
                        rotate_left
                        · intro w'
                          go_simp
                          with_reducible rfl
                        rotate_left
                        · simp only [Act.put, List.setIfInBounds_toArray, List.set_cons_zero, List.set_cons_succ, i64_w, i32_w]
                          rfl
                        refine pure_ (i := 6) (N := some 47) (v := ?_) (a' := ?_) #[true, true, true, true, true, true, true, true, true, true, true, false, false, false, false, false, false, false] rfl rfl (any_of HT_.out (by kernel_rfl)) (fun _ _ _ h => h) (Or.inl ⟨by rfl, ?_⟩) ?_ ?_
                        rotate_left
                        · intro w'
                          go_simp
                          with_reducible rfl
                        rotate_left
                        · simp only [Act.put, List.setIfInBounds_toArray, List.set_cons_zero, List.set_cons_succ, i64_w, i32_w]
                          rfl
                        refine pure_ (i := 11) (N := some 52) (v := ?_) (a' := ?_) #[true, true, true, true, true, true, true, true, true, true, true, true, false, false, false, false, false, false] rfl rfl (any_of HT_.out (by kernel_rfl)) (fun _ _ _ h => h) (Or.inl ⟨by rfl, ?_⟩) ?_ ?_
                        rotate_left
                        · intro w'
                          go_simp
                          with_reducible rfl
                        rotate_left
                        · simp only [Act.put, List.setIfInBounds_toArray, List.set_cons_zero, List.set_cons_succ, i64_w, i32_w]
                          rfl
                        refine one_ (i := 12) (N := some 53) #[true, true, true, true, true, true, true, true, true, true, true, true, true, false, false, false, false, false] rfl rfl (one_of HT_.out (by kernel_rfl)) (by decide) (fun K hK => ?_)
                        refine goes_ Try.func11 (by kernel_rfl) rfl #[.string (((t208 ++ (⟨#[46]⟩ : ByteArray)) ++ (t203.extract 1 t203.size)) ++ (rdOf ByteArray.empty y197 (ji6)))] (by rfl) rfl rfl (by (try simp only [List.map_toArray, List.map_cons, List.map_nil]); first | done | (simp only [hji6]; rfl) | rfl | (simp only [List.length_drop, List.length_take]; rfl)) ?_
                        with_reducible refine (quant_Milli.calls k (((t208 ++ (⟨#[46]⟩ : ByteArray)) ++ (t203.extract 1 t203.size)) ++ (rdOf ByteArray.empty y197 (ji6))) t210 t211 _ A16.out).mono ?_
                        rintro e w61 ⟨rfl, hb⟩
                        have HS0_ := (hb.cell (World.block_lt_of_cell? _ _ (hHeld))).trans (hHeld)
                        refine ⟨_, rfl, ?_⟩
                        have n0_ := Aside0.mk (Kd.R_below (by (with_reducible repeat (first | apply Kd.R_alloc | apply Kd.R_drewN | apply Kd.R_drew)); exact HO199.out) hb)
                        have n1_ := Aside0.mk (Kd.R_below (by (with_reducible repeat (first | apply Kd.R_alloc | apply Kd.R_drewN | apply Kd.R_drew)); exact HO202.out) hb)
                        have n2_ := Aside0.mk (below_step (by repeat (first | (with_reducible first | exact HB.out | apply below_alloc | apply pw_below_drewN | apply below_drew1) | exact HB.out)) hb)
                        clear HO199
                        clear HO202
                        clear HB
                        have HO199 := n0_
                        have HO202 := n1_
                        have HB := n2_
                        clear n0_ n1_ n2_
                        (try clear hb)
                        (try clear hb2)
                        (try clear hk)
                        (try clear hi)
                        refine hK.out _ _ (HS0_) (fun hHeld => ?_)
                        clear hK K
                        refine norm_ (a' := ?_) ?_ ?_
                        rotate_left
                        · show Act.put _ (some 53) _ = _
                          simp only [Act.put, List.setIfInBounds_toArray, List.set_cons_zero, List.set_cons_succ, i64_w, i32_w]
                          rfl
                        refine pure_ (i := 13) (N := some 40) (v := ?_) (a' := ?_) #[true, true, true, true, true, true, true, true, true, true, true, true, true, true, false, false, false, false] rfl rfl (any_of HT_.out (by kernel_rfl)) (fun _ _ _ h => h) (Or.inl ⟨by rfl, ?_⟩) ?_ ?_
                        rotate_left
                        · intro w'
                          go_simp
                          with_reducible rfl
                        rotate_left
                        · simp only [Act.put, List.setIfInBounds_toArray, List.set_cons_zero, List.set_cons_succ, i64_w, i32_w]
                          rfl
                        refine pure_ (i := 14) (N := some 54) (v := ?_) (a' := ?_) #[true, true, true, true, true, true, true, true, true, true, true, true, true, true, true, false, false, false] rfl rfl (any_of HT_.out (by kernel_rfl)) (fun _ _ _ h => h) (Or.inl ⟨by rfl, ?_⟩) ?_ ?_
                        rotate_left
                        · intro w'
                          go_simp
                          with_reducible rfl
                        rotate_left
                        · simp only [Act.put, List.setIfInBounds_toArray, List.set_cons_zero, List.set_cons_succ, i64_w, i32_w]
                          rfl
                        refine pure_ (i := 15) (N := some 55) (v := ?_) (a' := ?_) #[true, true, true, true, true, true, true, true, true, true, true, true, true, true, true, true, false, false] rfl rfl (any_of HT_.out (by kernel_rfl)) (fun _ _ _ h => h) (Or.inl ⟨by rfl, ?_⟩) ?_ ?_
                        rotate_left
                        · intro w'
                          go_simp
                          with_reducible rfl
                        rotate_left
                        · simp only [Act.put, List.setIfInBounds_toArray, List.set_cons_zero, List.set_cons_succ, i64_w, i32_w]
                          rfl
                        refine pure_ (i := 16) (N := some 14) (v := ?_) (a' := ?_) #[true, true, true, true, true, true, true, true, true, true, true, true, true, true, true, true, true, false] rfl rfl (any_of HT_.out (by kernel_rfl)) (fun _ _ _ h => h) (Or.inl ⟨by rfl, ?_⟩) ?_ ?_
                        rotate_left
                        · intro w'
                          go_simp
                          with_reducible rfl
                        rotate_left
                        · simp only [Act.put, List.setIfInBounds_toArray, List.set_cons_zero, List.set_cons_succ, i64_w, i32_w]
                          rfl
                        refine pure_ (i := 17) (N := some 15) (v := ?_) (a' := ?_) #[true, true, true, true, true, true, true, true, true, true, true, true, true, true, true, true, true, true] rfl rfl (any_of HT_.out (by kernel_rfl)) (fun _ _ _ h => h) (Or.inl ⟨by rfl, ?_⟩) ?_ ?_
                        rotate_left
                        · intro w'
                          go_simp
                          with_reducible rfl
                        rotate_left
                        · simp only [Act.put, List.setIfInBounds_toArray, List.set_cons_zero, List.set_cons_succ, i64_w, i32_w]
                          rfl
                        refine done_ (done_of HT_.out (by kernel_rfl)) ?_
                        obtain ⟨Ao62, co62, eo62⟩ := Kd.R_slice HO202.out
                        subst eo62
                        have p212 : 0 ≤ ((ji6) : Int) := of_decide_eq_true (by first | (with_reducible assumption) | assumption)
                        have q212 : (ji6) < (y200.length : Int) := of_decide_eq_true (by first | (with_reducible assumption) | assumption)
                        obtain ⟨ad212, e212, hx212_0⟩ := Kd.at_int (Kd.R_reads' HO202.out).2.2 (ji6) p212 q212
                        cases e212
                        replace p212 := eq_true p212
                        replace q212 := eq_true q212
                        (try (have qz212 := q212; rw [ByteArray.size_extract, Nat.min_self] at qz212))
                        have p213 : 0 ≤ ((ji6) : Int) := of_decide_eq_true (by first | (with_reducible assumption) | assumption)
                        have q213 : (ji6) < (y200.length : Int) := of_decide_eq_true (by first | (with_reducible assumption) | assumption)
                        obtain ⟨ad213, e213, hx213_0⟩ := Kd.at_int (Kd.R_reads' HO202.out).2.2 (ji6) p213 q213
                        obtain rfl : ad212 = ad213 := (by injection e213)
                        replace p213 := eq_true p213
                        replace q213 := eq_true q213
                        (try (have qz213 := q213; rw [ByteArray.size_extract, Nat.min_self] at qz213))
                        try go_wp2
                        go_ret
                        exact ⟨by first | rfl | (simp [errW_none, errW_some] <;> rfl) | (simp only [← hji6]; first | rfl | (simp [errW_none, errW_some] <;> rfl)) | (simp [*, errW_none, errW_some] <;> rfl), by repeat (first | (with_reducible first | exact HB.out | apply below_alloc | apply pw_below_drewN | apply below_drew1) | exact HB.out)⟩
                    · rw [if_neg c19] at H
                      have c19b0 : (t207 == 0) = false := beq_eq_false_iff_ne.mpr c19
                      have c19b1 : (t207 != 0) = true := bne_iff_ne.mpr c19
                      obtain rfl := Option.some.inj H
                      go_enter Try.func6, Try.ntmps6
                      try go_wp2_with (first | ((with_reducible refine gate_dst (N := 17) rfl ?_); refine Kd.R_lit Kd.string _ 9 ?hg (N := 17) ?hd (xs := ([(⟨#[]⟩ : ByteArray), (⟨#[107]⟩ : ByteArray), (⟨#[77]⟩ : ByteArray), (⟨#[75, 105]⟩ : ByteArray), (⟨#[77, 105]⟩ : ByteArray)] : List ByteArray)) (inner := [.string (⟨#[]⟩ : ByteArray), .string (⟨#[107]⟩ : ByteArray), .string (⟨#[77]⟩ : ByteArray), .string (⟨#[75, 105]⟩ : ByteArray), .string (⟨#[77, 105]⟩ : ByteArray)]) (ok := fun _ => True) (okp := fun _ => True) ?hr ?hp (fun _ hk => hk) trivial (Below.refl _ _) (Nat.le_refl _) (by simp) ?_; (case hd => rfl); (case hg => rfl); (case hr => first | (go_simp; done) | (go_simp; rfl)); (case hp => exact (Reps.one (show Kd.M Kd.string _ _ _ (⟨#[]⟩ : ByteArray) [.string (⟨#[]⟩ : ByteArray)] from rfl) (Reps.one (show Kd.M Kd.string _ _ _ (⟨#[107]⟩ : ByteArray) [.string (⟨#[107]⟩ : ByteArray)] from rfl) (Reps.one (show Kd.M Kd.string _ _ _ (⟨#[77]⟩ : ByteArray) [.string (⟨#[77]⟩ : ByteArray)] from rfl) (Reps.one (show Kd.M Kd.string _ _ _ (⟨#[75, 105]⟩ : ByteArray) [.string (⟨#[75, 105]⟩ : ByteArray)] from rfl) (Reps.one (show Kd.M Kd.string _ _ _ (⟨#[77, 105]⟩ : ByteArray) [.string (⟨#[77, 105]⟩ : ByteArray)] from rfl) (Reps.none _ _))))))); intro v198 w63 ho64 hb hg_ hnew_; clear hg_ hnew_; (first | rw [← Ny197.out] at ho64 | (simp only [Int.reduceToNat] at ho64; rw [← Ny197.out] at ho64)); have n0_ := Aside0.mk (Kd.R_lower ho64 (below_size (by repeat (first | (with_reducible first | exact HB.out | apply below_alloc | apply pw_below_drewN | apply below_drew1) | exact HB.out)))); have n1_ := Aside0.mk (below_step (by repeat (first | (with_reducible first | exact HB.out | apply below_alloc | apply pw_below_drewN | apply below_drew1) | exact HB.out)) hb); clear HB; have HO199 := n0_; have HB := n1_; clear n0_ n1_; clear hb ho64) | ((with_reducible refine gate_dst (N := 18) rfl ?_); refine Kd.R_lit (Kd.int .i64) _ 3 ?hg (N := 18) ?hd (xs := ([1, 1000, 1000000, 1024, 1048576] : List Int)) (inner := [.int .i64 1, .int .i64 1000, .int .i64 1000000, .int .i64 1024, .int .i64 1048576]) (ok := fun _ => True) (okp := fun _ => True) ?hr ?hp (fun _ hk => hk) trivial (Below.refl _ _) (Nat.le_refl _) (by simp) ?_; (case hd => rfl); (case hg => rfl); (case hr => first | (go_simp; done) | (go_simp; rfl)); (case hp => exact (Reps.one (show Kd.M (Kd.int .i64) _ _ _ 1 [.int .i64 1] from rfl) (Reps.one (show Kd.M (Kd.int .i64) _ _ _ 1000 [.int .i64 1000] from rfl) (Reps.one (show Kd.M (Kd.int .i64) _ _ _ 1000000 [.int .i64 1000000] from rfl) (Reps.one (show Kd.M (Kd.int .i64) _ _ _ 1024 [.int .i64 1024] from rfl) (Reps.one (show Kd.M (Kd.int .i64) _ _ _ 1048576 [.int .i64 1048576] from rfl) (Reps.none _ _))))))); intro v201 w65 ho66 hb hg_ hnew_; clear hg_ hnew_; (first | rw [← Ny200.out] at ho66 | (simp only [Int.reduceToNat] at ho66; rw [← Ny200.out] at ho66)); have n0_ := Aside0.mk (Kd.R_below (by (with_reducible repeat (first | apply Kd.R_alloc | apply Kd.R_drewN | apply Kd.R_drew)); exact HO199.out) hb); have n1_ := Aside0.mk (Kd.R_lower ho66 (below_size (by repeat (first | (with_reducible first | exact HB.out | apply below_alloc | apply pw_below_drewN | apply below_drew1) | exact HB.out)))); have n2_ := Aside0.mk (below_step (by repeat (first | (with_reducible first | exact HB.out | apply below_alloc | apply pw_below_drewN | apply below_drew1) | exact HB.out)) hb); clear HO199; clear HB; have HO199 := n0_; have HO202 := n1_; have HB := n2_; clear n0_ n1_ n2_; clear hb ho66) | ((first | ((with_reducible refine gate_callee (f := 19) rfl ?_); refine goesL_ (some 27) rfl rfl Try.func19 (by kernel_rfl) rfl #[.int .i64 (wrap64 (1000 + (Int.tmod (wrap64 (a1)) 1000)))] rfl (by (try simp only [List.map_toArray, List.map_cons, List.map_nil]); first | done | rfl | (simp only [List.length_drop, List.length_take]; rfl)) ?_; (with_reducible refine (triremeref01_Digits.calls k (wrap64 (1000 + (Int.tmod (wrap64 (a1)) 1000))) t203 _ A4.out).mono ?_); rintro e w67 ⟨rfl, hb⟩; refine ⟨_, rfl, ?_⟩) | (go_at_call 19; (with_reducible refine (triremeref01_Digits.calls k (wrap64 (1000 + (Int.tmod (wrap64 (a1)) 1000))) t203 _ A4.out).mono ?_); rintro e w67 ⟨rfl, hb⟩)); have n0_ := Aside0.mk (Kd.R_below (by (with_reducible repeat (first | apply Kd.R_alloc | apply Kd.R_drewN | apply Kd.R_drew)); exact HO199.out) hb); have n1_ := Aside0.mk (Kd.R_below (by (with_reducible repeat (first | apply Kd.R_alloc | apply Kd.R_drewN | apply Kd.R_drew)); exact HO202.out) hb); have n2_ := Aside0.mk (below_step (by repeat (first | (with_reducible first | exact HB.out | apply below_alloc | apply pw_below_drewN | apply below_drew1) | exact HB.out)) hb); clear HO199; clear HO202; clear HB; have HO199 := n0_; have HO202 := n1_; have HB := n2_; clear n0_ n1_ n2_; (try clear hb); (try clear hb2); (try clear hk); (try clear hi)))
                      have n0_ := Aside0.mk (Kd.R_drew HO199.out)
                      have n1_ := Aside0.mk (Kd.R_drew HO202.out)
                      have n2_ := Aside0.mk (below_drew1 HB.out)
                      clear HO199
                      clear HO202
                      clear HB
                      have HO199 := n0_
                      have HO202 := n1_
                      have HB := n2_
                      clear n0_ n1_ n2_
                      obtain ⟨Ao69, co69, eo69⟩ := Kd.R_slice HO199.out
                      (first | subst eo69 | (injection eo69 with f1_ f2_ f3_; have f4_ := f1_.symm; have f5_ := f3_.symm; clear f1_ f2_ f3_; subst f4_; subst f5_))
                      have p205 : 0 ≤ ((ji6) : Int) := of_decide_eq_true (by first | (with_reducible assumption) | assumption)
                      have q205 : (ji6) < (y197.length : Int) := of_decide_eq_true (by first | (with_reducible assumption) | assumption)
                      obtain ⟨ad205, e205, hx205_0⟩ := Kd.at_string (Kd.R_reads' HO199.out).2.2 (ji6) p205 q205
                      cases e205
                      replace p205 := eq_true p205
                      replace q205 := eq_true q205
                      (try (have qz205 := q205; rw [ByteArray.size_extract, Nat.min_self] at qz205))
                      refine start_ (n := 14) (S := fun w' => w'.cell? (ad205.add ((ji6)).toNat) = some (.string (rdOf ByteArray.empty y197 (ji6)))) (ds := []) #[false, false, false, false, false, false, false, false, false, false, false, false, false, false] (by kernel_rfl) rfl rfl (hx205_0) (fun hHeld => ?_); refine with_tabW triremelaw03_QuantUnits.tab6 triremelaw03_QuantUnits.bits6 (fun HT_ HW_ => ?_)
                      generalize w67.drew = w68 at HO199 HO202 HB hx205_0 hHeld ⊢
                      refine pure_ (i := 0) (N := some 29) (v := ?_) (a' := ?_) #[true, false, false, false, false, false, false, false, false, false, false, false, false, false] rfl rfl (any_of HT_.out (by kernel_rfl)) (fun _ _ _ h => h) (Or.inl ⟨by rfl, ?_⟩) ?_ ?_
                      rotate_left
                      · intro w'
                        go_simp
                        with_reducible rfl
                      rotate_left
                      · simp only [Act.put, List.setIfInBounds_toArray, List.set_cons_zero, List.set_cons_succ, i64_w, i32_w]
                        rfl
                      refine pure_ (i := 1) (N := some 30) (v := ?_) (a' := ?_) #[true, true, false, false, false, false, false, false, false, false, false, false, false, false] rfl rfl (any_of HT_.out (by kernel_rfl)) (fun _ _ _ h => h) (Or.inl ⟨by rfl, ?_⟩) ?_ ?_
                      rotate_left
                      · intro w'
                        go_simp
                        with_reducible rfl
                      rotate_left
                      · simp only [Act.put, List.setIfInBounds_toArray, List.set_cons_zero, List.set_cons_succ, i64_w, i32_w]
                        rfl
                      refine pure_ (i := 3) (N := some 32) (v := ?_) (a' := ?_) #[true, true, false, true, false, false, false, false, false, false, false, false, false, false] rfl rfl (any_of HT_.out (by kernel_rfl)) (fun _ _ _ h => h) (Or.inl ⟨by rfl, ?_⟩) ?_ ?_
                      rotate_left
                      · intro w'
                        go_simp
                        with_reducible rfl
                      rotate_left
                      · simp only [Act.put, List.setIfInBounds_toArray, List.set_cons_zero, List.set_cons_succ, i64_w, i32_w]
                        rfl
                      refine pure_ (i := 4) (N := some 33) (v := ?_) (a' := ?_) #[true, true, false, true, true, false, false, false, false, false, false, false, false, false] rfl rfl (any_of HT_.out (by kernel_rfl)) (fun _ _ _ h => h) (Or.inl ⟨by rfl, ?_⟩) ?_ ?_
                      rotate_left
                      · intro w'
                        go_simp
                        with_reducible rfl
                      rotate_left
                      · simp only [Act.put, List.setIfInBounds_toArray, List.set_cons_zero, List.set_cons_succ, i64_w, i32_w]
                        rfl
                      refine pure_ (i := 5) (N := some 34) (v := ?_) (a' := ?_) #[true, true, false, true, true, true, false, false, false, false, false, false, false, false] rfl rfl (any_of HT_.out (by kernel_rfl)) (fun _ _ _ h => h) (Or.inl ⟨by rfl, ?_⟩) ?_ ?_
                      rotate_left
                      · intro w'
                        go_simp
                        with_reducible rfl
                      rotate_left
                      · simp only [Act.put, List.setIfInBounds_toArray, List.set_cons_zero, List.set_cons_succ, i64_w, i32_w]
                        rfl
                      refine take_ (i := 6) (N := some 35) (v := ?_) (a' := ?_) #[true, true, false, true, true, true, true, false, false, false, false, false, false, false] rfl rfl (take_ofW HT_.out HW_.out (by kernel_rfl)) (fun _ _ _ h => h) (Or.inl ⟨by rfl, ?_⟩) hHeld ?_ ?_
                      rotate_left
                      · intro w' s0
                        go_simp
                        with_reducible rfl
                      rotate_left
                      · simp only [Act.put, List.setIfInBounds_toArray, List.set_cons_zero, List.set_cons_succ, i64_w, i32_w]
                        rfl
                      refine one_ (i := 2) (N := some 31) #[true, true, true, true, true, true, true, false, false, false, false, false, false, false] rfl rfl (one_of HT_.out (by kernel_rfl)) (by decide) (fun K hK => ?_)
                      refine goes_ Try.func19 (by kernel_rfl) rfl #[.int .i64 (wrap64 (a0))] (by rfl) rfl rfl (by (try simp only [List.map_toArray, List.map_cons, List.map_nil]); first | done | rfl | (simp only [List.length_drop, List.length_take]; rfl)) ?_
                      with_reducible refine (triremeref01_Digits.calls k (wrap64 (a0)) t204 _ A5.out).mono ?_
                      rintro e w70 ⟨rfl, hb⟩
                      have HS0_ := (hb.cell (World.block_lt_of_cell? _ _ (hHeld))).trans (hHeld)
                      refine ⟨_, rfl, ?_⟩
                      have n0_ := Aside0.mk (Kd.R_below (by (with_reducible repeat (first | apply Kd.R_alloc | apply Kd.R_drewN | apply Kd.R_drew)); exact HO199.out) hb)
                      have n1_ := Aside0.mk (Kd.R_below (by (with_reducible repeat (first | apply Kd.R_alloc | apply Kd.R_drewN | apply Kd.R_drew)); exact HO202.out) hb)
                      have n2_ := Aside0.mk (below_step (by repeat (first | (with_reducible first | exact HB.out | apply below_alloc | apply pw_below_drewN | apply below_drew1) | exact HB.out)) hb)
                      clear HO199
                      clear HO202
                      clear HB
                      have HO199 := n0_
                      have HO202 := n1_
                      have HB := n2_
                      clear n0_ n1_ n2_
                      (try clear hb)
                      (try clear hb2)
                      (try clear hk)
                      (try clear hi)
                      refine hK.out _ _ (HS0_) (fun hHeld => ?_)
                      clear hK K
                      refine norm_ (a' := ?_) ?_ ?_
                      rotate_left
                      · show Act.put _ (some 31) _ = _
                        simp only [Act.put, List.setIfInBounds_toArray, List.set_cons_zero, List.set_cons_succ, i64_w, i32_w]
                        rfl
                      refine pure_ (i := 7) (N := some 36) (v := ?_) (a' := ?_) #[true, true, true, true, true, true, true, true, false, false, false, false, false, false] rfl rfl (any_of HT_.out (by kernel_rfl)) (fun _ _ _ h => h) (Or.inl ⟨by rfl, ?_⟩) ?_ ?_
                      rotate_left
                      · intro w'
                        go_simp
                        with_reducible rfl
                      rotate_left
                      · simp only [Act.put, List.setIfInBounds_toArray, List.set_cons_zero, List.set_cons_succ, i64_w, i32_w]
                        rfl
                      refine one_ (i := 8) (N := some 37) #[true, true, true, true, true, true, true, true, true, false, false, false, false, false] rfl rfl (one_of HT_.out (by kernel_rfl)) (by decide) (fun K hK => ?_)
                      refine goes_ Try.func9 (by kernel_rfl) rfl #[.string (t204 ++ (rdOf ByteArray.empty y197 (ji6)))] (by rfl) rfl rfl (by (try simp only [List.map_toArray, List.map_cons, List.map_nil]); first | done | (simp only [hji6]; rfl) | rfl | (simp only [List.length_drop, List.length_take]; rfl)) ?_
                      with_reducible refine (quant_Parse.calls k (t204 ++ (rdOf ByteArray.empty y197 (ji6))) t206 t207 _ A10.out).mono ?_
                      rintro e w71 ⟨rfl, hb⟩
                      have HS0_ := (hb.cell (World.block_lt_of_cell? _ _ (hHeld))).trans (hHeld)
                      refine ⟨_, rfl, ?_⟩
                      have n0_ := Aside0.mk (Kd.R_below (by (with_reducible repeat (first | apply Kd.R_alloc | apply Kd.R_drewN | apply Kd.R_drew)); exact HO199.out) hb)
                      have n1_ := Aside0.mk (Kd.R_below (by (with_reducible repeat (first | apply Kd.R_alloc | apply Kd.R_drewN | apply Kd.R_drew)); exact HO202.out) hb)
                      have n2_ := Aside0.mk (below_step (by repeat (first | (with_reducible first | exact HB.out | apply below_alloc | apply pw_below_drewN | apply below_drew1) | exact HB.out)) hb)
                      clear HO199
                      clear HO202
                      clear HB
                      have HO199 := n0_
                      have HO202 := n1_
                      have HB := n2_
                      clear n0_ n1_ n2_
                      (try clear hb)
                      (try clear hb2)
                      (try clear hk)
                      (try clear hi)
                      refine hK.out _ _ (HS0_) (fun hHeld => ?_)
                      clear hK K
                      refine norm_ (a' := ?_) ?_ ?_
                      rotate_left
                      · show Act.put _ (some 37) _ = _
                        simp only [Act.put, List.setIfInBounds_toArray, List.set_cons_zero, List.set_cons_succ, i64_w, i32_w]
                        rfl
                      refine pure_ (i := 9) (N := some 28) (v := ?_) (a' := ?_) #[true, true, true, true, true, true, true, true, true, true, false, false, false, false] rfl rfl (any_of HT_.out (by kernel_rfl)) (fun _ _ _ h => h) (Or.inl ⟨by rfl, ?_⟩) ?_ ?_
                      rotate_left
                      · intro w'
                        go_simp
                        with_reducible rfl
                      rotate_left
                      · simp only [Act.put, List.setIfInBounds_toArray, List.set_cons_zero, List.set_cons_succ, i64_w, i32_w]
                        rfl
                      refine pure_ (i := 10) (N := some 38) (v := ?_) (a' := ?_) #[true, true, true, true, true, true, true, true, true, true, true, false, false, false] rfl rfl (any_of HT_.out (by kernel_rfl)) (fun _ _ _ h => h) (Or.inl ⟨by rfl, ?_⟩) ?_ ?_
                      rotate_left
                      · intro w'
                        go_simp
                        with_reducible rfl
                      rotate_left
                      · simp only [Act.put, List.setIfInBounds_toArray, List.set_cons_zero, List.set_cons_succ, i64_w, i32_w]
                        rfl
                      refine pure_ (i := 11) (N := some 39) (v := ?_) (a' := ?_) #[true, true, true, true, true, true, true, true, true, true, true, true, false, false] rfl rfl (any_of HT_.out (by kernel_rfl)) (fun _ _ _ h => h) (Or.inl ⟨by rfl, ?_⟩) ?_ ?_
                      rotate_left
                      · intro w'
                        go_simp
                        with_reducible rfl
                      rotate_left
                      · simp only [Act.put, List.setIfInBounds_toArray, List.set_cons_zero, List.set_cons_succ, i64_w, i32_w]
                        rfl
                      refine pure_ (i := 12) (N := some 12) (v := ?_) (a' := ?_) #[true, true, true, true, true, true, true, true, true, true, true, true, true, false] rfl rfl (any_of HT_.out (by kernel_rfl)) (fun _ _ _ h => h) (Or.inl ⟨by rfl, ?_⟩) ?_ ?_
                      rotate_left
                      · intro w'
                        go_simp
                        with_reducible rfl
                      rotate_left
                      · simp only [Act.put, List.setIfInBounds_toArray, List.set_cons_zero, List.set_cons_succ, i64_w, i32_w]
                        rfl
                      refine pure_ (i := 13) (N := some 13) (v := ?_) (a' := ?_) #[true, true, true, true, true, true, true, true, true, true, true, true, true, true] rfl rfl (any_of HT_.out (by kernel_rfl)) (fun _ _ _ h => h) (Or.inl ⟨by rfl, ?_⟩) ?_ ?_
                      rotate_left
                      · intro w'
                        go_simp
                        with_reducible rfl
                      rotate_left
                      · simp only [Act.put, List.setIfInBounds_toArray, List.set_cons_zero, List.set_cons_succ, i64_w, i32_w]
                        rfl
                      refine done_ (done_of HT_.out (by kernel_rfl)) ?_
                      try go_wp2
                      have n0_ := Aside0.mk (Kd.R_drew HO199.out)
                      have n1_ := Aside0.mk (Kd.R_drew HO202.out)
                      have n2_ := Aside0.mk (below_drew1 HB.out)
                      clear HO199
                      clear HO202
                      clear HB
                      have HO199 := n0_
                      have HO202 := n1_
                      have HB := n2_
                      clear n0_ n1_ n2_
                      have p209 : 0 ≤ ((ji6) : Int) := of_decide_eq_true (by first | (with_reducible assumption) | assumption)
                      have q209 : (ji6) < (y197.length : Int) := of_decide_eq_true (by first | (with_reducible assumption) | assumption)
                      obtain ⟨ad209, e209, hx209_0⟩ := Kd.at_string (Kd.R_reads' HO199.out).2.2 (ji6) p209 q209
                      obtain rfl : ad205 = ad209 := (by injection e209)
                      replace p209 := eq_true p209
                      replace q209 := eq_true q209
                      (try (have qz209 := q209; rw [ByteArray.size_extract, Nat.min_self] at qz209))
                      refine start_ (n := 18) (S := fun w' => w'.cell? (ad205.add ((ji6)).toNat) = some (.string (rdOf ByteArray.empty y197 (ji6)))) (ds := []) #[false, false, false, false, false, false, false, false, false, false, false, false, false, false, false, false, false, false] (by kernel_rfl) rfl rfl (hx209_0) (fun hHeld => ?_); refine with_tabW triremelaw03_QuantUnits.tab7 triremelaw03_QuantUnits.bits7 (fun HT_ HW_ => ?_)
                      generalize w71.drew = w72 at HO199 HO202 HB hx209_0 hHeld ⊢
                      refine pure_ (i := 0) (N := some 41) (v := ?_) (a' := ?_) #[true, false, false, false, false, false, false, false, false, false, false, false, false, false, false, false, false, false] rfl rfl (any_of HT_.out (by kernel_rfl)) (fun _ _ _ h => h) (Or.inl ⟨by rfl, ?_⟩) ?_ ?_
                      rotate_left
                      · intro w'
                        go_simp
                        with_reducible rfl
                      rotate_left
                      · simp only [Act.put, List.setIfInBounds_toArray, List.set_cons_zero, List.set_cons_succ, i64_w, i32_w]
                        rfl
                      refine pure_ (i := 1) (N := some 42) (v := ?_) (a' := ?_) #[true, true, false, false, false, false, false, false, false, false, false, false, false, false, false, false, false, false] rfl rfl (any_of HT_.out (by kernel_rfl)) (fun _ _ _ h => h) (Or.inl ⟨by rfl, ?_⟩) ?_ ?_
                      rotate_left
                      · intro w'
                        go_simp
                        with_reducible rfl
                      rotate_left
                      · simp only [Act.put, List.setIfInBounds_toArray, List.set_cons_zero, List.set_cons_succ, i64_w, i32_w]
                        rfl
                      refine pure_ (i := 4) (N := some 45) (v := ?_) (a' := ?_) #[true, true, false, false, true, false, false, false, false, false, false, false, false, false, false, false, false, false] rfl rfl (any_of HT_.out (by kernel_rfl)) (fun _ _ _ h => h) (Or.inl ⟨by rfl, ?_⟩) ?_ ?_
                      rotate_left
                      · intro w'
                        go_simp
                        with_reducible rfl
                      rotate_left
                      · simp only [Act.put, List.setIfInBounds_toArray, List.set_cons_zero, List.set_cons_succ, i64_w, i32_w]
                        rfl
                      refine pure_ (i := 5) (N := some 46) (v := ?_) (a' := ?_) #[true, true, false, false, true, true, false, false, false, false, false, false, false, false, false, false, false, false] rfl rfl (any_of HT_.out (by kernel_rfl)) (fun _ _ _ h => h) (Or.inl ⟨by rfl, ?_⟩) ?_ ?_
                      rotate_left
                      · intro w'
                        go_simp
                        with_reducible rfl
                      rotate_left
                      · simp only [Act.put, List.setIfInBounds_toArray, List.set_cons_zero, List.set_cons_succ, i64_w, i32_w]
                        rfl
                      refine pure_ (i := 7) (N := some 48) (v := ?_) (a' := ?_) #[true, true, false, false, true, true, false, true, false, false, false, false, false, false, false, false, false, false] rfl rfl (any_of HT_.out (by kernel_rfl)) (fun _ _ _ h => h) (Or.inl ⟨by rfl, ?_⟩) ?_ ?_
                      rotate_left
                      · intro w'
                        go_simp
                        with_reducible rfl
                      rotate_left
                      · simp only [Act.put, List.setIfInBounds_toArray, List.set_cons_zero, List.set_cons_succ, i64_w, i32_w]
                        rfl
                      refine pure_ (i := 8) (N := some 49) (v := ?_) (a' := ?_) #[true, true, false, false, true, true, false, true, true, false, false, false, false, false, false, false, false, false] rfl rfl (any_of HT_.out (by kernel_rfl)) (fun _ _ _ h => h) (Or.inl ⟨by rfl, ?_⟩) ?_ ?_
                      rotate_left
                      · intro w'
                        go_simp
                        with_reducible rfl
                      rotate_left
                      · simp only [Act.put, List.setIfInBounds_toArray, List.set_cons_zero, List.set_cons_succ, i64_w, i32_w]
                        rfl
                      refine pure_ (i := 9) (N := some 50) (v := ?_) (a' := ?_) #[true, true, false, false, true, true, false, true, true, true, false, false, false, false, false, false, false, false] rfl rfl (any_of HT_.out (by kernel_rfl)) (fun _ _ _ h => h) (Or.inl ⟨by rfl, ?_⟩) ?_ ?_
                      rotate_left
                      · intro w'
                        go_simp
                        with_reducible rfl
                      rotate_left
                      · simp only [Act.put, List.setIfInBounds_toArray, List.set_cons_zero, List.set_cons_succ, i64_w, i32_w]
                        rfl
                      refine take_ (i := 10) (N := some 51) (v := ?_) (a' := ?_) #[true, true, false, false, true, true, false, true, true, true, true, false, false, false, false, false, false, false] rfl rfl (take_ofW HT_.out HW_.out (by kernel_rfl)) (fun _ _ _ h => h) (Or.inl ⟨by rfl, ?_⟩) hHeld ?_ ?_
                      rotate_left
                      · intro w' s0
                        go_simp
                        with_reducible rfl
                      rotate_left
                      · simp only [Act.put, List.setIfInBounds_toArray, List.set_cons_zero, List.set_cons_succ, i64_w, i32_w]
                        rfl
                      refine one_ (i := 2) (N := some 43) #[true, true, true, false, true, true, false, true, true, true, true, false, false, false, false, false, false, false] rfl rfl (one_of HT_.out (by kernel_rfl)) (by decide) (fun K hK => ?_)
                      refine goes_ Try.func19 (by kernel_rfl) rfl #[.int .i64 (wrap64 (a0))] (by rfl) rfl rfl (by (try simp only [List.map_toArray, List.map_cons, List.map_nil]); first | done | rfl | (simp only [List.length_drop, List.length_take]; rfl)) ?_
                      with_reducible refine (triremeref01_Digits.calls k (wrap64 (a0)) t208 _ A11.out).mono ?_
                      rintro e w73 ⟨rfl, hb⟩
                      have HS0_ := (hb.cell (World.block_lt_of_cell? _ _ (hHeld))).trans (hHeld)
                      refine ⟨_, rfl, ?_⟩
                      have n0_ := Aside0.mk (Kd.R_below (by (with_reducible repeat (first | apply Kd.R_alloc | apply Kd.R_drewN | apply Kd.R_drew)); exact HO199.out) hb)
                      have n1_ := Aside0.mk (Kd.R_below (by (with_reducible repeat (first | apply Kd.R_alloc | apply Kd.R_drewN | apply Kd.R_drew)); exact HO202.out) hb)
                      have n2_ := Aside0.mk (below_step (by repeat (first | (with_reducible first | exact HB.out | apply below_alloc | apply pw_below_drewN | apply below_drew1) | exact HB.out)) hb)
                      clear HO199
                      clear HO202
                      clear HB
                      have HO199 := n0_
                      have HO202 := n1_
                      have HB := n2_
                      clear n0_ n1_ n2_
                      (try clear hb)
                      (try clear hb2)
                      (try clear hk)
                      (try clear hi)
                      refine hK.out _ _ (HS0_) (fun hHeld => ?_)
                      clear hK K
                      refine norm_ (a' := ?_) ?_ ?_
                      rotate_left
                      · show Act.put _ (some 43) _ = _
                        simp only [Act.put, List.setIfInBounds_toArray, List.set_cons_zero, List.set_cons_succ, i64_w, i32_w]
                        rfl
                      refine pure_ (i := 3) (N := some 44) (v := ?_) (a' := ?_) #[true, true, true, true, true, true, false, true, true, true, true, false, false, false, false, false, false, false] rfl rfl (any_of HT_.out (by kernel_rfl)) (fun _ _ _ h => h) (Or.inl ⟨by rfl, ?_⟩) ?_ ?_
                      rotate_left
                      · intro w'
                        go_simp
                        with_reducible rfl
                      rotate_left
                      · simp only [Act.put, List.setIfInBounds_toArray, List.set_cons_zero, List.set_cons_succ, i64_w, i32_w]
                        rfl
                      refine pure_ (i := 6) (N := some 47) (v := ?_) (a' := ?_) #[true, true, true, true, true, true, true, true, true, true, true, false, false, false, false, false, false, false] rfl rfl (any_of HT_.out (by kernel_rfl)) (fun _ _ _ h => h) (Or.inl ⟨by rfl, ?_⟩) ?_ ?_
                      rotate_left
                      · intro w'
                        go_simp
                        with_reducible rfl
                      rotate_left
                      · simp only [Act.put, List.setIfInBounds_toArray, List.set_cons_zero, List.set_cons_succ, i64_w, i32_w]
                        rfl
                      refine pure_ (i := 11) (N := some 52) (v := ?_) (a' := ?_) #[true, true, true, true, true, true, true, true, true, true, true, true, false, false, false, false, false, false] rfl rfl (any_of HT_.out (by kernel_rfl)) (fun _ _ _ h => h) (Or.inl ⟨by rfl, ?_⟩) ?_ ?_
                      rotate_left
                      · intro w'
                        go_simp
                        with_reducible rfl
                      rotate_left
                      · simp only [Act.put, List.setIfInBounds_toArray, List.set_cons_zero, List.set_cons_succ, i64_w, i32_w]
                        rfl
                      refine one_ (i := 12) (N := some 53) #[true, true, true, true, true, true, true, true, true, true, true, true, true, false, false, false, false, false] rfl rfl (one_of HT_.out (by kernel_rfl)) (by decide) (fun K hK => ?_)
                      refine goes_ Try.func11 (by kernel_rfl) rfl #[.string (((t208 ++ (⟨#[46]⟩ : ByteArray)) ++ (t203.extract 1 t203.size)) ++ (rdOf ByteArray.empty y197 (ji6)))] (by rfl) rfl rfl (by (try simp only [List.map_toArray, List.map_cons, List.map_nil]); first | done | (simp only [hji6]; rfl) | rfl | (simp only [List.length_drop, List.length_take]; rfl)) ?_
                      with_reducible refine (quant_Milli.calls k (((t208 ++ (⟨#[46]⟩ : ByteArray)) ++ (t203.extract 1 t203.size)) ++ (rdOf ByteArray.empty y197 (ji6))) t210 t211 _ A16.out).mono ?_
                      rintro e w74 ⟨rfl, hb⟩
                      have HS0_ := (hb.cell (World.block_lt_of_cell? _ _ (hHeld))).trans (hHeld)
                      refine ⟨_, rfl, ?_⟩
                      have n0_ := Aside0.mk (Kd.R_below (by (with_reducible repeat (first | apply Kd.R_alloc | apply Kd.R_drewN | apply Kd.R_drew)); exact HO199.out) hb)
                      have n1_ := Aside0.mk (Kd.R_below (by (with_reducible repeat (first | apply Kd.R_alloc | apply Kd.R_drewN | apply Kd.R_drew)); exact HO202.out) hb)
                      have n2_ := Aside0.mk (below_step (by repeat (first | (with_reducible first | exact HB.out | apply below_alloc | apply pw_below_drewN | apply below_drew1) | exact HB.out)) hb)
                      clear HO199
                      clear HO202
                      clear HB
                      have HO199 := n0_
                      have HO202 := n1_
                      have HB := n2_
                      clear n0_ n1_ n2_
                      (try clear hb)
                      (try clear hb2)
                      (try clear hk)
                      (try clear hi)
                      refine hK.out _ _ (HS0_) (fun hHeld => ?_)
                      clear hK K
                      refine norm_ (a' := ?_) ?_ ?_
                      rotate_left
                      · show Act.put _ (some 53) _ = _
                        simp only [Act.put, List.setIfInBounds_toArray, List.set_cons_zero, List.set_cons_succ, i64_w, i32_w]
                        rfl
                      refine pure_ (i := 13) (N := some 40) (v := ?_) (a' := ?_) #[true, true, true, true, true, true, true, true, true, true, true, true, true, true, false, false, false, false] rfl rfl (any_of HT_.out (by kernel_rfl)) (fun _ _ _ h => h) (Or.inl ⟨by rfl, ?_⟩) ?_ ?_
                      rotate_left
                      · intro w'
                        go_simp
                        with_reducible rfl
                      rotate_left
                      · simp only [Act.put, List.setIfInBounds_toArray, List.set_cons_zero, List.set_cons_succ, i64_w, i32_w]
                        rfl
                      refine pure_ (i := 14) (N := some 54) (v := ?_) (a' := ?_) #[true, true, true, true, true, true, true, true, true, true, true, true, true, true, true, false, false, false] rfl rfl (any_of HT_.out (by kernel_rfl)) (fun _ _ _ h => h) (Or.inl ⟨by rfl, ?_⟩) ?_ ?_
                      rotate_left
                      · intro w'
                        go_simp
                        with_reducible rfl
                      rotate_left
                      · simp only [Act.put, List.setIfInBounds_toArray, List.set_cons_zero, List.set_cons_succ, i64_w, i32_w]
                        rfl
                      refine pure_ (i := 15) (N := some 55) (v := ?_) (a' := ?_) #[true, true, true, true, true, true, true, true, true, true, true, true, true, true, true, true, false, false] rfl rfl (any_of HT_.out (by kernel_rfl)) (fun _ _ _ h => h) (Or.inl ⟨by rfl, ?_⟩) ?_ ?_
                      rotate_left
                      · intro w'
                        go_simp
                        with_reducible rfl
                      rotate_left
                      · simp only [Act.put, List.setIfInBounds_toArray, List.set_cons_zero, List.set_cons_succ, i64_w, i32_w]
                        rfl
                      refine pure_ (i := 16) (N := some 14) (v := ?_) (a' := ?_) #[true, true, true, true, true, true, true, true, true, true, true, true, true, true, true, true, true, false] rfl rfl (any_of HT_.out (by kernel_rfl)) (fun _ _ _ h => h) (Or.inl ⟨by rfl, ?_⟩) ?_ ?_
                      rotate_left
                      · intro w'
                        go_simp
                        with_reducible rfl
                      rotate_left
                      · simp only [Act.put, List.setIfInBounds_toArray, List.set_cons_zero, List.set_cons_succ, i64_w, i32_w]
                        rfl
                      refine pure_ (i := 17) (N := some 15) (v := ?_) (a' := ?_) #[true, true, true, true, true, true, true, true, true, true, true, true, true, true, true, true, true, true] rfl rfl (any_of HT_.out (by kernel_rfl)) (fun _ _ _ h => h) (Or.inl ⟨by rfl, ?_⟩) ?_ ?_
                      rotate_left
                      · intro w'
                        go_simp
                        with_reducible rfl
                      rotate_left
                      · simp only [Act.put, List.setIfInBounds_toArray, List.set_cons_zero, List.set_cons_succ, i64_w, i32_w]
                        rfl
                      refine done_ (done_of HT_.out (by kernel_rfl)) ?_
                      obtain ⟨Ao75, co75, eo75⟩ := Kd.R_slice HO202.out
                      subst eo75
                      have p212 : 0 ≤ ((ji6) : Int) := of_decide_eq_true (by first | (with_reducible assumption) | assumption)
                      have q212 : (ji6) < (y200.length : Int) := of_decide_eq_true (by first | (with_reducible assumption) | assumption)
                      obtain ⟨ad212, e212, hx212_0⟩ := Kd.at_int (Kd.R_reads' HO202.out).2.2 (ji6) p212 q212
                      cases e212
                      replace p212 := eq_true p212
                      replace q212 := eq_true q212
                      (try (have qz212 := q212; rw [ByteArray.size_extract, Nat.min_self] at qz212))
                      have p213 : 0 ≤ ((ji6) : Int) := of_decide_eq_true (by first | (with_reducible assumption) | assumption)
                      have q213 : (ji6) < (y200.length : Int) := of_decide_eq_true (by first | (with_reducible assumption) | assumption)
                      obtain ⟨ad213, e213, hx213_0⟩ := Kd.at_int (Kd.R_reads' HO202.out).2.2 (ji6) p213 q213
                      obtain rfl : ad212 = ad213 := (by injection e213)
                      replace p213 := eq_true p213
                      replace q213 := eq_true q213
                      (try (have qz213 := q213; rw [ByteArray.size_extract, Nat.min_self] at qz213))
                      try go_wp2
                      go_ret
                      exact ⟨by first | rfl | (simp [errW_none, errW_some] <;> rfl) | (simp only [← hji6]; first | rfl | (simp [errW_none, errW_some] <;> rfl)) | (simp [*, errW_none, errW_some] <;> rfl), by repeat (first | (with_reducible first | exact HB.out | apply below_alloc | apply pw_below_drewN | apply below_drew1) | exact HB.out)⟩
                  · rw [if_neg c18] at H
                    have c18b0 : (t206 == (wrap64 ((wrap64 (a0)) * (rd y200 (ji6))))) = false := beq_eq_false_iff_ne.mpr c18
                    have c18b1 : (t206 != (wrap64 ((wrap64 (a0)) * (rd y200 (ji6))))) = true := bne_iff_ne.mpr c18
                    obtain rfl := Option.some.inj H
                    go_enter Try.func6, Try.ntmps6
                    try go_wp2_with (first | ((with_reducible refine gate_dst (N := 17) rfl ?_); refine Kd.R_lit Kd.string _ 9 ?hg (N := 17) ?hd (xs := ([(⟨#[]⟩ : ByteArray), (⟨#[107]⟩ : ByteArray), (⟨#[77]⟩ : ByteArray), (⟨#[75, 105]⟩ : ByteArray), (⟨#[77, 105]⟩ : ByteArray)] : List ByteArray)) (inner := [.string (⟨#[]⟩ : ByteArray), .string (⟨#[107]⟩ : ByteArray), .string (⟨#[77]⟩ : ByteArray), .string (⟨#[75, 105]⟩ : ByteArray), .string (⟨#[77, 105]⟩ : ByteArray)]) (ok := fun _ => True) (okp := fun _ => True) ?hr ?hp (fun _ hk => hk) trivial (Below.refl _ _) (Nat.le_refl _) (by simp) ?_; (case hd => rfl); (case hg => rfl); (case hr => first | (go_simp; done) | (go_simp; rfl)); (case hp => exact (Reps.one (show Kd.M Kd.string _ _ _ (⟨#[]⟩ : ByteArray) [.string (⟨#[]⟩ : ByteArray)] from rfl) (Reps.one (show Kd.M Kd.string _ _ _ (⟨#[107]⟩ : ByteArray) [.string (⟨#[107]⟩ : ByteArray)] from rfl) (Reps.one (show Kd.M Kd.string _ _ _ (⟨#[77]⟩ : ByteArray) [.string (⟨#[77]⟩ : ByteArray)] from rfl) (Reps.one (show Kd.M Kd.string _ _ _ (⟨#[75, 105]⟩ : ByteArray) [.string (⟨#[75, 105]⟩ : ByteArray)] from rfl) (Reps.one (show Kd.M Kd.string _ _ _ (⟨#[77, 105]⟩ : ByteArray) [.string (⟨#[77, 105]⟩ : ByteArray)] from rfl) (Reps.none _ _))))))); intro v198 w76 ho77 hb hg_ hnew_; clear hg_ hnew_; (first | rw [← Ny197.out] at ho77 | (simp only [Int.reduceToNat] at ho77; rw [← Ny197.out] at ho77)); have n0_ := Aside0.mk (Kd.R_lower ho77 (below_size (by repeat (first | (with_reducible first | exact HB.out | apply below_alloc | apply pw_below_drewN | apply below_drew1) | exact HB.out)))); have n1_ := Aside0.mk (below_step (by repeat (first | (with_reducible first | exact HB.out | apply below_alloc | apply pw_below_drewN | apply below_drew1) | exact HB.out)) hb); clear HB; have HO199 := n0_; have HB := n1_; clear n0_ n1_; clear hb ho77) | ((with_reducible refine gate_dst (N := 18) rfl ?_); refine Kd.R_lit (Kd.int .i64) _ 3 ?hg (N := 18) ?hd (xs := ([1, 1000, 1000000, 1024, 1048576] : List Int)) (inner := [.int .i64 1, .int .i64 1000, .int .i64 1000000, .int .i64 1024, .int .i64 1048576]) (ok := fun _ => True) (okp := fun _ => True) ?hr ?hp (fun _ hk => hk) trivial (Below.refl _ _) (Nat.le_refl _) (by simp) ?_; (case hd => rfl); (case hg => rfl); (case hr => first | (go_simp; done) | (go_simp; rfl)); (case hp => exact (Reps.one (show Kd.M (Kd.int .i64) _ _ _ 1 [.int .i64 1] from rfl) (Reps.one (show Kd.M (Kd.int .i64) _ _ _ 1000 [.int .i64 1000] from rfl) (Reps.one (show Kd.M (Kd.int .i64) _ _ _ 1000000 [.int .i64 1000000] from rfl) (Reps.one (show Kd.M (Kd.int .i64) _ _ _ 1024 [.int .i64 1024] from rfl) (Reps.one (show Kd.M (Kd.int .i64) _ _ _ 1048576 [.int .i64 1048576] from rfl) (Reps.none _ _))))))); intro v201 w78 ho79 hb hg_ hnew_; clear hg_ hnew_; (first | rw [← Ny200.out] at ho79 | (simp only [Int.reduceToNat] at ho79; rw [← Ny200.out] at ho79)); have n0_ := Aside0.mk (Kd.R_below (by (with_reducible repeat (first | apply Kd.R_alloc | apply Kd.R_drewN | apply Kd.R_drew)); exact HO199.out) hb); have n1_ := Aside0.mk (Kd.R_lower ho79 (below_size (by repeat (first | (with_reducible first | exact HB.out | apply below_alloc | apply pw_below_drewN | apply below_drew1) | exact HB.out)))); have n2_ := Aside0.mk (below_step (by repeat (first | (with_reducible first | exact HB.out | apply below_alloc | apply pw_below_drewN | apply below_drew1) | exact HB.out)) hb); clear HO199; clear HB; have HO199 := n0_; have HO202 := n1_; have HB := n2_; clear n0_ n1_ n2_; clear hb ho79) | ((first | ((with_reducible refine gate_callee (f := 19) rfl ?_); refine goesL_ (some 27) rfl rfl Try.func19 (by kernel_rfl) rfl #[.int .i64 (wrap64 (1000 + (Int.tmod (wrap64 (a1)) 1000)))] rfl (by (try simp only [List.map_toArray, List.map_cons, List.map_nil]); first | done | rfl | (simp only [List.length_drop, List.length_take]; rfl)) ?_; (with_reducible refine (triremeref01_Digits.calls k (wrap64 (1000 + (Int.tmod (wrap64 (a1)) 1000))) t203 _ A4.out).mono ?_); rintro e w80 ⟨rfl, hb⟩; refine ⟨_, rfl, ?_⟩) | (go_at_call 19; (with_reducible refine (triremeref01_Digits.calls k (wrap64 (1000 + (Int.tmod (wrap64 (a1)) 1000))) t203 _ A4.out).mono ?_); rintro e w80 ⟨rfl, hb⟩)); have n0_ := Aside0.mk (Kd.R_below (by (with_reducible repeat (first | apply Kd.R_alloc | apply Kd.R_drewN | apply Kd.R_drew)); exact HO199.out) hb); have n1_ := Aside0.mk (Kd.R_below (by (with_reducible repeat (first | apply Kd.R_alloc | apply Kd.R_drewN | apply Kd.R_drew)); exact HO202.out) hb); have n2_ := Aside0.mk (below_step (by repeat (first | (with_reducible first | exact HB.out | apply below_alloc | apply pw_below_drewN | apply below_drew1) | exact HB.out)) hb); clear HO199; clear HO202; clear HB; have HO199 := n0_; have HO202 := n1_; have HB := n2_; clear n0_ n1_ n2_; (try clear hb); (try clear hb2); (try clear hk); (try clear hi)))
                    have n0_ := Aside0.mk (Kd.R_drew HO199.out)
                    have n1_ := Aside0.mk (Kd.R_drew HO202.out)
                    have n2_ := Aside0.mk (below_drew1 HB.out)
                    clear HO199
                    clear HO202
                    clear HB
                    have HO199 := n0_
                    have HO202 := n1_
                    have HB := n2_
                    clear n0_ n1_ n2_
                    obtain ⟨Ao82, co82, eo82⟩ := Kd.R_slice HO199.out
                    (first | subst eo82 | (injection eo82 with f1_ f2_ f3_; have f4_ := f1_.symm; have f5_ := f3_.symm; clear f1_ f2_ f3_; subst f4_; subst f5_))
                    have p205 : 0 ≤ ((ji6) : Int) := of_decide_eq_true (by first | (with_reducible assumption) | assumption)
                    have q205 : (ji6) < (y197.length : Int) := of_decide_eq_true (by first | (with_reducible assumption) | assumption)
                    obtain ⟨ad205, e205, hx205_0⟩ := Kd.at_string (Kd.R_reads' HO199.out).2.2 (ji6) p205 q205
                    cases e205
                    replace p205 := eq_true p205
                    replace q205 := eq_true q205
                    (try (have qz205 := q205; rw [ByteArray.size_extract, Nat.min_self] at qz205))
                    refine start_ (n := 14) (S := fun w' => w'.cell? (ad205.add ((ji6)).toNat) = some (.string (rdOf ByteArray.empty y197 (ji6)))) (ds := []) #[false, false, false, false, false, false, false, false, false, false, false, false, false, false] (by kernel_rfl) rfl rfl (hx205_0) (fun hHeld => ?_); refine with_tabW triremelaw03_QuantUnits.tab6 triremelaw03_QuantUnits.bits6 (fun HT_ HW_ => ?_)
                    generalize w80.drew = w81 at HO199 HO202 HB hx205_0 hHeld ⊢
                    refine pure_ (i := 0) (N := some 29) (v := ?_) (a' := ?_) #[true, false, false, false, false, false, false, false, false, false, false, false, false, false] rfl rfl (any_of HT_.out (by kernel_rfl)) (fun _ _ _ h => h) (Or.inl ⟨by rfl, ?_⟩) ?_ ?_
                    rotate_left
                    · intro w'
                      go_simp
                      with_reducible rfl
                    rotate_left
                    · simp only [Act.put, List.setIfInBounds_toArray, List.set_cons_zero, List.set_cons_succ, i64_w, i32_w]
                      rfl
                    refine pure_ (i := 1) (N := some 30) (v := ?_) (a' := ?_) #[true, true, false, false, false, false, false, false, false, false, false, false, false, false] rfl rfl (any_of HT_.out (by kernel_rfl)) (fun _ _ _ h => h) (Or.inl ⟨by rfl, ?_⟩) ?_ ?_
                    rotate_left
                    · intro w'
                      go_simp
                      with_reducible rfl
                    rotate_left
                    · simp only [Act.put, List.setIfInBounds_toArray, List.set_cons_zero, List.set_cons_succ, i64_w, i32_w]
                      rfl
                    refine pure_ (i := 3) (N := some 32) (v := ?_) (a' := ?_) #[true, true, false, true, false, false, false, false, false, false, false, false, false, false] rfl rfl (any_of HT_.out (by kernel_rfl)) (fun _ _ _ h => h) (Or.inl ⟨by rfl, ?_⟩) ?_ ?_
                    rotate_left
                    · intro w'
                      go_simp
                      with_reducible rfl
                    rotate_left
                    · simp only [Act.put, List.setIfInBounds_toArray, List.set_cons_zero, List.set_cons_succ, i64_w, i32_w]
                      rfl
                    refine pure_ (i := 4) (N := some 33) (v := ?_) (a' := ?_) #[true, true, false, true, true, false, false, false, false, false, false, false, false, false] rfl rfl (any_of HT_.out (by kernel_rfl)) (fun _ _ _ h => h) (Or.inl ⟨by rfl, ?_⟩) ?_ ?_
                    rotate_left
                    · intro w'
                      go_simp
                      with_reducible rfl
                    rotate_left
                    · simp only [Act.put, List.setIfInBounds_toArray, List.set_cons_zero, List.set_cons_succ, i64_w, i32_w]
                      rfl
                    refine pure_ (i := 5) (N := some 34) (v := ?_) (a' := ?_) #[true, true, false, true, true, true, false, false, false, false, false, false, false, false] rfl rfl (any_of HT_.out (by kernel_rfl)) (fun _ _ _ h => h) (Or.inl ⟨by rfl, ?_⟩) ?_ ?_
                    rotate_left
                    · intro w'
                      go_simp
                      with_reducible rfl
                    rotate_left
                    · simp only [Act.put, List.setIfInBounds_toArray, List.set_cons_zero, List.set_cons_succ, i64_w, i32_w]
                      rfl
                    refine take_ (i := 6) (N := some 35) (v := ?_) (a' := ?_) #[true, true, false, true, true, true, true, false, false, false, false, false, false, false] rfl rfl (take_ofW HT_.out HW_.out (by kernel_rfl)) (fun _ _ _ h => h) (Or.inl ⟨by rfl, ?_⟩) hHeld ?_ ?_
                    rotate_left
                    · intro w' s0
                      go_simp
                      with_reducible rfl
                    rotate_left
                    · simp only [Act.put, List.setIfInBounds_toArray, List.set_cons_zero, List.set_cons_succ, i64_w, i32_w]
                      rfl
                    refine one_ (i := 2) (N := some 31) #[true, true, true, true, true, true, true, false, false, false, false, false, false, false] rfl rfl (one_of HT_.out (by kernel_rfl)) (by decide) (fun K hK => ?_)
                    refine goes_ Try.func19 (by kernel_rfl) rfl #[.int .i64 (wrap64 (a0))] (by rfl) rfl rfl (by (try simp only [List.map_toArray, List.map_cons, List.map_nil]); first | done | rfl | (simp only [List.length_drop, List.length_take]; rfl)) ?_
                    with_reducible refine (triremeref01_Digits.calls k (wrap64 (a0)) t204 _ A5.out).mono ?_
                    rintro e w83 ⟨rfl, hb⟩
                    have HS0_ := (hb.cell (World.block_lt_of_cell? _ _ (hHeld))).trans (hHeld)
                    refine ⟨_, rfl, ?_⟩
                    have n0_ := Aside0.mk (Kd.R_below (by (with_reducible repeat (first | apply Kd.R_alloc | apply Kd.R_drewN | apply Kd.R_drew)); exact HO199.out) hb)
                    have n1_ := Aside0.mk (Kd.R_below (by (with_reducible repeat (first | apply Kd.R_alloc | apply Kd.R_drewN | apply Kd.R_drew)); exact HO202.out) hb)
                    have n2_ := Aside0.mk (below_step (by repeat (first | (with_reducible first | exact HB.out | apply below_alloc | apply pw_below_drewN | apply below_drew1) | exact HB.out)) hb)
                    clear HO199
                    clear HO202
                    clear HB
                    have HO199 := n0_
                    have HO202 := n1_
                    have HB := n2_
                    clear n0_ n1_ n2_
                    (try clear hb)
                    (try clear hb2)
                    (try clear hk)
                    (try clear hi)
                    refine hK.out _ _ (HS0_) (fun hHeld => ?_)
                    clear hK K
                    refine norm_ (a' := ?_) ?_ ?_
                    rotate_left
                    · show Act.put _ (some 31) _ = _
                      simp only [Act.put, List.setIfInBounds_toArray, List.set_cons_zero, List.set_cons_succ, i64_w, i32_w]
                      rfl
                    refine pure_ (i := 7) (N := some 36) (v := ?_) (a' := ?_) #[true, true, true, true, true, true, true, true, false, false, false, false, false, false] rfl rfl (any_of HT_.out (by kernel_rfl)) (fun _ _ _ h => h) (Or.inl ⟨by rfl, ?_⟩) ?_ ?_
                    rotate_left
                    · intro w'
                      go_simp
                      with_reducible rfl
                    rotate_left
                    · simp only [Act.put, List.setIfInBounds_toArray, List.set_cons_zero, List.set_cons_succ, i64_w, i32_w]
                      rfl
                    refine one_ (i := 8) (N := some 37) #[true, true, true, true, true, true, true, true, true, false, false, false, false, false] rfl rfl (one_of HT_.out (by kernel_rfl)) (by decide) (fun K hK => ?_)
                    refine goes_ Try.func9 (by kernel_rfl) rfl #[.string (t204 ++ (rdOf ByteArray.empty y197 (ji6)))] (by rfl) rfl rfl (by (try simp only [List.map_toArray, List.map_cons, List.map_nil]); first | done | (simp only [hji6]; rfl) | rfl | (simp only [List.length_drop, List.length_take]; rfl)) ?_
                    with_reducible refine (quant_Parse.calls k (t204 ++ (rdOf ByteArray.empty y197 (ji6))) t206 t207 _ A10.out).mono ?_
                    rintro e w84 ⟨rfl, hb⟩
                    have HS0_ := (hb.cell (World.block_lt_of_cell? _ _ (hHeld))).trans (hHeld)
                    refine ⟨_, rfl, ?_⟩
                    have n0_ := Aside0.mk (Kd.R_below (by (with_reducible repeat (first | apply Kd.R_alloc | apply Kd.R_drewN | apply Kd.R_drew)); exact HO199.out) hb)
                    have n1_ := Aside0.mk (Kd.R_below (by (with_reducible repeat (first | apply Kd.R_alloc | apply Kd.R_drewN | apply Kd.R_drew)); exact HO202.out) hb)
                    have n2_ := Aside0.mk (below_step (by repeat (first | (with_reducible first | exact HB.out | apply below_alloc | apply pw_below_drewN | apply below_drew1) | exact HB.out)) hb)
                    clear HO199
                    clear HO202
                    clear HB
                    have HO199 := n0_
                    have HO202 := n1_
                    have HB := n2_
                    clear n0_ n1_ n2_
                    (try clear hb)
                    (try clear hb2)
                    (try clear hk)
                    (try clear hi)
                    refine hK.out _ _ (HS0_) (fun hHeld => ?_)
                    clear hK K
                    refine norm_ (a' := ?_) ?_ ?_
                    rotate_left
                    · show Act.put _ (some 37) _ = _
                      simp only [Act.put, List.setIfInBounds_toArray, List.set_cons_zero, List.set_cons_succ, i64_w, i32_w]
                      rfl
                    refine pure_ (i := 9) (N := some 28) (v := ?_) (a' := ?_) #[true, true, true, true, true, true, true, true, true, true, false, false, false, false] rfl rfl (any_of HT_.out (by kernel_rfl)) (fun _ _ _ h => h) (Or.inl ⟨by rfl, ?_⟩) ?_ ?_
                    rotate_left
                    · intro w'
                      go_simp
                      with_reducible rfl
                    rotate_left
                    · simp only [Act.put, List.setIfInBounds_toArray, List.set_cons_zero, List.set_cons_succ, i64_w, i32_w]
                      rfl
                    refine pure_ (i := 10) (N := some 38) (v := ?_) (a' := ?_) #[true, true, true, true, true, true, true, true, true, true, true, false, false, false] rfl rfl (any_of HT_.out (by kernel_rfl)) (fun _ _ _ h => h) (Or.inl ⟨by rfl, ?_⟩) ?_ ?_
                    rotate_left
                    · intro w'
                      go_simp
                      with_reducible rfl
                    rotate_left
                    · simp only [Act.put, List.setIfInBounds_toArray, List.set_cons_zero, List.set_cons_succ, i64_w, i32_w]
                      rfl
                    refine pure_ (i := 11) (N := some 39) (v := ?_) (a' := ?_) #[true, true, true, true, true, true, true, true, true, true, true, true, false, false] rfl rfl (any_of HT_.out (by kernel_rfl)) (fun _ _ _ h => h) (Or.inl ⟨by rfl, ?_⟩) ?_ ?_
                    rotate_left
                    · intro w'
                      go_simp
                      with_reducible rfl
                    rotate_left
                    · simp only [Act.put, List.setIfInBounds_toArray, List.set_cons_zero, List.set_cons_succ, i64_w, i32_w]
                      rfl
                    refine pure_ (i := 12) (N := some 12) (v := ?_) (a' := ?_) #[true, true, true, true, true, true, true, true, true, true, true, true, true, false] rfl rfl (any_of HT_.out (by kernel_rfl)) (fun _ _ _ h => h) (Or.inl ⟨by rfl, ?_⟩) ?_ ?_
                    rotate_left
                    · intro w'
                      go_simp
                      with_reducible rfl
                    rotate_left
                    · simp only [Act.put, List.setIfInBounds_toArray, List.set_cons_zero, List.set_cons_succ, i64_w, i32_w]
                      rfl
                    refine pure_ (i := 13) (N := some 13) (v := ?_) (a' := ?_) #[true, true, true, true, true, true, true, true, true, true, true, true, true, true] rfl rfl (any_of HT_.out (by kernel_rfl)) (fun _ _ _ h => h) (Or.inl ⟨by rfl, ?_⟩) ?_ ?_
                    rotate_left
                    · intro w'
                      go_simp
                      with_reducible rfl
                    rotate_left
                    · simp only [Act.put, List.setIfInBounds_toArray, List.set_cons_zero, List.set_cons_succ, i64_w, i32_w]
                      rfl
                    refine done_ (done_of HT_.out (by kernel_rfl)) ?_
                    try go_wp2
                    have n0_ := Aside0.mk (Kd.R_drew HO199.out)
                    have n1_ := Aside0.mk (Kd.R_drew HO202.out)
                    have n2_ := Aside0.mk (below_drew1 HB.out)
                    clear HO199
                    clear HO202
                    clear HB
                    have HO199 := n0_
                    have HO202 := n1_
                    have HB := n2_
                    clear n0_ n1_ n2_
                    have p209 : 0 ≤ ((ji6) : Int) := of_decide_eq_true (by first | (with_reducible assumption) | assumption)
                    have q209 : (ji6) < (y197.length : Int) := of_decide_eq_true (by first | (with_reducible assumption) | assumption)
                    obtain ⟨ad209, e209, hx209_0⟩ := Kd.at_string (Kd.R_reads' HO199.out).2.2 (ji6) p209 q209
                    obtain rfl : ad205 = ad209 := (by injection e209)
                    replace p209 := eq_true p209
                    replace q209 := eq_true q209
                    (try (have qz209 := q209; rw [ByteArray.size_extract, Nat.min_self] at qz209))
                    refine start_ (n := 18) (S := fun w' => w'.cell? (ad205.add ((ji6)).toNat) = some (.string (rdOf ByteArray.empty y197 (ji6)))) (ds := []) #[false, false, false, false, false, false, false, false, false, false, false, false, false, false, false, false, false, false] (by kernel_rfl) rfl rfl (hx209_0) (fun hHeld => ?_); refine with_tabW triremelaw03_QuantUnits.tab7 triremelaw03_QuantUnits.bits7 (fun HT_ HW_ => ?_)
                    generalize w84.drew = w85 at HO199 HO202 HB hx209_0 hHeld ⊢
                    refine pure_ (i := 0) (N := some 41) (v := ?_) (a' := ?_) #[true, false, false, false, false, false, false, false, false, false, false, false, false, false, false, false, false, false] rfl rfl (any_of HT_.out (by kernel_rfl)) (fun _ _ _ h => h) (Or.inl ⟨by rfl, ?_⟩) ?_ ?_
                    rotate_left
                    · intro w'
                      go_simp
                      with_reducible rfl
                    rotate_left
                    · simp only [Act.put, List.setIfInBounds_toArray, List.set_cons_zero, List.set_cons_succ, i64_w, i32_w]
                      rfl
                    refine pure_ (i := 1) (N := some 42) (v := ?_) (a' := ?_) #[true, true, false, false, false, false, false, false, false, false, false, false, false, false, false, false, false, false] rfl rfl (any_of HT_.out (by kernel_rfl)) (fun _ _ _ h => h) (Or.inl ⟨by rfl, ?_⟩) ?_ ?_
                    rotate_left
                    · intro w'
                      go_simp
                      with_reducible rfl
                    rotate_left
                    · simp only [Act.put, List.setIfInBounds_toArray, List.set_cons_zero, List.set_cons_succ, i64_w, i32_w]
                      rfl
                    refine pure_ (i := 4) (N := some 45) (v := ?_) (a' := ?_) #[true, true, false, false, true, false, false, false, false, false, false, false, false, false, false, false, false, false] rfl rfl (any_of HT_.out (by kernel_rfl)) (fun _ _ _ h => h) (Or.inl ⟨by rfl, ?_⟩) ?_ ?_
                    rotate_left
                    · intro w'
                      go_simp
                      with_reducible rfl
                    rotate_left
                    · simp only [Act.put, List.setIfInBounds_toArray, List.set_cons_zero, List.set_cons_succ, i64_w, i32_w]
                      rfl
                    refine pure_ (i := 5) (N := some 46) (v := ?_) (a' := ?_) #[true, true, false, false, true, true, false, false, false, false, false, false, false, false, false, false, false, false] rfl rfl (any_of HT_.out (by kernel_rfl)) (fun _ _ _ h => h) (Or.inl ⟨by rfl, ?_⟩) ?_ ?_
                    rotate_left
                    · intro w'
                      go_simp
                      with_reducible rfl
                    rotate_left
                    · simp only [Act.put, List.setIfInBounds_toArray, List.set_cons_zero, List.set_cons_succ, i64_w, i32_w]
                      rfl
                    refine pure_ (i := 7) (N := some 48) (v := ?_) (a' := ?_) #[true, true, false, false, true, true, false, true, false, false, false, false, false, false, false, false, false, false] rfl rfl (any_of HT_.out (by kernel_rfl)) (fun _ _ _ h => h) (Or.inl ⟨by rfl, ?_⟩) ?_ ?_
                    rotate_left
                    · intro w'
                      go_simp
                      with_reducible rfl
                    rotate_left
                    · simp only [Act.put, List.setIfInBounds_toArray, List.set_cons_zero, List.set_cons_succ, i64_w, i32_w]
                      rfl
                    refine pure_ (i := 8) (N := some 49) (v := ?_) (a' := ?_) #[true, true, false, false, true, true, false, true, true, false, false, false, false, false, false, false, false, false] rfl rfl (any_of HT_.out (by kernel_rfl)) (fun _ _ _ h => h) (Or.inl ⟨by rfl, ?_⟩) ?_ ?_
                    rotate_left
                    · intro w'
                      go_simp
                      with_reducible rfl
                    rotate_left
                    · simp only [Act.put, List.setIfInBounds_toArray, List.set_cons_zero, List.set_cons_succ, i64_w, i32_w]
                      rfl
                    refine pure_ (i := 9) (N := some 50) (v := ?_) (a' := ?_) #[true, true, false, false, true, true, false, true, true, true, false, false, false, false, false, false, false, false] rfl rfl (any_of HT_.out (by kernel_rfl)) (fun _ _ _ h => h) (Or.inl ⟨by rfl, ?_⟩) ?_ ?_
                    rotate_left
                    · intro w'
                      go_simp
                      with_reducible rfl
                    rotate_left
                    · simp only [Act.put, List.setIfInBounds_toArray, List.set_cons_zero, List.set_cons_succ, i64_w, i32_w]
                      rfl
                    refine take_ (i := 10) (N := some 51) (v := ?_) (a' := ?_) #[true, true, false, false, true, true, false, true, true, true, true, false, false, false, false, false, false, false] rfl rfl (take_ofW HT_.out HW_.out (by kernel_rfl)) (fun _ _ _ h => h) (Or.inl ⟨by rfl, ?_⟩) hHeld ?_ ?_
                    rotate_left
                    · intro w' s0
                      go_simp
                      with_reducible rfl
                    rotate_left
                    · simp only [Act.put, List.setIfInBounds_toArray, List.set_cons_zero, List.set_cons_succ, i64_w, i32_w]
                      rfl
                    refine one_ (i := 2) (N := some 43) #[true, true, true, false, true, true, false, true, true, true, true, false, false, false, false, false, false, false] rfl rfl (one_of HT_.out (by kernel_rfl)) (by decide) (fun K hK => ?_)
                    refine goes_ Try.func19 (by kernel_rfl) rfl #[.int .i64 (wrap64 (a0))] (by rfl) rfl rfl (by (try simp only [List.map_toArray, List.map_cons, List.map_nil]); first | done | rfl | (simp only [List.length_drop, List.length_take]; rfl)) ?_
                    with_reducible refine (triremeref01_Digits.calls k (wrap64 (a0)) t208 _ A11.out).mono ?_
                    rintro e w86 ⟨rfl, hb⟩
                    have HS0_ := (hb.cell (World.block_lt_of_cell? _ _ (hHeld))).trans (hHeld)
                    refine ⟨_, rfl, ?_⟩
                    have n0_ := Aside0.mk (Kd.R_below (by (with_reducible repeat (first | apply Kd.R_alloc | apply Kd.R_drewN | apply Kd.R_drew)); exact HO199.out) hb)
                    have n1_ := Aside0.mk (Kd.R_below (by (with_reducible repeat (first | apply Kd.R_alloc | apply Kd.R_drewN | apply Kd.R_drew)); exact HO202.out) hb)
                    have n2_ := Aside0.mk (below_step (by repeat (first | (with_reducible first | exact HB.out | apply below_alloc | apply pw_below_drewN | apply below_drew1) | exact HB.out)) hb)
                    clear HO199
                    clear HO202
                    clear HB
                    have HO199 := n0_
                    have HO202 := n1_
                    have HB := n2_
                    clear n0_ n1_ n2_
                    (try clear hb)
                    (try clear hb2)
                    (try clear hk)
                    (try clear hi)
                    refine hK.out _ _ (HS0_) (fun hHeld => ?_)
                    clear hK K
                    refine norm_ (a' := ?_) ?_ ?_
                    rotate_left
                    · show Act.put _ (some 43) _ = _
                      simp only [Act.put, List.setIfInBounds_toArray, List.set_cons_zero, List.set_cons_succ, i64_w, i32_w]
                      rfl
                    refine pure_ (i := 3) (N := some 44) (v := ?_) (a' := ?_) #[true, true, true, true, true, true, false, true, true, true, true, false, false, false, false, false, false, false] rfl rfl (any_of HT_.out (by kernel_rfl)) (fun _ _ _ h => h) (Or.inl ⟨by rfl, ?_⟩) ?_ ?_
                    rotate_left
                    · intro w'
                      go_simp
                      with_reducible rfl
                    rotate_left
                    · simp only [Act.put, List.setIfInBounds_toArray, List.set_cons_zero, List.set_cons_succ, i64_w, i32_w]
                      rfl
                    refine pure_ (i := 6) (N := some 47) (v := ?_) (a' := ?_) #[true, true, true, true, true, true, true, true, true, true, true, false, false, false, false, false, false, false] rfl rfl (any_of HT_.out (by kernel_rfl)) (fun _ _ _ h => h) (Or.inl ⟨by rfl, ?_⟩) ?_ ?_
                    rotate_left
                    · intro w'
                      go_simp
                      with_reducible rfl
                    rotate_left
                    · simp only [Act.put, List.setIfInBounds_toArray, List.set_cons_zero, List.set_cons_succ, i64_w, i32_w]
                      rfl
                    refine pure_ (i := 11) (N := some 52) (v := ?_) (a' := ?_) #[true, true, true, true, true, true, true, true, true, true, true, true, false, false, false, false, false, false] rfl rfl (any_of HT_.out (by kernel_rfl)) (fun _ _ _ h => h) (Or.inl ⟨by rfl, ?_⟩) ?_ ?_
                    rotate_left
                    · intro w'
                      go_simp
                      with_reducible rfl
                    rotate_left
                    · simp only [Act.put, List.setIfInBounds_toArray, List.set_cons_zero, List.set_cons_succ, i64_w, i32_w]
                      rfl
                    refine one_ (i := 12) (N := some 53) #[true, true, true, true, true, true, true, true, true, true, true, true, true, false, false, false, false, false] rfl rfl (one_of HT_.out (by kernel_rfl)) (by decide) (fun K hK => ?_)
                    refine goes_ Try.func11 (by kernel_rfl) rfl #[.string (((t208 ++ (⟨#[46]⟩ : ByteArray)) ++ (t203.extract 1 t203.size)) ++ (rdOf ByteArray.empty y197 (ji6)))] (by rfl) rfl rfl (by (try simp only [List.map_toArray, List.map_cons, List.map_nil]); first | done | (simp only [hji6]; rfl) | rfl | (simp only [List.length_drop, List.length_take]; rfl)) ?_
                    with_reducible refine (quant_Milli.calls k (((t208 ++ (⟨#[46]⟩ : ByteArray)) ++ (t203.extract 1 t203.size)) ++ (rdOf ByteArray.empty y197 (ji6))) t210 t211 _ A16.out).mono ?_
                    rintro e w87 ⟨rfl, hb⟩
                    have HS0_ := (hb.cell (World.block_lt_of_cell? _ _ (hHeld))).trans (hHeld)
                    refine ⟨_, rfl, ?_⟩
                    have n0_ := Aside0.mk (Kd.R_below (by (with_reducible repeat (first | apply Kd.R_alloc | apply Kd.R_drewN | apply Kd.R_drew)); exact HO199.out) hb)
                    have n1_ := Aside0.mk (Kd.R_below (by (with_reducible repeat (first | apply Kd.R_alloc | apply Kd.R_drewN | apply Kd.R_drew)); exact HO202.out) hb)
                    have n2_ := Aside0.mk (below_step (by repeat (first | (with_reducible first | exact HB.out | apply below_alloc | apply pw_below_drewN | apply below_drew1) | exact HB.out)) hb)
                    clear HO199
                    clear HO202
                    clear HB
                    have HO199 := n0_
                    have HO202 := n1_
                    have HB := n2_
                    clear n0_ n1_ n2_
                    (try clear hb)
                    (try clear hb2)
                    (try clear hk)
                    (try clear hi)
                    refine hK.out _ _ (HS0_) (fun hHeld => ?_)
                    clear hK K
                    refine norm_ (a' := ?_) ?_ ?_
                    rotate_left
                    · show Act.put _ (some 53) _ = _
                      simp only [Act.put, List.setIfInBounds_toArray, List.set_cons_zero, List.set_cons_succ, i64_w, i32_w]
                      rfl
                    refine pure_ (i := 13) (N := some 40) (v := ?_) (a' := ?_) #[true, true, true, true, true, true, true, true, true, true, true, true, true, true, false, false, false, false] rfl rfl (any_of HT_.out (by kernel_rfl)) (fun _ _ _ h => h) (Or.inl ⟨by rfl, ?_⟩) ?_ ?_
                    rotate_left
                    · intro w'
                      go_simp
                      with_reducible rfl
                    rotate_left
                    · simp only [Act.put, List.setIfInBounds_toArray, List.set_cons_zero, List.set_cons_succ, i64_w, i32_w]
                      rfl
                    refine pure_ (i := 14) (N := some 54) (v := ?_) (a' := ?_) #[true, true, true, true, true, true, true, true, true, true, true, true, true, true, true, false, false, false] rfl rfl (any_of HT_.out (by kernel_rfl)) (fun _ _ _ h => h) (Or.inl ⟨by rfl, ?_⟩) ?_ ?_
                    rotate_left
                    · intro w'
                      go_simp
                      with_reducible rfl
                    rotate_left
                    · simp only [Act.put, List.setIfInBounds_toArray, List.set_cons_zero, List.set_cons_succ, i64_w, i32_w]
                      rfl
                    refine pure_ (i := 15) (N := some 55) (v := ?_) (a' := ?_) #[true, true, true, true, true, true, true, true, true, true, true, true, true, true, true, true, false, false] rfl rfl (any_of HT_.out (by kernel_rfl)) (fun _ _ _ h => h) (Or.inl ⟨by rfl, ?_⟩) ?_ ?_
                    rotate_left
                    · intro w'
                      go_simp
                      with_reducible rfl
                    rotate_left
                    · simp only [Act.put, List.setIfInBounds_toArray, List.set_cons_zero, List.set_cons_succ, i64_w, i32_w]
                      rfl
                    refine pure_ (i := 16) (N := some 14) (v := ?_) (a' := ?_) #[true, true, true, true, true, true, true, true, true, true, true, true, true, true, true, true, true, false] rfl rfl (any_of HT_.out (by kernel_rfl)) (fun _ _ _ h => h) (Or.inl ⟨by rfl, ?_⟩) ?_ ?_
                    rotate_left
                    · intro w'
                      go_simp
                      with_reducible rfl
                    rotate_left
                    · simp only [Act.put, List.setIfInBounds_toArray, List.set_cons_zero, List.set_cons_succ, i64_w, i32_w]
                      rfl
                    refine pure_ (i := 17) (N := some 15) (v := ?_) (a' := ?_) #[true, true, true, true, true, true, true, true, true, true, true, true, true, true, true, true, true, true] rfl rfl (any_of HT_.out (by kernel_rfl)) (fun _ _ _ h => h) (Or.inl ⟨by rfl, ?_⟩) ?_ ?_
                    rotate_left
                    · intro w'
                      go_simp
                      with_reducible rfl
                    rotate_left
                    · simp only [Act.put, List.setIfInBounds_toArray, List.set_cons_zero, List.set_cons_succ, i64_w, i32_w]
                      rfl
                    refine done_ (done_of HT_.out (by kernel_rfl)) ?_
                    obtain ⟨Ao88, co88, eo88⟩ := Kd.R_slice HO202.out
                    subst eo88
                    have p212 : 0 ≤ ((ji6) : Int) := of_decide_eq_true (by first | (with_reducible assumption) | assumption)
                    have q212 : (ji6) < (y200.length : Int) := of_decide_eq_true (by first | (with_reducible assumption) | assumption)
                    obtain ⟨ad212, e212, hx212_0⟩ := Kd.at_int (Kd.R_reads' HO202.out).2.2 (ji6) p212 q212
                    cases e212
                    replace p212 := eq_true p212
                    replace q212 := eq_true q212
                    (try (have qz212 := q212; rw [ByteArray.size_extract, Nat.min_self] at qz212))
                    have p213 : 0 ≤ ((ji6) : Int) := of_decide_eq_true (by first | (with_reducible assumption) | assumption)
                    have q213 : (ji6) < (y200.length : Int) := of_decide_eq_true (by first | (with_reducible assumption) | assumption)
                    obtain ⟨ad213, e213, hx213_0⟩ := Kd.at_int (Kd.R_reads' HO202.out).2.2 (ji6) p213 q213
                    obtain rfl : ad212 = ad213 := (by injection e213)
                    replace p213 := eq_true p213
                    replace q213 := eq_true q213
                    (try (have qz213 := q213; rw [ByteArray.size_extract, Nat.min_self] at qz213))
                    try go_wp2
                    go_ret
                    exact ⟨by first | rfl | (simp [errW_none, errW_some] <;> rfl) | (simp only [← hji6]; first | rfl | (simp [errW_none, errW_some] <;> rfl)) | (simp [*, errW_none, errW_some] <;> rfl), by repeat (first | (with_reducible first | exact HB.out | apply below_alloc | apply pw_below_drewN | apply below_drew1) | exact HB.out)⟩
                · rw [if_neg c17] at H
                  exact absurd H (by simp)
              · rw [if_neg c15] at H
                exact absurd H (by simp)
            · rw [if_neg c14] at H
              exact absurd H (by simp)
          · rw [if_neg c13] at H
            exact absurd H (by simp)
        · rw [if_neg c12] at H
          exact absurd H (by simp)
      · rw [if_neg c9] at H
        exact absurd H (by simp)
    · rw [if_neg c8] at H
      exact absurd H (by simp)
  · rw [if_neg c7] at H
    exact absurd H (by simp)
/-- THE ONE PURE STATEMENT of triremelaw03_QuantUnits: yours. -/
def triremelaw03_QuantUnits.Pure : Prop := ∀ (a0 : Int) (a1 : Int) (a2 : Int), (Lit.int .u16 a0).wf = true → (Lit.int .u16 a1).wf = true → (Lit.int .u8 a2).wf = true → ∃ k, triremelaw03_QuantUnits.f k a0 a1 a2 = some true
theorem triremelaw03_QuantUnits.walk (P : triremelaw03_QuantUnits.Pure) (a0 : Int) (a1 : Int) (a2 : Int) (w : World) (w0 : (Lit.int .u16 a0).wf = true) (w1 : (Lit.int .u16 a1).wf = true) (w2 : (Lit.int .u8 a2).wf = true) :
    Calls Try.prog 6 #[.int .u16 a0, .int .u16 a1, .int .u8 a2] w fun e w' => e = .returned (.bool true) ∧ Below w.heap.size w w' := by
  obtain ⟨k, h⟩ := P a0 a1 a2 w0 w1 w2
  refine (triremelaw03_QuantUnits.calls k a0 a1 a2 true w h).mono ?_
  rintro e w' ⟨rfl, hd⟩
  exact ⟨rfl, hd⟩
end Go.Proofs.Ytpmmiabcfnejmaa.H
end
section
namespace Go.Proofs.Ytpmmiabcfnejmaa.H
open Go.RowKit Go.Proofs.YtpmmiabcfnejmaaW.PrintWords Go.Proofs.YtpmmiabcfnejmaaW.PrintLast Go.Proofs.YtpmmiabcfnejmaaW.PrintMore
attribute [local go_sem] max2_int min2_int max_two min_two max_three min_three max_four min_four   -- for this text's walks alone
set_option linter.unusedVariables false
set_option linter.unusedSimpArgs false
def triremeref03_digit.f (a0 : Int) : Option (Bool) := if a0 ≥ 48 then (some (decide (a0 ≤ 57))) else (some false)
set_option maxHeartbeats 8000000 in
set_option maxRecDepth 100000 in
theorem triremeref03_digit.calls (a0 : Int) (r : Bool) (w : World) (h : triremeref03_digit.f a0 = some r) :
    Calls Try.prog 34 #[.int .u8 a0] w fun e w' => e = .returned (.bool r) ∧ Drawn0 w w' := by
  have H : (if a0 ≥ 48 then (some (decide (a0 ≤ 57))) else (some false)) = some r := h
  clear h
  by_cases c2 : a0 ≥ 48
  · rw [if_pos c2] at H
    have c2b0 : decide (48 ≤ a0) = true := decide_eq_true c2
    clear c2
    obtain rfl := Option.some.inj H
    go_enter Try.func34, Try.ntmps34
    go_wp2
    go_ret
    exact ⟨by first | rfl | (simp; done) | (simp [*]; done), by repeat (first | exact Drawn0.refl _ | apply Drawn0.step)⟩
  · rw [if_neg c2] at H
    have c2b0 : decide (48 ≤ a0) = false := decide_eq_false c2
    clear c2
    obtain rfl := Option.some.inj H
    go_enter Try.func34, Try.ntmps34
    go_wp2
    go_ret
    exact ⟨by first | rfl | (simp; done) | (simp [*]; done), by repeat (first | exact Drawn0.refl _ | apply Drawn0.step)⟩
end Go.Proofs.Ytpmmiabcfnejmaa.H
end
section
namespace Go.Proofs.Ytpmmiabcfnejmaa.H
open Go.RowKit Go.Proofs.YtpmmiabcfnejmaaW.PrintWords Go.Proofs.YtpmmiabcfnejmaaW.PrintLast Go.Proofs.YtpmmiabcfnejmaaW.PrintMore
attribute [local go_sem] max2_int min2_int max_two min_two max_three min_three max_four min_four   -- for this text's walks alone
set_option linter.unusedVariables false
set_option linter.unusedSimpArgs false
def triremeref03_digits.l0 : Nat → ByteArray → Int → Option (Int)
  | 0, _, _ => none
  | k + 1, x0, x3 => if x3 < (x0.size : Int) then (if 0 ≤ x3 then ((triremeref03_digit.f (bt x0 x3)).bind fun t162 => (if t162 = true then (triremeref03_digits.l0 k x0 (wrap64 (x3 + 1))) else (some x3))) else (none)) else (some x3)
def triremeref03_digits.f (k : Nat) (a0 : ByteArray) : Option (Int) := triremeref03_digits.l0 k a0 0
theorem triremeref03_digits.mono_l : ∀ k, (∀ y0 y1, LeO (triremeref03_digits.l0 k y0 y1) (triremeref03_digits.l0 (k + 1) y0 y1))
  | 0 => fun _ _ r h => by simp [triremeref03_digits.l0] at h
  | k + 1 => by
    have ih0 := triremeref03_digits.mono_l k
    · intro y0 y1
      unfold triremeref03_digits.l0
      repeat' first
      | (with_reducible exact ih0 _ _)
      | (with_reducible exact LeO.refl _)
      | (with_reducible exact LeO.none _)
      | (with_reducible refine LeO.ite ?_ ?_)
      | (with_reducible refine LeO.bind ?_ (fun _ => ?_))
      | exact ih0 _ _
      | exact LeO.none _
      | refine LeO.ite ?_ ?_
      | refine LeO.bind ?_ (fun _ => ?_)
theorem triremeref03_digits.mono : ∀ a0 k, LeO (triremeref03_digits.f k a0) (triremeref03_digits.f (k + 1) a0) := by
  intro a0 k
  have ih0 := triremeref03_digits.mono_l k
  unfold triremeref03_digits.f
  repeat' first
      | (with_reducible exact ih0 _ _)
      | (with_reducible exact LeO.refl _)
      | (with_reducible exact LeO.none _)
      | (with_reducible refine LeO.ite ?_ ?_)
      | (with_reducible refine LeO.bind ?_ (fun _ => ?_))
      | exact ih0 _ _
      | exact LeO.none _
      | refine LeO.ite ?_ ?_
      | refine LeO.bind ?_ (fun _ => ?_)
set_option maxHeartbeats 8000000 in
set_option maxRecDepth 100000 in
theorem triremeref03_digits.calls (k : Nat) (a0 : ByteArray) (r : Int) (w : World) (h : triremeref03_digits.f k a0 = some r) :
    Calls Try.prog 24 #[.string a0] w fun e w' => e = .returned (.int .i64 r) ∧ Drawn0 w w' := by
  have H : (triremeref03_digits.l0 k a0 0) = some r := h
  clear h
  have H' := Aside0.mk H
  clear H
  go_enter Try.func24, Try.ntmps24
  go_wp2
  go_loopg [3] k (fun kq v3 w' => ∃ (x3_1 : Int), v3 = .int .i64 x3_1 ∧ Aside0 (triremeref03_digits.l0 kq a0 x3_1 = some r) ∧ Aside0 (kq ≤ k) ∧ Drawn0 w w')
  case atStart => exact ⟨(0), (by first | rfl | (simp; done) | (simp [*]; done)), H', ⟨Nat.le_refl _⟩, by repeat (first | exact Drawn0.refl _ | apply Drawn0.step)⟩
  case round =>
    clear H'
    obtain ⟨x3_1, rfl, HA, HK1, ⟨m1, rfl⟩⟩ := hrel
    cases gk with
    | zero => exact absurd HA.out (by simp [triremeref03_digits.l0])
    | succ k1 =>
      have H := HA.out
      clear HA
      simp only [triremeref03_digits.l0] at H
      by_cases c2 : x3_1 < (a0.size : Int)
      · rw [if_pos c2] at H
        have c2b0 : decide (x3_1 < (a0.size : Int)) = true := decide_eq_true c2
        clear c2
        by_cases c3 : 0 ≤ x3_1
        · rw [if_pos c3] at H
          have c3b0 : decide (0 ≤ x3_1) = true := decide_eq_true c3
          clear c3
          replace H := Option.bind_eq_some_iff.mp H
          obtain ⟨t162, A50, H⟩ := H
          replace H : (if t162 = true then (triremeref03_digits.l0 k1 a0 (wrap64 (x3_1 + 1))) else (some x3_1)) = some r := H
          have A5 := Aside0.mk A50
          clear A50
          by_cases c6 : t162 = true
          · subst c6
            have H1 : (triremeref03_digits.l0 k1 a0 (wrap64 (x3_1 + 1))) = some r := by rw [if_pos rfl] at H; exact H
            clear H
            have H := H1
            clear H1
            have H' := Aside0.mk H
            clear H
            have p4 : 0 ≤ (x3_1 : Int) := of_decide_eq_true (by first | (with_reducible assumption) | assumption)
            have q4 : x3_1 < (a0.size : Int) := of_decide_eq_true (by first | (with_reducible assumption) | assumption)
            have hx4 := bt_at a0 x3_1
            replace p4 := eq_true p4
            replace q4 := eq_true q4
            (try (have qz4 := q4; rw [ByteArray.size_extract, Nat.min_self] at qz4))
            go_wp2_with (first | (go_at_call 34; (with_reducible refine (triremeref03_digit.calls (bt a0 x3_1) true _ A5.out).mono ?_); rintro e w' ⟨rfl, ⟨nd, rfl⟩⟩))
            go_roundg k1
            case measure => have := HK1.out; omega
            case rel => exact ⟨(wrap64 (x3_1 + 1)), (by first | rfl | (simp; done) | (simp [*]; done)), H', ⟨by have := HK1.out; omega⟩, by repeat (first | exact Drawn0.refl _ | apply Drawn0.step)⟩
          · replace c6 := Bool.eq_false_iff.mpr c6
            subst c6
            have H1 : (some x3_1) = some r := by rw [if_neg (show ¬ (false = true) by decide)] at H; exact H
            clear H
            have H := H1
            clear H1
            obtain rfl := Option.some.inj H
            have p4 : 0 ≤ (x3_1 : Int) := of_decide_eq_true (by first | (with_reducible assumption) | assumption)
            have q4 : x3_1 < (a0.size : Int) := of_decide_eq_true (by first | (with_reducible assumption) | assumption)
            have hx4 := bt_at a0 x3_1
            replace p4 := eq_true p4
            replace q4 := eq_true q4
            (try (have qz4 := q4; rw [ByteArray.size_extract, Nat.min_self] at qz4))
            go_wp2_with (first | (go_at_call 34; (with_reducible refine (triremeref03_digit.calls (bt a0 x3_1) false _ A5.out).mono ?_); rintro e w' ⟨rfl, ⟨nd, rfl⟩⟩))
            go_ret
            exact ⟨by first | rfl | (simp; done) | (simp [*]; done), by repeat (first | exact Drawn0.refl _ | apply Drawn0.step)⟩
        · rw [if_neg c3] at H
          exact absurd H (by simp)
      · rw [if_neg c2] at H
        have c2b0 : decide (x3_1 < (a0.size : Int)) = false := decide_eq_false c2
        clear c2
        obtain rfl := Option.some.inj H
        go_wp2
        go_ret
        exact ⟨by first | rfl | (simp; done) | (simp [*]; done), by repeat (first | exact Drawn0.refl _ | apply Drawn0.step)⟩
end Go.Proofs.Ytpmmiabcfnejmaa.H
end
section
namespace Go.Proofs.Ytpmmiabcfnejmaa.H
open Go.RowKit Go.Proofs.YtpmmiabcfnejmaaW.PrintWords Go.Proofs.YtpmmiabcfnejmaaW.PrintLast Go.Proofs.YtpmmiabcfnejmaaW.PrintMore
attribute [local go_sem] max2_int min2_int max_two min_two max_three min_three max_four min_four   -- for this text's walks alone
set_option linter.unusedVariables false
set_option linter.unusedSimpArgs false
def triremeref03_value.l0 : Nat → ByteArray → Int → Int → Option (Int)
  | 0, _, _, _ => none
  | k + 1, x0, x3, x4 => if x4 < (x0.size : Int) then (if 0 ≤ x4 then (triremeref03_value.l0 k x0 (mn (wrap64 ((wrap64 (10 * x3)) + (((bt x0 x4) - 48) % 256))) 1125899906842625) (wrap64 (x4 + 1))) else (none)) else (some x3)
def triremeref03_value.f (k : Nat) (a0 : ByteArray) : Option (Int) := triremeref03_value.l0 k a0 0 0
theorem triremeref03_value.mono_l : ∀ k, (∀ y0 y1 y2, LeO (triremeref03_value.l0 k y0 y1 y2) (triremeref03_value.l0 (k + 1) y0 y1 y2))
  | 0 => fun _ _ _ r h => by simp [triremeref03_value.l0] at h
  | k + 1 => by
    have ih0 := triremeref03_value.mono_l k
    · intro y0 y1 y2
      unfold triremeref03_value.l0
      repeat' first
      | (with_reducible exact ih0 _ _ _)
      | (with_reducible exact LeO.refl _)
      | (with_reducible exact LeO.none _)
      | (with_reducible refine LeO.ite ?_ ?_)
      | (with_reducible refine LeO.bind ?_ (fun _ => ?_))
      | exact ih0 _ _ _
      | exact LeO.none _
      | refine LeO.ite ?_ ?_
      | refine LeO.bind ?_ (fun _ => ?_)
theorem triremeref03_value.mono : ∀ a0 k, LeO (triremeref03_value.f k a0) (triremeref03_value.f (k + 1) a0) := by
  intro a0 k
  have ih0 := triremeref03_value.mono_l k
  unfold triremeref03_value.f
  repeat' first
      | (with_reducible exact ih0 _ _ _)
      | (with_reducible exact LeO.refl _)
      | (with_reducible exact LeO.none _)
      | (with_reducible refine LeO.ite ?_ ?_)
      | (with_reducible refine LeO.bind ?_ (fun _ => ?_))
      | exact ih0 _ _ _
      | exact LeO.none _
      | refine LeO.ite ?_ ?_
      | refine LeO.bind ?_ (fun _ => ?_)
set_option maxHeartbeats 8000000 in
set_option maxRecDepth 100000 in
theorem triremeref03_value.calls (k : Nat) (a0 : ByteArray) (r : Int) (w : World) (h : triremeref03_value.f k a0 = some r) :
    Calls Try.prog 25 #[.string a0] w fun e w' => e = .returned (.int .i64 r) ∧ Below w.heap.size w w' := by
  have HB := Aside0.mk (Below.refl w.heap.size w)
  have H : (triremeref03_value.l0 k a0 0 0) = some r := h
  clear h
  have H' := Aside0.mk H
  clear H
  go_enter Try.func25, Try.ntmps25
  go_wp2
  go_loopg [3, 4] k (fun kq v3 v4 w' => ∃ (x3_1 : Int) (x4_1 : Int), v3 = .int .i64 x3_1 ∧ v4 = .int .i64 x4_1 ∧ Aside0 (triremeref03_value.l0 kq a0 x3_1 x4_1 = some r) ∧ Aside0 (kq ≤ k) ∧ Aside0 (Below w.heap.size w w'))
  case atStart => exact ⟨(0), (0), (by first | rfl | (simp; done) | (simp [*]; done)), (by first | rfl | (simp; done) | (simp [*]; done)), H', ⟨Nat.le_refl _⟩, ⟨by repeat (first | (with_reducible first | exact HB.out | apply below_alloc | apply pw_below_drewN | apply below_drew1) | exact HB.out)⟩⟩
  case round =>
    clear H'
    obtain ⟨x3_1, x4_1, rfl, rfl, HA, HK1, HB⟩ := hrel
    cases gk with
    | zero => exact absurd HA.out (by simp [triremeref03_value.l0])
    | succ k1 =>
      have H := HA.out
      clear HA
      simp only [triremeref03_value.l0] at H
      by_cases c2 : x4_1 < (a0.size : Int)
      · rw [if_pos c2] at H
        have c2b0 : decide (x4_1 < (a0.size : Int)) = true := decide_eq_true c2
        clear c2
        by_cases c3 : 0 ≤ x4_1
        · rw [if_pos c3] at H
          have c3b0 : decide (0 ≤ x4_1) = true := decide_eq_true c3
          clear c3
          obtain ⟨ji5, hji5⟩ : ∃ j_ : Int, (mn (wrap64 ((wrap64 (10 * x3_1)) + (((bt a0 x4_1) - 48) % 256))) 1125899906842625) = j_ := ⟨_, rfl⟩
          replace H : (triremeref03_value.l0 k1 a0 ji5 (wrap64 (x4_1 + 1))) = some r := by first | (rw [hji5] at H; exact H) | (simp only [hji5] at H ⊢; exact H)
          have hji5_ : (if 1125899906842625 < (wrap64 ((wrap64 (10 * x3_1)) + (((bt a0 x4_1) - 48) % 256))) then 1125899906842625 else (wrap64 ((wrap64 (10 * x3_1)) + (((bt a0 x4_1) - 48) % 256)))) = ji5 := hji5
          have H' := Aside0.mk H
          clear H
          have p4 : 0 ≤ (x4_1 : Int) := of_decide_eq_true (by first | (with_reducible assumption) | assumption)
          have q4 : x4_1 < (a0.size : Int) := of_decide_eq_true (by first | (with_reducible assumption) | assumption)
          have hx4 := bt_at a0 x4_1
          replace p4 := eq_true p4
          replace q4 := eq_true q4
          (try (have qz4 := q4; rw [ByteArray.size_extract, Nat.min_self] at qz4))
          go_wp2
          go_roundg k1
          case measure => have := HK1.out; omega
          case rel => exact ⟨(ji5), (wrap64 (x4_1 + 1)), (by first | rfl | (simp; done) | (simp only [← hji5] <;> (first | rfl | simp)) | (simp [*]; done)), (by first | rfl | (simp; done) | (simp [*]; done)), H', ⟨by have := HK1.out; omega⟩, ⟨by repeat (first | (with_reducible first | exact HB.out | apply below_alloc | apply pw_below_drewN | apply below_drew1) | exact HB.out)⟩⟩
        · rw [if_neg c3] at H
          exact absurd H (by simp)
      · rw [if_neg c2] at H
        have c2b0 : decide (x4_1 < (a0.size : Int)) = false := decide_eq_false c2
        clear c2
        obtain rfl := Option.some.inj H
        go_wp2
        go_ret
        exact ⟨by first | rfl | (simp [errW_none, errW_some] <;> rfl) | (simp [*, errW_none, errW_some] <;> rfl), by repeat (first | (with_reducible first | exact HB.out | apply below_alloc | apply pw_below_drewN | apply below_drew1) | exact HB.out)⟩
end Go.Proofs.Ytpmmiabcfnejmaa.H
end
section
namespace Go.Proofs.Ytpmmiabcfnejmaa.H
open Go.RowKit Go.Proofs.YtpmmiabcfnejmaaW.PrintWords Go.Proofs.YtpmmiabcfnejmaaW.PrintLast Go.Proofs.YtpmmiabcfnejmaaW.PrintMore
attribute [local go_sem] max2_int min2_int max_two min_two max_three min_three max_four min_four   -- for this text's walks alone
set_option linter.unusedVariables false
set_option linter.unusedSimpArgs false
def triremeref03_Number.j0 : Nat → ByteArray → Bool → Option (Int × Int)
  | 0, _, _ => none
  | k + 1, x0, x14 => if x14 = true then (some (0, 8)) else ((triremeref03_value.f k x0).bind fun t174 => (if t174 > 1125899906842624 then (some (0, 10)) else (some (t174, 0))))
def triremeref03_Number.f (k : Nat) (a0 : ByteArray) : Option (Int × Int) := if (a0.size : Int) = 0 then (triremeref03_Number.j0 k a0 true) else ((triremeref03_digits.f k a0).bind fun t173 => (triremeref03_Number.j0 k a0 (decide (t173 < (a0.size : Int)))))
theorem triremeref03_Number.mono_l : ∀ k, (∀ y0 y1, LeO (triremeref03_Number.j0 k y0 y1) (triremeref03_Number.j0 (k + 1) y0 y1))
  | 0 => fun _ _ r h => by simp [triremeref03_Number.j0] at h
  | k + 1 => by
    have ih0 := triremeref03_Number.mono_l k
    · intro y0 y1
      unfold triremeref03_Number.j0
      repeat' first
      | (with_reducible exact ih0 _ _)
      | (with_reducible exact triremeref03_digits.mono _ _)
      | (with_reducible exact triremeref03_value.mono _ _)
      | (with_reducible exact LeO.refl _)
      | (with_reducible exact LeO.none _)
      | (with_reducible refine LeO.ite ?_ ?_)
      | (with_reducible refine LeO.bind ?_ (fun _ => ?_))
      | exact ih0 _ _
      | exact triremeref03_digits.mono _ _
      | exact triremeref03_value.mono _ _
      | exact LeO.none _
      | refine LeO.ite ?_ ?_
      | refine LeO.bind ?_ (fun _ => ?_)
theorem triremeref03_Number.mono : ∀ a0 k, LeO (triremeref03_Number.f k a0) (triremeref03_Number.f (k + 1) a0) := by
  intro a0 k
  have ih0 := triremeref03_Number.mono_l k
  unfold triremeref03_Number.f
  repeat' first
      | (with_reducible exact ih0 _ _)
      | (with_reducible exact triremeref03_digits.mono _ _)
      | (with_reducible exact triremeref03_value.mono _ _)
      | (with_reducible exact LeO.refl _)
      | (with_reducible exact LeO.none _)
      | (with_reducible refine LeO.ite ?_ ?_)
      | (with_reducible refine LeO.bind ?_ (fun _ => ?_))
      | exact ih0 _ _
      | exact triremeref03_digits.mono _ _
      | exact triremeref03_value.mono _ _
      | exact LeO.none _
      | refine LeO.ite ?_ ?_
      | refine LeO.bind ?_ (fun _ => ?_)
set_option maxHeartbeats 8000000 in
set_option maxRecDepth 100000 in
theorem triremeref03_Number.calls (k : Nat) (a0 : ByteArray) (r1 : Int) (r2 : Int) (w : World) (h : triremeref03_Number.f k a0 = some (r1, r2)) :
    Calls Try.prog 14 #[.string a0] w fun e w' => e = .returned (.tuple #[.int .i64 r1, .int .i64 r2]) ∧ Below w.heap.size w w' := by
  have HB := Aside0.mk (Below.refl w.heap.size w)
  have H : (if (a0.size : Int) = 0 then (triremeref03_Number.j0 k a0 true) else ((triremeref03_digits.f k a0).bind fun t173 => (triremeref03_Number.j0 k a0 (decide (t173 < (a0.size : Int)))))) = some (r1, r2) := h
  clear h
  have HC2 := Aside0.mk H
  clear H
  go_enter Try.func14, Try.ntmps14
  go_upto_region 1 with (fail)
  go_cut [14] (fun v14 wc => ∃ (kq : Nat) (x14_1 : Bool), v14 = .bool x14_1 ∧ Aside0 (triremeref03_Number.j0 kq a0 x14_1 = some (r1, r2)) ∧ Aside0 (kq ≤ k) ∧ Aside0 (Below w.heap.size w wc))
  case first =>
    have H := HC2.out
    clear HC2
    by_cases c3 : (a0.size : Int) = 0
    · rw [if_pos c3] at H
      have c3b0 : ((a0.size : Int) == 0) = true := beq_iff_eq.mpr c3
      have c3b1 : ((a0.size : Int) != 0) = false := bne_eq_false_iff_eq.mpr c3
      clear c3
      (first | rw [c3b0] | (simp only [i64_w, i32_w]; rw [c3b0]) | skip)
      have H' := Aside0.mk H
      clear H
      go_wp2
      go_meet
      case rel => exact ⟨_, (true), (by first | rfl | (simp; done) | (simp [*]; done)), H', ⟨by first | omega | exact Nat.le_refl _⟩, ⟨by repeat (first | (with_reducible first | exact HB.out | apply below_alloc | apply pw_below_drewN | apply below_drew1) | exact HB.out)⟩⟩
    · rw [if_neg c3] at H
      have c3b0 : ((a0.size : Int) == 0) = false := beq_eq_false_iff_ne.mpr c3
      have c3b1 : ((a0.size : Int) != 0) = true := bne_iff_ne.mpr c3
      (first | rw [c3b0] | (simp only [i64_w, i32_w]; rw [c3b0]) | skip)
      replace H := Option.bind_eq_some_iff.mp H
      obtain ⟨t173, A40, H⟩ := H
      replace H : (triremeref03_Number.j0 k a0 (decide (t173 < (a0.size : Int)))) = some (r1, r2) := H
      have A4 := Aside0.mk A40
      clear A40
      have H' := Aside0.mk H
      clear H
      go_wp2_with (first | (go_at_call 24; (with_reducible refine (triremeref03_digits.calls k a0 t173 _ A4.out).mono ?_); rintro e w' ⟨rfl, ⟨nd, rfl⟩⟩))
      go_meet
      case rel => exact ⟨_, (decide (t173 < (a0.size : Int))), (by first | rfl | (simp; done) | (simp [*]; done)), H', ⟨by first | omega | exact Nat.le_refl _⟩, ⟨by repeat (first | (with_reducible first | exact HB.out | apply below_alloc | apply pw_below_drewN | apply below_drew1) | exact HB.out)⟩⟩
  case rest =>
    clear HC2
    try clear c1
    try clear p2
    try clear c3
    try clear c3b0
    try clear c3b1
    obtain ⟨kq, x14_1, rfl, HA, HJ1, HB⟩ := hcut
    cases kq with
    | zero => exact absurd HA.out (by simp [triremeref03_Number.j0])
    | succ kj1 =>
      have H := HA.out
      clear HA
      simp only [triremeref03_Number.j0] at H
      by_cases c5 : x14_1 = true
      · subst c5
        have H1 : (some (0, 8)) = some (r1, r2) := by rw [if_pos rfl] at H; exact H
        clear H
        have H := H1
        clear H1
        simp only [Option.some.injEq, Prod.mk.injEq] at H
        obtain ⟨rfl, rfl⟩ := H
        go_wp2
        go_ret2
        exact ⟨by first | rfl | (simp [errW_none, errW_some] <;> rfl) | (simp [*, errW_none, errW_some] <;> rfl), by repeat (first | (with_reducible first | exact HB.out | apply below_alloc | apply pw_below_drewN | apply below_drew1) | exact HB.out)⟩
      · replace c5 := Bool.eq_false_iff.mpr c5
        subst c5
        have H1 : ((triremeref03_value.f kj1 a0).bind fun t174 => (if t174 > 1125899906842624 then (some (0, 10)) else (some (t174, 0)))) = some (r1, r2) := by rw [if_neg (show ¬ (false = true) by decide)] at H; exact H
        clear H
        have H := H1
        clear H1
        replace H := Option.bind_eq_some_iff.mp H
        obtain ⟨t174, A60, H⟩ := H
        replace H : (if t174 > 1125899906842624 then (some (0, 10)) else (some (t174, 0))) = some (r1, r2) := H
        have A6 := Aside0.mk A60
        clear A60
        by_cases c7 : t174 > 1125899906842624
        · rw [if_pos c7] at H
          have c7b0 : decide (1125899906842624 < t174) = true := decide_eq_true c7
          clear c7
          simp only [Option.some.injEq, Prod.mk.injEq] at H
          obtain ⟨rfl, rfl⟩ := H
          go_wp2_with (first | ((first | ((with_reducible refine gate_callee (f := 25) rfl ?_); refine goesL_ (some 16) rfl rfl Try.func25 (by kernel_rfl) rfl #[.string a0] rfl (by (try simp only [List.map_toArray, List.map_cons, List.map_nil]); first | done | rfl | (simp only [List.length_drop, List.length_take]; rfl)) ?_; (with_reducible refine (triremeref03_value.calls kj1 a0 t174 _ A6.out).mono ?_); rintro e w8 ⟨rfl, hb⟩; refine ⟨_, rfl, ?_⟩) | (go_at_call 25; (with_reducible refine (triremeref03_value.calls kj1 a0 t174 _ A6.out).mono ?_); rintro e w8 ⟨rfl, hb⟩)); have n0_ := Aside0.mk (below_step (by repeat (first | (with_reducible first | exact HB.out | apply below_alloc | apply pw_below_drewN | apply below_drew1) | exact HB.out)) hb); clear HB; have HB := n0_; clear n0_; (try clear hb); (try clear hb2); (try clear hk); (try clear hi)))
          go_ret2
          exact ⟨by first | rfl | (simp [errW_none, errW_some] <;> rfl) | (simp [*, errW_none, errW_some] <;> rfl), by repeat (first | (with_reducible first | exact HB.out | apply below_alloc | apply pw_below_drewN | apply below_drew1) | exact HB.out)⟩
        · rw [if_neg c7] at H
          have c7b0 : decide (1125899906842624 < t174) = false := decide_eq_false c7
          clear c7
          simp only [Option.some.injEq, Prod.mk.injEq] at H
          obtain ⟨rfl, rfl⟩ := H
          go_wp2_with (first | ((first | ((with_reducible refine gate_callee (f := 25) rfl ?_); refine goesL_ (some 16) rfl rfl Try.func25 (by kernel_rfl) rfl #[.string a0] rfl (by (try simp only [List.map_toArray, List.map_cons, List.map_nil]); first | done | rfl | (simp only [List.length_drop, List.length_take]; rfl)) ?_; (with_reducible refine (triremeref03_value.calls kj1 a0 t174 _ A6.out).mono ?_); rintro e w9 ⟨rfl, hb⟩; refine ⟨_, rfl, ?_⟩) | (go_at_call 25; (with_reducible refine (triremeref03_value.calls kj1 a0 t174 _ A6.out).mono ?_); rintro e w9 ⟨rfl, hb⟩)); have n0_ := Aside0.mk (below_step (by repeat (first | (with_reducible first | exact HB.out | apply below_alloc | apply pw_below_drewN | apply below_drew1) | exact HB.out)) hb); clear HB; have HB := n0_; clear n0_; (try clear hb); (try clear hb2); (try clear hk); (try clear hi)))
          go_ret2
          exact ⟨by first | rfl | (simp [errW_none, errW_some] <;> rfl) | (simp [*, errW_none, errW_some] <;> rfl), by repeat (first | (with_reducible first | exact HB.out | apply below_alloc | apply pw_below_drewN | apply below_drew1) | exact HB.out)⟩
end Go.Proofs.Ytpmmiabcfnejmaa.H
end
section
namespace Go.Proofs.Ytpmmiabcfnejmaa.H
open Go.RowKit Go.Proofs.YtpmmiabcfnejmaaW.PrintWords Go.Proofs.YtpmmiabcfnejmaaW.PrintLast Go.Proofs.YtpmmiabcfnejmaaW.PrintMore
theorem wrap_small {i : Int} (h0 : -9223372036854775808 ≤ i) (h1 : i ≤ 9223372036854775807) : wrap64 i = i := by unfold wrap64; omega
theorem bytes_inj {a b : ByteArray} (h : a.data.toList = b.data.toList) : a = b := by
  cases a; cases b
  simp only at h
  rw [Array.toList_inj.mp h]
theorem toList_inj {a b : ByteArray} (h : a.toList = b.toList) : a = b := by
  rw [ByteArray.toList_eq, ByteArray.toList_eq] at h
  exact bytes_inj h
theorem drop_bt (s : ByteArray) (i : Nat) (h : i < s.size) : s.toList.drop i = (s[i]'h) :: s.toList.drop (i + 1) := by
  rw [ByteArray.toList_eq]
  rw [List.drop_eq_getElem_cons (by simpa using h)]
  rfl
theorem bt_nat (s : ByteArray) (i : Nat) (h : i < s.size) : bt s (i : Int) = ((s[i]'h).toNat : Int) := by
  unfold bt
  simp only [Int.toNat_natCast]
  rw [dif_pos h]
theorem ev_if {α : Type} {c : Prop} [Decidable c] {f g : Nat → Option α} {r : α} (h1 : c → Ev f r) (h2 : ¬ c → Ev g r) : Ev (fun k => if c then f k else g k) r := by
  by_cases h : c
  · simp only [h, if_true]; exact h1 h
  · simp only [h, if_false]; exact h2 h
def digB (c : UInt8) : Bool := decide (48 ≤ c.toNat) && decide (c.toNat ≤ 57)
def heads (l : List UInt8) : Nat := (l.takeWhile digB).length
theorem toList_len (s : ByteArray) : s.toList.length = s.size := by rw [ByteArray.toList_eq]; rfl
theorem head_l0 (s : ByteArray) (hs : s.size ≤ 1000000000) : ∀ d i : Nat, i + d = s.size → Ev (fun k => quant_head.l0 k s (i : Int)) ((i + heads (s.toList.drop i) : Nat) : Int) := by
  intro d
  induction d with
  | zero =>
    intro i h
    refine Ev.step (fun k => by rw [quant_head.l0]) ?_
    have h3 : ¬ ((i : Int) < (s.size : Int)) := by omega
    rw [List.drop_eq_nil_of_le (by rw [toList_len]; omega)]
    simp only [h3, if_false, heads, List.takeWhile_nil, List.length_nil, Nat.add_zero]
    exact Ev.now _
  | succ d ih =>
    intro i h
    refine Ev.step (fun k => by rw [quant_head.l0]) ?_
    have h3 : ((i : Int) < (s.size : Int)) := by omega
    have h4 : (0 : Int) ≤ (i : Int) := by omega
    have h5 : i < s.size := by omega
    simp only [h3, h4, if_true]
    rw [wrap_small (i := (i : Int) + 1) (by omega) (by omega), drop_bt s i h5, bt_nat s i h5]
    unfold heads
    rw [List.takeWhile_cons]
    refine ev_if (fun h6 => ev_if (fun h7 => ?_) (fun h7 => ?_)) (fun h6 => ?_)
    · have : digB s[i] = true := by simp [digB]; omega
      rw [this]
      have := ih (i + 1) (by omega)
      unfold heads at this
      rw [show i + 1 + (List.takeWhile digB (List.drop (i + 1) s.toList)).length = i + (s[i] :: List.takeWhile digB (List.drop (i + 1) s.toList)).length by simp; omega] at this
      exact this
    · have : digB s[i] = false := by simp [digB]; omega
      rw [this]
      exact Ev.now _
    · have : digB s[i] = false := by simp [digB]; omega
      rw [this]
      exact Ev.now _
theorem head_ev (s : ByteArray) (hs : s.size ≤ 1000000000) : Ev (fun k => quant_head.f k s) ((heads s.toList : Nat) : Int) := by
  have := head_l0 s hs s.size 0 (by omega)
  rw [List.drop_zero, Nat.zero_add] at this
  exact this
theorem heads_le (l : List UInt8) : heads l ≤ l.length := by
  have h := congrArg List.length (List.takeWhile_append_dropWhile (p := digB) (l := l))
  rw [List.length_append] at h
  unfold heads
  omega
/-- The number that digits tell, behind n. -/
def dval : List UInt8 → Nat → Nat
  | [], n => n
  | c :: l, n => dval l (10 * n + (c.toNat - 48))
theorem dval_ge : ∀ (l : List UInt8) (n : Nat), n ≤ dval l n
  | [], n => Nat.le_refl _
  | c :: l, n => Nat.le_trans (by omega) (dval_ge l (10 * n + (c.toNat - 48)))
def valR (v most : Nat) : Int × Bool := if v ≤ most then ((v : Int), true) else (0, false)
theorem value_l0 (s : ByteArray) (most : Nat) (hm : 9 ≤ most) (hm2 : most ≤ 9000000000000000000) (hs : s.size ≤ 1000000000) (hd : ∀ c ∈ s.toList, digB c = true) : ∀ (d i n : Nat), i + d = s.size → n ≤ most →
    Ev (fun k => quant_value.l0 k s (most : Int) (n : Int) (s.size : Int) (i : Int)) (valR (dval (s.toList.drop i) n) most) := by
  intro d
  induction d with
  | zero =>
    intro i n h hn
    refine Ev.step (fun k => by rw [quant_value.l0]) ?_
    have h3 : ¬ ((i : Int) < (s.size : Int)) := by omega
    rw [List.drop_eq_nil_of_le (by rw [toList_len]; omega)]
    simp only [h3, if_false, dval, valR, hn, if_true]
    exact Ev.now _
  | succ d ih =>
    intro i n h hn
    refine Ev.step (fun k => by rw [quant_value.l0]) ?_
    have h3 : ((i : Int) < (s.size : Int)) := by omega
    have h4 : (0 : Int) ≤ (i : Int) := by omega
    have h5 : i < s.size := by omega
    simp only [h3, h4, if_true]
    have hg : digB s[i] = true := hd _ (by
      have := drop_bt s i h5
      have h6 : s[i] ∈ s.toList.drop i := by rw [this]; exact List.mem_cons_self
      exact List.mem_of_mem_drop h6)
    simp only [digB, Bool.and_eq_true, decide_eq_true_eq] at hg
    rw [drop_bt s i h5, bt_nat s i h5]
    simp only [dval]
    have e1 : (((s[i]'h5).toNat : Int) - 48) % 256 = (((s[i]'h5).toNat - 48 : Nat) : Int) := by omega
    rw [e1]
    have hq9 : ((s[i]'h5).toNat - 48) ≤ 9 := by omega
    rw [wrap_small (i := (most : Int) - ((((s[i]'h5).toNat - 48) : Nat) : Int)) (by omega) (by omega), wrap_small (i := (i : Int) + 1) (by omega) (by omega)]
    have e2 : Int.tdiv ((most : Int) - ((((s[i]'h5).toNat - 48) : Nat) : Int)) 10 = (((most - ((s[i]'h5).toNat - 48)) / 10 : Nat) : Int) := by
      rw [show (most : Int) - ((((s[i]'h5).toNat - 48) : Nat) : Int) = ((most - ((s[i]'h5).toNat - 48) : Nat) : Int) by omega]
      rfl
    rw [e2, wrap_small (i := (((most - ((s[i]'h5).toNat - 48)) / 10 : Nat) : Int)) (by omega) (by omega)]
    refine ev_if (fun h6 => ?_) (fun h6 => ?_)
    · have h7 : most < 10 * n + ((s[i]'h5).toNat - 48) := by omega
      have h8 := dval_ge (s.toList.drop (i + 1)) (10 * n + ((s[i]'h5).toNat - 48))
      have h9 : ¬ (dval (s.toList.drop (i + 1)) (10 * n + ((s[i]'h5).toNat - 48)) ≤ most) := by omega
      unfold valR
      rw [if_neg h9]
      exact Ev.now _
    · have h7 : 10 * n + ((s[i]'h5).toNat - 48) ≤ most := by omega
      rw [wrap_small (i := 10 * (n : Int)) (by omega) (by omega), wrap_small (i := 10 * (n : Int) + ((((s[i]'h5).toNat - 48) : Nat) : Int)) (by omega) (by omega)]
      have := ih (i + 1) (10 * n + ((s[i]'h5).toNat - 48)) (by omega) h7
      rw [show ((10 * n + ((s[i]'h5).toNat - 48) : Nat) : Int) = 10 * (n : Int) + ((((s[i]'h5).toNat - 48) : Nat) : Int) by push_cast; rfl] at this
      exact this
theorem value_ev (s : ByteArray) (most : Nat) (hm : 9 ≤ most) (hm2 : most ≤ 9000000000000000000) (hs : s.size ≤ 1000000000) (hd : ∀ c ∈ s.toList, digB c = true) :
    Ev (fun k => quant_value.f k s (most : Int)) (valR (dval s.toList 0) most) := by
  have := value_l0 s most hm hm2 hs hd s.size 0 0 (by omega) (by omega)
  rw [List.drop_zero] at this
  exact this
end Go.Proofs.Ytpmmiabcfnejmaa.H
end
section
namespace Go.Proofs.Ytpmmiabcfnejmaa.H
open Go.RowKit Go.Proofs.YtpmmiabcfnejmaaW.PrintWords Go.Proofs.YtpmmiabcfnejmaaW.PrintLast Go.Proofs.YtpmmiabcfnejmaaW.PrintMore
set_option linter.unusedVariables false
set_option linter.unusedSimpArgs false
theorem u64w {n : Int} (h0 : 0 ≤ n) (h1 : n < 18446744073709551616) : IntKind.u64.wrap n = n := by rw [IntKind.wrap_u64]; omega
theorem and32 (x : Int) (h0 : 0 ≤ x) (h1 : x < 18446744073709551616) : Go.bits .and .u64 x 4294967295 = x % 4294967296 := by
  have h := bits_mask .u64 64 (by decide) (fun n a b => u64w a (by have e : (2 : Int) ^ 64 = 18446744073709551616 := by decide
                                                                   omega)) 32 (by decide) x h0 (by have e : (2 : Int) ^ 64 = 18446744073709551616 := by decide
                                                                                                   omega)
  have e : ((2 : Int) ^ 32 - 1) = 4294967295 := by decide
  have e2 : ((2 : Int) ^ 32) = 4294967296 := by decide
  rw [e, e2] at h
  exact h
theorem mul_split (x y u v : Int) : (4294967296 * x + u) * (4294967296 * y + v) = x * y * 18446744073709551616 + (x * v + u * y) * 4294967296 + u * v := by
  grind
theorem mul_bound {x y m : Int} (hx0 : 0 ≤ x) (hx : x ≤ m) (hy0 : 0 ≤ y) (hy : y ≤ m) : 0 ≤ x * y ∧ x * y ≤ m * m :=
  ⟨Int.mul_nonneg hx0 hy0, Int.mul_le_mul hx hy hy0 (by omega)⟩
theorem mul64 (a b : Int) (ha0 : 0 ≤ a) (ha : a < 18446744073709551616) (hb0 : 0 ≤ b) (hb : b < 18446744073709551616) :
    bits_Mul64.f a b = some (a * b / 18446744073709551616, a * b % 18446744073709551616) := by
  have e := mul_split (a / 4294967296) (b / 4294967296) (a % 4294967296) (b % 4294967296)
  rw [show 4294967296 * (a / 4294967296) + a % 4294967296 = a by omega, show 4294967296 * (b / 4294967296) + b % 4294967296 = b by omega] at e
  unfold bits_Mul64.f
  rw [and32 a ha0 ha, and32 b hb0 hb]
  have b11 := mul_bound (m := 4294967295) (show 0 ≤ a / 4294967296 by omega) (by omega) (show 0 ≤ b / 4294967296 by omega) (by omega)
  have b10 := mul_bound (m := 4294967295) (show 0 ≤ a / 4294967296 by omega) (by omega) (show 0 ≤ b % 4294967296 by omega) (by omega)
  have b01 := mul_bound (m := 4294967295) (show 0 ≤ a % 4294967296 by omega) (by omega) (show 0 ≤ b / 4294967296 by omega) (by omega)
  have b00 := mul_bound (m := 4294967295) (show 0 ≤ a % 4294967296 by omega) (by omega) (show 0 ≤ b % 4294967296 by omega) (by omega)
  generalize (a / 4294967296) * (b / 4294967296) = p11 at *
  generalize (a / 4294967296) * (b % 4294967296) = p10 at *
  generalize (a % 4294967296) * (b / 4294967296) = p01 at *
  generalize (a % 4294967296) * (b % 4294967296) = p00 at *
  generalize a * b = p at *
  clear ha0 ha hb0 hb
  rw [u64w b11.1 (by omega), u64w b10.1 (by omega), u64w b01.1 (by omega), u64w b00.1 (by omega)]
  rw [u64w (n := p10 + p00 / 4294967296) (by omega) (by omega), and32 _ (by omega) (by omega)]
  rw [u64w (n := (p10 + p00 / 4294967296) % 4294967296 + p01) (by omega) (by omega), u64w (n := p11 + (p10 + p00 / 4294967296) / 4294967296) (by omega) (by omega)]
  rw [u64w (n := p11 + (p10 + p00 / 4294967296) / 4294967296 + ((p10 + p00 / 4294967296) % 4294967296 + p01) / 4294967296) (by omega) (by omega), IntKind.wrap_u64]
  congr 2
  omega
theorem tdiv_nn {a b : Int} (h : 0 ≤ a) : Int.tdiv a b = a / b := Int.tdiv_eq_ediv_of_nonneg h
theorem or_low (a b : Int) (i : Nat) (hi : i ≤ 64) (ha0 : 0 ≤ a) (ha : a < 18446744073709551616) (hb0 : 0 ≤ b) (hb : b < 2 ^ i) (hb1 : b < 18446744073709551616) (hm : a % 2 ^ i = 0) : Go.bits .or .u64 a b = a + b := by
  obtain ⟨c, hc⟩ : ∃ c : Int, a = c * 2 ^ i := ⟨a / 2 ^ i, (Int.ediv_mul_cancel (Int.dvd_of_emod_eq_zero hm)).symm⟩
  have hp : (0 : Int) < 2 ^ i := Int.pow_pos (by decide)
  have hc0 : 0 ≤ c := by
    rcases Int.lt_or_le c 0 with h | h
    · exfalso
      have := Int.mul_neg_of_neg_of_pos h hp
      omega
    · exact h
  obtain ⟨c', rfl⟩ := Int.eq_ofNat_of_zero_le hc0
  obtain ⟨b', rfl⟩ := Int.eq_ofNat_of_zero_le hb0
  have hb' : b' < 2 ^ i := by exact_mod_cast hb
  have ea : a = ((c' * 2 ^ i : Nat) : Int) := by rw [hc]; push_cast; rfl
  have h := (bits_nat .u64 64 (by decide) (fun n a b => u64w a (by have e : (2 : Int) ^ 64 = 18446744073709551616 := by decide
                                                                   omega)) (c' * 2 ^ i) b' (by have : (2 : Nat) ^ 64 = 18446744073709551616 := by decide
                                                                                               omega) (by have : (2 : Nat) ^ 64 = 18446744073709551616 := by decide
                                                                                                          omega)).2
  rw [ea, h, Nat.mul_comm, ← Nat.two_pow_add_eq_or_of_lt hb']
  push_cast
  rfl
theorem div64m_lz : Ev (fun k => bits_LeadingZeros64.f k 1000000) 44 := Ev.of (fun k => bits_LeadingZeros64.mono _ k) (k := 4) (by kernel_rfl)
theorem div64m_j4 (x10 x14 x15 x16 x17 x18 : Int) (x2 x9 : Int) (h15 : 0 ≤ x15) (h15b : x15 < 4294967296) (h18 : 0 ≤ x18) (h18b : x18 < 4294967296) : ∃ r, Ev (fun k => bits_Div64.j4 k x2 44 x9 x10 x14 x15 x16 x17 x18 false) (x15 * 4294967296 + x18, r) := by
  refine ⟨shr .u64 (IntKind.u64.wrap ((IntKind.u64.wrap ((IntKind.u64.wrap (x17 * 4294967296)) + x14)) - (IntKind.u64.wrap (x18 * x2)))) 44, Ev.step (fun k => by rw [bits_Div64.j4]) ?_⟩
  · simp only [Bool.false_eq_true, if_false, show (0 : Int) ≤ 44 by decide, if_true]
    rw [u64w (n := x15 * 4294967296) (by omega) (by omega), u64w (n := x15 * 4294967296 + x18) (by omega) (by omega)]
    exact Ev.now _
theorem div64m_l0 (un32 un1 un0 q1 q0 un21 : Int) (h0 : 0 ≤ un32) (h1 : un32 < 17592186044416000000) (g0 : 0 ≤ un1) (g1 : un1 < 4294967296) (hq : q1 = un32 / 4096000000) (hu : un21 = (un32 - q1 * 4096000000) * 4294967296 + un1) (hq0 : q0 = un21 / 4096000000) (rh : Int) :
    ∃ r, Ev (fun k => bits_Div64.l0 k 17592186044416000000 44 4096000000 0 un32 un1 un0 q1 rh) (q1 * 4294967296 + q0, r) := by
  have b1 : 0 ≤ q1 ∧ q1 < 4294967296 := by omega
  have b2 : 0 ≤ un21 ∧ un21 < 17592186044416000000 := by omega
  have b3 : 0 ≤ q0 ∧ q0 < 4294967296 := by omega
  obtain ⟨r, hr⟩ := div64m_j4 0 un0 q1 (IntKind.u64.wrap (un21 - IntKind.u64.wrap (q0 * 4096000000))) un21 q0 17592186044416000000 4096000000 b1.1 b1.2 b3.1 b3.2
  refine ⟨r, Ev.step (fun k => by rw [bits_Div64.l0]) ?_⟩
  simp only [show ¬ q1 ≥ 4294967296 by omega, if_false]
  rw [show decide (IntKind.u64.wrap (q1 * 0) > IntKind.u64.wrap (IntKind.u64.wrap (4294967296 * rh) + un1)) = false from decide_eq_false (by rw [Int.mul_zero, IntKind.wrap_u64, IntKind.wrap_u64]; omega)]
  refine Ev.step (fun k => by rw [bits_Div64.j1]) ?_
  simp only [Bool.false_eq_true, if_false]
  refine Ev.step (fun k => by rw [bits_Div64.j2]) ?_
  simp only [show ¬ (4096000000 : Int) = 0 by decide, if_false]
  have e21 : IntKind.u64.wrap (IntKind.u64.wrap (IntKind.u64.wrap (un32 * 4294967296) + un1) - IntKind.u64.wrap (q1 * 17592186044416000000)) = un21 := by
    rw [IntKind.wrap_u64, IntKind.wrap_u64, IntKind.wrap_u64, IntKind.wrap_u64]; omega
  have eq0 : IntKind.u64.wrap (Int.tdiv un21 4096000000) = q0 := by rw [tdiv_nn b2.1, ← hq0, u64w b3.1 (by omega)]
  rw [e21, eq0]
  refine Ev.step (fun k => by rw [bits_Div64.l1]) ?_
  simp only [show ¬ q0 ≥ 4294967296 by omega, if_false]
  rw [show decide (IntKind.u64.wrap (q0 * 0) > IntKind.u64.wrap (IntKind.u64.wrap (4294967296 * IntKind.u64.wrap (un21 - IntKind.u64.wrap (q0 * 4096000000))) + un0)) = false from decide_eq_false (by rw [Int.mul_zero, IntKind.wrap_u64 0, IntKind.wrap_u64 (_ + un0)]; omega)]
  exact hr
theorem div64m (hi lo : Int) (h0 : 0 ≤ hi) (h1 : hi < 1000000) (l0 : 0 ≤ lo) (l1 : lo < 18446744073709551616) :
    ∃ r, Ev (fun k => bits_Div64.f k hi lo 1000000) ((hi * 18446744073709551616 + lo) / 1000000, r) := by
  unfold bits_Div64.f
  simp only [show ¬ (1000000 : Int) = 0 by decide, if_false, show ¬ (1000000 : Int) ≤ hi by omega]
  by_cases hz : hi = 0
  · subst hz
    simp only [if_true]
    refine ⟨Int.tmod lo 1000000, ?_⟩
    rw [tdiv_nn l0, u64w (by omega) (by omega), show ((0 : Int) * 18446744073709551616 + lo) = lo by omega]
    exact Ev.now _
  · simp only [hz, if_false]
    have e1 : shl .u64 hi 44 = hi * 17592186044416 := by show IntKind.u64.wrap (hi * 17592186044416) = _; exact u64w (by omega) (by omega)
    have e2 : shr .u64 lo 20 = lo / 1048576 := rfl
    have e3 : Go.bits .or .u64 (hi * 17592186044416) (lo / 1048576) = hi * 17592186044416 + lo / 1048576 := or_low _ _ 44 (by decide) (by omega) (by omega) (by omega) (by show lo / 1048576 < 17592186044416; omega) (by omega) (by show hi * 17592186044416 % 17592186044416 = 0; omega)
    have e4 : shl .u64 lo 44 = (lo % 1048576) * 17592186044416 := by show IntKind.u64.wrap (lo * 17592186044416) = _; rw [IntKind.wrap_u64]; omega
    obtain ⟨r, hr⟩ := div64m_l0 (hi * 17592186044416 + lo / 1048576) ((lo % 1048576) * 17592186044416 / 4294967296) (Go.bits .and .u64 ((lo % 1048576) * 17592186044416) 4294967295) _ _ _ (by omega) (by omega) (by omega) (by omega) rfl rfl rfl (IntKind.u64.wrap ((hi * 17592186044416 + lo / 1048576) - IntKind.u64.wrap (((hi * 17592186044416 + lo / 1048576) / 4096000000) * 4096000000)))
    refine ⟨r, Ev.bind div64m_lz ?_⟩
    have ew : IntKind.u64.wrap 44 = 44 := by kernel_rfl
    have ew2 : IntKind.u64.wrap (64 - 44) = 20 := by kernel_rfl
    have ey : shl .u64 1000000 44 = 17592186044416000000 := by kernel_rfl
    have ey2 : (17592186044416000000 : Int) / 4294967296 = 4096000000 := by decide
    have ey3 : Go.bits .and .u64 17592186044416000000 4294967295 = 0 := by kernel_rfl
    simp only [ew, ew2, ey, ey2, ey3, e1, e2, e3, e4]
    simp only [show (0 : Int) ≤ 44 by decide, show (0 : Int) ≤ 20 by decide, show ¬ (4096000000 : Int) = 0 by decide, if_true, if_false]
    rw [tdiv_nn (a := hi * 17592186044416 + lo / 1048576) (by omega), u64w (n := (hi * 17592186044416 + lo / 1048576) / 4096000000) (by omega) (by omega)]
    have er : (hi * 17592186044416 + lo / 1048576) / 4096000000 * 4294967296 + ((hi * 17592186044416 + lo / 1048576 - (hi * 17592186044416 + lo / 1048576) / 4096000000 * 4096000000) * 4294967296 + lo % 1048576 * 17592186044416 / 4294967296) / 4096000000 = (hi * 18446744073709551616 + lo) / 1000000 := by omega
    rw [← er]
    exact hr
theorem div64k_lz : Ev (fun k => bits_LeadingZeros64.f k 1000) 54 := Ev.of (fun k => bits_LeadingZeros64.mono _ k) (k := 4) (by kernel_rfl)
theorem div64k_j4 (x10 x14 x15 x16 x17 x18 : Int) (x2 x9 : Int) (h15 : 0 ≤ x15) (h15b : x15 < 4294967296) (h18 : 0 ≤ x18) (h18b : x18 < 4294967296) : ∃ r, Ev (fun k => bits_Div64.j4 k x2 54 x9 x10 x14 x15 x16 x17 x18 false) (x15 * 4294967296 + x18, r) := by
  refine ⟨shr .u64 (IntKind.u64.wrap ((IntKind.u64.wrap ((IntKind.u64.wrap (x17 * 4294967296)) + x14)) - (IntKind.u64.wrap (x18 * x2)))) 54, Ev.step (fun k => by rw [bits_Div64.j4]) ?_⟩
  · simp only [Bool.false_eq_true, if_false, show (0 : Int) ≤ 54 by decide, if_true]
    rw [u64w (n := x15 * 4294967296) (by omega) (by omega), u64w (n := x15 * 4294967296 + x18) (by omega) (by omega)]
    exact Ev.now _
theorem div64k_l0 (un32 un1 un0 q1 q0 un21 : Int) (h0 : 0 ≤ un32) (h1 : un32 < 18014398509481984000) (g0 : 0 ≤ un1) (g1 : un1 < 4294967296) (hq : q1 = un32 / 4194304000) (hu : un21 = (un32 - q1 * 4194304000) * 4294967296 + un1) (hq0 : q0 = un21 / 4194304000) (rh : Int) :
    ∃ r, Ev (fun k => bits_Div64.l0 k 18014398509481984000 54 4194304000 0 un32 un1 un0 q1 rh) (q1 * 4294967296 + q0, r) := by
  have b1 : 0 ≤ q1 ∧ q1 < 4294967296 := by omega
  have b2 : 0 ≤ un21 ∧ un21 < 18014398509481984000 := by omega
  have b3 : 0 ≤ q0 ∧ q0 < 4294967296 := by omega
  obtain ⟨r, hr⟩ := div64k_j4 0 un0 q1 (IntKind.u64.wrap (un21 - IntKind.u64.wrap (q0 * 4194304000))) un21 q0 18014398509481984000 4194304000 b1.1 b1.2 b3.1 b3.2
  refine ⟨r, Ev.step (fun k => by rw [bits_Div64.l0]) ?_⟩
  simp only [show ¬ q1 ≥ 4294967296 by omega, if_false]
  rw [show decide (IntKind.u64.wrap (q1 * 0) > IntKind.u64.wrap (IntKind.u64.wrap (4294967296 * rh) + un1)) = false from decide_eq_false (by rw [Int.mul_zero, IntKind.wrap_u64, IntKind.wrap_u64]; omega)]
  refine Ev.step (fun k => by rw [bits_Div64.j1]) ?_
  simp only [Bool.false_eq_true, if_false]
  refine Ev.step (fun k => by rw [bits_Div64.j2]) ?_
  simp only [show ¬ (4194304000 : Int) = 0 by decide, if_false]
  have e21 : IntKind.u64.wrap (IntKind.u64.wrap (IntKind.u64.wrap (un32 * 4294967296) + un1) - IntKind.u64.wrap (q1 * 18014398509481984000)) = un21 := by
    rw [IntKind.wrap_u64, IntKind.wrap_u64, IntKind.wrap_u64, IntKind.wrap_u64]; omega
  have eq0 : IntKind.u64.wrap (Int.tdiv un21 4194304000) = q0 := by rw [tdiv_nn b2.1, ← hq0, u64w b3.1 (by omega)]
  rw [e21, eq0]
  refine Ev.step (fun k => by rw [bits_Div64.l1]) ?_
  simp only [show ¬ q0 ≥ 4294967296 by omega, if_false]
  rw [show decide (IntKind.u64.wrap (q0 * 0) > IntKind.u64.wrap (IntKind.u64.wrap (4294967296 * IntKind.u64.wrap (un21 - IntKind.u64.wrap (q0 * 4194304000))) + un0)) = false from decide_eq_false (by rw [Int.mul_zero, IntKind.wrap_u64 0, IntKind.wrap_u64 (_ + un0)]; omega)]
  exact hr
theorem div64k (hi lo : Int) (h0 : 0 ≤ hi) (h1 : hi < 1000) (l0 : 0 ≤ lo) (l1 : lo < 18446744073709551616) :
    ∃ r, Ev (fun k => bits_Div64.f k hi lo 1000) ((hi * 18446744073709551616 + lo) / 1000, r) := by
  unfold bits_Div64.f
  simp only [show ¬ (1000 : Int) = 0 by decide, if_false, show ¬ (1000 : Int) ≤ hi by omega]
  by_cases hz : hi = 0
  · subst hz
    simp only [if_true]
    refine ⟨Int.tmod lo 1000, ?_⟩
    rw [tdiv_nn l0, u64w (by omega) (by omega), show ((0 : Int) * 18446744073709551616 + lo) = lo by omega]
    exact Ev.now _
  · simp only [hz, if_false]
    have e1 : shl .u64 hi 54 = hi * 18014398509481984 := by show IntKind.u64.wrap (hi * 18014398509481984) = _; exact u64w (by omega) (by omega)
    have e2 : shr .u64 lo 10 = lo / 1024 := rfl
    have e3 : Go.bits .or .u64 (hi * 18014398509481984) (lo / 1024) = hi * 18014398509481984 + lo / 1024 := or_low _ _ 54 (by decide) (by omega) (by omega) (by omega) (by show lo / 1024 < 18014398509481984; omega) (by omega) (by show hi * 18014398509481984 % 18014398509481984 = 0; omega)
    have e4 : shl .u64 lo 54 = (lo % 1024) * 18014398509481984 := by show IntKind.u64.wrap (lo * 18014398509481984) = _; rw [IntKind.wrap_u64]; omega
    obtain ⟨r, hr⟩ := div64k_l0 (hi * 18014398509481984 + lo / 1024) ((lo % 1024) * 18014398509481984 / 4294967296) (Go.bits .and .u64 ((lo % 1024) * 18014398509481984) 4294967295) _ _ _ (by omega) (by omega) (by omega) (by omega) rfl rfl rfl (IntKind.u64.wrap ((hi * 18014398509481984 + lo / 1024) - IntKind.u64.wrap (((hi * 18014398509481984 + lo / 1024) / 4194304000) * 4194304000)))
    refine ⟨r, Ev.bind div64k_lz ?_⟩
    have ew : IntKind.u64.wrap 54 = 54 := by kernel_rfl
    have ew2 : IntKind.u64.wrap (64 - 54) = 10 := by kernel_rfl
    have ey : shl .u64 1000 54 = 18014398509481984000 := by kernel_rfl
    have ey2 : (18014398509481984000 : Int) / 4294967296 = 4194304000 := by decide
    have ey3 : Go.bits .and .u64 18014398509481984000 4294967295 = 0 := by kernel_rfl
    simp only [ew, ew2, ey, ey2, ey3, e1, e2, e3, e4]
    simp only [show (0 : Int) ≤ 54 by decide, show (0 : Int) ≤ 10 by decide, show ¬ (4194304000 : Int) = 0 by decide, if_true, if_false]
    rw [tdiv_nn (a := hi * 18014398509481984 + lo / 1024) (by omega), u64w (n := (hi * 18014398509481984 + lo / 1024) / 4194304000) (by omega) (by omega)]
    have er : (hi * 18014398509481984 + lo / 1024) / 4194304000 * 4294967296 + ((hi * 18014398509481984 + lo / 1024 - (hi * 18014398509481984 + lo / 1024) / 4194304000 * 4194304000) * 4294967296 + lo % 1024 * 18014398509481984 / 4294967296) / 4194304000 = (hi * 18446744073709551616 + lo) / 1000 := by omega
    rw [← er]
    exact hr
end Go.Proofs.Ytpmmiabcfnejmaa.H
end
section
namespace Go.Proofs.Ytpmmiabcfnejmaa.H
open Go.RowKit Go.Proofs.YtpmmiabcfnejmaaW.PrintWords Go.Proofs.YtpmmiabcfnejmaaW.PrintLast Go.Proofs.YtpmmiabcfnejmaaW.PrintMore
set_option linter.unusedVariables false
set_option linter.unusedSimpArgs false
theorem dval_congr (m : Nat) : ∀ (l : List UInt8) (x y : Nat), x % m = y % m → dval l x % m = dval l y % m
  | [], x, y, h => h
  | c :: l, x, y, h => dval_congr m l _ _ (by rw [Nat.add_mod, Nat.mul_mod, h, ← Nat.mul_mod, ← Nat.add_mod])
theorem wrap_nat (n : Nat) (h : n ≤ 9223372036854775807) : wrap64 (n : Int) = (n : Int) := wrap_small (by omega) (by omega)
def vOf (A p u : Nat) : Nat := (A * 1000 + p) * u
theorem vOf_congr (m A B p u : Nat) (h : A % m = B % m) : vOf A p u % m = vOf B p u % m := by
  unfold vOf
  rw [Nat.mul_mod, Nat.add_mod, Nat.mul_mod A, h, ← Nat.mul_mod B, ← Nat.add_mod, ← Nat.mul_mod]
theorem tmod_nat (a b : Nat) : Int.tmod (a : Int) (b : Int) = ((a % b : Nat) : Int) := rfl
theorem tdiv_nat (a b : Nat) : Int.tdiv (a : Int) (b : Int) = ((a / b : Nat) : Int) := rfl
set_option maxRecDepth 100000 in
theorem exact_l0 (s : ByteArray) (each : Nat) (he : 0 < each) (he2 : each ≤ 1000000) (p u : Nat) (hp : p < 1000) (hs : s.size ≤ 1000000000) (hd : ∀ c ∈ s.toList, digB c = true) : ∀ (d i r : Nat), i + d = s.size → r < each →
    Ev (fun k => quant_exact.l0 k s (p : Int) (u : Int) (each : Int) (r : Int) (s.size : Int) (i : Int)) (decide (vOf (dval (s.toList.drop i) r) p u % each = 0)) := by
  intro d
  induction d with
  | zero =>
    intro i r h hr
    refine Ev.step (fun k => by rw [quant_exact.l0]) ?_
    have h3 : ¬ ((i : Int) < (s.size : Int)) := by omega
    rw [List.drop_eq_nil_of_le (by rw [toList_len]; omega)]
    simp only [h3, if_false, dval, show ¬ (each : Int) = 0 by omega]
    rw [wrap_small (i := (r : Int) * 1000) (by omega) (by omega), wrap_small (i := (r : Int) * 1000 + p) (by omega) (by omega)]
    rw [show (r : Int) * 1000 + (p : Int) = ((r * 1000 + p : Nat) : Int) by omega, tmod_nat, tmod_nat]
    have b1 : (r * 1000 + p) % each < 1000000 := Nat.lt_of_lt_of_le (Nat.mod_lt _ he) he2
    have b2 : u % each < 1000000 := Nat.lt_of_lt_of_le (Nat.mod_lt _ he) he2
    have b3 : (r * 1000 + p) % each * (u % each) ≤ 1000000 * 1000000 := Nat.mul_le_mul (by omega) (by omega)
    rw [show (((r * 1000 + p) % each : Nat) : Int) * ((u % each : Nat) : Int) = (((r * 1000 + p) % each * (u % each) : Nat) : Int) from (Int.natCast_mul _ _).symm, wrap_small (by omega) (by omega), tmod_nat, ← Nat.mul_mod]
    have e : (((((r * 1000 + p) * u % each : Nat) : Int)) == 0) = decide (vOf r p u % each = 0) := by
      unfold vOf
      by_cases h : (r * 1000 + p) * u % each = 0
      · simp [h]
      · rw [decide_eq_false h, beq_eq_false_iff_ne]; omega
    rw [e]
    exact Ev.now _
  | succ d ih =>
    intro i r h hr
    refine Ev.step (fun k => by rw [quant_exact.l0]) ?_
    have h3 : ((i : Int) < (s.size : Int)) := by omega
    have h4 : (0 : Int) ≤ (i : Int) := by omega
    have h5 : i < s.size := by omega
    simp only [h3, h4, if_true, show ¬ (each : Int) = 0 by omega, if_false]
    have hg : digB s[i] = true := hd _ (by
      have := drop_bt s i h5
      have h6 : s[i] ∈ s.toList.drop i := by rw [this]; exact List.mem_cons_self
      exact List.mem_of_mem_drop h6)
    simp only [digB, Bool.and_eq_true, decide_eq_true_eq] at hg
    rw [drop_bt s i h5, bt_nat s i h5]
    simp only [dval]
    have e1 : (((s[i]'h5).toNat : Int) - 48) % 256 = (((s[i]'h5).toNat - 48 : Nat) : Int) := by omega
    rw [e1]
    have hq9 : ((s[i]'h5).toNat - 48) ≤ 9 := by omega
    rw [wrap_small (i := (i : Int) + 1) (by omega) (by omega), wrap_small (i := 10 * (r : Int)) (by omega) (by omega), wrap_small (i := 10 * (r : Int) + (((s[i]'h5).toNat - 48 : Nat) : Int)) (by omega) (by omega)]
    rw [show 10 * (r : Int) + (((s[i]'h5).toNat - 48 : Nat) : Int) = ((10 * r + ((s[i]'h5).toNat - 48) : Nat) : Int) by omega, tmod_nat]
    have := ih (i + 1) ((10 * r + ((s[i]'h5).toNat - 48)) % each) (by omega) (Nat.mod_lt _ he)
    rw [vOf_congr each _ _ p u (dval_congr each (s.toList.drop (i + 1)) ((10 * r + ((s[i]'h5).toNat - 48)) % each) (10 * r + ((s[i]'h5).toNat - 48)) (Nat.mod_mod _ _))] at this
    exact this
theorem exact_ev (s : ByteArray) (each : Nat) (he : 0 < each) (he2 : each ≤ 1000000) (p u : Nat) (hp : p < 1000) (hs : s.size ≤ 1000000000) (hd : ∀ c ∈ s.toList, digB c = true) :
    Ev (fun k => quant_exact.f k s (p : Int) (u : Int) (each : Int)) (decide (vOf (dval s.toList 0) p u % each = 0)) := by
  have := exact_l0 s each he he2 p u hp hs hd s.size 0 0 (by omega) he
  rw [List.drop_zero] at this
  exact this
def amtFin (V each : Nat) : Int × Int := if V / each ≤ 1125899906842624 then (((V / each : Nat) : Int), 0) else (0, 10)
def finOf (n : Int × Bool) : Int × Int := if n.2 = true then (if n.1 > 1125899906842624 then (0, 10) else (n.1, 0)) else (0, 10)
set_option maxRecDepth 100000 in
theorem whole_ev (s : ByteArray) (each : Nat) (he : each = 1000 ∨ each = 1000000) (p u : Nat) (hp : p < 1000) (hu : u = 1 ∨ 1000 ≤ u) (hu2 : u ≤ 1099511627776000) (hs : s.size ≤ 1000000000) (hd : ∀ c ∈ s.toList, digB c = true)
    (hx : vOf (dval s.toList 0) p u % each = 0) : ∃ n, Ev (fun k => quant_whole.f k s (p : Int) (u : Int) (each : Int)) n ∧ finOf n = amtFin (vOf (dval s.toList 0) p u) each := by
  unfold quant_whole.f
  rcases hu with rfl | hu
  · have hv := value_ev s 1125899906842624000 (by omega) (by omega) hs hd
    simp only [show ((1 : Nat) : Int) = 1 from rfl, if_true]
    generalize dval s.toList 0 = A at *
    have hp0 : p = 0 := by
      unfold vOf at hx
      rcases he with rfl | rfl <;> omega
    subst hp0
    unfold vOf at hx ⊢
    have ew1 : wrap64 (Int.tdiv (each : Int) 1000) = ((each / 1000 : Nat) : Int) := by
      rw [show Int.tdiv (each : Int) 1000 = ((each / 1000 : Nat) : Int) from rfl, wrap_small (by omega) (by omega)]
    have hq : A / (each / 1000) ≤ A := Nat.div_le_self _ _
    refine ⟨(wrap64 (Int.tdiv (valR A 1125899906842624000).1 (wrap64 (Int.tdiv (each : Int) 1000))), (valR A 1125899906842624000).2), Ev.bind hv ?_, ?_⟩
    · have : ¬ wrap64 (Int.tdiv (each : Int) 1000) = 0 := by rw [ew1]; rcases he with rfl | rfl <;> decide
      simp only [this, if_false]
      exact Ev.now _
    · rw [ew1]
      unfold finOf amtFin valR
      by_cases hA : A ≤ 1125899906842624000
      · simp only [hA, if_true]
        rw [tdiv_nat, wrap_nat _ (by omega)]
        have e2 : (A * 1000 + 0) * 1 / each = A / (each / 1000) := by rcases he with rfl | rfl <;> omega
        rw [e2]
        by_cases hB : A / (each / 1000) ≤ 1125899906842624
        · rw [if_pos hB, if_neg (by omega)]
        · rw [if_neg hB, if_pos (by omega)]
      · simp only [hA, if_false, Bool.false_eq_true]
        rw [if_neg (by rcases he with rfl | rfl <;> omega)]
  · have hv := value_ev s 1125899906842624 (by omega) (by omega) hs hd
    simp only [show ¬ (u : Int) = 1 by omega, if_false]
    generalize dval s.toList 0 = A at *
    by_cases hA : A ≤ 1125899906842624
    · rw [show valR A 1125899906842624 = ((A : Int), true) by unfold valR; rw [if_pos hA]] at hv
      have eV : (((A * 1000 + p : Nat) : Int)) * (u : Int) = ((vOf A p u : Nat) : Int) := by unfold vOf; push_cast; rfl
      have em := mul64 ((A * 1000 + p : Nat) : Int) (u : Int) (by omega) (by omega) (by omega) (by omega)
      rw [eV] at em
      have ew : IntKind.u64.wrap (wrap64 ((wrap64 ((A : Int) * 1000)) + (p : Int))) = ((A * 1000 + p : Nat) : Int) := by
        rw [wrap_small (i := (A : Int) * 1000) (by omega) (by omega), wrap_small (by omega) (by omega), u64w (by omega) (by omega)]; push_cast; rfl
      have ewu : IntKind.u64.wrap (u : Int) = (u : Int) := u64w (by omega) (by omega)
      have ewe : IntKind.u64.wrap (each : Int) = (each : Int) := u64w (by omega) (by omega)
      generalize vOf A p u = V at *
      by_cases hh : V / 18446744073709551616 ≥ each
      · refine ⟨(0, false), Ev.bind hv ?_, ?_⟩
        · simp only [ew, ewu, ewe, em, Option.bind_some, if_true]
          refine ev_if (fun _ => Ev.now _) (fun h => absurd (show (V : Int) / 18446744073709551616 ≥ (each : Int) by omega) h)
        · unfold finOf amtFin
          simp only [Bool.false_eq_true, if_false]
          rw [if_neg (by rcases he with rfl | rfl <;> omega)]
      · have hdv : ∃ r, Ev (fun k => bits_Div64.f k ((V : Int) / 18446744073709551616) ((V : Int) % 18446744073709551616) (each : Int)) (((V / each : Nat) : Int), r) := by
          rcases he with rfl | rfl
          · obtain ⟨r, hr⟩ := div64k ((V : Int) / 18446744073709551616) ((V : Int) % 18446744073709551616) (by omega) (by omega) (by omega) (by omega)
            rw [show ((V : Int) / 18446744073709551616 * 18446744073709551616 + (V : Int) % 18446744073709551616) / 1000 = ((V / 1000 : Nat) : Int) by omega] at hr
            exact ⟨r, hr⟩
          · obtain ⟨r, hr⟩ := div64m ((V : Int) / 18446744073709551616) ((V : Int) % 18446744073709551616) (by omega) (by omega) (by omega) (by omega)
            rw [show ((V : Int) / 18446744073709551616 * 18446744073709551616 + (V : Int) % 18446744073709551616) / 1000000 = ((V / 1000000 : Nat) : Int) by omega] at hr
            exact ⟨r, hr⟩
        obtain ⟨r, hr⟩ := hdv
        refine ⟨(wrap64 (mn ((V / each : Nat) : Int) 1125899906842625), true), Ev.bind hv ?_, ?_⟩
        · simp only [ew, ewu, ewe, em, Option.bind_some, if_true]
          exact ev_if (fun h => absurd h (show ¬ (V : Int) / 18446744073709551616 ≥ (each : Int) by omega)) (fun _ => Ev.bind hr (Ev.now _))
        · have e3 : wrap64 (mn ((V / each : Nat) : Int) 1125899906842625) = ((min (V / each) 1125899906842625 : Nat) : Int) := by
            have e4 : mn ((V / each : Nat) : Int) 1125899906842625 = ((min (V / each) 1125899906842625 : Nat) : Int) := by unfold mn; split <;> omega
            rw [e4, wrap_nat _ (by omega)]
          rw [e3]
          unfold finOf amtFin
          simp only [if_true]
          by_cases hB : V / each ≤ 1125899906842624
          · rw [if_pos hB, if_neg (by omega)]
            congr 2
            omega
          · rw [if_neg hB, if_pos (by omega)]
    · rw [show valR A 1125899906842624 = (0, false) by unfold valR; rw [if_neg hA]] at hv
      refine ⟨(0, false), Ev.bind hv ?_, ?_⟩
      · rw [mul64 _ _ (by rw [IntKind.wrap_u64]; omega) (by rw [IntKind.wrap_u64]; omega) (by rw [IntKind.wrap_u64]; omega) (by rw [IntKind.wrap_u64]; omega)]
        simp only [Option.bind_some, Bool.false_eq_true, if_false]
        exact Ev.now _
      · have h1 : 1125899906842625 * 1000 * 1000 ≤ vOf A p u := Nat.mul_le_mul (by omega) hu
        unfold finOf amtFin
        simp only [Bool.false_eq_true, if_false]
        rw [if_neg (by rcases he with rfl | rfl <;> omega)]
theorem extract_toList (s : ByteArray) (i j : Nat) : (s.extract i j).toList = (s.toList.take j).drop i := by
  rw [ByteArray.toList_eq, ByteArray.toList_eq]
  rw [ByteArray.data_extract, Array.toList_extract, List.extract_eq_take_drop, List.drop_take]
theorem heads_take (l : List UInt8) : ∀ c ∈ l.take (heads l), digB c = true := by
  have e : l.take (heads l) = l.takeWhile digB := by
    have h1 := List.takeWhile_append_dropWhile (p := digB) (l := l)
    have h2 : (l.takeWhile digB ++ l.dropWhile digB).take (heads l) = l.takeWhile digB := List.take_left
    rw [h1] at h2
    exact h2
  intro c hc
  rw [e] at hc
  exact List.all_eq_true.1 (List.all_takeWhile (p := digB) (l := l)) c hc
end Go.Proofs.Ytpmmiabcfnejmaa.H
end
