import Derived.Test.YtpmmiabcfnejmaaProg
import Derived.Below
import Derived.Deep.Draws
import Derived.Deep.AppendLies
import Derived.Maps.AppendAt
import Derived.OwnWalk
import Derived.Laws.BytesArg
import Derived.Laws.MakeOwn
import Derived.Laws.OwnMore
import Derived.Deep.OwnRows
import Derived.Tactics
import Derived.Lib.ConvBytes
import Derived.Laws.Slices
import Derived.WalkKit
import Derived.KernelRfl
import Derived.RowKit3
import Derived.Deep.LoopGhost
import Derived.Deep.QuietTactic
import Derived.BigQuiet
import Derived.WideLaws
import Derived.Deep.DeepCutAuto
import Derived.Deep.CutBlock
import Derived.Deep.RegionHeld3
import Derived.Laws.Rows
import Derived.Lib.AppendStr
import Derived.ArgAppend
import Derived.Laws.IdiomCopy
import Derived.OrdersHeld
import Derived.Laws.BitsLemmas
import Derived.RowKit
import Derived.Laws.RangeAny
import Derived.Laws.Cover1
import Derived.Test.YtpmmiabcfnejmaaCQuantZeros0
section
namespace Go.Proofs.Ytpmmiabcfnejmaa.H
open Go.RowKit Go.Proofs.YtpmmiabcfnejmaaW.PrintWords Go.Proofs.YtpmmiabcfnejmaaW.PrintLast Go.Proofs.YtpmmiabcfnejmaaW.PrintMore
attribute [local go_sem] max2_int min2_int max_two min_two max_three min_three max_four min_four   -- for this text's walks alone
set_option linter.unusedVariables false
set_option linter.unusedSimpArgs false
def errW : Option Int → Value
  | none => .nilIface
  | some c => .iface 0 (.int .i64 c)
theorem errW_none : errW none = .nilIface := rfl
theorem errW_some (c : Int) : errW (some c) = .iface 0 (.int .i64 c) := rfl
end Go.Proofs.Ytpmmiabcfnejmaa.H
end
section
namespace Go.Proofs.Ytpmmiabcfnejmaa.H
open Go.RowKit Go.Proofs.YtpmmiabcfnejmaaW.PrintWords Go.Proofs.YtpmmiabcfnejmaaW.PrintLast Go.Proofs.YtpmmiabcfnejmaaW.PrintMore
attribute [local go_sem] max2_int min2_int max_two min_two max_three min_three max_four min_four   -- for this text's walks alone
set_option linter.unusedVariables false
set_option linter.unusedSimpArgs false
def quant_head.l0 : Nat → ByteArray → Int → Option (Int)
  | 0, _, _ => none
  | k + 1, x0, x3 => if x3 < (x0.size : Int) then (if 0 ≤ x3 then (if (bt x0 x3) ≥ 48 then (if (bt x0 x3) ≤ 57 then (quant_head.l0 k x0 (wrap64 (x3 + 1))) else (some x3)) else (some x3)) else (none)) else (some x3)
def quant_head.f (k : Nat) (a0 : ByteArray) : Option (Int) := quant_head.l0 k a0 0
theorem quant_head.mono_l : ∀ k, (∀ y0 y1, LeO (quant_head.l0 k y0 y1) (quant_head.l0 (k + 1) y0 y1))
  | 0 => fun _ _ r h => by simp [quant_head.l0] at h
  | k + 1 => by
    have ih0 := quant_head.mono_l k
    · intro y0 y1
      unfold quant_head.l0
      repeat' first
      | (with_reducible exact ih0 _ _)
      | (with_reducible exact LeO.refl _)
      | (with_reducible exact LeO.none _)
      | (with_reducible refine LeO.ite ?_ ?_)
      | (with_reducible refine LeO.bind ?_ (fun _ => ?_))
      | exact ih0 _ _
      | exact LeO.none _
      | refine LeO.ite ?_ ?_
      | refine LeO.bind ?_ (fun _ => ?_)
theorem quant_head.mono : ∀ a0 k, LeO (quant_head.f k a0) (quant_head.f (k + 1) a0) := by
  intro a0 k
  have ih0 := quant_head.mono_l k
  unfold quant_head.f
  repeat' first
      | (with_reducible exact ih0 _ _)
      | (with_reducible exact LeO.refl _)
      | (with_reducible exact LeO.none _)
      | (with_reducible refine LeO.ite ?_ ?_)
      | (with_reducible refine LeO.bind ?_ (fun _ => ?_))
      | exact ih0 _ _
      | exact LeO.none _
      | refine LeO.ite ?_ ?_
      | refine LeO.bind ?_ (fun _ => ?_)
set_option maxHeartbeats 8000000 in
set_option maxRecDepth 100000 in
theorem quant_head.calls (k : Nat) (a0 : ByteArray) (r : Int) (w : World) (h : quant_head.f k a0 = some r) :
    Calls Try.prog 22 #[.string a0] w fun e w' => e = .returned (.int .i64 r) ∧ Drawn0 w w' := by
  have H : (quant_head.l0 k a0 0) = some r := h
  clear h
  have H' := Aside0.mk H
  clear H
  go_enter Try.func22, Try.ntmps22
  go_wp2
  go_loopg [3] k (fun kq v3 w' => ∃ (x3_1 : Int), v3 = .int .i64 x3_1 ∧ Aside0 (quant_head.l0 kq a0 x3_1 = some r) ∧ Aside0 (kq ≤ k) ∧ Drawn0 w w')
  case atStart => exact ⟨(0), (by first | rfl | (simp; done) | (simp [*]; done)), H', ⟨Nat.le_refl _⟩, by repeat (first | exact Drawn0.refl _ | apply Drawn0.step)⟩
  case round =>
    clear H'
    obtain ⟨x3_1, rfl, HA, HK1, ⟨m1, rfl⟩⟩ := hrel
    cases gk with
    | zero => exact absurd HA.out (by simp [quant_head.l0])
    | succ k1 =>
      have H := HA.out
      clear HA
      simp only [quant_head.l0] at H
      by_cases c2 : x3_1 < (a0.size : Int)
      · rw [if_pos c2] at H
        have c2b0 : decide (x3_1 < (a0.size : Int)) = true := decide_eq_true c2
        clear c2
        by_cases c3 : 0 ≤ x3_1
        · rw [if_pos c3] at H
          have c3b0 : decide (0 ≤ x3_1) = true := decide_eq_true c3
          clear c3
          by_cases c5 : (bt a0 x3_1) ≥ 48
          · rw [if_pos c5] at H
            have c5b0 : decide (48 ≤ (bt a0 x3_1)) = true := decide_eq_true c5
            clear c5
            by_cases c7 : (bt a0 x3_1) ≤ 57
            · rw [if_pos c7] at H
              have c7b0 : decide ((bt a0 x3_1) ≤ 57) = true := decide_eq_true c7
              clear c7
              have H' := Aside0.mk H
              clear H
              have p4 : 0 ≤ (x3_1 : Int) := of_decide_eq_true (by first | (with_reducible assumption) | assumption)
              have q4 : x3_1 < (a0.size : Int) := of_decide_eq_true (by first | (with_reducible assumption) | assumption)
              have hx4 := bt_at a0 x3_1
              replace p4 := eq_true p4
              replace q4 := eq_true q4
              (try (have qz4 := q4; rw [ByteArray.size_extract, Nat.min_self] at qz4))
              have p6 : 0 ≤ (x3_1 : Int) := of_decide_eq_true (by first | (with_reducible assumption) | assumption)
              have q6 : x3_1 < (a0.size : Int) := of_decide_eq_true (by first | (with_reducible assumption) | assumption)
              have hx6 := bt_at a0 x3_1
              replace p6 := eq_true p6
              replace q6 := eq_true q6
              (try (have qz6 := q6; rw [ByteArray.size_extract, Nat.min_self] at qz6))
              go_wp2
              go_roundg k1
              case measure => have := HK1.out; omega
              case rel => exact ⟨(wrap64 (x3_1 + 1)), (by first | rfl | (simp; done) | (simp [*]; done)), H', ⟨by have := HK1.out; omega⟩, by repeat (first | exact Drawn0.refl _ | apply Drawn0.step)⟩
            · rw [if_neg c7] at H
              have c7b0 : decide ((bt a0 x3_1) ≤ 57) = false := decide_eq_false c7
              clear c7
              obtain rfl := Option.some.inj H
              have p4 : 0 ≤ (x3_1 : Int) := of_decide_eq_true (by first | (with_reducible assumption) | assumption)
              have q4 : x3_1 < (a0.size : Int) := of_decide_eq_true (by first | (with_reducible assumption) | assumption)
              have hx4 := bt_at a0 x3_1
              replace p4 := eq_true p4
              replace q4 := eq_true q4
              (try (have qz4 := q4; rw [ByteArray.size_extract, Nat.min_self] at qz4))
              have p6 : 0 ≤ (x3_1 : Int) := of_decide_eq_true (by first | (with_reducible assumption) | assumption)
              have q6 : x3_1 < (a0.size : Int) := of_decide_eq_true (by first | (with_reducible assumption) | assumption)
              have hx6 := bt_at a0 x3_1
              replace p6 := eq_true p6
              replace q6 := eq_true q6
              (try (have qz6 := q6; rw [ByteArray.size_extract, Nat.min_self] at qz6))
              go_wp2
              go_ret
              exact ⟨by first | rfl | (simp; done) | (simp [*]; done), by repeat (first | exact Drawn0.refl _ | apply Drawn0.step)⟩
          · rw [if_neg c5] at H
            have c5b0 : decide (48 ≤ (bt a0 x3_1)) = false := decide_eq_false c5
            clear c5
            obtain rfl := Option.some.inj H
            have p4 : 0 ≤ (x3_1 : Int) := of_decide_eq_true (by first | (with_reducible assumption) | assumption)
            have q4 : x3_1 < (a0.size : Int) := of_decide_eq_true (by first | (with_reducible assumption) | assumption)
            have hx4 := bt_at a0 x3_1
            replace p4 := eq_true p4
            replace q4 := eq_true q4
            (try (have qz4 := q4; rw [ByteArray.size_extract, Nat.min_self] at qz4))
            go_wp2
            go_ret
            exact ⟨by first | rfl | (simp; done) | (simp [*]; done), by repeat (first | exact Drawn0.refl _ | apply Drawn0.step)⟩
        · rw [if_neg c3] at H
          exact absurd H (by simp)
      · rw [if_neg c2] at H
        have c2b0 : decide (x3_1 < (a0.size : Int)) = false := decide_eq_false c2
        clear c2
        obtain rfl := Option.some.inj H
        go_wp2
        go_ret
        exact ⟨by first | rfl | (simp; done) | (simp [*]; done), by repeat (first | exact Drawn0.refl _ | apply Drawn0.step)⟩
end Go.Proofs.Ytpmmiabcfnejmaa.H
end
section
namespace Go.Proofs.Ytpmmiabcfnejmaa.H
open Go.RowKit Go.Proofs.YtpmmiabcfnejmaaW.PrintWords Go.Proofs.YtpmmiabcfnejmaaW.PrintLast Go.Proofs.YtpmmiabcfnejmaaW.PrintMore
attribute [local go_sem] max2_int min2_int max_two min_two max_three min_three max_four min_four   -- for this text's walks alone
set_option linter.unusedVariables false
set_option linter.unusedSimpArgs false
def quant_value.l0 : Nat → ByteArray → Int → Int → Int → Int → Option (Int × Bool)
  | 0, _, _, _, _, _ => none
  | k + 1, x0, x1, x6, x10, x11 => if x11 < x10 then (if 0 ≤ x11 then (if x11 < (x0.size : Int) then (if x6 > (wrap64 (Int.tdiv (wrap64 (x1 - (((bt x0 x11) - 48) % 256))) 10)) then (some (0, false)) else (quant_value.l0 k x0 x1 (wrap64 ((wrap64 (10 * x6)) + (((bt x0 x11) - 48) % 256))) x10 (wrap64 (x11 + 1)))) else (none)) else (none)) else (some (x6, true))
def quant_value.f (k : Nat) (a0 : ByteArray) (a1 : Int) : Option (Int × Bool) := quant_value.l0 k a0 a1 0 (a0.size : Int) 0
theorem quant_value.mono_l : ∀ k, (∀ y0 y1 y2 y3 y4, LeO (quant_value.l0 k y0 y1 y2 y3 y4) (quant_value.l0 (k + 1) y0 y1 y2 y3 y4))
  | 0 => fun _ _ _ _ _ r h => by simp [quant_value.l0] at h
  | k + 1 => by
    have ih0 := quant_value.mono_l k
    · intro y0 y1 y2 y3 y4
      unfold quant_value.l0
      repeat' first
      | (with_reducible exact ih0 _ _ _ _ _)
      | (with_reducible exact LeO.refl _)
      | (with_reducible exact LeO.none _)
      | (with_reducible refine LeO.ite ?_ ?_)
      | (with_reducible refine LeO.bind ?_ (fun _ => ?_))
      | exact ih0 _ _ _ _ _
      | exact LeO.none _
      | refine LeO.ite ?_ ?_
      | refine LeO.bind ?_ (fun _ => ?_)
theorem quant_value.mono : ∀ a0 a1 k, LeO (quant_value.f k a0 a1) (quant_value.f (k + 1) a0 a1) := by
  intro a0 a1 k
  have ih0 := quant_value.mono_l k
  unfold quant_value.f
  repeat' first
      | (with_reducible exact ih0 _ _ _ _ _)
      | (with_reducible exact LeO.refl _)
      | (with_reducible exact LeO.none _)
      | (with_reducible refine LeO.ite ?_ ?_)
      | (with_reducible refine LeO.bind ?_ (fun _ => ?_))
      | exact ih0 _ _ _ _ _
      | exact LeO.none _
      | refine LeO.ite ?_ ?_
      | refine LeO.bind ?_ (fun _ => ?_)
set_option maxHeartbeats 8000000 in
set_option maxRecDepth 100000 in
theorem quant_value.calls (k : Nat) (a0 : ByteArray) (a1 : Int) (r1 : Int) (r2 : Bool) (w : World) (h : quant_value.f k a0 a1 = some (r1, r2)) :
    Calls Try.prog 23 #[.string a0, .int .i64 a1] w fun e w' => e = .returned (.tuple #[.int .i64 r1, .bool r2]) ∧ Drawn0 w w' := by
  have H : (quant_value.l0 k a0 a1 0 (a0.size : Int) 0) = some (r1, r2) := h
  clear h
  have H' := Aside0.mk H
  clear H
  go_enter Try.func23, Try.ntmps23
  go_wp2
  go_loopg [6, 11] k (fun kq v6 v11 w' => ∃ (x6_1 : Int) (x11_1 : Int), v6 = .int .i64 x6_1 ∧ v11 = .int .i64 x11_1 ∧ Aside0 (quant_value.l0 kq a0 a1 x6_1 (a0.size : Int) x11_1 = some (r1, r2)) ∧ Aside0 (kq ≤ k) ∧ Drawn0 w w')
  case atStart => exact ⟨(0), (0), (by first | rfl | (simp; done) | (simp [*]; done)), (by first | rfl | (simp; done) | (simp [*]; done)), H', ⟨Nat.le_refl _⟩, by repeat (first | exact Drawn0.refl _ | apply Drawn0.step)⟩
  case round =>
    clear H'
    try clear c2
    try clear p2
    obtain ⟨x6_1, x11_1, rfl, rfl, HA, HK1, ⟨m1, rfl⟩⟩ := hrel
    cases gk with
    | zero => exact absurd HA.out (by simp [quant_value.l0])
    | succ k1 =>
      have H := HA.out
      clear HA
      simp only [quant_value.l0] at H
      by_cases c3 : x11_1 < (a0.size : Int)
      · rw [if_pos c3] at H
        have c3b0 : decide (x11_1 < (a0.size : Int)) = true := decide_eq_true c3
        clear c3
        by_cases c4 : 0 ≤ x11_1
        · rw [if_pos c4] at H
          have c4b0 : decide (0 ≤ x11_1) = true := decide_eq_true c4
          clear c4
          by_cases c5 : x11_1 < (a0.size : Int)
          · rw [if_pos c5] at H
            have c5b0 : decide (x11_1 < (a0.size : Int)) = true := decide_eq_true c5
            clear c5
            by_cases c7 : x6_1 > (wrap64 (Int.tdiv (wrap64 (a1 - (((bt a0 x11_1) - 48) % 256))) 10))
            · rw [if_pos c7] at H
              have c7b0 : decide ((wrap64 (Int.tdiv (wrap64 (a1 - (((bt a0 x11_1) - 48) % 256))) 10)) < x6_1) = true := decide_eq_true c7
              clear c7
              simp only [Option.some.injEq, Prod.mk.injEq] at H
              obtain ⟨rfl, rfl⟩ := H
              have p6 : 0 ≤ (x11_1 : Int) := of_decide_eq_true (by first | (with_reducible assumption) | assumption)
              have q6 : x11_1 < (a0.size : Int) := of_decide_eq_true (by first | (with_reducible assumption) | assumption)
              have hx6 := bt_at a0 x11_1
              replace p6 := eq_true p6
              replace q6 := eq_true q6
              (try (have qz6 := q6; rw [ByteArray.size_extract, Nat.min_self] at qz6))
              go_wp2
              go_ret2
              exact ⟨by first | rfl | (simp; done) | (simp [*]; done), by repeat (first | exact Drawn0.refl _ | apply Drawn0.step)⟩
            · rw [if_neg c7] at H
              have c7b0 : decide ((wrap64 (Int.tdiv (wrap64 (a1 - (((bt a0 x11_1) - 48) % 256))) 10)) < x6_1) = false := decide_eq_false c7
              clear c7
              have H' := Aside0.mk H
              clear H
              have p6 : 0 ≤ (x11_1 : Int) := of_decide_eq_true (by first | (with_reducible assumption) | assumption)
              have q6 : x11_1 < (a0.size : Int) := of_decide_eq_true (by first | (with_reducible assumption) | assumption)
              have hx6 := bt_at a0 x11_1
              replace p6 := eq_true p6
              replace q6 := eq_true q6
              (try (have qz6 := q6; rw [ByteArray.size_extract, Nat.min_self] at qz6))
              go_wp2
              go_roundg k1
              case measure => have := HK1.out; omega
              case rel => exact ⟨(wrap64 ((wrap64 (10 * x6_1)) + (((bt a0 x11_1) - 48) % 256))), (wrap64 (x11_1 + 1)), (by first | rfl | (simp; done) | (simp [*]; done)), (by first | rfl | (simp; done) | (simp [*]; done)), H', ⟨by have := HK1.out; omega⟩, by repeat (first | exact Drawn0.refl _ | apply Drawn0.step)⟩
          · rw [if_neg c5] at H
            exact absurd H (by simp)
        · rw [if_neg c4] at H
          exact absurd H (by simp)
      · rw [if_neg c3] at H
        have c3b0 : decide (x11_1 < (a0.size : Int)) = false := decide_eq_false c3
        clear c3
        simp only [Option.some.injEq, Prod.mk.injEq] at H
        obtain ⟨rfl, rfl⟩ := H
        go_wp2
        go_ret2
        exact ⟨by first | rfl | (simp; done) | (simp [*]; done), by repeat (first | exact Drawn0.refl _ | apply Drawn0.step)⟩
end Go.Proofs.Ytpmmiabcfnejmaa.H
end
section
namespace Go.Proofs.Ytpmmiabcfnejmaa.H
open Go.RowKit Go.Proofs.YtpmmiabcfnejmaaW.PrintWords Go.Proofs.YtpmmiabcfnejmaaW.PrintLast Go.Proofs.YtpmmiabcfnejmaaW.PrintMore
attribute [local go_sem] max2_int min2_int max_two min_two max_three min_three max_four min_four   -- for this text's walks alone
set_option linter.unusedVariables false
set_option linter.unusedSimpArgs false
def quant_cut.j0 : Nat → ByteArray → ByteArray → Bool → Option (ByteArray × Int × ByteArray × Int)
  | 0, _, _, _ => none
  | k + 1, x7, x8, x28 => if x28 = true then (some (x7, 0, x8, 0)) else (if 1 ≤ (x8.size : Int) then ((quant_head.f k (x8.extract 1 x8.size)).bind fun t102 => (if t102 < 1 then (some ((⟨#[]⟩ : ByteArray), 0, (⟨#[]⟩ : ByteArray), 8)) else (if t102 > 3 then (some ((⟨#[]⟩ : ByteArray), 0, (⟨#[]⟩ : ByteArray), 8)) else (if 1 ≤ (wrap64 (1 + t102)) then (if (wrap64 (1 + t102)) ≤ (x8.size : Int) then (if (x8.extract 1 ((wrap64 (1 + t102)) : Int).toNat).size + 2 ≤ 9223372036854775807 then (if 0 ≤ 3 then (if 3 ≤ (((x8.extract 1 ((wrap64 (1 + t102)) : Int).toNat) ++ (⟨#[48, 48]⟩ : ByteArray)).size : Int) then ((quant_value.f k (((x8.extract 1 ((wrap64 (1 + t102)) : Int).toNat) ++ (⟨#[48, 48]⟩ : ByteArray)).extract 0 3) 1000).bind fun bt103 => (if 0 ≤ (wrap64 (1 + t102)) then (some (x7, bt103.1, x8.extract ((wrap64 (1 + t102)) : Int).toNat x8.size, 0)) else (none))) else (none)) else (none)) else (none)) else (none)) else (none))))) else (none))
def quant_cut.f (k : Nat) (a0 : ByteArray) : Option (ByteArray × Int × ByteArray × Int) := (quant_head.f k a0).bind fun t101 => (if t101 = 0 then (some ((⟨#[]⟩ : ByteArray), 0, (⟨#[]⟩ : ByteArray), 8)) else (if 0 ≤ t101 then (if t101 ≤ (a0.size : Int) then (if (a0.extract (t101 : Int).toNat a0.size).toList = ([] : List UInt8) then (quant_cut.j0 k (a0.extract 0 (t101 : Int).toNat) (a0.extract (t101 : Int).toNat a0.size) true) else (if 0 < ((a0.extract (t101 : Int).toNat a0.size).size : Int) then (quant_cut.j0 k (a0.extract 0 (t101 : Int).toNat) (a0.extract (t101 : Int).toNat a0.size) ((bt (a0.extract (t101 : Int).toNat a0.size) 0) != 46)) else (none))) else (none)) else (none)))
theorem quant_cut.mono_l : ∀ k, (∀ y0 y1 y2, LeO (quant_cut.j0 k y0 y1 y2) (quant_cut.j0 (k + 1) y0 y1 y2))
  | 0 => fun _ _ _ r h => by simp [quant_cut.j0] at h
  | k + 1 => by
    have ih0 := quant_cut.mono_l k
    · intro y0 y1 y2
      unfold quant_cut.j0
      repeat' first
      | (with_reducible exact ih0 _ _ _)
      | (with_reducible exact quant_head.mono _ _)
      | (with_reducible exact quant_value.mono _ _ _)
      | (with_reducible exact LeO.refl _)
      | (with_reducible exact LeO.none _)
      | (with_reducible refine LeO.ite ?_ ?_)
      | (with_reducible refine LeO.bind ?_ (fun _ => ?_))
      | exact ih0 _ _ _
      | exact quant_head.mono _ _
      | exact quant_value.mono _ _ _
      | exact LeO.none _
      | refine LeO.ite ?_ ?_
      | refine LeO.bind ?_ (fun _ => ?_)
theorem quant_cut.mono : ∀ a0 k, LeO (quant_cut.f k a0) (quant_cut.f (k + 1) a0) := by
  intro a0 k
  have ih0 := quant_cut.mono_l k
  unfold quant_cut.f
  repeat' first
      | (with_reducible exact ih0 _ _ _)
      | (with_reducible exact quant_head.mono _ _)
      | (with_reducible exact quant_value.mono _ _ _)
      | (with_reducible exact LeO.refl _)
      | (with_reducible exact LeO.none _)
      | (with_reducible refine LeO.ite ?_ ?_)
      | (with_reducible refine LeO.bind ?_ (fun _ => ?_))
      | exact ih0 _ _ _
      | exact quant_head.mono _ _
      | exact quant_value.mono _ _ _
      | exact LeO.none _
      | refine LeO.ite ?_ ?_
      | refine LeO.bind ?_ (fun _ => ?_)
set_option maxHeartbeats 8000000 in
set_option maxRecDepth 100000 in
theorem quant_cut.calls (k : Nat) (a0 : ByteArray) (r1 : ByteArray) (r2 : Int) (r3 : ByteArray) (r4 : Int) (w : World) (h : quant_cut.f k a0 = some (r1, r2, r3, r4)) :
    Calls Try.prog 27 #[.string a0] w fun e w' => e = .returned (.tuple #[.string r1, .int .i64 r2, .string r3, .int .i64 r4]) ∧ Drawn0 w w' := by
  have H : ((quant_head.f k a0).bind fun t101 => (if t101 = 0 then (some ((⟨#[]⟩ : ByteArray), 0, (⟨#[]⟩ : ByteArray), 8)) else (if 0 ≤ t101 then (if t101 ≤ (a0.size : Int) then (if (a0.extract (t101 : Int).toNat a0.size).toList = ([] : List UInt8) then (quant_cut.j0 k (a0.extract 0 (t101 : Int).toNat) (a0.extract (t101 : Int).toNat a0.size) true) else (if 0 < ((a0.extract (t101 : Int).toNat a0.size).size : Int) then (quant_cut.j0 k (a0.extract 0 (t101 : Int).toNat) (a0.extract (t101 : Int).toNat a0.size) ((bt (a0.extract (t101 : Int).toNat a0.size) 0) != 46)) else (none))) else (none)) else (none)))) = some (r1, r2, r3, r4) := h
  clear h
  replace H := Option.bind_eq_some_iff.mp H
  obtain ⟨t101, A20, H⟩ := H
  replace H : (if t101 = 0 then (some ((⟨#[]⟩ : ByteArray), 0, (⟨#[]⟩ : ByteArray), 8)) else (if 0 ≤ t101 then (if t101 ≤ (a0.size : Int) then (if (a0.extract (t101 : Int).toNat a0.size).toList = ([] : List UInt8) then (quant_cut.j0 k (a0.extract 0 (t101 : Int).toNat) (a0.extract (t101 : Int).toNat a0.size) true) else (if 0 < ((a0.extract (t101 : Int).toNat a0.size).size : Int) then (quant_cut.j0 k (a0.extract 0 (t101 : Int).toNat) (a0.extract (t101 : Int).toNat a0.size) ((bt (a0.extract (t101 : Int).toNat a0.size) 0) != 46)) else (none))) else (none)) else (none))) = some (r1, r2, r3, r4) := H
  have A2 := Aside0.mk A20
  clear A20
  by_cases c3 : t101 = 0
  · rw [if_pos c3] at H
    have c3b0 : (t101 == 0) = true := beq_iff_eq.mpr c3
    have c3b1 : (t101 != 0) = false := bne_eq_false_iff_eq.mpr c3
    clear c3
    simp only [Option.some.injEq, Prod.mk.injEq] at H
    obtain ⟨rfl, rfl, rfl, rfl⟩ := H
    go_enter Try.func27, Try.ntmps27
    go_wp2_with (first | (go_at_call 22; (with_reducible refine (quant_head.calls k a0 t101 _ A2.out).mono ?_); rintro e w' ⟨rfl, ⟨nd, rfl⟩⟩; (try first | exact ⟨rfl, _, World.drewN_drewN _ _ _⟩ | exact ⟨rfl, _, Eq.trans (World.drewN_drewN _ _ _) (congrArg (World.drewN _) (Nat.add_assoc _ _ _))⟩)))
    repeat (go_quiet (first | (go_at_call 22; (with_reducible refine (quant_head.calls k a0 t101 _ A2.out).mono ?_); rintro e w' ⟨rfl, ⟨nd, rfl⟩⟩; (try first | exact ⟨rfl, _, World.drewN_drewN _ _ _⟩ | exact ⟨rfl, _, Eq.trans (World.drewN_drewN _ _ _) (congrArg (World.drewN _) (Nat.add_assoc _ _ _))⟩))); try go_wp2_with (first | (go_at_call 22; (with_reducible refine (quant_head.calls k a0 t101 _ A2.out).mono ?_); rintro e w' ⟨rfl, ⟨nd, rfl⟩⟩; (try first | exact ⟨rfl, _, World.drewN_drewN _ _ _⟩ | exact ⟨rfl, _, Eq.trans (World.drewN_drewN _ _ _) (congrArg (World.drewN _) (Nat.add_assoc _ _ _))⟩))))
    refine bodyPost_ret (results_list (rs := [.tmp 2, .tmp 3, .tmp 4, .tmp 5]) rfl (by simp) (.tmp (.tmp (.tmp (.tmp .nil))))) rfl ?_
    exact ⟨by first | rfl | (simp; done) | (simp [*]; done), by repeat (first | exact Drawn0.refl _ | apply Drawn0.step)⟩
  · rw [if_neg c3] at H
    have c3b0 : (t101 == 0) = false := beq_eq_false_iff_ne.mpr c3
    have c3b1 : (t101 != 0) = true := bne_iff_ne.mpr c3
    by_cases c4 : 0 ≤ t101
    · rw [if_pos c4] at H
      have c4b0 := eq_true c4
      (try (have c4z := c4b0; rw [ByteArray.size_extract, Nat.min_self] at c4z))
      have c4b1 : decide (0 ≤ t101) = true := decide_eq_true c4
      clear c4
      by_cases c5 : t101 ≤ (a0.size : Int)
      · rw [if_pos c5] at H
        have c5b0 := eq_true c5
        (try (have c5z := c5b0; rw [ByteArray.size_extract, Nat.min_self] at c5z))
        have c5b1 : decide (t101 ≤ (a0.size : Int)) = true := decide_eq_true c5
        clear c5
        have c6b0 := eq_true (of_decide_eq_true (by first | (with_reducible assumption) | assumption) : 0 ≤ t101)
        have c7b0 := eq_true (of_decide_eq_true (by first | (with_reducible assumption) | assumption) : t101 ≤ (a0.size : Int))
        have HC8 := Aside0.mk H
        clear H
        go_enter Try.func27, Try.ntmps27
        go_upto_region 5 with (first | (go_at_call 22; (with_reducible refine (quant_head.calls k a0 t101 _ A2.out).mono ?_); rintro e w' ⟨rfl, ⟨nd, rfl⟩⟩; (try first | exact ⟨rfl, _, World.drewN_drewN _ _ _⟩ | exact ⟨rfl, _, Eq.trans (World.drewN_drewN _ _ _) (congrArg (World.drewN _) (Nat.add_assoc _ _ _))⟩)))
        repeat (go_quiet (first | (go_at_call 22; (with_reducible refine (quant_head.calls k a0 t101 _ A2.out).mono ?_); rintro e w' ⟨rfl, ⟨nd, rfl⟩⟩; (try first | exact ⟨rfl, _, World.drewN_drewN _ _ _⟩ | exact ⟨rfl, _, Eq.trans (World.drewN_drewN _ _ _) (congrArg (World.drewN _) (Nat.add_assoc _ _ _))⟩))); go_upto_region 5 with (first | (go_at_call 22; (with_reducible refine (quant_head.calls k a0 t101 _ A2.out).mono ?_); rintro e w' ⟨rfl, ⟨nd, rfl⟩⟩; (try first | exact ⟨rfl, _, World.drewN_drewN _ _ _⟩ | exact ⟨rfl, _, Eq.trans (World.drewN_drewN _ _ _) (congrArg (World.drewN _) (Nat.add_assoc _ _ _))⟩))))
        (try simp only [Act.put, List.setIfInBounds_toArray, List.set_cons_zero, List.set_cons_succ])
        go_cut [28] (fun v28 wc => ∃ (kq : Nat) (x28_7 : Bool), v28 = .bool x28_7 ∧ Aside0 (quant_cut.j0 kq (a0.extract 0 (t101 : Int).toNat) (a0.extract (t101 : Int).toNat a0.size) x28_7 = some (r1, r2, r3, r4)) ∧ Aside0 (kq ≤ k) ∧ Drawn0 w wc)
        case first =>
          have H := HC8.out
          clear HC8
          by_cases c9 : (a0.extract (t101 : Int).toNat a0.size).toList = ([] : List UInt8)
          · rw [if_pos c9] at H
            have c9b0 : ((a0.extract (t101 : Int).toNat a0.size).toList == ([] : List UInt8)) = true := beq_iff_eq.mpr c9
            have c9b1 : ((a0.extract (t101 : Int).toNat a0.size).toList != ([] : List UInt8)) = false := bne_eq_false_iff_eq.mpr c9
            clear c9
            (first | rw [c9b0] | (simp only [i64_w, i32_w]; rw [c9b0]) | skip)
            have H' := Aside0.mk H
            clear H
            go_wp2
            repeat (go_quiet (fail); try go_wp2)
            go_meet
            case rel => exact ⟨_, (true), (by first | rfl | (simp; done) | (simp [*]; done)), H', ⟨by first | omega | exact Nat.le_refl _⟩, by repeat (first | exact Drawn0.refl _ | apply Drawn0.step)⟩
          · rw [if_neg c9] at H
            have c9b0 : ((a0.extract (t101 : Int).toNat a0.size).toList == ([] : List UInt8)) = false := beq_eq_false_iff_ne.mpr c9
            have c9b1 : ((a0.extract (t101 : Int).toNat a0.size).toList != ([] : List UInt8)) = true := bne_iff_ne.mpr c9
            (first | rw [c9b0] | (simp only [i64_w, i32_w]; rw [c9b0]) | skip)
            by_cases c10 : 0 < ((a0.extract (t101 : Int).toNat a0.size).size : Int)
            · rw [if_pos c10] at H
              have c10b0 : decide (0 < ((a0.extract (t101 : Int).toNat a0.size).size : Int)) = true := decide_eq_true c10
              have c10b1 : decide (0 < (a0.extract (t101 : Int).toNat a0.size).size) = true := decide_eq_true (by omega)
              clear c10
              have H' := Aside0.mk H
              clear H
              have p11 : 0 ≤ (0 : Int) := (by omega)
              have q11 : 0 < (a0.extract (t101 : Int).toNat a0.size).size := (by have : (0 : Int) < ((a0.extract (t101 : Int).toNat a0.size).size : Int) := of_decide_eq_true (by first | (with_reducible assumption) | assumption); omega)
              have hx11 : ∀ h : 0 < (a0.extract (t101 : Int).toNat a0.size).size, (((a0.extract (t101 : Int).toNat a0.size)[0]'h).toNat : Int) = bt (a0.extract (t101 : Int).toNat a0.size) 0 := bt_at (a0.extract (t101 : Int).toNat a0.size) 0
              clear p11
              have qi11 : (0 < ((a0.extract (t101 : Int).toNat a0.size).size : Int)) = True := eq_true (of_decide_eq_true (by first | (with_reducible assumption) | assumption))
              replace q11 := eq_true q11
              (try (have qz11 := q11; rw [ByteArray.size_extract, Nat.min_self] at qz11))
              go_wp2
              repeat (go_quiet (fail); try go_wp2)
              go_meet
              case rel => exact ⟨_, (((bt (a0.extract (t101 : Int).toNat a0.size) 0) != 46)), (by first | rfl | (simp; done) | (simp [*]; done)), H', ⟨by first | omega | exact Nat.le_refl _⟩, by repeat (first | exact Drawn0.refl _ | apply Drawn0.step)⟩
            · rw [if_neg c10] at H
              exact absurd H (by simp)
        case rest =>
          clear HC8
          try clear c1
          try clear p1
          try clear q1
          try clear hx1
          try clear qi1
          try clear c2
          try clear p2
          try clear c3
          try clear c3b0
          try clear c3b1
          try clear c4
          try clear c4b0
          try clear c4b1
          try clear c5
          try clear c5b0
          try clear c5b1
          try clear c6
          try clear c6b0
          try clear c7
          try clear c7b0
          try clear c9
          try clear c9b0
          try clear c9b1
          try clear c10
          try clear c10b0
          try clear c10b1
          try clear p11
          try clear q11
          try clear hx11
          try clear qi11
          try clear p11
          try clear q11
          obtain ⟨kq, x28_7, rfl, HA, HJ7, ⟨mc7, rfl⟩⟩ := hcut
          cases kq with
          | zero => exact absurd HA.out (by simp [quant_cut.j0])
          | succ kj7 =>
            have H := HA.out
            clear HA
            simp only [quant_cut.j0] at H
            by_cases c12 : x28_7 = true
            · subst c12
              have H1 : (some ((a0.extract 0 (t101 : Int).toNat), 0, (a0.extract (t101 : Int).toNat a0.size), 0)) = some (r1, r2, r3, r4) := by rw [if_pos rfl] at H; exact H
              clear H
              have H := H1
              clear H1
              simp only [Option.some.injEq, Prod.mk.injEq] at H
              obtain ⟨rfl, rfl, rfl, rfl⟩ := H
              go_wp2
              repeat (go_quiet (fail); try go_wp2)
              refine bodyPost_ret (results_list (rs := [.tmp 2, .tmp 3, .tmp 4, .tmp 5]) rfl (by simp) (.tmp (.tmp (.tmp (.tmp .nil))))) rfl ?_
              exact ⟨by first | rfl | (simp; done) | (simp [*]; done), by repeat (first | exact Drawn0.refl _ | apply Drawn0.step)⟩
            · replace c12 := Bool.eq_false_iff.mpr c12
              subst c12
              have H1 : (if 1 ≤ ((a0.extract (t101 : Int).toNat a0.size).size : Int) then ((quant_head.f kj7 ((a0.extract (t101 : Int).toNat a0.size).extract 1 (a0.extract (t101 : Int).toNat a0.size).size)).bind fun t102 => (if t102 < 1 then (some ((⟨#[]⟩ : ByteArray), 0, (⟨#[]⟩ : ByteArray), 8)) else (if t102 > 3 then (some ((⟨#[]⟩ : ByteArray), 0, (⟨#[]⟩ : ByteArray), 8)) else (if 1 ≤ (wrap64 (1 + t102)) then (if (wrap64 (1 + t102)) ≤ ((a0.extract (t101 : Int).toNat a0.size).size : Int) then (if ((a0.extract (t101 : Int).toNat a0.size).extract 1 ((wrap64 (1 + t102)) : Int).toNat).size + 2 ≤ 9223372036854775807 then (if 0 ≤ 3 then (if 3 ≤ ((((a0.extract (t101 : Int).toNat a0.size).extract 1 ((wrap64 (1 + t102)) : Int).toNat) ++ (⟨#[48, 48]⟩ : ByteArray)).size : Int) then ((quant_value.f kj7 ((((a0.extract (t101 : Int).toNat a0.size).extract 1 ((wrap64 (1 + t102)) : Int).toNat) ++ (⟨#[48, 48]⟩ : ByteArray)).extract 0 3) 1000).bind fun bt103 => (if 0 ≤ (wrap64 (1 + t102)) then (some ((a0.extract 0 (t101 : Int).toNat), bt103.1, (a0.extract (t101 : Int).toNat a0.size).extract ((wrap64 (1 + t102)) : Int).toNat (a0.extract (t101 : Int).toNat a0.size).size, 0)) else (none))) else (none)) else (none)) else (none)) else (none)) else (none))))) else (none)) = some (r1, r2, r3, r4) := by rw [if_neg (show ¬ (false = true) by decide)] at H; exact H
              clear H
              have H := H1
              clear H1
              by_cases c13 : 1 ≤ ((a0.extract (t101 : Int).toNat a0.size).size : Int)
              · rw [if_pos c13] at H
                have c13b0 := eq_true c13
                (try (have c13z := c13b0; rw [ByteArray.size_extract, Nat.min_self] at c13z))
                have c13b1 : decide (1 ≤ ((a0.extract (t101 : Int).toNat a0.size).size : Int)) = true := decide_eq_true c13
                clear c13
                replace H := Option.bind_eq_some_iff.mp H
                obtain ⟨t102, A140, H⟩ := H
                replace H : (if t102 < 1 then (some ((⟨#[]⟩ : ByteArray), 0, (⟨#[]⟩ : ByteArray), 8)) else (if t102 > 3 then (some ((⟨#[]⟩ : ByteArray), 0, (⟨#[]⟩ : ByteArray), 8)) else (if 1 ≤ (wrap64 (1 + t102)) then (if (wrap64 (1 + t102)) ≤ ((a0.extract (t101 : Int).toNat a0.size).size : Int) then (if ((a0.extract (t101 : Int).toNat a0.size).extract 1 ((wrap64 (1 + t102)) : Int).toNat).size + 2 ≤ 9223372036854775807 then (if 0 ≤ 3 then (if 3 ≤ ((((a0.extract (t101 : Int).toNat a0.size).extract 1 ((wrap64 (1 + t102)) : Int).toNat) ++ (⟨#[48, 48]⟩ : ByteArray)).size : Int) then ((quant_value.f kj7 ((((a0.extract (t101 : Int).toNat a0.size).extract 1 ((wrap64 (1 + t102)) : Int).toNat) ++ (⟨#[48, 48]⟩ : ByteArray)).extract 0 3) 1000).bind fun bt103 => (if 0 ≤ (wrap64 (1 + t102)) then (some ((a0.extract 0 (t101 : Int).toNat), bt103.1, (a0.extract (t101 : Int).toNat a0.size).extract ((wrap64 (1 + t102)) : Int).toNat (a0.extract (t101 : Int).toNat a0.size).size, 0)) else (none))) else (none)) else (none)) else (none)) else (none)) else (none)))) = some (r1, r2, r3, r4) := H
                have A14 := Aside0.mk A140
                clear A140
                by_cases c15 : t102 < 1
                · rw [if_pos c15] at H
                  have c15b0 : decide (t102 < 1) = true := decide_eq_true c15
                  clear c15
                  simp only [Option.some.injEq, Prod.mk.injEq] at H
                  obtain ⟨rfl, rfl, rfl, rfl⟩ := H
                  go_wp2_with (first | (go_at_call 22; (first | (with_reducible refine (quant_head.calls kj7 ((a0.extract (t101 : Int).toNat a0.size).extract 1 (a0.extract (t101 : Int).toNat a0.size).size) t102 _ A14.out).mono ?_) | (simp only [show ∀ (a_ : ByteArray) (t_ : Nat), a_.size - t_ = (a_.extract t_ a_.size).size from fun a_ t_ => by rw [ByteArray.size_extract, Nat.min_self]]; (with_reducible refine (quant_head.calls kj7 ((a0.extract (t101 : Int).toNat a0.size).extract 1 (a0.extract (t101 : Int).toNat a0.size).size) t102 _ A14.out).mono ?_))); rintro e w' ⟨rfl, ⟨nd, rfl⟩⟩; (try first | exact ⟨rfl, _, World.drewN_drewN _ _ _⟩ | exact ⟨rfl, _, Eq.trans (World.drewN_drewN _ _ _) (congrArg (World.drewN _) (Nat.add_assoc _ _ _))⟩)))
                  repeat (go_quiet (first | (go_at_call 22; (first | (with_reducible refine (quant_head.calls kj7 ((a0.extract (t101 : Int).toNat a0.size).extract 1 (a0.extract (t101 : Int).toNat a0.size).size) t102 _ A14.out).mono ?_) | (simp only [show ∀ (a_ : ByteArray) (t_ : Nat), a_.size - t_ = (a_.extract t_ a_.size).size from fun a_ t_ => by rw [ByteArray.size_extract, Nat.min_self]]; (with_reducible refine (quant_head.calls kj7 ((a0.extract (t101 : Int).toNat a0.size).extract 1 (a0.extract (t101 : Int).toNat a0.size).size) t102 _ A14.out).mono ?_))); rintro e w' ⟨rfl, ⟨nd, rfl⟩⟩; (try first | exact ⟨rfl, _, World.drewN_drewN _ _ _⟩ | exact ⟨rfl, _, Eq.trans (World.drewN_drewN _ _ _) (congrArg (World.drewN _) (Nat.add_assoc _ _ _))⟩))); try go_wp2_with (first | (go_at_call 22; (first | (with_reducible refine (quant_head.calls kj7 ((a0.extract (t101 : Int).toNat a0.size).extract 1 (a0.extract (t101 : Int).toNat a0.size).size) t102 _ A14.out).mono ?_) | (simp only [show ∀ (a_ : ByteArray) (t_ : Nat), a_.size - t_ = (a_.extract t_ a_.size).size from fun a_ t_ => by rw [ByteArray.size_extract, Nat.min_self]]; (with_reducible refine (quant_head.calls kj7 ((a0.extract (t101 : Int).toNat a0.size).extract 1 (a0.extract (t101 : Int).toNat a0.size).size) t102 _ A14.out).mono ?_))); rintro e w' ⟨rfl, ⟨nd, rfl⟩⟩; (try first | exact ⟨rfl, _, World.drewN_drewN _ _ _⟩ | exact ⟨rfl, _, Eq.trans (World.drewN_drewN _ _ _) (congrArg (World.drewN _) (Nat.add_assoc _ _ _))⟩))))
                  refine bodyPost_ret (results_list (rs := [.tmp 2, .tmp 3, .tmp 4, .tmp 5]) rfl (by simp) (.tmp (.tmp (.tmp (.tmp .nil))))) rfl ?_
                  exact ⟨by first | rfl | (simp; done) | (simp [*]; done), by repeat (first | exact Drawn0.refl _ | apply Drawn0.step)⟩
                · rw [if_neg c15] at H
                  have c15b0 : decide (t102 < 1) = false := decide_eq_false c15
                  clear c15
                  by_cases c16 : t102 > 3
                  · rw [if_pos c16] at H
                    have c16b0 : decide (3 < t102) = true := decide_eq_true c16
                    clear c16
                    simp only [Option.some.injEq, Prod.mk.injEq] at H
                    obtain ⟨rfl, rfl, rfl, rfl⟩ := H
                    go_wp2_with (first | (go_at_call 22; (first | (with_reducible refine (quant_head.calls kj7 ((a0.extract (t101 : Int).toNat a0.size).extract 1 (a0.extract (t101 : Int).toNat a0.size).size) t102 _ A14.out).mono ?_) | (simp only [show ∀ (a_ : ByteArray) (t_ : Nat), a_.size - t_ = (a_.extract t_ a_.size).size from fun a_ t_ => by rw [ByteArray.size_extract, Nat.min_self]]; (with_reducible refine (quant_head.calls kj7 ((a0.extract (t101 : Int).toNat a0.size).extract 1 (a0.extract (t101 : Int).toNat a0.size).size) t102 _ A14.out).mono ?_))); rintro e w' ⟨rfl, ⟨nd, rfl⟩⟩; (try first | exact ⟨rfl, _, World.drewN_drewN _ _ _⟩ | exact ⟨rfl, _, Eq.trans (World.drewN_drewN _ _ _) (congrArg (World.drewN _) (Nat.add_assoc _ _ _))⟩)))
                    repeat (go_quiet (first | (go_at_call 22; (first | (with_reducible refine (quant_head.calls kj7 ((a0.extract (t101 : Int).toNat a0.size).extract 1 (a0.extract (t101 : Int).toNat a0.size).size) t102 _ A14.out).mono ?_) | (simp only [show ∀ (a_ : ByteArray) (t_ : Nat), a_.size - t_ = (a_.extract t_ a_.size).size from fun a_ t_ => by rw [ByteArray.size_extract, Nat.min_self]]; (with_reducible refine (quant_head.calls kj7 ((a0.extract (t101 : Int).toNat a0.size).extract 1 (a0.extract (t101 : Int).toNat a0.size).size) t102 _ A14.out).mono ?_))); rintro e w' ⟨rfl, ⟨nd, rfl⟩⟩; (try first | exact ⟨rfl, _, World.drewN_drewN _ _ _⟩ | exact ⟨rfl, _, Eq.trans (World.drewN_drewN _ _ _) (congrArg (World.drewN _) (Nat.add_assoc _ _ _))⟩))); try go_wp2_with (first | (go_at_call 22; (first | (with_reducible refine (quant_head.calls kj7 ((a0.extract (t101 : Int).toNat a0.size).extract 1 (a0.extract (t101 : Int).toNat a0.size).size) t102 _ A14.out).mono ?_) | (simp only [show ∀ (a_ : ByteArray) (t_ : Nat), a_.size - t_ = (a_.extract t_ a_.size).size from fun a_ t_ => by rw [ByteArray.size_extract, Nat.min_self]]; (with_reducible refine (quant_head.calls kj7 ((a0.extract (t101 : Int).toNat a0.size).extract 1 (a0.extract (t101 : Int).toNat a0.size).size) t102 _ A14.out).mono ?_))); rintro e w' ⟨rfl, ⟨nd, rfl⟩⟩; (try first | exact ⟨rfl, _, World.drewN_drewN _ _ _⟩ | exact ⟨rfl, _, Eq.trans (World.drewN_drewN _ _ _) (congrArg (World.drewN _) (Nat.add_assoc _ _ _))⟩))))
                    refine bodyPost_ret (results_list (rs := [.tmp 2, .tmp 3, .tmp 4, .tmp 5]) rfl (by simp) (.tmp (.tmp (.tmp (.tmp .nil))))) rfl ?_
                    exact ⟨by first | rfl | (simp; done) | (simp [*]; done), by repeat (first | exact Drawn0.refl _ | apply Drawn0.step)⟩
                  · rw [if_neg c16] at H
                    have c16b0 : decide (3 < t102) = false := decide_eq_false c16
                    clear c16
                    by_cases c17 : 1 ≤ (wrap64 (1 + t102))
                    · rw [if_pos c17] at H
                      have c17b0 := eq_true c17
                      (try (have c17z := c17b0; rw [ByteArray.size_extract, Nat.min_self] at c17z))
                      have c17b1 : decide (1 ≤ (wrap64 (1 + t102))) = true := decide_eq_true c17
                      by_cases c18 : (wrap64 (1 + t102)) ≤ ((a0.extract (t101 : Int).toNat a0.size).size : Int)
                      · rw [if_pos c18] at H
                        have c18b0 := eq_true c18
                        (try (have c18z := c18b0; rw [ByteArray.size_extract, Nat.min_self] at c18z))
                        have c18b1 : decide ((wrap64 (1 + t102)) ≤ ((a0.extract (t101 : Int).toNat a0.size).size : Int)) = true := decide_eq_true c18
                        by_cases c19 : ((a0.extract (t101 : Int).toNat a0.size).extract 1 ((wrap64 (1 + t102)) : Int).toNat).size + 2 ≤ 9223372036854775807
                        · rw [if_pos c19] at H
                          have c19b0 := eq_true c19
                          (try (have c19z := c19b0; rw [ByteArray.size_extract, Nat.min_self] at c19z))
                          have c19b1 : decide (((a0.extract (t101 : Int).toNat a0.size).extract 1 ((wrap64 (1 + t102)) : Int).toNat).size + 2 ≤ 9223372036854775807) = true := decide_eq_true c19
                          try have c19b2 : (9223372036854775807 < ((a0.extract (t101 : Int).toNat a0.size).extract 1 ((wrap64 (1 + t102)) : Int).toNat).size + 2) = False := eq_false (Nat.not_lt.2 c19)
                          (try (have c19z2 := c19b2; simp only [ByteArray.size_append, ByteArray.size_extract, Nat.min_self] at c19z2))
                          by_cases c20 : 0 ≤ 3
                          · rw [if_pos c20] at H
                            have c20b0 := eq_true c20
                            (try (have c20z := c20b0; rw [ByteArray.size_extract, Nat.min_self] at c20z))
                            have c20b1 : decide (0 ≤ 3) = true := decide_eq_true c20
                            clear c20
                            by_cases c21 : 3 ≤ ((((a0.extract (t101 : Int).toNat a0.size).extract 1 ((wrap64 (1 + t102)) : Int).toNat) ++ (⟨#[48, 48]⟩ : ByteArray)).size : Int)
                            · rw [if_pos c21] at H
                              have c21b0 := eq_true c21
                              (try (have c21z := c21b0; rw [ByteArray.size_extract, Nat.min_self] at c21z))
                              have c21b1 : decide (3 ≤ ((((a0.extract (t101 : Int).toNat a0.size).extract 1 ((wrap64 (1 + t102)) : Int).toNat) ++ (⟨#[48, 48]⟩ : ByteArray)).size : Int)) = true := decide_eq_true c21
                              replace H := Option.bind_eq_some_iff.mp H
                              obtain ⟨⟨t103, t104⟩, A220, H⟩ := H
                              replace H : (if 0 ≤ (wrap64 (1 + t102)) then (some ((a0.extract 0 (t101 : Int).toNat), t103, (a0.extract (t101 : Int).toNat a0.size).extract ((wrap64 (1 + t102)) : Int).toNat (a0.extract (t101 : Int).toNat a0.size).size, 0)) else (none)) = some (r1, r2, r3, r4) := H
                              have A22 := Aside0.mk A220
                              clear A220
                              obtain ⟨ji23, hji23⟩ : ∃ j_ : Int, (wrap64 (1 + t102)) = j_ := ⟨_, rfl⟩
                              replace H : (if 0 ≤ (ji23) then (some ((a0.extract 0 (t101 : Int).toNat), t103, (a0.extract (t101 : Int).toNat a0.size).extract ((ji23) : Int).toNat (a0.extract (t101 : Int).toNat a0.size).size, 0)) else (none)) = some (r1, r2, r3, r4) := by first | (rw [hji23] at H; exact H) | (simp only [hji23] at H ⊢; exact H)
                              (try rw [hji23] at c17b0)
                              (try rw [hji23] at c17z)
                              (try rw [hji23] at c17b1)
                              (try rw [hji23] at c17)
                              (try rw [hji23] at c18b0)
                              (try rw [hji23] at c18z)
                              (try rw [hji23] at c18b1)
                              (try (have c19y : (9223372036854775807 < (ji23).toNat - 1 + 2) = False := eq_false (by have h_ := of_eq_true c19b0; have h2_ := of_eq_true c18b0; simp only [ByteArray.size_extract] at h_ h2_; omega)))
                              (try rw [hji23] at c18)
                              (try rw [hji23] at c19b0)
                              (try rw [hji23] at c19z)
                              (try rw [hji23] at c19b1)
                              (try rw [hji23] at c19)
                              (try rw [hji23] at c21b0)
                              (try rw [hji23] at c21z)
                              (try rw [hji23] at c21b1)
                              (try rw [hji23] at c21)
                              (try rw [hji23] at A14)
                              (try rw [hji23] at A22)
                              have hji23w : (IntKind.i64.wrap (1 + t102)) = ji23 := (i64_w _).trans hji23
                              by_cases c24 : 0 ≤ (ji23)
                              · rw [if_pos c24] at H
                                have c24b0 := eq_true c24
                                (try (have c24z := c24b0; rw [ByteArray.size_extract, Nat.min_self] at c24z))
                                have c24b1 : decide (0 ≤ (ji23)) = true := decide_eq_true c24
                                clear c24
                                have c25b0 := eq_true (of_decide_eq_true (by first | (with_reducible assumption) | assumption) : (ji23) ≤ ((a0.extract (t101 : Int).toNat a0.size).size : Int))
                                simp only [Option.some.injEq, Prod.mk.injEq] at H
                                obtain ⟨rfl, rfl, rfl, rfl⟩ := H
                                go_wp2_with (first | (go_at_call 22; (first | (with_reducible refine (quant_head.calls kj7 ((a0.extract (t101 : Int).toNat a0.size).extract 1 (a0.extract (t101 : Int).toNat a0.size).size) t102 _ A14.out).mono ?_) | (simp only [show ∀ (a_ : ByteArray) (t_ : Nat), a_.size - t_ = (a_.extract t_ a_.size).size from fun a_ t_ => by rw [ByteArray.size_extract, Nat.min_self]]; (with_reducible refine (quant_head.calls kj7 ((a0.extract (t101 : Int).toNat a0.size).extract 1 (a0.extract (t101 : Int).toNat a0.size).size) t102 _ A14.out).mono ?_))); rintro e w' ⟨rfl, ⟨nd, rfl⟩⟩; (try first | exact ⟨rfl, _, World.drewN_drewN _ _ _⟩ | exact ⟨rfl, _, Eq.trans (World.drewN_drewN _ _ _) (congrArg (World.drewN _) (Nat.add_assoc _ _ _))⟩)) | (go_at_call 23; (with_reducible refine (quant_value.calls kj7 ((((a0.extract (t101 : Int).toNat a0.size).extract 1 ((ji23) : Int).toNat) ++ (⟨#[48, 48]⟩ : ByteArray)).extract 0 3) 1000 t103 t104 _ A22.out).mono ?_); rintro e w' ⟨rfl, ⟨nd, rfl⟩⟩; (try first | exact ⟨rfl, _, World.drewN_drewN _ _ _⟩ | exact ⟨rfl, _, Eq.trans (World.drewN_drewN _ _ _) (congrArg (World.drewN _) (Nat.add_assoc _ _ _))⟩)))
                                repeat (go_quiet (first | (go_at_call 22; (first | (with_reducible refine (quant_head.calls kj7 ((a0.extract (t101 : Int).toNat a0.size).extract 1 (a0.extract (t101 : Int).toNat a0.size).size) t102 _ A14.out).mono ?_) | (simp only [show ∀ (a_ : ByteArray) (t_ : Nat), a_.size - t_ = (a_.extract t_ a_.size).size from fun a_ t_ => by rw [ByteArray.size_extract, Nat.min_self]]; (with_reducible refine (quant_head.calls kj7 ((a0.extract (t101 : Int).toNat a0.size).extract 1 (a0.extract (t101 : Int).toNat a0.size).size) t102 _ A14.out).mono ?_))); rintro e w' ⟨rfl, ⟨nd, rfl⟩⟩; (try first | exact ⟨rfl, _, World.drewN_drewN _ _ _⟩ | exact ⟨rfl, _, Eq.trans (World.drewN_drewN _ _ _) (congrArg (World.drewN _) (Nat.add_assoc _ _ _))⟩)) | (go_at_call 23; (with_reducible refine (quant_value.calls kj7 ((((a0.extract (t101 : Int).toNat a0.size).extract 1 ((ji23) : Int).toNat) ++ (⟨#[48, 48]⟩ : ByteArray)).extract 0 3) 1000 t103 t104 _ A22.out).mono ?_); rintro e w' ⟨rfl, ⟨nd, rfl⟩⟩; (try first | exact ⟨rfl, _, World.drewN_drewN _ _ _⟩ | exact ⟨rfl, _, Eq.trans (World.drewN_drewN _ _ _) (congrArg (World.drewN _) (Nat.add_assoc _ _ _))⟩))); try go_wp2_with (first | (go_at_call 22; (first | (with_reducible refine (quant_head.calls kj7 ((a0.extract (t101 : Int).toNat a0.size).extract 1 (a0.extract (t101 : Int).toNat a0.size).size) t102 _ A14.out).mono ?_) | (simp only [show ∀ (a_ : ByteArray) (t_ : Nat), a_.size - t_ = (a_.extract t_ a_.size).size from fun a_ t_ => by rw [ByteArray.size_extract, Nat.min_self]]; (with_reducible refine (quant_head.calls kj7 ((a0.extract (t101 : Int).toNat a0.size).extract 1 (a0.extract (t101 : Int).toNat a0.size).size) t102 _ A14.out).mono ?_))); rintro e w' ⟨rfl, ⟨nd, rfl⟩⟩; (try first | exact ⟨rfl, _, World.drewN_drewN _ _ _⟩ | exact ⟨rfl, _, Eq.trans (World.drewN_drewN _ _ _) (congrArg (World.drewN _) (Nat.add_assoc _ _ _))⟩)) | (go_at_call 23; (with_reducible refine (quant_value.calls kj7 ((((a0.extract (t101 : Int).toNat a0.size).extract 1 ((ji23) : Int).toNat) ++ (⟨#[48, 48]⟩ : ByteArray)).extract 0 3) 1000 t103 t104 _ A22.out).mono ?_); rintro e w' ⟨rfl, ⟨nd, rfl⟩⟩; (try first | exact ⟨rfl, _, World.drewN_drewN _ _ _⟩ | exact ⟨rfl, _, Eq.trans (World.drewN_drewN _ _ _) (congrArg (World.drewN _) (Nat.add_assoc _ _ _))⟩))))
                                refine bodyPost_ret (results_list (rs := [.tmp 2, .tmp 3, .tmp 4, .tmp 5]) rfl (by simp) (.tmp (.tmp (.tmp (.tmp .nil))))) rfl ?_
                                exact ⟨by first | rfl | (simp; done) | (simp only [← hji23] <;> (first | rfl | simp)) | (simp [*]; done), by repeat (first | exact Drawn0.refl _ | apply Drawn0.step)⟩
                              · rw [if_neg c24] at H
                                exact absurd H (by simp)
                            · rw [if_neg c21] at H
                              exact absurd H (by simp)
                          · rw [if_neg c20] at H
                            exact absurd H (by simp)
                        · rw [if_neg c19] at H
                          exact absurd H (by simp)
                      · rw [if_neg c18] at H
                        exact absurd H (by simp)
                    · rw [if_neg c17] at H
                      exact absurd H (by simp)
              · rw [if_neg c13] at H
                exact absurd H (by simp)
      · rw [if_neg c5] at H
        exact absurd H (by simp)
    · rw [if_neg c4] at H
      exact absurd H (by simp)
end Go.Proofs.Ytpmmiabcfnejmaa.H
end
section
namespace Go.Proofs.Ytpmmiabcfnejmaa.H
open Go.RowKit Go.Proofs.YtpmmiabcfnejmaaW.PrintWords Go.Proofs.YtpmmiabcfnejmaaW.PrintLast Go.Proofs.YtpmmiabcfnejmaaW.PrintMore
attribute [local go_sem] max2_int min2_int max_two min_two max_three min_three max_four min_four   -- for this text's walks alone
set_option linter.unusedVariables false
set_option linter.unusedSimpArgs false
def quant_place.l0 : Nat → ByteArray → Int → Int → Int → Option (Int)
  | 0, _, _, _, _ => none
  | k + 1, x0, x1, x7, x8 => if x8 < x7 then (if 0 ≤ x8 then (if x8 < (x0.size : Int) then (if (bt x0 x8) = x1 then (some x8) else (quant_place.l0 k x0 x1 x7 (wrap64 (x8 + 1)))) else (none)) else (none)) else (some 0)
def quant_place.f (k : Nat) (a0 : ByteArray) (a1 : Int) : Option (Int) := quant_place.l0 k a0 a1 (a0.size : Int) 0
theorem quant_place.mono_l : ∀ k, (∀ y0 y1 y2 y3, LeO (quant_place.l0 k y0 y1 y2 y3) (quant_place.l0 (k + 1) y0 y1 y2 y3))
  | 0 => fun _ _ _ _ r h => by simp [quant_place.l0] at h
  | k + 1 => by
    have ih0 := quant_place.mono_l k
    · intro y0 y1 y2 y3
      unfold quant_place.l0
      repeat' first
      | (with_reducible exact ih0 _ _ _ _)
      | (with_reducible exact LeO.refl _)
      | (with_reducible exact LeO.none _)
      | (with_reducible refine LeO.ite ?_ ?_)
      | (with_reducible refine LeO.bind ?_ (fun _ => ?_))
      | exact ih0 _ _ _ _
      | exact LeO.none _
      | refine LeO.ite ?_ ?_
      | refine LeO.bind ?_ (fun _ => ?_)
theorem quant_place.mono : ∀ a0 a1 k, LeO (quant_place.f k a0 a1) (quant_place.f (k + 1) a0 a1) := by
  intro a0 a1 k
  have ih0 := quant_place.mono_l k
  unfold quant_place.f
  repeat' first
      | (with_reducible exact ih0 _ _ _ _)
      | (with_reducible exact LeO.refl _)
      | (with_reducible exact LeO.none _)
      | (with_reducible refine LeO.ite ?_ ?_)
      | (with_reducible refine LeO.bind ?_ (fun _ => ?_))
      | exact ih0 _ _ _ _
      | exact LeO.none _
      | refine LeO.ite ?_ ?_
      | refine LeO.bind ?_ (fun _ => ?_)
set_option maxHeartbeats 8000000 in
set_option maxRecDepth 100000 in
theorem quant_place.calls (k : Nat) (a0 : ByteArray) (a1 : Int) (r : Int) (w : World) (h : quant_place.f k a0 a1 = some r) :
    Calls Try.prog 36 #[.string a0, .int .u8 a1] w fun e w' => e = .returned (.int .i64 r) ∧ Drawn0 w w' := by
  have H : (quant_place.l0 k a0 a1 (a0.size : Int) 0) = some r := h
  clear h
  have H' := Aside0.mk H
  clear H
  go_enter Try.func36, Try.ntmps36
  go_wp2
  go_loopg [8] k (fun kq v8 w' => ∃ (x8_1 : Int), v8 = .int .i64 x8_1 ∧ Aside0 (quant_place.l0 kq a0 a1 (a0.size : Int) x8_1 = some r) ∧ Aside0 (kq ≤ k) ∧ Drawn0 w w')
  case atStart => exact ⟨(0), (by first | rfl | (simp; done) | (simp [*]; done)), H', ⟨Nat.le_refl _⟩, by repeat (first | exact Drawn0.refl _ | apply Drawn0.step)⟩
  case round =>
    clear H'
    try clear p2
    obtain ⟨x8_1, rfl, HA, HK1, ⟨m1, rfl⟩⟩ := hrel
    cases gk with
    | zero => exact absurd HA.out (by simp [quant_place.l0])
    | succ k1 =>
      have H := HA.out
      clear HA
      simp only [quant_place.l0] at H
      by_cases c3 : x8_1 < (a0.size : Int)
      · rw [if_pos c3] at H
        have c3b0 : decide (x8_1 < (a0.size : Int)) = true := decide_eq_true c3
        clear c3
        by_cases c4 : 0 ≤ x8_1
        · rw [if_pos c4] at H
          have c4b0 : decide (0 ≤ x8_1) = true := decide_eq_true c4
          clear c4
          by_cases c5 : x8_1 < (a0.size : Int)
          · rw [if_pos c5] at H
            have c5b0 : decide (x8_1 < (a0.size : Int)) = true := decide_eq_true c5
            clear c5
            by_cases c7 : (bt a0 x8_1) = a1
            · rw [if_pos c7] at H
              have c7b0 : ((bt a0 x8_1) == a1) = true := beq_iff_eq.mpr c7
              have c7b1 : ((bt a0 x8_1) != a1) = false := bne_eq_false_iff_eq.mpr c7
              clear c7
              obtain rfl := Option.some.inj H
              have p6 : 0 ≤ (x8_1 : Int) := of_decide_eq_true (by first | (with_reducible assumption) | assumption)
              have q6 : x8_1 < (a0.size : Int) := of_decide_eq_true (by first | (with_reducible assumption) | assumption)
              have hx6 := bt_at a0 x8_1
              replace p6 := eq_true p6
              replace q6 := eq_true q6
              (try (have qz6 := q6; rw [ByteArray.size_extract, Nat.min_self] at qz6))
              go_wp2
              go_ret
              exact ⟨by first | rfl | (simp; done) | (simp [*]; done), by repeat (first | exact Drawn0.refl _ | apply Drawn0.step)⟩
            · rw [if_neg c7] at H
              have c7b0 : ((bt a0 x8_1) == a1) = false := beq_eq_false_iff_ne.mpr c7
              have c7b1 : ((bt a0 x8_1) != a1) = true := bne_iff_ne.mpr c7
              have H' := Aside0.mk H
              clear H
              have p6 : 0 ≤ (x8_1 : Int) := of_decide_eq_true (by first | (with_reducible assumption) | assumption)
              have q6 : x8_1 < (a0.size : Int) := of_decide_eq_true (by first | (with_reducible assumption) | assumption)
              have hx6 := bt_at a0 x8_1
              replace p6 := eq_true p6
              replace q6 := eq_true q6
              (try (have qz6 := q6; rw [ByteArray.size_extract, Nat.min_self] at qz6))
              go_wp2
              go_roundg k1
              case measure => have := HK1.out; omega
              case rel => exact ⟨(wrap64 (x8_1 + 1)), (by first | rfl | (simp; done) | (simp [*]; done)), H', ⟨by have := HK1.out; omega⟩, by repeat (first | exact Drawn0.refl _ | apply Drawn0.step)⟩
          · rw [if_neg c5] at H
            exact absurd H (by simp)
        · rw [if_neg c4] at H
          exact absurd H (by simp)
      · rw [if_neg c3] at H
        have c3b0 : decide (x8_1 < (a0.size : Int)) = false := decide_eq_false c3
        clear c3
        obtain rfl := Option.some.inj H
        go_wp2
        go_ret
        exact ⟨by first | rfl | (simp; done) | (simp [*]; done), by repeat (first | exact Drawn0.refl _ | apply Drawn0.step)⟩
end Go.Proofs.Ytpmmiabcfnejmaa.H
end
section
namespace Go.Proofs.Ytpmmiabcfnejmaa.H
open Go.RowKit Go.Proofs.YtpmmiabcfnejmaaW.PrintWords Go.Proofs.YtpmmiabcfnejmaaW.PrintLast Go.Proofs.YtpmmiabcfnejmaaW.PrintMore
attribute [local go_sem] max2_int min2_int max_two min_two max_three min_three max_four min_four   -- for this text's walks alone
set_option linter.unusedVariables false
set_option linter.unusedSimpArgs false
def powGo : Nat → Int → Int → Int
  | 0, _, x => x
  | n + 1, b, x => powGo n b (wrap64 (x * b))
theorem quant_power.calls (b : Int) (n : Nat) (w : World) (hn : n < 9223372036854775807) :
    Calls Try.prog 35 #[.int .i64 b, .int .i64 n] w fun e w' => e = .returned (.iface 43 (.int .i64 (powGo n b 1000))) ∧ Drawn0 w w' := by
  go_enter Try.func35, Try.ntmps35
  go_wp2
  go_loopw [5, 7] (fun v p w' => ∃ (x : Int) (i d : Nat), v = .int .i64 x ∧ p = .int .i64 i ∧ i + d = n ∧ powGo d b x = powGo n b 1000 ∧ Drawn0 w w') (fun v p w' => n - (intOf p).toNat)
  case atStart =>
    exact ⟨1000, 0, n, rfl, rfl, by omega, rfl, Drawn0.refl _⟩
  case round =>
    obtain ⟨x, i, d, rfl, rfl, hd, hp, hD⟩ := hrel
    cases d with
    | zero =>
      have hc : decide ((i : Int) < n) = false := by simp; omega
      go_wp2
      go_ret
      exact ⟨by rw [← hp]; rfl, hD⟩
    | succ d =>
      have hc : decide ((i : Int) < n) = true := by simp; omega
      go_wp2
      go_roundw
      case rel =>
        exact ⟨_, i + 1, d, rfl, by simp, by omega, hp, hD⟩
      case measure => simp [intOf]; omega
def unitV : Option Int → Value
  | some x => .iface 43 (.int .i64 x)
  | none => .iface 52 (.agg #[])
def unitO (s : ByteArray) : Option Int :=
  if s = ⟨#[]⟩ then some 1000 else if s = ⟨#[109]⟩ then some 1 else
  if s = ⟨#[107]⟩ then some 1000000 else if s = ⟨#[77]⟩ then some 1000000000 else if s = ⟨#[71]⟩ then some 1000000000000 else if s = ⟨#[84]⟩ then some 1000000000000000 else
  if s = ⟨#[75, 105]⟩ then some 1024000 else if s = ⟨#[77, 105]⟩ then some 1048576000 else if s = ⟨#[71, 105]⟩ then some 1073741824000 else if s = ⟨#[84, 105]⟩ then some 1099511627776000 else none
theorem toList_ne {s : ByteArray} {a : List UInt8} (h : ¬ s = ⟨a.toArray⟩) : (s.toList == a) = false := by
  rw [beq_eq_false_iff_ne]
  intro e
  apply h
  rw [ByteArray.toList_eq] at e
  cases s with
  | mk d =>
    simp only at e
    rw [← e]
set_option maxHeartbeats 8000000 in
theorem quant_unit.calls (s : ByteArray) (w : World) :
    Calls Try.prog 28 #[.string s] w fun e w' => e = .returned (unitV (unitO s)) ∧ Drawn0 w w' := by
  unfold unitO
  by_cases h0 : s = ⟨#[]⟩
  · subst h0
    go_enter Try.func28, Try.ntmps28
    go_wp2_with fail
    go_ret
    exact ⟨by first | kernel_rfl | rfl | (simp; done) | (simp [*]; done), by first | exact Drawn0.refl _ | exact ⟨_, rfl⟩ | exact ⟨_, World.drewN_drewN _ _ _⟩⟩
  by_cases h1 : s = ⟨#[109]⟩
  · subst h1
    go_enter Try.func28, Try.ntmps28
    go_wp2_with fail
    go_ret
    exact ⟨by first | kernel_rfl | rfl | (simp; done) | (simp [*]; done), by first | exact Drawn0.refl _ | exact ⟨_, rfl⟩ | exact ⟨_, World.drewN_drewN _ _ _⟩⟩
  by_cases h2 : s = ⟨#[107]⟩
  · subst h2
    have kp : quant_place.f 6 ⟨#[107, 77, 71, 84]⟩ 107 = some 0 := by kernel_rfl
    go_enter Try.func28, Try.ntmps28
    go_wp2_with (first | (go_at_call 36; refine (quant_place.calls 6 ⟨#[107, 77, 71, 84]⟩ 107 0 _ kp).mono ?_; rintro e w' ⟨rfl, ⟨nd1, rfl⟩⟩) | (go_at_call 35; refine (quant_power.calls 1000 1 _ (by omega)).mono ?_; rintro e w' ⟨rfl, ⟨nd2, rfl⟩⟩))
    go_ret
    exact ⟨by first | kernel_rfl | rfl | (simp; done) | (simp [*]; done), by first | exact Drawn0.refl _ | exact ⟨_, rfl⟩ | exact ⟨_, World.drewN_drewN _ _ _⟩⟩
  by_cases h3 : s = ⟨#[77]⟩
  · subst h3
    have kp : quant_place.f 6 ⟨#[107, 77, 71, 84]⟩ 77 = some 1 := by kernel_rfl
    go_enter Try.func28, Try.ntmps28
    go_wp2_with (first | (go_at_call 36; refine (quant_place.calls 6 ⟨#[107, 77, 71, 84]⟩ 77 1 _ kp).mono ?_; rintro e w' ⟨rfl, ⟨nd1, rfl⟩⟩) | (go_at_call 35; refine (quant_power.calls 1000 2 _ (by omega)).mono ?_; rintro e w' ⟨rfl, ⟨nd2, rfl⟩⟩))
    go_ret
    exact ⟨by first | kernel_rfl | rfl | (simp; done) | (simp [*]; done), by first | exact Drawn0.refl _ | exact ⟨_, rfl⟩ | exact ⟨_, World.drewN_drewN _ _ _⟩⟩
  by_cases h4 : s = ⟨#[71]⟩
  · subst h4
    have kp : quant_place.f 6 ⟨#[107, 77, 71, 84]⟩ 71 = some 2 := by kernel_rfl
    go_enter Try.func28, Try.ntmps28
    go_wp2_with (first | (go_at_call 36; refine (quant_place.calls 6 ⟨#[107, 77, 71, 84]⟩ 71 2 _ kp).mono ?_; rintro e w' ⟨rfl, ⟨nd1, rfl⟩⟩) | (go_at_call 35; refine (quant_power.calls 1000 3 _ (by omega)).mono ?_; rintro e w' ⟨rfl, ⟨nd2, rfl⟩⟩))
    go_ret
    exact ⟨by first | kernel_rfl | rfl | (simp; done) | (simp [*]; done), by first | exact Drawn0.refl _ | exact ⟨_, rfl⟩ | exact ⟨_, World.drewN_drewN _ _ _⟩⟩
  by_cases h5 : s = ⟨#[84]⟩
  · subst h5
    have kp : quant_place.f 6 ⟨#[107, 77, 71, 84]⟩ 84 = some 3 := by kernel_rfl
    go_enter Try.func28, Try.ntmps28
    go_wp2_with (first | (go_at_call 36; refine (quant_place.calls 6 ⟨#[107, 77, 71, 84]⟩ 84 3 _ kp).mono ?_; rintro e w' ⟨rfl, ⟨nd1, rfl⟩⟩) | (go_at_call 35; refine (quant_power.calls 1000 4 _ (by omega)).mono ?_; rintro e w' ⟨rfl, ⟨nd2, rfl⟩⟩))
    go_ret
    exact ⟨by first | kernel_rfl | rfl | (simp; done) | (simp [*]; done), by first | exact Drawn0.refl _ | exact ⟨_, rfl⟩ | exact ⟨_, World.drewN_drewN _ _ _⟩⟩
  by_cases h6 : s = ⟨#[75, 105]⟩
  · subst h6
    have kp : quant_place.f 6 ⟨#[75, 77, 71, 84]⟩ 75 = some 0 := by kernel_rfl
    go_enter Try.func28, Try.ntmps28
    go_wp2_with (first | (go_at_call 36; refine (quant_place.calls 6 ⟨#[75, 77, 71, 84]⟩ 75 0 _ kp).mono ?_; rintro e w' ⟨rfl, ⟨nd1, rfl⟩⟩) | (go_at_call 35; refine (quant_power.calls 1024 1 _ (by omega)).mono ?_; rintro e w' ⟨rfl, ⟨nd2, rfl⟩⟩))
    go_ret
    exact ⟨by first | kernel_rfl | rfl | (simp; done) | (simp [*]; done), by first | exact Drawn0.refl _ | exact ⟨_, rfl⟩ | exact ⟨_, World.drewN_drewN _ _ _⟩⟩
  by_cases h7 : s = ⟨#[77, 105]⟩
  · subst h7
    have kp : quant_place.f 6 ⟨#[75, 77, 71, 84]⟩ 77 = some 1 := by kernel_rfl
    go_enter Try.func28, Try.ntmps28
    go_wp2_with (first | (go_at_call 36; refine (quant_place.calls 6 ⟨#[75, 77, 71, 84]⟩ 77 1 _ kp).mono ?_; rintro e w' ⟨rfl, ⟨nd1, rfl⟩⟩) | (go_at_call 35; refine (quant_power.calls 1024 2 _ (by omega)).mono ?_; rintro e w' ⟨rfl, ⟨nd2, rfl⟩⟩))
    go_ret
    exact ⟨by first | kernel_rfl | rfl | (simp; done) | (simp [*]; done), by first | exact Drawn0.refl _ | exact ⟨_, rfl⟩ | exact ⟨_, World.drewN_drewN _ _ _⟩⟩
  by_cases h8 : s = ⟨#[71, 105]⟩
  · subst h8
    have kp : quant_place.f 6 ⟨#[75, 77, 71, 84]⟩ 71 = some 2 := by kernel_rfl
    go_enter Try.func28, Try.ntmps28
    go_wp2_with (first | (go_at_call 36; refine (quant_place.calls 6 ⟨#[75, 77, 71, 84]⟩ 71 2 _ kp).mono ?_; rintro e w' ⟨rfl, ⟨nd1, rfl⟩⟩) | (go_at_call 35; refine (quant_power.calls 1024 3 _ (by omega)).mono ?_; rintro e w' ⟨rfl, ⟨nd2, rfl⟩⟩))
    go_ret
    exact ⟨by first | kernel_rfl | rfl | (simp; done) | (simp [*]; done), by first | exact Drawn0.refl _ | exact ⟨_, rfl⟩ | exact ⟨_, World.drewN_drewN _ _ _⟩⟩
  by_cases h9 : s = ⟨#[84, 105]⟩
  · subst h9
    have kp : quant_place.f 6 ⟨#[75, 77, 71, 84]⟩ 84 = some 3 := by kernel_rfl
    go_enter Try.func28, Try.ntmps28
    go_wp2_with (first | (go_at_call 36; refine (quant_place.calls 6 ⟨#[75, 77, 71, 84]⟩ 84 3 _ kp).mono ?_; rintro e w' ⟨rfl, ⟨nd1, rfl⟩⟩) | (go_at_call 35; refine (quant_power.calls 1024 4 _ (by omega)).mono ?_; rintro e w' ⟨rfl, ⟨nd2, rfl⟩⟩))
    go_ret
    exact ⟨by first | kernel_rfl | rfl | (simp; done) | (simp [*]; done), by first | exact Drawn0.refl _ | exact ⟨_, rfl⟩ | exact ⟨_, World.drewN_drewN _ _ _⟩⟩
  rw [if_neg h0, if_neg h1, if_neg h2, if_neg h3, if_neg h4, if_neg h5, if_neg h6, if_neg h7, if_neg h8, if_neg h9]
  have e0 : (s.toList == ([] : List UInt8)) = false := toList_ne h0
  have e1 : (s.toList == ([109] : List UInt8)) = false := toList_ne h1
  have e2 : (s.toList == ([107] : List UInt8)) = false := toList_ne h2
  have e3 : (s.toList == ([77] : List UInt8)) = false := toList_ne h3
  have e4 : (s.toList == ([71] : List UInt8)) = false := toList_ne h4
  have e5 : (s.toList == ([84] : List UInt8)) = false := toList_ne h5
  have e6 : (s.toList == ([75, 105] : List UInt8)) = false := toList_ne h6
  have e7 : (s.toList == ([77, 105] : List UInt8)) = false := toList_ne h7
  have e8 : (s.toList == ([71, 105] : List UInt8)) = false := toList_ne h8
  have e9 : (s.toList == ([84, 105] : List UInt8)) = false := toList_ne h9
  go_enter Try.func28, Try.ntmps28
  go_wp2_with fail
  go_ret
  exact ⟨by first | rfl | (simp; done) | (simp [*]; done), by first | exact Drawn0.refl _ | exact ⟨_, rfl⟩⟩
end Go.Proofs.Ytpmmiabcfnejmaa.H
end
section
namespace Go.Proofs.Ytpmmiabcfnejmaa.H
open Go.RowKit Go.Proofs.YtpmmiabcfnejmaaW.PrintWords Go.Proofs.YtpmmiabcfnejmaaW.PrintLast Go.Proofs.YtpmmiabcfnejmaaW.PrintMore
attribute [local go_sem] max2_int min2_int max_two min_two max_three min_three max_four min_four   -- for this text's walks alone
set_option linter.unusedVariables false
set_option linter.unusedSimpArgs false
def quant_exact.l0 : Nat → ByteArray → Int → Int → Int → Int → Int → Int → Option (Bool)
  | 0, _, _, _, _, _, _, _ => none
  | k + 1, x0, x1, x2, x3, x9, x12, x13 => if x13 < x12 then (if 0 ≤ x13 then (if x13 < (x0.size : Int) then (if x3 = 0 then (none) else (quant_exact.l0 k x0 x1 x2 x3 (Int.tmod (wrap64 ((wrap64 (10 * x9)) + (((bt x0 x13) - 48) % 256))) x3) x12 (wrap64 (x13 + 1)))) else (none)) else (none)) else (if x3 = 0 then (none) else (some ((Int.tmod (wrap64 ((Int.tmod (wrap64 ((wrap64 (x9 * 1000)) + x1)) x3) * (Int.tmod x2 x3))) x3) == 0)))
def quant_exact.f (k : Nat) (a0 : ByteArray) (a1 : Int) (a2 : Int) (a3 : Int) : Option (Bool) := quant_exact.l0 k a0 a1 a2 a3 0 (a0.size : Int) 0
theorem quant_exact.mono_l : ∀ k, (∀ y0 y1 y2 y3 y4 y5 y6, LeO (quant_exact.l0 k y0 y1 y2 y3 y4 y5 y6) (quant_exact.l0 (k + 1) y0 y1 y2 y3 y4 y5 y6))
  | 0 => fun _ _ _ _ _ _ _ r h => by simp [quant_exact.l0] at h
  | k + 1 => by
    have ih0 := quant_exact.mono_l k
    · intro y0 y1 y2 y3 y4 y5 y6
      unfold quant_exact.l0
      repeat' first
      | (with_reducible exact ih0 _ _ _ _ _ _ _)
      | (with_reducible exact LeO.refl _)
      | (with_reducible exact LeO.none _)
      | (with_reducible refine LeO.ite ?_ ?_)
      | (with_reducible refine LeO.bind ?_ (fun _ => ?_))
      | exact ih0 _ _ _ _ _ _ _
      | exact LeO.none _
      | refine LeO.ite ?_ ?_
      | refine LeO.bind ?_ (fun _ => ?_)
theorem quant_exact.mono : ∀ a0 a1 a2 a3 k, LeO (quant_exact.f k a0 a1 a2 a3) (quant_exact.f (k + 1) a0 a1 a2 a3) := by
  intro a0 a1 a2 a3 k
  have ih0 := quant_exact.mono_l k
  unfold quant_exact.f
  repeat' first
      | (with_reducible exact ih0 _ _ _ _ _ _ _)
      | (with_reducible exact LeO.refl _)
      | (with_reducible exact LeO.none _)
      | (with_reducible refine LeO.ite ?_ ?_)
      | (with_reducible refine LeO.bind ?_ (fun _ => ?_))
      | exact ih0 _ _ _ _ _ _ _
      | exact LeO.none _
      | refine LeO.ite ?_ ?_
      | refine LeO.bind ?_ (fun _ => ?_)
set_option maxHeartbeats 8000000 in
set_option maxRecDepth 100000 in
theorem quant_exact.calls (k : Nat) (a0 : ByteArray) (a1 : Int) (a2 : Int) (a3 : Int) (r : Bool) (w : World) (h : quant_exact.f k a0 a1 a2 a3 = some r) :
    Calls Try.prog 29 #[.string a0, .int .i64 a1, .int .i64 a2, .int .i64 a3] w fun e w' => e = .returned (.bool r) ∧ Drawn0 w w' := by
  have H : (quant_exact.l0 k a0 a1 a2 a3 0 (a0.size : Int) 0) = some r := h
  clear h
  have H' := Aside0.mk H
  clear H
  go_enter Try.func29, Try.ntmps29
  go_wp2
  go_loopg [9, 13] k (fun kq v9 v13 w' => ∃ (x9_1 : Int) (x13_1 : Int), v9 = .int .i64 x9_1 ∧ v13 = .int .i64 x13_1 ∧ Aside0 (quant_exact.l0 kq a0 a1 a2 a3 x9_1 (a0.size : Int) x13_1 = some r) ∧ Aside0 (kq ≤ k) ∧ Drawn0 w w')
  case atStart => exact ⟨(0), (0), (by first | rfl | (simp; done) | (simp [*]; done)), (by first | rfl | (simp; done) | (simp [*]; done)), H', ⟨Nat.le_refl _⟩, by repeat (first | exact Drawn0.refl _ | apply Drawn0.step)⟩
  case round =>
    clear H'
    try clear c2
    try clear p2
    obtain ⟨x9_1, x13_1, rfl, rfl, HA, HK1, ⟨m1, rfl⟩⟩ := hrel
    cases gk with
    | zero => exact absurd HA.out (by simp [quant_exact.l0])
    | succ k1 =>
      have H := HA.out
      clear HA
      simp only [quant_exact.l0] at H
      by_cases c5 : x13_1 < (a0.size : Int)
      · rw [if_pos c5] at H
        have c5b0 : decide (x13_1 < (a0.size : Int)) = true := decide_eq_true c5
        clear c5
        by_cases c6 : 0 ≤ x13_1
        · rw [if_pos c6] at H
          have c6b0 : decide (0 ≤ x13_1) = true := decide_eq_true c6
          clear c6
          by_cases c7 : x13_1 < (a0.size : Int)
          · rw [if_pos c7] at H
            have c7b0 : decide (x13_1 < (a0.size : Int)) = true := decide_eq_true c7
            clear c7
            by_cases c9 : a3 = 0
            · rw [if_pos c9] at H
              exact absurd H (by simp)
            · rw [if_neg c9] at H
              have c9b0 : (a3 == 0) = false := beq_eq_false_iff_ne.mpr c9
              have c9b1 : (a3 != 0) = true := bne_iff_ne.mpr c9
              have H' := Aside0.mk H
              clear H
              have p8 : 0 ≤ (x13_1 : Int) := of_decide_eq_true (by first | (with_reducible assumption) | assumption)
              have q8 : x13_1 < (a0.size : Int) := of_decide_eq_true (by first | (with_reducible assumption) | assumption)
              have hx8 := bt_at a0 x13_1
              replace p8 := eq_true p8
              replace q8 := eq_true q8
              (try (have qz8 := q8; rw [ByteArray.size_extract, Nat.min_self] at qz8))
              go_wp2
              go_roundg k1
              case measure => have := HK1.out; omega
              case rel => exact ⟨(Int.tmod (wrap64 ((wrap64 (10 * x9_1)) + (((bt a0 x13_1) - 48) % 256))) a3), (wrap64 (x13_1 + 1)), (by first | rfl | (simp; done) | (simp [*]; done)), (by first | rfl | (simp; done) | (simp [*]; done)), H', ⟨by have := HK1.out; omega⟩, by repeat (first | exact Drawn0.refl _ | apply Drawn0.step)⟩
          · rw [if_neg c7] at H
            exact absurd H (by simp)
        · rw [if_neg c6] at H
          exact absurd H (by simp)
      · rw [if_neg c5] at H
        have c5b0 : decide (x13_1 < (a0.size : Int)) = false := decide_eq_false c5
        clear c5
        by_cases c10 : a3 = 0
        · rw [if_pos c10] at H
          exact absurd H (by simp)
        · rw [if_neg c10] at H
          have c10b0 : (a3 == 0) = false := beq_eq_false_iff_ne.mpr c10
          have c10b1 : (a3 != 0) = true := bne_iff_ne.mpr c10
          obtain rfl := Option.some.inj H
          go_wp2
          go_ret
          exact ⟨by first | rfl | (simp; done) | (simp [*]; done), by repeat (first | exact Drawn0.refl _ | apply Drawn0.step)⟩
end Go.Proofs.Ytpmmiabcfnejmaa.H
end
section
namespace Go.Proofs.Ytpmmiabcfnejmaa.H
open Go.RowKit Go.Proofs.YtpmmiabcfnejmaaW.PrintWords Go.Proofs.YtpmmiabcfnejmaaW.PrintLast Go.Proofs.YtpmmiabcfnejmaaW.PrintMore
attribute [local go_sem] max2_int min2_int max_two min_two max_three min_three max_four min_four   -- for this text's walks alone
set_option linter.unusedVariables false
set_option linter.unusedSimpArgs false
def bits_Mul64.f (a0 : Int) (a1 : Int) : Option (Int × Int) := some (IntKind.u64.wrap ((IntKind.u64.wrap ((IntKind.u64.wrap ((a0 / 4294967296) * (a1 / 4294967296))) + ((IntKind.u64.wrap ((IntKind.u64.wrap ((a0 / 4294967296) * (Go.bits .and .u64 a1 4294967295))) + ((IntKind.u64.wrap ((Go.bits .and .u64 a0 4294967295) * (Go.bits .and .u64 a1 4294967295))) / 4294967296))) / 4294967296))) + ((IntKind.u64.wrap ((Go.bits .and .u64 (IntKind.u64.wrap ((IntKind.u64.wrap ((a0 / 4294967296) * (Go.bits .and .u64 a1 4294967295))) + ((IntKind.u64.wrap ((Go.bits .and .u64 a0 4294967295) * (Go.bits .and .u64 a1 4294967295))) / 4294967296))) 4294967295) + (IntKind.u64.wrap ((Go.bits .and .u64 a0 4294967295) * (a1 / 4294967296))))) / 4294967296)), IntKind.u64.wrap (a0 * a1))
set_option maxHeartbeats 8000000 in
set_option maxRecDepth 100000 in
theorem bits_Mul64.calls (a0 : Int) (a1 : Int) (r1 : Int) (r2 : Int) (w : World) (h : bits_Mul64.f a0 a1 = some (r1, r2)) :
    Calls Try.prog 37 #[.int .u64 a0, .int .u64 a1] w fun e w' => e = .returned (.tuple #[.int .u64 r1, .int .u64 r2]) ∧ Drawn0 w w' := by
  have H : (some (IntKind.u64.wrap ((IntKind.u64.wrap ((IntKind.u64.wrap ((a0 / 4294967296) * (a1 / 4294967296))) + ((IntKind.u64.wrap ((IntKind.u64.wrap ((a0 / 4294967296) * (Go.bits .and .u64 a1 4294967295))) + ((IntKind.u64.wrap ((Go.bits .and .u64 a0 4294967295) * (Go.bits .and .u64 a1 4294967295))) / 4294967296))) / 4294967296))) + ((IntKind.u64.wrap ((Go.bits .and .u64 (IntKind.u64.wrap ((IntKind.u64.wrap ((a0 / 4294967296) * (Go.bits .and .u64 a1 4294967295))) + ((IntKind.u64.wrap ((Go.bits .and .u64 a0 4294967295) * (Go.bits .and .u64 a1 4294967295))) / 4294967296))) 4294967295) + (IntKind.u64.wrap ((Go.bits .and .u64 a0 4294967295) * (a1 / 4294967296))))) / 4294967296)), IntKind.u64.wrap (a0 * a1))) = some (r1, r2) := h
  clear h
  simp only [Option.some.injEq, Prod.mk.injEq] at H
  obtain ⟨rfl, rfl⟩ := H
  go_enter Try.func37, Try.ntmps37
  go_wp2
  go_ret2
  exact ⟨by first | rfl | (simp; done) | (simp [*]; done), by repeat (first | exact Drawn0.refl _ | apply Drawn0.step)⟩
end Go.Proofs.Ytpmmiabcfnejmaa.H
end
section
namespace Go.Proofs.Ytpmmiabcfnejmaa.H
open Go.RowKit Go.Proofs.YtpmmiabcfnejmaaW.PrintWords Go.Proofs.YtpmmiabcfnejmaaW.PrintLast Go.Proofs.YtpmmiabcfnejmaaW.PrintMore
attribute [local go_sem] max2_int min2_int max_two min_two max_three min_three max_four min_four   -- for this text's walks alone
set_option linter.unusedVariables false
set_option linter.unusedSimpArgs false
def bits_Len64.j0 : Nat → Int → Int → Option (Int)
  | 0, _, _ => none
  | k + 1, x0, x2 => if x0 ≥ 65536 then (if (x0 / 65536) ≥ 256 then (if 0 ≤ (((x0 / 65536) / 256) % 256) then (if (((x0 / 65536) / 256) % 256) < 256 then (some (wrap64 ((wrap64 ((wrap64 (x2 + 16)) + 8)) + (wrap64 (bt (⟨#[0, 1, 2, 2, 3, 3, 3, 3, 4, 4, 4, 4, 4, 4, 4, 4, 5, 5, 5, 5, 5, 5, 5, 5, 5, 5, 5, 5, 5, 5, 5, 5, 6, 6, 6, 6, 6, 6, 6, 6, 6, 6, 6, 6, 6, 6, 6, 6, 6, 6, 6, 6, 6, 6, 6, 6, 6, 6, 6, 6, 6, 6, 6, 6, 7, 7, 7, 7, 7, 7, 7, 7, 7, 7, 7, 7, 7, 7, 7, 7, 7, 7, 7, 7, 7, 7, 7, 7, 7, 7, 7, 7, 7, 7, 7, 7, 7, 7, 7, 7, 7, 7, 7, 7, 7, 7, 7, 7, 7, 7, 7, 7, 7, 7, 7, 7, 7, 7, 7, 7, 7, 7, 7, 7, 7, 7, 7, 7, 8, 8, 8, 8, 8, 8, 8, 8, 8, 8, 8, 8, 8, 8, 8, 8, 8, 8, 8, 8, 8, 8, 8, 8, 8, 8, 8, 8, 8, 8, 8, 8, 8, 8, 8, 8, 8, 8, 8, 8, 8, 8, 8, 8, 8, 8, 8, 8, 8, 8, 8, 8, 8, 8, 8, 8, 8, 8, 8, 8, 8, 8, 8, 8, 8, 8, 8, 8, 8, 8, 8, 8, 8, 8, 8, 8, 8, 8, 8, 8, 8, 8, 8, 8, 8, 8, 8, 8, 8, 8, 8, 8, 8, 8, 8, 8, 8, 8, 8, 8, 8, 8, 8, 8, 8, 8, 8, 8, 8, 8, 8, 8, 8, 8, 8, 8, 8, 8, 8, 8, 8, 8, 8, 8, 8, 8, 8, 8]⟩ : ByteArray) (((x0 / 65536) / 256) % 256)))))) else (none)) else (none)) else (if 0 ≤ ((x0 / 65536) % 256) then (if ((x0 / 65536) % 256) < 256 then (some (wrap64 ((wrap64 (x2 + 16)) + (wrap64 (bt (⟨#[0, 1, 2, 2, 3, 3, 3, 3, 4, 4, 4, 4, 4, 4, 4, 4, 5, 5, 5, 5, 5, 5, 5, 5, 5, 5, 5, 5, 5, 5, 5, 5, 6, 6, 6, 6, 6, 6, 6, 6, 6, 6, 6, 6, 6, 6, 6, 6, 6, 6, 6, 6, 6, 6, 6, 6, 6, 6, 6, 6, 6, 6, 6, 6, 7, 7, 7, 7, 7, 7, 7, 7, 7, 7, 7, 7, 7, 7, 7, 7, 7, 7, 7, 7, 7, 7, 7, 7, 7, 7, 7, 7, 7, 7, 7, 7, 7, 7, 7, 7, 7, 7, 7, 7, 7, 7, 7, 7, 7, 7, 7, 7, 7, 7, 7, 7, 7, 7, 7, 7, 7, 7, 7, 7, 7, 7, 7, 7, 8, 8, 8, 8, 8, 8, 8, 8, 8, 8, 8, 8, 8, 8, 8, 8, 8, 8, 8, 8, 8, 8, 8, 8, 8, 8, 8, 8, 8, 8, 8, 8, 8, 8, 8, 8, 8, 8, 8, 8, 8, 8, 8, 8, 8, 8, 8, 8, 8, 8, 8, 8, 8, 8, 8, 8, 8, 8, 8, 8, 8, 8, 8, 8, 8, 8, 8, 8, 8, 8, 8, 8, 8, 8, 8, 8, 8, 8, 8, 8, 8, 8, 8, 8, 8, 8, 8, 8, 8, 8, 8, 8, 8, 8, 8, 8, 8, 8, 8, 8, 8, 8, 8, 8, 8, 8, 8, 8, 8, 8, 8, 8, 8, 8, 8, 8, 8, 8, 8, 8, 8, 8, 8, 8, 8, 8, 8, 8]⟩ : ByteArray) ((x0 / 65536) % 256)))))) else (none)) else (none))) else (if x0 ≥ 256 then (if 0 ≤ ((x0 / 256) % 256) then (if ((x0 / 256) % 256) < 256 then (some (wrap64 ((wrap64 (x2 + 8)) + (wrap64 (bt (⟨#[0, 1, 2, 2, 3, 3, 3, 3, 4, 4, 4, 4, 4, 4, 4, 4, 5, 5, 5, 5, 5, 5, 5, 5, 5, 5, 5, 5, 5, 5, 5, 5, 6, 6, 6, 6, 6, 6, 6, 6, 6, 6, 6, 6, 6, 6, 6, 6, 6, 6, 6, 6, 6, 6, 6, 6, 6, 6, 6, 6, 6, 6, 6, 6, 7, 7, 7, 7, 7, 7, 7, 7, 7, 7, 7, 7, 7, 7, 7, 7, 7, 7, 7, 7, 7, 7, 7, 7, 7, 7, 7, 7, 7, 7, 7, 7, 7, 7, 7, 7, 7, 7, 7, 7, 7, 7, 7, 7, 7, 7, 7, 7, 7, 7, 7, 7, 7, 7, 7, 7, 7, 7, 7, 7, 7, 7, 7, 7, 8, 8, 8, 8, 8, 8, 8, 8, 8, 8, 8, 8, 8, 8, 8, 8, 8, 8, 8, 8, 8, 8, 8, 8, 8, 8, 8, 8, 8, 8, 8, 8, 8, 8, 8, 8, 8, 8, 8, 8, 8, 8, 8, 8, 8, 8, 8, 8, 8, 8, 8, 8, 8, 8, 8, 8, 8, 8, 8, 8, 8, 8, 8, 8, 8, 8, 8, 8, 8, 8, 8, 8, 8, 8, 8, 8, 8, 8, 8, 8, 8, 8, 8, 8, 8, 8, 8, 8, 8, 8, 8, 8, 8, 8, 8, 8, 8, 8, 8, 8, 8, 8, 8, 8, 8, 8, 8, 8, 8, 8, 8, 8, 8, 8, 8, 8, 8, 8, 8, 8, 8, 8, 8, 8, 8, 8, 8, 8]⟩ : ByteArray) ((x0 / 256) % 256)))))) else (none)) else (none)) else (if 0 ≤ ((x0) % 256) then (if ((x0) % 256) < 256 then (some (wrap64 (x2 + (wrap64 (bt (⟨#[0, 1, 2, 2, 3, 3, 3, 3, 4, 4, 4, 4, 4, 4, 4, 4, 5, 5, 5, 5, 5, 5, 5, 5, 5, 5, 5, 5, 5, 5, 5, 5, 6, 6, 6, 6, 6, 6, 6, 6, 6, 6, 6, 6, 6, 6, 6, 6, 6, 6, 6, 6, 6, 6, 6, 6, 6, 6, 6, 6, 6, 6, 6, 6, 7, 7, 7, 7, 7, 7, 7, 7, 7, 7, 7, 7, 7, 7, 7, 7, 7, 7, 7, 7, 7, 7, 7, 7, 7, 7, 7, 7, 7, 7, 7, 7, 7, 7, 7, 7, 7, 7, 7, 7, 7, 7, 7, 7, 7, 7, 7, 7, 7, 7, 7, 7, 7, 7, 7, 7, 7, 7, 7, 7, 7, 7, 7, 7, 8, 8, 8, 8, 8, 8, 8, 8, 8, 8, 8, 8, 8, 8, 8, 8, 8, 8, 8, 8, 8, 8, 8, 8, 8, 8, 8, 8, 8, 8, 8, 8, 8, 8, 8, 8, 8, 8, 8, 8, 8, 8, 8, 8, 8, 8, 8, 8, 8, 8, 8, 8, 8, 8, 8, 8, 8, 8, 8, 8, 8, 8, 8, 8, 8, 8, 8, 8, 8, 8, 8, 8, 8, 8, 8, 8, 8, 8, 8, 8, 8, 8, 8, 8, 8, 8, 8, 8, 8, 8, 8, 8, 8, 8, 8, 8, 8, 8, 8, 8, 8, 8, 8, 8, 8, 8, 8, 8, 8, 8, 8, 8, 8, 8, 8, 8, 8, 8, 8, 8, 8, 8, 8, 8, 8, 8, 8, 8]⟩ : ByteArray) ((x0) % 256)))))) else (none)) else (none)))
def bits_Len64.f (k : Nat) (a0 : Int) : Option (Int) := if a0 ≥ 4294967296 then (bits_Len64.j0 k (a0 / 4294967296) 32) else (bits_Len64.j0 k a0 0)
theorem bits_Len64.mono_l : ∀ k, (∀ y0 y1, LeO (bits_Len64.j0 k y0 y1) (bits_Len64.j0 (k + 1) y0 y1))
  | 0 => fun _ _ r h => by simp [bits_Len64.j0] at h
  | k + 1 => by
    have ih0 := bits_Len64.mono_l k
    · intro y0 y1
      unfold bits_Len64.j0
      repeat' first
      | (with_reducible exact ih0 _ _)
      | (with_reducible exact LeO.refl _)
      | (with_reducible exact LeO.none _)
      | (with_reducible refine LeO.ite ?_ ?_)
      | (with_reducible refine LeO.bind ?_ (fun _ => ?_))
      | exact ih0 _ _
      | exact LeO.none _
      | refine LeO.ite ?_ ?_
      | refine LeO.bind ?_ (fun _ => ?_)
theorem bits_Len64.mono : ∀ a0 k, LeO (bits_Len64.f k a0) (bits_Len64.f (k + 1) a0) := by
  intro a0 k
  have ih0 := bits_Len64.mono_l k
  unfold bits_Len64.f
  repeat' first
      | (with_reducible exact ih0 _ _)
      | (with_reducible exact LeO.refl _)
      | (with_reducible exact LeO.none _)
      | (with_reducible refine LeO.ite ?_ ?_)
      | (with_reducible refine LeO.bind ?_ (fun _ => ?_))
      | exact ih0 _ _
      | exact LeO.none _
      | refine LeO.ite ?_ ?_
      | refine LeO.bind ?_ (fun _ => ?_)
set_option maxHeartbeats 8000000 in
set_option maxRecDepth 100000 in
theorem bits_Len64.calls (k : Nat) (a0 : Int) (r : Int) (w : World) (h : bits_Len64.f k a0 = some r) :
    Calls Try.prog 40 #[.int .u64 a0] w fun e w' => e = .returned (.int .i64 r) ∧ Drawn0 w w' := by
  have H : (if a0 ≥ 4294967296 then (bits_Len64.j0 k (a0 / 4294967296) 32) else (bits_Len64.j0 k a0 0)) = some r := h
  clear h
  have HC2 := Aside0.mk H
  clear H
  go_enter Try.func40, Try.ntmps40
  go_upto_if 4 with (fail)
  go_cut [0, 2] (fun v0 v2 wc => ∃ (kq : Nat) (x0_1 : Int) (x2_1 : Int), v0 = .int .u64 x0_1 ∧ v2 = .int .i64 x2_1 ∧ Aside0 (bits_Len64.j0 kq x0_1 x2_1 = some r) ∧ Aside0 (kq ≤ k) ∧ Drawn0 w wc)
  case first =>
    have H := HC2.out
    clear HC2
    by_cases c3 : a0 ≥ 4294967296
    · rw [if_pos c3] at H
      have c3b0 : decide (4294967296 ≤ a0) = true := decide_eq_true c3
      clear c3
      (first | rw [c3b0] | (simp only [i64_w, i32_w]; rw [c3b0]) | skip)
      have H' := Aside0.mk H
      clear H
      go_wp2
      go_meet
      case rel => exact ⟨_, (a0 / 4294967296), (32), (by first | rfl | (simp; done) | (simp [*]; done)), (by first | rfl | (simp; done) | (simp [*]; done)), H', ⟨by first | omega | exact Nat.le_refl _⟩, by repeat (first | exact Drawn0.refl _ | apply Drawn0.step)⟩
    · rw [if_neg c3] at H
      have c3b0 : decide (4294967296 ≤ a0) = false := decide_eq_false c3
      clear c3
      (first | rw [c3b0] | (simp only [i64_w, i32_w]; rw [c3b0]) | skip)
      have H' := Aside0.mk H
      clear H
      go_wp2
      go_meet
      case rel => exact ⟨_, (a0), (0), (by first | rfl | (simp; done) | (simp [*]; done)), (by first | rfl | (simp; done) | (simp [*]; done)), H', ⟨by first | omega | exact Nat.le_refl _⟩, by repeat (first | exact Drawn0.refl _ | apply Drawn0.step)⟩
  case rest =>
    clear HC2
    try clear p2
    try clear c3
    try clear c3b0
    obtain ⟨kq, x0_1, x2_1, rfl, rfl, HA, HJ1, ⟨mc1, rfl⟩⟩ := hcut
    cases kq with
    | zero => exact absurd HA.out (by simp [bits_Len64.j0])
    | succ kj1 =>
      have H := HA.out
      clear HA
      simp only [bits_Len64.j0] at H
      by_cases c4 : x0_1 ≥ 65536
      · rw [if_pos c4] at H
        have c4b0 : decide (65536 ≤ x0_1) = true := decide_eq_true c4
        clear c4
        by_cases c5 : (x0_1 / 65536) ≥ 256
        · rw [if_pos c5] at H
          have c5b0 : decide (256 ≤ (x0_1 / 65536)) = true := decide_eq_true c5
          clear c5
          obtain ⟨ji6, hji6⟩ : ∃ j_ : Int, (((x0_1 / 65536) / 256) % 256) = j_ := ⟨_, rfl⟩
          replace H : (if 0 ≤ (ji6) then (if (ji6) < 256 then (some (wrap64 ((wrap64 ((wrap64 (x2_1 + 16)) + 8)) + (wrap64 (bt (⟨#[0, 1, 2, 2, 3, 3, 3, 3, 4, 4, 4, 4, 4, 4, 4, 4, 5, 5, 5, 5, 5, 5, 5, 5, 5, 5, 5, 5, 5, 5, 5, 5, 6, 6, 6, 6, 6, 6, 6, 6, 6, 6, 6, 6, 6, 6, 6, 6, 6, 6, 6, 6, 6, 6, 6, 6, 6, 6, 6, 6, 6, 6, 6, 6, 7, 7, 7, 7, 7, 7, 7, 7, 7, 7, 7, 7, 7, 7, 7, 7, 7, 7, 7, 7, 7, 7, 7, 7, 7, 7, 7, 7, 7, 7, 7, 7, 7, 7, 7, 7, 7, 7, 7, 7, 7, 7, 7, 7, 7, 7, 7, 7, 7, 7, 7, 7, 7, 7, 7, 7, 7, 7, 7, 7, 7, 7, 7, 7, 8, 8, 8, 8, 8, 8, 8, 8, 8, 8, 8, 8, 8, 8, 8, 8, 8, 8, 8, 8, 8, 8, 8, 8, 8, 8, 8, 8, 8, 8, 8, 8, 8, 8, 8, 8, 8, 8, 8, 8, 8, 8, 8, 8, 8, 8, 8, 8, 8, 8, 8, 8, 8, 8, 8, 8, 8, 8, 8, 8, 8, 8, 8, 8, 8, 8, 8, 8, 8, 8, 8, 8, 8, 8, 8, 8, 8, 8, 8, 8, 8, 8, 8, 8, 8, 8, 8, 8, 8, 8, 8, 8, 8, 8, 8, 8, 8, 8, 8, 8, 8, 8, 8, 8, 8, 8, 8, 8, 8, 8, 8, 8, 8, 8, 8, 8, 8, 8, 8, 8, 8, 8, 8, 8, 8, 8, 8, 8]⟩ : ByteArray) (ji6)))))) else (none)) else (none)) = some r := by first | (rw [hji6] at H; exact H) | (simp only [hji6] at H ⊢; exact H)
          by_cases c7 : 0 ≤ (ji6)
          · rw [if_pos c7] at H
            have c7b0 : decide (0 ≤ (ji6)) = true := decide_eq_true c7
            clear c7
            by_cases c8 : (ji6) < 256
            · rw [if_pos c8] at H
              have c8b0 : decide ((ji6) < 256) = true := decide_eq_true c8
              clear c8
              obtain rfl := Option.some.inj H
              have p9 : 0 ≤ ((ji6) : Int) := of_decide_eq_true (by first | (with_reducible assumption) | assumption)
              have q9 : (ji6) < (256 : Int) := of_decide_eq_true (by first | (with_reducible assumption) | assumption)
              have hx9 := bt_at (⟨#[0, 1, 2, 2, 3, 3, 3, 3, 4, 4, 4, 4, 4, 4, 4, 4, 5, 5, 5, 5, 5, 5, 5, 5, 5, 5, 5, 5, 5, 5, 5, 5, 6, 6, 6, 6, 6, 6, 6, 6, 6, 6, 6, 6, 6, 6, 6, 6, 6, 6, 6, 6, 6, 6, 6, 6, 6, 6, 6, 6, 6, 6, 6, 6, 7, 7, 7, 7, 7, 7, 7, 7, 7, 7, 7, 7, 7, 7, 7, 7, 7, 7, 7, 7, 7, 7, 7, 7, 7, 7, 7, 7, 7, 7, 7, 7, 7, 7, 7, 7, 7, 7, 7, 7, 7, 7, 7, 7, 7, 7, 7, 7, 7, 7, 7, 7, 7, 7, 7, 7, 7, 7, 7, 7, 7, 7, 7, 7, 8, 8, 8, 8, 8, 8, 8, 8, 8, 8, 8, 8, 8, 8, 8, 8, 8, 8, 8, 8, 8, 8, 8, 8, 8, 8, 8, 8, 8, 8, 8, 8, 8, 8, 8, 8, 8, 8, 8, 8, 8, 8, 8, 8, 8, 8, 8, 8, 8, 8, 8, 8, 8, 8, 8, 8, 8, 8, 8, 8, 8, 8, 8, 8, 8, 8, 8, 8, 8, 8, 8, 8, 8, 8, 8, 8, 8, 8, 8, 8, 8, 8, 8, 8, 8, 8, 8, 8, 8, 8, 8, 8, 8, 8, 8, 8, 8, 8, 8, 8, 8, 8, 8, 8, 8, 8, 8, 8, 8, 8, 8, 8, 8, 8, 8, 8, 8, 8, 8, 8, 8, 8, 8, 8, 8, 8, 8, 8]⟩ : ByteArray) (ji6)
              replace p9 := eq_true p9
              replace q9 := eq_true q9
              (try (have qz9 := q9; rw [ByteArray.size_extract, Nat.min_self] at qz9))
              go_wp2
              go_ret
              exact ⟨by first | rfl | (simp; done) | (simp only [← hji6] <;> (first | rfl | simp)) | (simp [*]; done), by repeat (first | exact Drawn0.refl _ | apply Drawn0.step)⟩
            · rw [if_neg c8] at H
              exact absurd H (by simp)
          · rw [if_neg c7] at H
            exact absurd H (by simp)
        · rw [if_neg c5] at H
          have c5b0 : decide (256 ≤ (x0_1 / 65536)) = false := decide_eq_false c5
          clear c5
          obtain ⟨ji10, hji10⟩ : ∃ j_ : Int, ((x0_1 / 65536) % 256) = j_ := ⟨_, rfl⟩
          replace H : (if 0 ≤ (ji10) then (if (ji10) < 256 then (some (wrap64 ((wrap64 (x2_1 + 16)) + (wrap64 (bt (⟨#[0, 1, 2, 2, 3, 3, 3, 3, 4, 4, 4, 4, 4, 4, 4, 4, 5, 5, 5, 5, 5, 5, 5, 5, 5, 5, 5, 5, 5, 5, 5, 5, 6, 6, 6, 6, 6, 6, 6, 6, 6, 6, 6, 6, 6, 6, 6, 6, 6, 6, 6, 6, 6, 6, 6, 6, 6, 6, 6, 6, 6, 6, 6, 6, 7, 7, 7, 7, 7, 7, 7, 7, 7, 7, 7, 7, 7, 7, 7, 7, 7, 7, 7, 7, 7, 7, 7, 7, 7, 7, 7, 7, 7, 7, 7, 7, 7, 7, 7, 7, 7, 7, 7, 7, 7, 7, 7, 7, 7, 7, 7, 7, 7, 7, 7, 7, 7, 7, 7, 7, 7, 7, 7, 7, 7, 7, 7, 7, 8, 8, 8, 8, 8, 8, 8, 8, 8, 8, 8, 8, 8, 8, 8, 8, 8, 8, 8, 8, 8, 8, 8, 8, 8, 8, 8, 8, 8, 8, 8, 8, 8, 8, 8, 8, 8, 8, 8, 8, 8, 8, 8, 8, 8, 8, 8, 8, 8, 8, 8, 8, 8, 8, 8, 8, 8, 8, 8, 8, 8, 8, 8, 8, 8, 8, 8, 8, 8, 8, 8, 8, 8, 8, 8, 8, 8, 8, 8, 8, 8, 8, 8, 8, 8, 8, 8, 8, 8, 8, 8, 8, 8, 8, 8, 8, 8, 8, 8, 8, 8, 8, 8, 8, 8, 8, 8, 8, 8, 8, 8, 8, 8, 8, 8, 8, 8, 8, 8, 8, 8, 8, 8, 8, 8, 8, 8, 8]⟩ : ByteArray) (ji10)))))) else (none)) else (none)) = some r := by first | (rw [hji10] at H; exact H) | (simp only [hji10] at H ⊢; exact H)
          by_cases c11 : 0 ≤ (ji10)
          · rw [if_pos c11] at H
            have c11b0 : decide (0 ≤ (ji10)) = true := decide_eq_true c11
            clear c11
            by_cases c12 : (ji10) < 256
            · rw [if_pos c12] at H
              have c12b0 : decide ((ji10) < 256) = true := decide_eq_true c12
              clear c12
              obtain rfl := Option.some.inj H
              have p13 : 0 ≤ ((ji10) : Int) := of_decide_eq_true (by first | (with_reducible assumption) | assumption)
              have q13 : (ji10) < (256 : Int) := of_decide_eq_true (by first | (with_reducible assumption) | assumption)
              have hx13 := bt_at (⟨#[0, 1, 2, 2, 3, 3, 3, 3, 4, 4, 4, 4, 4, 4, 4, 4, 5, 5, 5, 5, 5, 5, 5, 5, 5, 5, 5, 5, 5, 5, 5, 5, 6, 6, 6, 6, 6, 6, 6, 6, 6, 6, 6, 6, 6, 6, 6, 6, 6, 6, 6, 6, 6, 6, 6, 6, 6, 6, 6, 6, 6, 6, 6, 6, 7, 7, 7, 7, 7, 7, 7, 7, 7, 7, 7, 7, 7, 7, 7, 7, 7, 7, 7, 7, 7, 7, 7, 7, 7, 7, 7, 7, 7, 7, 7, 7, 7, 7, 7, 7, 7, 7, 7, 7, 7, 7, 7, 7, 7, 7, 7, 7, 7, 7, 7, 7, 7, 7, 7, 7, 7, 7, 7, 7, 7, 7, 7, 7, 8, 8, 8, 8, 8, 8, 8, 8, 8, 8, 8, 8, 8, 8, 8, 8, 8, 8, 8, 8, 8, 8, 8, 8, 8, 8, 8, 8, 8, 8, 8, 8, 8, 8, 8, 8, 8, 8, 8, 8, 8, 8, 8, 8, 8, 8, 8, 8, 8, 8, 8, 8, 8, 8, 8, 8, 8, 8, 8, 8, 8, 8, 8, 8, 8, 8, 8, 8, 8, 8, 8, 8, 8, 8, 8, 8, 8, 8, 8, 8, 8, 8, 8, 8, 8, 8, 8, 8, 8, 8, 8, 8, 8, 8, 8, 8, 8, 8, 8, 8, 8, 8, 8, 8, 8, 8, 8, 8, 8, 8, 8, 8, 8, 8, 8, 8, 8, 8, 8, 8, 8, 8, 8, 8, 8, 8, 8, 8]⟩ : ByteArray) (ji10)
              replace p13 := eq_true p13
              replace q13 := eq_true q13
              (try (have qz13 := q13; rw [ByteArray.size_extract, Nat.min_self] at qz13))
              go_wp2
              go_ret
              exact ⟨by first | rfl | (simp; done) | (simp only [← hji10] <;> (first | rfl | simp)) | (simp [*]; done), by repeat (first | exact Drawn0.refl _ | apply Drawn0.step)⟩
            · rw [if_neg c12] at H
              exact absurd H (by simp)
          · rw [if_neg c11] at H
            exact absurd H (by simp)
      · rw [if_neg c4] at H
        have c4b0 : decide (65536 ≤ x0_1) = false := decide_eq_false c4
        clear c4
        by_cases c14 : x0_1 ≥ 256
        · rw [if_pos c14] at H
          have c14b0 : decide (256 ≤ x0_1) = true := decide_eq_true c14
          clear c14
          obtain ⟨ji15, hji15⟩ : ∃ j_ : Int, ((x0_1 / 256) % 256) = j_ := ⟨_, rfl⟩
          replace H : (if 0 ≤ (ji15) then (if (ji15) < 256 then (some (wrap64 ((wrap64 (x2_1 + 8)) + (wrap64 (bt (⟨#[0, 1, 2, 2, 3, 3, 3, 3, 4, 4, 4, 4, 4, 4, 4, 4, 5, 5, 5, 5, 5, 5, 5, 5, 5, 5, 5, 5, 5, 5, 5, 5, 6, 6, 6, 6, 6, 6, 6, 6, 6, 6, 6, 6, 6, 6, 6, 6, 6, 6, 6, 6, 6, 6, 6, 6, 6, 6, 6, 6, 6, 6, 6, 6, 7, 7, 7, 7, 7, 7, 7, 7, 7, 7, 7, 7, 7, 7, 7, 7, 7, 7, 7, 7, 7, 7, 7, 7, 7, 7, 7, 7, 7, 7, 7, 7, 7, 7, 7, 7, 7, 7, 7, 7, 7, 7, 7, 7, 7, 7, 7, 7, 7, 7, 7, 7, 7, 7, 7, 7, 7, 7, 7, 7, 7, 7, 7, 7, 8, 8, 8, 8, 8, 8, 8, 8, 8, 8, 8, 8, 8, 8, 8, 8, 8, 8, 8, 8, 8, 8, 8, 8, 8, 8, 8, 8, 8, 8, 8, 8, 8, 8, 8, 8, 8, 8, 8, 8, 8, 8, 8, 8, 8, 8, 8, 8, 8, 8, 8, 8, 8, 8, 8, 8, 8, 8, 8, 8, 8, 8, 8, 8, 8, 8, 8, 8, 8, 8, 8, 8, 8, 8, 8, 8, 8, 8, 8, 8, 8, 8, 8, 8, 8, 8, 8, 8, 8, 8, 8, 8, 8, 8, 8, 8, 8, 8, 8, 8, 8, 8, 8, 8, 8, 8, 8, 8, 8, 8, 8, 8, 8, 8, 8, 8, 8, 8, 8, 8, 8, 8, 8, 8, 8, 8, 8, 8]⟩ : ByteArray) (ji15)))))) else (none)) else (none)) = some r := by first | (rw [hji15] at H; exact H) | (simp only [hji15] at H ⊢; exact H)
          by_cases c16 : 0 ≤ (ji15)
          · rw [if_pos c16] at H
            have c16b0 : decide (0 ≤ (ji15)) = true := decide_eq_true c16
            clear c16
            by_cases c17 : (ji15) < 256
            · rw [if_pos c17] at H
              have c17b0 : decide ((ji15) < 256) = true := decide_eq_true c17
              clear c17
              obtain rfl := Option.some.inj H
              have p18 : 0 ≤ ((ji15) : Int) := of_decide_eq_true (by first | (with_reducible assumption) | assumption)
              have q18 : (ji15) < (256 : Int) := of_decide_eq_true (by first | (with_reducible assumption) | assumption)
              have hx18 := bt_at (⟨#[0, 1, 2, 2, 3, 3, 3, 3, 4, 4, 4, 4, 4, 4, 4, 4, 5, 5, 5, 5, 5, 5, 5, 5, 5, 5, 5, 5, 5, 5, 5, 5, 6, 6, 6, 6, 6, 6, 6, 6, 6, 6, 6, 6, 6, 6, 6, 6, 6, 6, 6, 6, 6, 6, 6, 6, 6, 6, 6, 6, 6, 6, 6, 6, 7, 7, 7, 7, 7, 7, 7, 7, 7, 7, 7, 7, 7, 7, 7, 7, 7, 7, 7, 7, 7, 7, 7, 7, 7, 7, 7, 7, 7, 7, 7, 7, 7, 7, 7, 7, 7, 7, 7, 7, 7, 7, 7, 7, 7, 7, 7, 7, 7, 7, 7, 7, 7, 7, 7, 7, 7, 7, 7, 7, 7, 7, 7, 7, 8, 8, 8, 8, 8, 8, 8, 8, 8, 8, 8, 8, 8, 8, 8, 8, 8, 8, 8, 8, 8, 8, 8, 8, 8, 8, 8, 8, 8, 8, 8, 8, 8, 8, 8, 8, 8, 8, 8, 8, 8, 8, 8, 8, 8, 8, 8, 8, 8, 8, 8, 8, 8, 8, 8, 8, 8, 8, 8, 8, 8, 8, 8, 8, 8, 8, 8, 8, 8, 8, 8, 8, 8, 8, 8, 8, 8, 8, 8, 8, 8, 8, 8, 8, 8, 8, 8, 8, 8, 8, 8, 8, 8, 8, 8, 8, 8, 8, 8, 8, 8, 8, 8, 8, 8, 8, 8, 8, 8, 8, 8, 8, 8, 8, 8, 8, 8, 8, 8, 8, 8, 8, 8, 8, 8, 8, 8, 8]⟩ : ByteArray) (ji15)
              replace p18 := eq_true p18
              replace q18 := eq_true q18
              (try (have qz18 := q18; rw [ByteArray.size_extract, Nat.min_self] at qz18))
              go_wp2
              go_ret
              exact ⟨by first | rfl | (simp; done) | (simp only [← hji15] <;> (first | rfl | simp)) | (simp [*]; done), by repeat (first | exact Drawn0.refl _ | apply Drawn0.step)⟩
            · rw [if_neg c17] at H
              exact absurd H (by simp)
          · rw [if_neg c16] at H
            exact absurd H (by simp)
        · rw [if_neg c14] at H
          have c14b0 : decide (256 ≤ x0_1) = false := decide_eq_false c14
          clear c14
          obtain ⟨ji19, hji19⟩ : ∃ j_ : Int, ((x0_1) % 256) = j_ := ⟨_, rfl⟩
          replace H : (if 0 ≤ (ji19) then (if (ji19) < 256 then (some (wrap64 (x2_1 + (wrap64 (bt (⟨#[0, 1, 2, 2, 3, 3, 3, 3, 4, 4, 4, 4, 4, 4, 4, 4, 5, 5, 5, 5, 5, 5, 5, 5, 5, 5, 5, 5, 5, 5, 5, 5, 6, 6, 6, 6, 6, 6, 6, 6, 6, 6, 6, 6, 6, 6, 6, 6, 6, 6, 6, 6, 6, 6, 6, 6, 6, 6, 6, 6, 6, 6, 6, 6, 7, 7, 7, 7, 7, 7, 7, 7, 7, 7, 7, 7, 7, 7, 7, 7, 7, 7, 7, 7, 7, 7, 7, 7, 7, 7, 7, 7, 7, 7, 7, 7, 7, 7, 7, 7, 7, 7, 7, 7, 7, 7, 7, 7, 7, 7, 7, 7, 7, 7, 7, 7, 7, 7, 7, 7, 7, 7, 7, 7, 7, 7, 7, 7, 8, 8, 8, 8, 8, 8, 8, 8, 8, 8, 8, 8, 8, 8, 8, 8, 8, 8, 8, 8, 8, 8, 8, 8, 8, 8, 8, 8, 8, 8, 8, 8, 8, 8, 8, 8, 8, 8, 8, 8, 8, 8, 8, 8, 8, 8, 8, 8, 8, 8, 8, 8, 8, 8, 8, 8, 8, 8, 8, 8, 8, 8, 8, 8, 8, 8, 8, 8, 8, 8, 8, 8, 8, 8, 8, 8, 8, 8, 8, 8, 8, 8, 8, 8, 8, 8, 8, 8, 8, 8, 8, 8, 8, 8, 8, 8, 8, 8, 8, 8, 8, 8, 8, 8, 8, 8, 8, 8, 8, 8, 8, 8, 8, 8, 8, 8, 8, 8, 8, 8, 8, 8, 8, 8, 8, 8, 8, 8]⟩ : ByteArray) (ji19)))))) else (none)) else (none)) = some r := by first | (rw [hji19] at H; exact H) | (simp only [hji19] at H ⊢; exact H)
          by_cases c20 : 0 ≤ (ji19)
          · rw [if_pos c20] at H
            have c20b0 : decide (0 ≤ (ji19)) = true := decide_eq_true c20
            clear c20
            by_cases c21 : (ji19) < 256
            · rw [if_pos c21] at H
              have c21b0 : decide ((ji19) < 256) = true := decide_eq_true c21
              clear c21
              obtain rfl := Option.some.inj H
              have p22 : 0 ≤ ((ji19) : Int) := of_decide_eq_true (by first | (with_reducible assumption) | assumption)
              have q22 : (ji19) < (256 : Int) := of_decide_eq_true (by first | (with_reducible assumption) | assumption)
              have hx22 := bt_at (⟨#[0, 1, 2, 2, 3, 3, 3, 3, 4, 4, 4, 4, 4, 4, 4, 4, 5, 5, 5, 5, 5, 5, 5, 5, 5, 5, 5, 5, 5, 5, 5, 5, 6, 6, 6, 6, 6, 6, 6, 6, 6, 6, 6, 6, 6, 6, 6, 6, 6, 6, 6, 6, 6, 6, 6, 6, 6, 6, 6, 6, 6, 6, 6, 6, 7, 7, 7, 7, 7, 7, 7, 7, 7, 7, 7, 7, 7, 7, 7, 7, 7, 7, 7, 7, 7, 7, 7, 7, 7, 7, 7, 7, 7, 7, 7, 7, 7, 7, 7, 7, 7, 7, 7, 7, 7, 7, 7, 7, 7, 7, 7, 7, 7, 7, 7, 7, 7, 7, 7, 7, 7, 7, 7, 7, 7, 7, 7, 7, 8, 8, 8, 8, 8, 8, 8, 8, 8, 8, 8, 8, 8, 8, 8, 8, 8, 8, 8, 8, 8, 8, 8, 8, 8, 8, 8, 8, 8, 8, 8, 8, 8, 8, 8, 8, 8, 8, 8, 8, 8, 8, 8, 8, 8, 8, 8, 8, 8, 8, 8, 8, 8, 8, 8, 8, 8, 8, 8, 8, 8, 8, 8, 8, 8, 8, 8, 8, 8, 8, 8, 8, 8, 8, 8, 8, 8, 8, 8, 8, 8, 8, 8, 8, 8, 8, 8, 8, 8, 8, 8, 8, 8, 8, 8, 8, 8, 8, 8, 8, 8, 8, 8, 8, 8, 8, 8, 8, 8, 8, 8, 8, 8, 8, 8, 8, 8, 8, 8, 8, 8, 8, 8, 8, 8, 8, 8, 8]⟩ : ByteArray) (ji19)
              replace p22 := eq_true p22
              replace q22 := eq_true q22
              (try (have qz22 := q22; rw [ByteArray.size_extract, Nat.min_self] at qz22))
              go_wp2
              go_ret
              exact ⟨by first | rfl | (simp; done) | (simp only [← hji19] <;> (first | rfl | simp)) | (simp [*]; done), by repeat (first | exact Drawn0.refl _ | apply Drawn0.step)⟩
            · rw [if_neg c21] at H
              exact absurd H (by simp)
          · rw [if_neg c20] at H
            exact absurd H (by simp)
end Go.Proofs.Ytpmmiabcfnejmaa.H
end
section
namespace Go.Proofs.Ytpmmiabcfnejmaa.H
open Go.RowKit Go.Proofs.YtpmmiabcfnejmaaW.PrintWords Go.Proofs.YtpmmiabcfnejmaaW.PrintLast Go.Proofs.YtpmmiabcfnejmaaW.PrintMore
attribute [local go_sem] max2_int min2_int max_two min_two max_three min_three max_four min_four   -- for this text's walks alone
set_option linter.unusedVariables false
set_option linter.unusedSimpArgs false
def bits_LeadingZeros64.f (k : Nat) (a0 : Int) : Option (Int) := (bits_Len64.f k a0).bind fun t105 => (some (wrap64 (64 - t105)))
theorem bits_LeadingZeros64.mono : ∀ a0 k, LeO (bits_LeadingZeros64.f k a0) (bits_LeadingZeros64.f (k + 1) a0) := by
  intro a0 k
  unfold bits_LeadingZeros64.f
  repeat' first
      | (with_reducible exact bits_Len64.mono _ _)
      | (with_reducible exact LeO.refl _)
      | (with_reducible exact LeO.none _)
      | (with_reducible refine LeO.ite ?_ ?_)
      | (with_reducible refine LeO.bind ?_ (fun _ => ?_))
      | exact bits_Len64.mono _ _
      | exact LeO.none _
      | refine LeO.ite ?_ ?_
      | refine LeO.bind ?_ (fun _ => ?_)
set_option maxHeartbeats 8000000 in
set_option maxRecDepth 100000 in
theorem bits_LeadingZeros64.calls (k : Nat) (a0 : Int) (r : Int) (w : World) (h : bits_LeadingZeros64.f k a0 = some r) :
    Calls Try.prog 39 #[.int .u64 a0] w fun e w' => e = .returned (.int .i64 r) ∧ Drawn0 w w' := by
  have H : ((bits_Len64.f k a0).bind fun t105 => (some (wrap64 (64 - t105)))) = some r := h
  clear h
  replace H := Option.bind_eq_some_iff.mp H
  obtain ⟨t105, A20, H⟩ := H
  replace H : (some (wrap64 (64 - t105))) = some r := H
  have A2 := Aside0.mk A20
  clear A20
  obtain rfl := Option.some.inj H
  go_enter Try.func39, Try.ntmps39
  go_wp2_with (first | ((first | ((with_reducible refine gate_callee (f := 40) rfl ?_); refine goesL_ (some 4) rfl rfl Try.func40 (by kernel_rfl) rfl #[.int .u64 a0] rfl (by (try simp only [List.map_toArray, List.map_cons, List.map_nil]); first | done | rfl | (simp only [List.length_drop, List.length_take]; rfl)) ?_; (with_reducible refine (bits_Len64.calls k a0 t105 _ A2.out).mono ?_); rintro e w' ⟨rfl, ⟨nd, rfl⟩⟩; refine ⟨_, rfl, ?_⟩) | (go_at_call 40; (with_reducible refine (bits_Len64.calls k a0 t105 _ A2.out).mono ?_); rintro e w' ⟨rfl, ⟨nd, rfl⟩⟩))))
  go_ret
  exact ⟨by first | rfl | (simp; done) | (simp [*]; done), by repeat (first | exact Drawn0.refl _ | apply Drawn0.step)⟩
end Go.Proofs.Ytpmmiabcfnejmaa.H
end
section
namespace Go.Proofs.Ytpmmiabcfnejmaa.H
open Go.RowKit Go.Proofs.YtpmmiabcfnejmaaW.PrintWords Go.Proofs.YtpmmiabcfnejmaaW.PrintLast Go.Proofs.YtpmmiabcfnejmaaW.PrintMore
attribute [local go_sem] max2_int min2_int max_two min_two max_three min_three max_four min_four   -- for this text's walks alone
set_option linter.unusedVariables false
set_option linter.unusedSimpArgs false
mutual
def bits_Div64.j2 : Nat → Int → Int → Int → Int → Int → Int → Int → Int → Option (Int × Int)
  | 0, _, _, _, _, _, _, _, _ => none
  | k + 1, x2, x8, x9, x10, x11, x13, x14, x15 => if x9 = 0 then (none) else (bits_Div64.l1 k x2 x8 x9 x10 x14 x15 (IntKind.u64.wrap ((IntKind.u64.wrap ((IntKind.u64.wrap ((IntKind.u64.wrap (x11 * 4294967296)) + x13)) - (IntKind.u64.wrap (x15 * x2)))) - (IntKind.u64.wrap ((IntKind.u64.wrap (Int.tdiv (IntKind.u64.wrap ((IntKind.u64.wrap ((IntKind.u64.wrap (x11 * 4294967296)) + x13)) - (IntKind.u64.wrap (x15 * x2)))) x9)) * x9)))) (IntKind.u64.wrap ((IntKind.u64.wrap ((IntKind.u64.wrap (x11 * 4294967296)) + x13)) - (IntKind.u64.wrap (x15 * x2)))) (IntKind.u64.wrap (Int.tdiv (IntKind.u64.wrap ((IntKind.u64.wrap ((IntKind.u64.wrap (x11 * 4294967296)) + x13)) - (IntKind.u64.wrap (x15 * x2)))) x9)))
def bits_Div64.l1 : Nat → Int → Int → Int → Int → Int → Int → Int → Int → Int → Option (Int × Int)
  | 0, _, _, _, _, _, _, _, _, _ => none
  | k + 1, x2, x8, x9, x10, x14, x15, x16, x17, x18 => if x18 ≥ 4294967296 then (bits_Div64.j4 k x2 x8 x9 x10 x14 x15 x16 x17 x18 true) else (bits_Div64.j4 k x2 x8 x9 x10 x14 x15 x16 x17 x18 (decide ((IntKind.u64.wrap (x18 * x10)) > (IntKind.u64.wrap ((IntKind.u64.wrap (4294967296 * x16)) + x14)))))
def bits_Div64.j4 : Nat → Int → Int → Int → Int → Int → Int → Int → Int → Int → Bool → Option (Int × Int)
  | 0, _, _, _, _, _, _, _, _, _, _ => none
  | k + 1, x2, x8, x9, x10, x14, x15, x16, x17, x18, x113 => if x113 = true then (if (IntKind.u64.wrap (x16 + x9)) ≥ 4294967296 then (if 0 ≤ x8 then (some (IntKind.u64.wrap ((IntKind.u64.wrap (x15 * 4294967296)) + (IntKind.u64.wrap (x18 - 1))), shr .u64 (IntKind.u64.wrap ((IntKind.u64.wrap ((IntKind.u64.wrap (x17 * 4294967296)) + x14)) - (IntKind.u64.wrap ((IntKind.u64.wrap (x18 - 1)) * x2)))) x8)) else (none)) else (bits_Div64.l1 k x2 x8 x9 x10 x14 x15 (IntKind.u64.wrap (x16 + x9)) x17 (IntKind.u64.wrap (x18 - 1)))) else (if 0 ≤ x8 then (some (IntKind.u64.wrap ((IntKind.u64.wrap (x15 * 4294967296)) + x18), shr .u64 (IntKind.u64.wrap ((IntKind.u64.wrap ((IntKind.u64.wrap (x17 * 4294967296)) + x14)) - (IntKind.u64.wrap (x18 * x2)))) x8)) else (none))
def bits_Div64.l0 : Nat → Int → Int → Int → Int → Int → Int → Int → Int → Int → Option (Int × Int)
  | 0, _, _, _, _, _, _, _, _, _ => none
  | k + 1, x2, x8, x9, x10, x11, x13, x14, x15, x16 => if x15 ≥ 4294967296 then (bits_Div64.j1 k x2 x8 x9 x10 x11 x13 x14 x15 x16 true) else (bits_Div64.j1 k x2 x8 x9 x10 x11 x13 x14 x15 x16 (decide ((IntKind.u64.wrap (x15 * x10)) > (IntKind.u64.wrap ((IntKind.u64.wrap (4294967296 * x16)) + x13)))))
def bits_Div64.j1 : Nat → Int → Int → Int → Int → Int → Int → Int → Int → Int → Bool → Option (Int × Int)
  | 0, _, _, _, _, _, _, _, _, _, _ => none
  | k + 1, x2, x8, x9, x10, x11, x13, x14, x15, x16, x78 => if x78 = true then (if (IntKind.u64.wrap (x16 + x9)) ≥ 4294967296 then (bits_Div64.j2 k x2 x8 x9 x10 x11 x13 x14 (IntKind.u64.wrap (x15 - 1))) else (bits_Div64.l0 k x2 x8 x9 x10 x11 x13 x14 (IntKind.u64.wrap (x15 - 1)) (IntKind.u64.wrap (x16 + x9)))) else (bits_Div64.j2 k x2 x8 x9 x10 x11 x13 x14 x15)
end
def bits_Div64.f (k : Nat) (a0 : Int) (a1 : Int) (a2 : Int) : Option (Int × Int) := if a2 = 0 then (none) else (if a2 ≤ a0 then (none) else (if a0 = 0 then (some (IntKind.u64.wrap (Int.tdiv a1 a2), Int.tmod a1 a2)) else ((bits_LeadingZeros64.f k a2).bind fun t106 => (if 0 ≤ (IntKind.u64.wrap (t106)) then (if 0 ≤ (IntKind.u64.wrap (64 - (IntKind.u64.wrap (t106)))) then (if ((shl .u64 a2 (IntKind.u64.wrap (t106))) / 4294967296) = 0 then (none) else (bits_Div64.l0 k (shl .u64 a2 (IntKind.u64.wrap (t106))) (IntKind.u64.wrap (t106)) ((shl .u64 a2 (IntKind.u64.wrap (t106))) / 4294967296) (Go.bits .and .u64 (shl .u64 a2 (IntKind.u64.wrap (t106))) 4294967295) (Go.bits .or .u64 (shl .u64 a0 (IntKind.u64.wrap (t106))) (shr .u64 a1 (IntKind.u64.wrap (64 - (IntKind.u64.wrap (t106)))))) ((shl .u64 a1 (IntKind.u64.wrap (t106))) / 4294967296) (Go.bits .and .u64 (shl .u64 a1 (IntKind.u64.wrap (t106))) 4294967295) (IntKind.u64.wrap (Int.tdiv (Go.bits .or .u64 (shl .u64 a0 (IntKind.u64.wrap (t106))) (shr .u64 a1 (IntKind.u64.wrap (64 - (IntKind.u64.wrap (t106)))))) ((shl .u64 a2 (IntKind.u64.wrap (t106))) / 4294967296))) (IntKind.u64.wrap ((Go.bits .or .u64 (shl .u64 a0 (IntKind.u64.wrap (t106))) (shr .u64 a1 (IntKind.u64.wrap (64 - (IntKind.u64.wrap (t106)))))) - (IntKind.u64.wrap ((IntKind.u64.wrap (Int.tdiv (Go.bits .or .u64 (shl .u64 a0 (IntKind.u64.wrap (t106))) (shr .u64 a1 (IntKind.u64.wrap (64 - (IntKind.u64.wrap (t106)))))) ((shl .u64 a2 (IntKind.u64.wrap (t106))) / 4294967296))) * ((shl .u64 a2 (IntKind.u64.wrap (t106))) / 4294967296))))))) else (none)) else (none)))))
theorem bits_Div64.mono_l : ∀ k, (∀ y0 y1 y2 y3 y4 y5 y6 y7, LeO (bits_Div64.j2 k y0 y1 y2 y3 y4 y5 y6 y7) (bits_Div64.j2 (k + 1) y0 y1 y2 y3 y4 y5 y6 y7)) ∧ (∀ y0 y1 y2 y3 y4 y5 y6 y7 y8, LeO (bits_Div64.l1 k y0 y1 y2 y3 y4 y5 y6 y7 y8) (bits_Div64.l1 (k + 1) y0 y1 y2 y3 y4 y5 y6 y7 y8)) ∧ (∀ y0 y1 y2 y3 y4 y5 y6 y7 y8 y9, LeO (bits_Div64.j4 k y0 y1 y2 y3 y4 y5 y6 y7 y8 y9) (bits_Div64.j4 (k + 1) y0 y1 y2 y3 y4 y5 y6 y7 y8 y9)) ∧ (∀ y0 y1 y2 y3 y4 y5 y6 y7 y8, LeO (bits_Div64.l0 k y0 y1 y2 y3 y4 y5 y6 y7 y8) (bits_Div64.l0 (k + 1) y0 y1 y2 y3 y4 y5 y6 y7 y8)) ∧ (∀ y0 y1 y2 y3 y4 y5 y6 y7 y8 y9, LeO (bits_Div64.j1 k y0 y1 y2 y3 y4 y5 y6 y7 y8 y9) (bits_Div64.j1 (k + 1) y0 y1 y2 y3 y4 y5 y6 y7 y8 y9))
  | 0 => ⟨fun _ _ _ _ _ _ _ _ r h => by simp [bits_Div64.j2] at h, fun _ _ _ _ _ _ _ _ _ r h => by simp [bits_Div64.l1] at h, fun _ _ _ _ _ _ _ _ _ _ r h => by simp [bits_Div64.j4] at h, fun _ _ _ _ _ _ _ _ _ r h => by simp [bits_Div64.l0] at h, fun _ _ _ _ _ _ _ _ _ _ r h => by simp [bits_Div64.j1] at h⟩
  | k + 1 => by
    obtain ⟨ih0, ih1, ih2, ih3, ih4⟩ := bits_Div64.mono_l k
    refine ⟨?_, ?_, ?_, ?_, ?_⟩
    · intro y0 y1 y2 y3 y4 y5 y6 y7
      unfold bits_Div64.j2
      repeat' first
      | (with_reducible exact ih0 _ _ _ _ _ _ _ _)
      | (with_reducible exact ih1 _ _ _ _ _ _ _ _ _)
      | (with_reducible exact ih2 _ _ _ _ _ _ _ _ _ _)
      | (with_reducible exact ih3 _ _ _ _ _ _ _ _ _)
      | (with_reducible exact ih4 _ _ _ _ _ _ _ _ _ _)
      | (with_reducible exact bits_LeadingZeros64.mono _ _)
      | (with_reducible exact LeO.refl _)
      | (with_reducible exact LeO.none _)
      | (with_reducible refine LeO.ite ?_ ?_)
      | (with_reducible refine LeO.bind ?_ (fun _ => ?_))
      | exact ih0 _ _ _ _ _ _ _ _
      | exact ih1 _ _ _ _ _ _ _ _ _
      | exact ih2 _ _ _ _ _ _ _ _ _ _
      | exact ih3 _ _ _ _ _ _ _ _ _
      | exact ih4 _ _ _ _ _ _ _ _ _ _
      | exact bits_LeadingZeros64.mono _ _
      | exact LeO.none _
      | refine LeO.ite ?_ ?_
      | refine LeO.bind ?_ (fun _ => ?_)
    · intro y0 y1 y2 y3 y4 y5 y6 y7 y8
      unfold bits_Div64.l1
      repeat' first
      | (with_reducible exact ih0 _ _ _ _ _ _ _ _)
      | (with_reducible exact ih1 _ _ _ _ _ _ _ _ _)
      | (with_reducible exact ih2 _ _ _ _ _ _ _ _ _ _)
      | (with_reducible exact ih3 _ _ _ _ _ _ _ _ _)
      | (with_reducible exact ih4 _ _ _ _ _ _ _ _ _ _)
      | (with_reducible exact bits_LeadingZeros64.mono _ _)
      | (with_reducible exact LeO.refl _)
      | (with_reducible exact LeO.none _)
      | (with_reducible refine LeO.ite ?_ ?_)
      | (with_reducible refine LeO.bind ?_ (fun _ => ?_))
      | exact ih0 _ _ _ _ _ _ _ _
      | exact ih1 _ _ _ _ _ _ _ _ _
      | exact ih2 _ _ _ _ _ _ _ _ _ _
      | exact ih3 _ _ _ _ _ _ _ _ _
      | exact ih4 _ _ _ _ _ _ _ _ _ _
      | exact bits_LeadingZeros64.mono _ _
      | exact LeO.none _
      | refine LeO.ite ?_ ?_
      | refine LeO.bind ?_ (fun _ => ?_)
    · intro y0 y1 y2 y3 y4 y5 y6 y7 y8 y9
      unfold bits_Div64.j4
      repeat' first
      | (with_reducible exact ih0 _ _ _ _ _ _ _ _)
      | (with_reducible exact ih1 _ _ _ _ _ _ _ _ _)
      | (with_reducible exact ih2 _ _ _ _ _ _ _ _ _ _)
      | (with_reducible exact ih3 _ _ _ _ _ _ _ _ _)
      | (with_reducible exact ih4 _ _ _ _ _ _ _ _ _ _)
      | (with_reducible exact bits_LeadingZeros64.mono _ _)
      | (with_reducible exact LeO.refl _)
      | (with_reducible exact LeO.none _)
      | (with_reducible refine LeO.ite ?_ ?_)
      | (with_reducible refine LeO.bind ?_ (fun _ => ?_))
      | exact ih0 _ _ _ _ _ _ _ _
      | exact ih1 _ _ _ _ _ _ _ _ _
      | exact ih2 _ _ _ _ _ _ _ _ _ _
      | exact ih3 _ _ _ _ _ _ _ _ _
      | exact ih4 _ _ _ _ _ _ _ _ _ _
      | exact bits_LeadingZeros64.mono _ _
      | exact LeO.none _
      | refine LeO.ite ?_ ?_
      | refine LeO.bind ?_ (fun _ => ?_)
    · intro y0 y1 y2 y3 y4 y5 y6 y7 y8
      unfold bits_Div64.l0
      repeat' first
      | (with_reducible exact ih0 _ _ _ _ _ _ _ _)
      | (with_reducible exact ih1 _ _ _ _ _ _ _ _ _)
      | (with_reducible exact ih2 _ _ _ _ _ _ _ _ _ _)
      | (with_reducible exact ih3 _ _ _ _ _ _ _ _ _)
      | (with_reducible exact ih4 _ _ _ _ _ _ _ _ _ _)
      | (with_reducible exact bits_LeadingZeros64.mono _ _)
      | (with_reducible exact LeO.refl _)
      | (with_reducible exact LeO.none _)
      | (with_reducible refine LeO.ite ?_ ?_)
      | (with_reducible refine LeO.bind ?_ (fun _ => ?_))
      | exact ih0 _ _ _ _ _ _ _ _
      | exact ih1 _ _ _ _ _ _ _ _ _
      | exact ih2 _ _ _ _ _ _ _ _ _ _
      | exact ih3 _ _ _ _ _ _ _ _ _
      | exact ih4 _ _ _ _ _ _ _ _ _ _
      | exact bits_LeadingZeros64.mono _ _
      | exact LeO.none _
      | refine LeO.ite ?_ ?_
      | refine LeO.bind ?_ (fun _ => ?_)
    · intro y0 y1 y2 y3 y4 y5 y6 y7 y8 y9
      unfold bits_Div64.j1
      repeat' first
      | (with_reducible exact ih0 _ _ _ _ _ _ _ _)
      | (with_reducible exact ih1 _ _ _ _ _ _ _ _ _)
      | (with_reducible exact ih2 _ _ _ _ _ _ _ _ _ _)
      | (with_reducible exact ih3 _ _ _ _ _ _ _ _ _)
      | (with_reducible exact ih4 _ _ _ _ _ _ _ _ _ _)
      | (with_reducible exact bits_LeadingZeros64.mono _ _)
      | (with_reducible exact LeO.refl _)
      | (with_reducible exact LeO.none _)
      | (with_reducible refine LeO.ite ?_ ?_)
      | (with_reducible refine LeO.bind ?_ (fun _ => ?_))
      | exact ih0 _ _ _ _ _ _ _ _
      | exact ih1 _ _ _ _ _ _ _ _ _
      | exact ih2 _ _ _ _ _ _ _ _ _ _
      | exact ih3 _ _ _ _ _ _ _ _ _
      | exact ih4 _ _ _ _ _ _ _ _ _ _
      | exact bits_LeadingZeros64.mono _ _
      | exact LeO.none _
      | refine LeO.ite ?_ ?_
      | refine LeO.bind ?_ (fun _ => ?_)
theorem bits_Div64.mono : ∀ a0 a1 a2 k, LeO (bits_Div64.f k a0 a1 a2) (bits_Div64.f (k + 1) a0 a1 a2) := by
  intro a0 a1 a2 k
  obtain ⟨ih0, ih1, ih2, ih3, ih4⟩ := bits_Div64.mono_l k
  unfold bits_Div64.f
  repeat' first
      | (with_reducible exact ih0 _ _ _ _ _ _ _ _)
      | (with_reducible exact ih1 _ _ _ _ _ _ _ _ _)
      | (with_reducible exact ih2 _ _ _ _ _ _ _ _ _ _)
      | (with_reducible exact ih3 _ _ _ _ _ _ _ _ _)
      | (with_reducible exact ih4 _ _ _ _ _ _ _ _ _ _)
      | (with_reducible exact bits_LeadingZeros64.mono _ _)
      | (with_reducible exact LeO.refl _)
      | (with_reducible exact LeO.none _)
      | (with_reducible refine LeO.ite ?_ ?_)
      | (with_reducible refine LeO.bind ?_ (fun _ => ?_))
      | exact ih0 _ _ _ _ _ _ _ _
      | exact ih1 _ _ _ _ _ _ _ _ _
      | exact ih2 _ _ _ _ _ _ _ _ _ _
      | exact ih3 _ _ _ _ _ _ _ _ _
      | exact ih4 _ _ _ _ _ _ _ _ _ _
      | exact bits_LeadingZeros64.mono _ _
      | exact LeO.none _
      | refine LeO.ite ?_ ?_
      | refine LeO.bind ?_ (fun _ => ?_)
set_option maxHeartbeats 8000000 in
set_option maxRecDepth 100000 in
theorem bits_Div64.calls (k : Nat) (a0 : Int) (a1 : Int) (a2 : Int) (r1 : Int) (r2 : Int) (w : World) (h : bits_Div64.f k a0 a1 a2 = some (r1, r2)) :
    Calls Try.prog 38 #[.int .u64 a0, .int .u64 a1, .int .u64 a2] w fun e w' => e = .returned (.tuple #[.int .u64 r1, .int .u64 r2]) ∧ Drawn0 w w' := by
  have H : (if a2 = 0 then (none) else (if a2 ≤ a0 then (none) else (if a0 = 0 then (some (IntKind.u64.wrap (Int.tdiv a1 a2), Int.tmod a1 a2)) else ((bits_LeadingZeros64.f k a2).bind fun t106 => (if 0 ≤ (IntKind.u64.wrap (t106)) then (if 0 ≤ (IntKind.u64.wrap (64 - (IntKind.u64.wrap (t106)))) then (if ((shl .u64 a2 (IntKind.u64.wrap (t106))) / 4294967296) = 0 then (none) else (bits_Div64.l0 k (shl .u64 a2 (IntKind.u64.wrap (t106))) (IntKind.u64.wrap (t106)) ((shl .u64 a2 (IntKind.u64.wrap (t106))) / 4294967296) (Go.bits .and .u64 (shl .u64 a2 (IntKind.u64.wrap (t106))) 4294967295) (Go.bits .or .u64 (shl .u64 a0 (IntKind.u64.wrap (t106))) (shr .u64 a1 (IntKind.u64.wrap (64 - (IntKind.u64.wrap (t106)))))) ((shl .u64 a1 (IntKind.u64.wrap (t106))) / 4294967296) (Go.bits .and .u64 (shl .u64 a1 (IntKind.u64.wrap (t106))) 4294967295) (IntKind.u64.wrap (Int.tdiv (Go.bits .or .u64 (shl .u64 a0 (IntKind.u64.wrap (t106))) (shr .u64 a1 (IntKind.u64.wrap (64 - (IntKind.u64.wrap (t106)))))) ((shl .u64 a2 (IntKind.u64.wrap (t106))) / 4294967296))) (IntKind.u64.wrap ((Go.bits .or .u64 (shl .u64 a0 (IntKind.u64.wrap (t106))) (shr .u64 a1 (IntKind.u64.wrap (64 - (IntKind.u64.wrap (t106)))))) - (IntKind.u64.wrap ((IntKind.u64.wrap (Int.tdiv (Go.bits .or .u64 (shl .u64 a0 (IntKind.u64.wrap (t106))) (shr .u64 a1 (IntKind.u64.wrap (64 - (IntKind.u64.wrap (t106)))))) ((shl .u64 a2 (IntKind.u64.wrap (t106))) / 4294967296))) * ((shl .u64 a2 (IntKind.u64.wrap (t106))) / 4294967296))))))) else (none)) else (none)))))) = some (r1, r2) := h
  clear h
  by_cases c4 : a2 = 0
  · rw [if_pos c4] at H
    exact absurd H (by simp)
  · rw [if_neg c4] at H
    have c4b0 : (a2 == 0) = false := beq_eq_false_iff_ne.mpr c4
    have c4b1 : (a2 != 0) = true := bne_iff_ne.mpr c4
    by_cases c5 : a2 ≤ a0
    · rw [if_pos c5] at H
      exact absurd H (by simp)
    · rw [if_neg c5] at H
      have c5b0 : decide (a2 ≤ a0) = false := decide_eq_false c5
      clear c5
      by_cases c6 : a0 = 0
      · rw [if_pos c6] at H
        have c6b0 : (a0 == 0) = true := beq_iff_eq.mpr c6
        have c6b1 : (a0 != 0) = false := bne_eq_false_iff_eq.mpr c6
        clear c6
        simp only [Option.some.injEq, Prod.mk.injEq] at H
        obtain ⟨rfl, rfl⟩ := H
        go_enter Try.func38, Try.ntmps38
        go_wp2
        repeat (go_quiet (fail); try go_wp2)
        go_ret2
        exact ⟨by first | rfl | (simp; done) | (simp [*]; done), by repeat (first | exact Drawn0.refl _ | apply Drawn0.step)⟩
      · rw [if_neg c6] at H
        have c6b0 : (a0 == 0) = false := beq_eq_false_iff_ne.mpr c6
        have c6b1 : (a0 != 0) = true := bne_iff_ne.mpr c6
        replace H := Option.bind_eq_some_iff.mp H
        obtain ⟨t106, A70, H⟩ := H
        replace H : (if 0 ≤ (IntKind.u64.wrap (t106)) then (if 0 ≤ (IntKind.u64.wrap (64 - (IntKind.u64.wrap (t106)))) then (if ((shl .u64 a2 (IntKind.u64.wrap (t106))) / 4294967296) = 0 then (none) else (bits_Div64.l0 k (shl .u64 a2 (IntKind.u64.wrap (t106))) (IntKind.u64.wrap (t106)) ((shl .u64 a2 (IntKind.u64.wrap (t106))) / 4294967296) (Go.bits .and .u64 (shl .u64 a2 (IntKind.u64.wrap (t106))) 4294967295) (Go.bits .or .u64 (shl .u64 a0 (IntKind.u64.wrap (t106))) (shr .u64 a1 (IntKind.u64.wrap (64 - (IntKind.u64.wrap (t106)))))) ((shl .u64 a1 (IntKind.u64.wrap (t106))) / 4294967296) (Go.bits .and .u64 (shl .u64 a1 (IntKind.u64.wrap (t106))) 4294967295) (IntKind.u64.wrap (Int.tdiv (Go.bits .or .u64 (shl .u64 a0 (IntKind.u64.wrap (t106))) (shr .u64 a1 (IntKind.u64.wrap (64 - (IntKind.u64.wrap (t106)))))) ((shl .u64 a2 (IntKind.u64.wrap (t106))) / 4294967296))) (IntKind.u64.wrap ((Go.bits .or .u64 (shl .u64 a0 (IntKind.u64.wrap (t106))) (shr .u64 a1 (IntKind.u64.wrap (64 - (IntKind.u64.wrap (t106)))))) - (IntKind.u64.wrap ((IntKind.u64.wrap (Int.tdiv (Go.bits .or .u64 (shl .u64 a0 (IntKind.u64.wrap (t106))) (shr .u64 a1 (IntKind.u64.wrap (64 - (IntKind.u64.wrap (t106)))))) ((shl .u64 a2 (IntKind.u64.wrap (t106))) / 4294967296))) * ((shl .u64 a2 (IntKind.u64.wrap (t106))) / 4294967296))))))) else (none)) else (none)) = some (r1, r2) := H
        have A7 := Aside0.mk A70
        clear A70
        obtain ⟨ji8, hji8⟩ : ∃ j_ : Int, (IntKind.u64.wrap (t106)) = j_ := ⟨_, rfl⟩
        replace H : (if 0 ≤ (ji8) then (if 0 ≤ (IntKind.u64.wrap (64 - (ji8))) then (if ((shl .u64 a2 (ji8)) / 4294967296) = 0 then (none) else (bits_Div64.l0 k (shl .u64 a2 (ji8)) ji8 ((shl .u64 a2 (ji8)) / 4294967296) (Go.bits .and .u64 (shl .u64 a2 (ji8)) 4294967295) (Go.bits .or .u64 (shl .u64 a0 (ji8)) (shr .u64 a1 (IntKind.u64.wrap (64 - (ji8))))) ((shl .u64 a1 (ji8)) / 4294967296) (Go.bits .and .u64 (shl .u64 a1 (ji8)) 4294967295) (IntKind.u64.wrap (Int.tdiv (Go.bits .or .u64 (shl .u64 a0 (ji8)) (shr .u64 a1 (IntKind.u64.wrap (64 - (ji8))))) ((shl .u64 a2 (ji8)) / 4294967296))) (IntKind.u64.wrap ((Go.bits .or .u64 (shl .u64 a0 (ji8)) (shr .u64 a1 (IntKind.u64.wrap (64 - (ji8))))) - (IntKind.u64.wrap ((IntKind.u64.wrap (Int.tdiv (Go.bits .or .u64 (shl .u64 a0 (ji8)) (shr .u64 a1 (IntKind.u64.wrap (64 - (ji8))))) ((shl .u64 a2 (ji8)) / 4294967296))) * ((shl .u64 a2 (ji8)) / 4294967296))))))) else (none)) else (none)) = some (r1, r2) := by first | (rw [hji8] at H; exact H) | (simp only [hji8] at H ⊢; exact H)
        (try rw [hji8] at A7)
        by_cases c9 : 0 ≤ (ji8)
        · rw [if_pos c9] at H
          have c9b0 := eq_true c9
          (try (have c9z := c9b0; rw [ByteArray.size_extract, Nat.min_self] at c9z))
          have c9b1 : decide (0 ≤ (ji8)) = true := decide_eq_true c9
          clear c9
          obtain ⟨ji10, hji10⟩ : ∃ j_ : Int, (shl .u64 a2 (ji8)) = j_ := ⟨_, rfl⟩
          replace H : (if 0 ≤ (IntKind.u64.wrap (64 - (ji8))) then (if ((ji10) / 4294967296) = 0 then (none) else (bits_Div64.l0 k ji10 ji8 ((ji10) / 4294967296) (Go.bits .and .u64 (ji10) 4294967295) (Go.bits .or .u64 (shl .u64 a0 (ji8)) (shr .u64 a1 (IntKind.u64.wrap (64 - (ji8))))) ((shl .u64 a1 (ji8)) / 4294967296) (Go.bits .and .u64 (shl .u64 a1 (ji8)) 4294967295) (IntKind.u64.wrap (Int.tdiv (Go.bits .or .u64 (shl .u64 a0 (ji8)) (shr .u64 a1 (IntKind.u64.wrap (64 - (ji8))))) ((ji10) / 4294967296))) (IntKind.u64.wrap ((Go.bits .or .u64 (shl .u64 a0 (ji8)) (shr .u64 a1 (IntKind.u64.wrap (64 - (ji8))))) - (IntKind.u64.wrap ((IntKind.u64.wrap (Int.tdiv (Go.bits .or .u64 (shl .u64 a0 (ji8)) (shr .u64 a1 (IntKind.u64.wrap (64 - (ji8))))) ((ji10) / 4294967296))) * ((ji10) / 4294967296))))))) else (none)) = some (r1, r2) := by first | (rw [hji10] at H; exact H) | (simp only [hji10] at H ⊢; exact H)
          (try rw [hji10] at A7)
          have hji10_ : (IntKind.u64.wrap (a2 * 2 ^ min (ji8).toNat 64)) = ji10 := hji10
          have hji10z : (ji8) ≤ 64 → (IntKind.u64.wrap (a2 * 2 ^ (ji8).toNat)) = ji10 := shl_small hji10
          have c11b0 := eq_true (of_decide_eq_true (by first | (with_reducible assumption) | assumption) : 0 ≤ (ji8))
          obtain ⟨ji12, hji12⟩ : ∃ j_ : Int, (shl .u64 a0 (ji8)) = j_ := ⟨_, rfl⟩
          replace H : (if 0 ≤ (IntKind.u64.wrap (64 - (ji8))) then (if ((ji10) / 4294967296) = 0 then (none) else (bits_Div64.l0 k ji10 ji8 ((ji10) / 4294967296) (Go.bits .and .u64 (ji10) 4294967295) (Go.bits .or .u64 (ji12) (shr .u64 a1 (IntKind.u64.wrap (64 - (ji8))))) ((shl .u64 a1 (ji8)) / 4294967296) (Go.bits .and .u64 (shl .u64 a1 (ji8)) 4294967295) (IntKind.u64.wrap (Int.tdiv (Go.bits .or .u64 (ji12) (shr .u64 a1 (IntKind.u64.wrap (64 - (ji8))))) ((ji10) / 4294967296))) (IntKind.u64.wrap ((Go.bits .or .u64 (ji12) (shr .u64 a1 (IntKind.u64.wrap (64 - (ji8))))) - (IntKind.u64.wrap ((IntKind.u64.wrap (Int.tdiv (Go.bits .or .u64 (ji12) (shr .u64 a1 (IntKind.u64.wrap (64 - (ji8))))) ((ji10) / 4294967296))) * ((ji10) / 4294967296))))))) else (none)) = some (r1, r2) := by first | (rw [hji12] at H; exact H) | (simp only [hji12] at H ⊢; exact H)
          (try rw [hji12] at A7)
          have hji12_ : (IntKind.u64.wrap (a0 * 2 ^ min (ji8).toNat 64)) = ji12 := hji12
          have hji12z : (ji8) ≤ 64 → (IntKind.u64.wrap (a0 * 2 ^ (ji8).toNat)) = ji12 := shl_small hji12
          obtain ⟨ji13, hji13⟩ : ∃ j_ : Int, (IntKind.u64.wrap (64 - (ji8))) = j_ := ⟨_, rfl⟩
          replace H : (if 0 ≤ (ji13) then (if ((ji10) / 4294967296) = 0 then (none) else (bits_Div64.l0 k ji10 ji8 ((ji10) / 4294967296) (Go.bits .and .u64 (ji10) 4294967295) (Go.bits .or .u64 (ji12) (shr .u64 a1 (ji13))) ((shl .u64 a1 (ji8)) / 4294967296) (Go.bits .and .u64 (shl .u64 a1 (ji8)) 4294967295) (IntKind.u64.wrap (Int.tdiv (Go.bits .or .u64 (ji12) (shr .u64 a1 (ji13))) ((ji10) / 4294967296))) (IntKind.u64.wrap ((Go.bits .or .u64 (ji12) (shr .u64 a1 (ji13))) - (IntKind.u64.wrap ((IntKind.u64.wrap (Int.tdiv (Go.bits .or .u64 (ji12) (shr .u64 a1 (ji13))) ((ji10) / 4294967296))) * ((ji10) / 4294967296))))))) else (none)) = some (r1, r2) := by first | (rw [hji13] at H; exact H) | (simp only [hji13] at H ⊢; exact H)
          (try rw [hji13] at A7)
          by_cases c14 : 0 ≤ (ji13)
          · rw [if_pos c14] at H
            have c14b0 := eq_true c14
            (try (have c14z := c14b0; rw [ByteArray.size_extract, Nat.min_self] at c14z))
            have c14b1 : decide (0 ≤ (ji13)) = true := decide_eq_true c14
            clear c14
            obtain ⟨ji15, hji15⟩ : ∃ j_ : Int, (shr .u64 a1 (ji13)) = j_ := ⟨_, rfl⟩
            replace H : (if ((ji10) / 4294967296) = 0 then (none) else (bits_Div64.l0 k ji10 ji8 ((ji10) / 4294967296) (Go.bits .and .u64 (ji10) 4294967295) (Go.bits .or .u64 (ji12) (ji15)) ((shl .u64 a1 (ji8)) / 4294967296) (Go.bits .and .u64 (shl .u64 a1 (ji8)) 4294967295) (IntKind.u64.wrap (Int.tdiv (Go.bits .or .u64 (ji12) (ji15)) ((ji10) / 4294967296))) (IntKind.u64.wrap ((Go.bits .or .u64 (ji12) (ji15)) - (IntKind.u64.wrap ((IntKind.u64.wrap (Int.tdiv (Go.bits .or .u64 (ji12) (ji15)) ((ji10) / 4294967296))) * ((ji10) / 4294967296))))))) = some (r1, r2) := by first | (rw [hji15] at H; exact H) | (simp only [hji15] at H ⊢; exact H)
            (try rw [hji15] at A7)
            have hji15_ : (a1 / 2 ^ min (ji13).toNat 64) = ji15 := hji15
            have hji15z : (ji13) ≤ 64 → (a1 / 2 ^ (ji13).toNat) = ji15 := shr_small hji15
            have c16b0 := eq_true (of_decide_eq_true (by first | (with_reducible assumption) | assumption) : 0 ≤ (ji8))
            obtain ⟨ji17, hji17⟩ : ∃ j_ : Int, (shl .u64 a1 (ji8)) = j_ := ⟨_, rfl⟩
            replace H : (if ((ji10) / 4294967296) = 0 then (none) else (bits_Div64.l0 k ji10 ji8 ((ji10) / 4294967296) (Go.bits .and .u64 (ji10) 4294967295) (Go.bits .or .u64 (ji12) (ji15)) ((ji17) / 4294967296) (Go.bits .and .u64 (ji17) 4294967295) (IntKind.u64.wrap (Int.tdiv (Go.bits .or .u64 (ji12) (ji15)) ((ji10) / 4294967296))) (IntKind.u64.wrap ((Go.bits .or .u64 (ji12) (ji15)) - (IntKind.u64.wrap ((IntKind.u64.wrap (Int.tdiv (Go.bits .or .u64 (ji12) (ji15)) ((ji10) / 4294967296))) * ((ji10) / 4294967296))))))) = some (r1, r2) := by first | (rw [hji17] at H; exact H) | (simp only [hji17] at H ⊢; exact H)
            (try rw [hji17] at A7)
            have hji17_ : (IntKind.u64.wrap (a1 * 2 ^ min (ji8).toNat 64)) = ji17 := hji17
            have hji17z : (ji8) ≤ 64 → (IntKind.u64.wrap (a1 * 2 ^ (ji8).toNat)) = ji17 := shl_small hji17
            by_cases c18 : ((ji10) / 4294967296) = 0
            · rw [if_pos c18] at H
              exact absurd H (by simp)
            · rw [if_neg c18] at H
              have c18b0 : (((ji10) / 4294967296) == 0) = false := beq_eq_false_iff_ne.mpr c18
              have c18b1 : (((ji10) / 4294967296) != 0) = true := bne_iff_ne.mpr c18
              have HC19 := Aside0.mk H
              clear H
              go_enter Try.func38, Try.ntmps38
              go_upto_block 0 with (first | (go_at_call 39; (with_reducible refine (bits_LeadingZeros64.calls k a2 t106 _ A7.out).mono ?_); rintro e w' ⟨rfl, ⟨nd, rfl⟩⟩; (try first | exact ⟨rfl, _, World.drewN_drewN _ _ _⟩ | exact ⟨rfl, _, Eq.trans (World.drewN_drewN _ _ _) (congrArg (World.drewN _) (Nat.add_assoc _ _ _))⟩)))
              repeat (go_quiet (first | (go_at_call 39; (with_reducible refine (bits_LeadingZeros64.calls k a2 t106 _ A7.out).mono ?_); rintro e w' ⟨rfl, ⟨nd, rfl⟩⟩; (try first | exact ⟨rfl, _, World.drewN_drewN _ _ _⟩ | exact ⟨rfl, _, Eq.trans (World.drewN_drewN _ _ _) (congrArg (World.drewN _) (Nat.add_assoc _ _ _))⟩))); go_upto_block 0 with (first | (go_at_call 39; (with_reducible refine (bits_LeadingZeros64.calls k a2 t106 _ A7.out).mono ?_); rintro e w' ⟨rfl, ⟨nd, rfl⟩⟩; (try first | exact ⟨rfl, _, World.drewN_drewN _ _ _⟩ | exact ⟨rfl, _, Eq.trans (World.drewN_drewN _ _ _) (congrArg (World.drewN _) (Nat.add_assoc _ _ _))⟩))))
              (try simp only [Act.put, List.setIfInBounds_toArray, List.set_cons_zero, List.set_cons_succ])
              go_cut [15] (fun v15 wc => ∃ (kq : Nat) (x15_18 : Int), v15 = .int .u64 x15_18 ∧ Aside0 (bits_Div64.j2 kq ji10 ji8 ((ji10) / 4294967296) (Go.bits .and .u64 (ji10) 4294967295) (Go.bits .or .u64 (ji12) (ji15)) ((ji17) / 4294967296) (Go.bits .and .u64 (ji17) 4294967295) x15_18 = some (r1, r2)) ∧ Aside0 (kq ≤ k) ∧ Drawn0 w wc)
              case first =>
                have H := HC19.out
                clear HC19
                have H' := Aside0.mk H
                clear H
                go_wp2
                repeat (go_quiet (fail); try go_wp2)
                go_loopg [15, 16] k (fun kq v15 v16 w' => ∃ (x15_1 : Int) (x16_1 : Int), v15 = .int .u64 x15_1 ∧ v16 = .int .u64 x16_1 ∧ Aside0 (bits_Div64.l0 kq ji10 ji8 ((ji10) / 4294967296) (Go.bits .and .u64 (ji10) 4294967295) (Go.bits .or .u64 (ji12) (ji15)) ((ji17) / 4294967296) (Go.bits .and .u64 (ji17) 4294967295) x15_1 x16_1 = some (r1, r2)) ∧ Aside0 (kq ≤ k) ∧ Drawn0 w w')
                case atStart => exact ⟨(IntKind.u64.wrap (Int.tdiv (Go.bits .or .u64 (ji12) (ji15)) ((ji10) / 4294967296))), (IntKind.u64.wrap ((Go.bits .or .u64 (ji12) (ji15)) - (IntKind.u64.wrap ((IntKind.u64.wrap (Int.tdiv (Go.bits .or .u64 (ji12) (ji15)) ((ji10) / 4294967296))) * ((ji10) / 4294967296))))), (by first | rfl | (simp; done) | (simp only [← hji10, ← hji12, ← hji15] <;> (first | rfl | simp)) | (simp [*]; done)), (by first | rfl | (simp; done) | (simp only [← hji10, ← hji12, ← hji15] <;> (first | rfl | simp)) | (simp [*]; done)), H', ⟨Nat.le_refl _⟩, by repeat (first | exact Drawn0.refl _ | apply Drawn0.step)⟩
                case round =>
                  clear H'
                  try clear c1
                  try clear p2
                  try clear c3
                  try clear c4
                  try clear c4b0
                  try clear c4b1
                  try clear c5
                  try clear c5b0
                  try clear c6
                  try clear c6b0
                  try clear c6b1
                  try clear c9
                  try clear c9b0
                  try clear c9b1
                  try clear c11
                  try clear c11b0
                  try clear c14
                  try clear c14b0
                  try clear c14b1
                  try clear c16
                  try clear c16b0
                  try clear c18
                  try clear c18b0
                  try clear c18b1
                  obtain ⟨x15_1, x16_1, rfl, rfl, HA, HK1, ⟨m1, rfl⟩⟩ := hrel
                  cases gk with
                  | zero => exact absurd HA.out (by simp [bits_Div64.l0])
                  | succ k1 =>
                    have H := HA.out
                    clear HA
                    simp only [bits_Div64.l0] at H
                    have HC20 := Aside0.mk H
                    clear H
                    go_upto_region 17 with (fail)
                    repeat (go_quiet (fail); go_upto_region 17 with (fail))
                    go_cut [78] (fun v78 wc => ∃ (kq : Nat) (x78_19 : Bool), v78 = .bool x78_19 ∧ Aside0 (bits_Div64.j1 kq ji10 ji8 ((ji10) / 4294967296) (Go.bits .and .u64 (ji10) 4294967295) (Go.bits .or .u64 (ji12) (ji15)) ((ji17) / 4294967296) (Go.bits .and .u64 (ji17) 4294967295) x15_1 x16_1 x78_19 = some (r1, r2)) ∧ Aside0 (kq ≤ k1) ∧ Drawn0 w wc)
                    case first =>
                      have H := HC20.out
                      clear HC20
                      by_cases c21 : x15_1 ≥ 4294967296
                      · rw [if_pos c21] at H
                        have c21b0 : decide (4294967296 ≤ x15_1) = true := decide_eq_true c21
                        clear c21
                        (first | rw [c21b0] | (simp only [i64_w, i32_w]; rw [c21b0]) | skip)
                        have H' := Aside0.mk H
                        clear H
                        go_wp2
                        repeat (go_quiet (fail); try go_wp2)
                        go_meet
                        case rel => exact ⟨_, (true), (by first | rfl | (simp; done) | (simp [*]; done)), H', ⟨by have := HK1.out; first | omega | exact Nat.le_refl _⟩, by repeat (first | exact Drawn0.refl _ | apply Drawn0.step)⟩
                      · rw [if_neg c21] at H
                        have c21b0 : decide (4294967296 ≤ x15_1) = false := decide_eq_false c21
                        clear c21
                        (first | rw [c21b0] | (simp only [i64_w, i32_w]; rw [c21b0]) | skip)
                        have H' := Aside0.mk H
                        clear H
                        go_wp2
                        repeat (go_quiet (fail); try go_wp2)
                        go_meet
                        case rel => exact ⟨_, (decide ((IntKind.u64.wrap (x15_1 * (Go.bits .and .u64 (ji10) 4294967295))) > (IntKind.u64.wrap ((IntKind.u64.wrap (4294967296 * x16_1)) + ((ji17) / 4294967296))))), (by first | rfl | (simp; done) | (simp only [← hji10, ← hji17] <;> (first | rfl | simp)) | (simp [*]; done)), H', ⟨by have := HK1.out; first | omega | exact Nat.le_refl _⟩, by repeat (first | exact Drawn0.refl _ | apply Drawn0.step)⟩
                    case rest =>
                      clear HC20
                      try clear c1
                      try clear c2
                      try clear p2
                      try clear c3
                      try clear c4
                      try clear c4b0
                      try clear c4b1
                      try clear c5
                      try clear c5b0
                      try clear c6
                      try clear c6b0
                      try clear c6b1
                      try clear c9
                      try clear c9b0
                      try clear c9b1
                      try clear c11
                      try clear c11b0
                      try clear c14
                      try clear c14b0
                      try clear c14b1
                      try clear c16
                      try clear c16b0
                      try clear c18
                      try clear c18b0
                      try clear c18b1
                      try clear c21
                      try clear c21b0
                      try clear p2
                      obtain ⟨kq, x78_19, rfl, HA, HJ19, ⟨mc19, rfl⟩⟩ := hcut
                      cases kq with
                      | zero => exact absurd HA.out (by simp [bits_Div64.j1])
                      | succ kj19 =>
                        have H := HA.out
                        clear HA
                        simp only [bits_Div64.j1] at H
                        by_cases c22 : x78_19 = true
                        · subst c22
                          have H1 : (if (IntKind.u64.wrap (x16_1 + ((ji10) / 4294967296))) ≥ 4294967296 then (bits_Div64.j2 kj19 ji10 ji8 ((ji10) / 4294967296) (Go.bits .and .u64 (ji10) 4294967295) (Go.bits .or .u64 (ji12) (ji15)) ((ji17) / 4294967296) (Go.bits .and .u64 (ji17) 4294967295) (IntKind.u64.wrap (x15_1 - 1))) else (bits_Div64.l0 kj19 ji10 ji8 ((ji10) / 4294967296) (Go.bits .and .u64 (ji10) 4294967295) (Go.bits .or .u64 (ji12) (ji15)) ((ji17) / 4294967296) (Go.bits .and .u64 (ji17) 4294967295) (IntKind.u64.wrap (x15_1 - 1)) (IntKind.u64.wrap (x16_1 + ((ji10) / 4294967296))))) = some (r1, r2) := by rw [if_pos rfl] at H; exact H
                          clear H
                          have H := H1
                          clear H1
                          by_cases c23 : (IntKind.u64.wrap (x16_1 + ((ji10) / 4294967296))) ≥ 4294967296
                          · rw [if_pos c23] at H
                            have c23b0 : decide (4294967296 ≤ (IntKind.u64.wrap (x16_1 + ((ji10) / 4294967296)))) = true := decide_eq_true c23
                            clear c23
                            have H' := Aside0.mk H
                            clear H
                            go_wp2
                            repeat (go_quiet (fail); try go_wp2)
                            go_meet
                            case rel => exact ⟨_, (IntKind.u64.wrap (x15_1 - 1)), (by first | rfl | (simp; done) | (simp [*]; done)), H', ⟨by have := HK1.out; have := HJ19.out; first | omega | exact Nat.le_refl _⟩, by repeat (first | exact Drawn0.refl _ | apply Drawn0.step)⟩
                          · rw [if_neg c23] at H
                            have c23b0 : decide (4294967296 ≤ (IntKind.u64.wrap (x16_1 + ((ji10) / 4294967296)))) = false := decide_eq_false c23
                            clear c23
                            have H' := Aside0.mk H
                            clear H
                            go_wp2
                            repeat (go_quiet (fail); try go_wp2)
                            go_roundg kj19
                            case measure => have := HK1.out; have := HJ19.out; omega
                            case rel => exact ⟨(IntKind.u64.wrap (x15_1 - 1)), (IntKind.u64.wrap (x16_1 + ((ji10) / 4294967296))), (by first | rfl | (simp; done) | (simp [*]; done)), (by first | rfl | (simp; done) | (simp only [← hji10] <;> (first | rfl | simp)) | (simp [*]; done)), H', ⟨by have := HK1.out; have := HJ19.out; omega⟩, by repeat (first | exact Drawn0.refl _ | apply Drawn0.step)⟩
                        · replace c22 := Bool.eq_false_iff.mpr c22
                          subst c22
                          have H1 : (bits_Div64.j2 kj19 ji10 ji8 ((ji10) / 4294967296) (Go.bits .and .u64 (ji10) 4294967295) (Go.bits .or .u64 (ji12) (ji15)) ((ji17) / 4294967296) (Go.bits .and .u64 (ji17) 4294967295) x15_1) = some (r1, r2) := by rw [if_neg (show ¬ (false = true) by decide)] at H; exact H
                          clear H
                          have H := H1
                          clear H1
                          have H' := Aside0.mk H
                          clear H
                          go_wp2
                          repeat (go_quiet (fail); try go_wp2)
                          go_meet
                          case rel => exact ⟨_, (x15_1), (by first | rfl | (simp; done) | (simp [*]; done)), H', ⟨by have := HK1.out; have := HJ19.out; first | omega | exact Nat.le_refl _⟩, by repeat (first | exact Drawn0.refl _ | apply Drawn0.step)⟩
              case rest =>
                clear HC19
                try clear c1
                try clear c2
                try clear p2
                try clear c3
                try clear c4
                try clear c4b0
                try clear c4b1
                try clear c5
                try clear c5b0
                try clear c6
                try clear c6b0
                try clear c6b1
                try clear c9
                try clear c9b0
                try clear c9b1
                try clear c11
                try clear c11b0
                try clear c14
                try clear c14b0
                try clear c14b1
                try clear c16
                try clear c16b0
                try clear c18
                try clear c18b0
                try clear c18b1
                try clear c19
                try clear c21
                try clear c21b0
                try clear c22
                try clear c23
                try clear c23b0
                try clear p2
                obtain ⟨kq, x15_18, rfl, HA, HJ18, ⟨mc18, rfl⟩⟩ := hcut
                cases kq with
                | zero => exact absurd HA.out (by simp [bits_Div64.j2])
                | succ kj18 =>
                  have H := HA.out
                  clear HA
                  simp only [bits_Div64.j2] at H
                  by_cases c24 : ((ji10) / 4294967296) = 0
                  · rw [if_pos c24] at H
                    exact absurd H (by simp)
                  · rw [if_neg c24] at H
                    have c24b0 : (((ji10) / 4294967296) == 0) = false := beq_eq_false_iff_ne.mpr c24
                    have c24b1 : (((ji10) / 4294967296) != 0) = true := bne_iff_ne.mpr c24
                    have H' := Aside0.mk H
                    clear H
                    go_wp2
                    repeat (go_quiet (fail); try go_wp2)
                    go_loopg [16, 18] kj18 (fun kq v16 v18 w' => ∃ (x16_2 : Int) (x18_2 : Int), v16 = .int .u64 x16_2 ∧ v18 = .int .u64 x18_2 ∧ Aside0 (bits_Div64.l1 kq ji10 ji8 ((ji10) / 4294967296) (Go.bits .and .u64 (ji10) 4294967295) (Go.bits .and .u64 (ji17) 4294967295) x15_18 x16_2 (IntKind.u64.wrap ((IntKind.u64.wrap ((IntKind.u64.wrap ((Go.bits .or .u64 (ji12) (ji15)) * 4294967296)) + ((ji17) / 4294967296))) - (IntKind.u64.wrap (x15_18 * ji10)))) x18_2 = some (r1, r2)) ∧ Aside0 (kq ≤ kj18) ∧ Drawn0 w w')
                    case atStart => exact ⟨(IntKind.u64.wrap ((IntKind.u64.wrap ((IntKind.u64.wrap ((IntKind.u64.wrap ((Go.bits .or .u64 (ji12) (ji15)) * 4294967296)) + ((ji17) / 4294967296))) - (IntKind.u64.wrap (x15_18 * ji10)))) - (IntKind.u64.wrap ((IntKind.u64.wrap (Int.tdiv (IntKind.u64.wrap ((IntKind.u64.wrap ((IntKind.u64.wrap ((Go.bits .or .u64 (ji12) (ji15)) * 4294967296)) + ((ji17) / 4294967296))) - (IntKind.u64.wrap (x15_18 * ji10)))) ((ji10) / 4294967296))) * ((ji10) / 4294967296))))), (IntKind.u64.wrap (Int.tdiv (IntKind.u64.wrap ((IntKind.u64.wrap ((IntKind.u64.wrap ((Go.bits .or .u64 (ji12) (ji15)) * 4294967296)) + ((ji17) / 4294967296))) - (IntKind.u64.wrap (x15_18 * ji10)))) ((ji10) / 4294967296))), (by first | rfl | (simp; done) | (simp only [← hji10, ← hji12, ← hji15, ← hji17] <;> (first | rfl | simp)) | (simp [*]; done)), (by first | rfl | (simp; done) | (simp only [← hji10, ← hji12, ← hji15, ← hji17] <;> (first | rfl | simp)) | (simp [*]; done)), H', ⟨Nat.le_refl _⟩, by repeat (first | exact Drawn0.refl _ | apply Drawn0.step)⟩
                    case round =>
                      clear H'
                      try clear c1
                      try clear c2
                      try clear p2
                      try clear c3
                      try clear c4
                      try clear c4b0
                      try clear c4b1
                      try clear c5
                      try clear c5b0
                      try clear c6
                      try clear c6b0
                      try clear c6b1
                      try clear c9
                      try clear c9b0
                      try clear c9b1
                      try clear c11
                      try clear c11b0
                      try clear c14
                      try clear c14b0
                      try clear c14b1
                      try clear c16
                      try clear c16b0
                      try clear c18
                      try clear c18b0
                      try clear c18b1
                      try clear c19
                      try clear c21
                      try clear c21b0
                      try clear c22
                      try clear c23
                      try clear c23b0
                      try clear c24
                      try clear c24b0
                      try clear c24b1
                      try clear p2
                      obtain ⟨x16_2, x18_2, rfl, rfl, HA, HK2, ⟨m2, rfl⟩⟩ := hrel
                      cases gk with
                      | zero => exact absurd HA.out (by simp [bits_Div64.l1])
                      | succ k2 =>
                        have H := HA.out
                        clear HA
                        simp only [bits_Div64.l1] at H
                        have HC25 := Aside0.mk H
                        clear H
                        go_upto_region 24 with (fail)
                        repeat (go_quiet (fail); go_upto_region 24 with (fail))
                        go_cut [113] (fun v113 wc => ∃ (kq : Nat) (x113_24 : Bool), v113 = .bool x113_24 ∧ Aside0 (bits_Div64.j4 kq ji10 ji8 ((ji10) / 4294967296) (Go.bits .and .u64 (ji10) 4294967295) (Go.bits .and .u64 (ji17) 4294967295) x15_18 x16_2 (IntKind.u64.wrap ((IntKind.u64.wrap ((IntKind.u64.wrap ((Go.bits .or .u64 (ji12) (ji15)) * 4294967296)) + ((ji17) / 4294967296))) - (IntKind.u64.wrap (x15_18 * ji10)))) x18_2 x113_24 = some (r1, r2)) ∧ Aside0 (kq ≤ k2) ∧ Drawn0 w wc)
                        case first =>
                          have H := HC25.out
                          clear HC25
                          by_cases c26 : x18_2 ≥ 4294967296
                          · rw [if_pos c26] at H
                            have c26b0 : decide (4294967296 ≤ x18_2) = true := decide_eq_true c26
                            clear c26
                            (first | rw [c26b0] | (simp only [i64_w, i32_w]; rw [c26b0]) | skip)
                            have H' := Aside0.mk H
                            clear H
                            go_wp2
                            repeat (go_quiet (fail); try go_wp2)
                            go_meet
                            case rel => exact ⟨_, (true), (by first | rfl | (simp; done) | (simp [*]; done)), H', ⟨by have := HJ18.out; have := HK2.out; first | omega | exact Nat.le_refl _⟩, by repeat (first | exact Drawn0.refl _ | apply Drawn0.step)⟩
                          · rw [if_neg c26] at H
                            have c26b0 : decide (4294967296 ≤ x18_2) = false := decide_eq_false c26
                            clear c26
                            (first | rw [c26b0] | (simp only [i64_w, i32_w]; rw [c26b0]) | skip)
                            have H' := Aside0.mk H
                            clear H
                            go_wp2
                            repeat (go_quiet (fail); try go_wp2)
                            go_meet
                            case rel => exact ⟨_, (decide ((IntKind.u64.wrap (x18_2 * (Go.bits .and .u64 (ji10) 4294967295))) > (IntKind.u64.wrap ((IntKind.u64.wrap (4294967296 * x16_2)) + (Go.bits .and .u64 (ji17) 4294967295))))), (by first | rfl | (simp; done) | (simp only [← hji10, ← hji17] <;> (first | rfl | simp)) | (simp [*]; done)), H', ⟨by have := HJ18.out; have := HK2.out; first | omega | exact Nat.le_refl _⟩, by repeat (first | exact Drawn0.refl _ | apply Drawn0.step)⟩
                        case rest =>
                          clear HC25
                          try clear c1
                          try clear c2
                          try clear p2
                          try clear c3
                          try clear c4
                          try clear c4b0
                          try clear c4b1
                          try clear c5
                          try clear c5b0
                          try clear c6
                          try clear c6b0
                          try clear c6b1
                          try clear c9
                          try clear c9b0
                          try clear c9b1
                          try clear c11
                          try clear c11b0
                          try clear c14
                          try clear c14b0
                          try clear c14b1
                          try clear c16
                          try clear c16b0
                          try clear c18
                          try clear c18b0
                          try clear c18b1
                          try clear c19
                          try clear c21
                          try clear c21b0
                          try clear c22
                          try clear c23
                          try clear c23b0
                          try clear c24
                          try clear c24b0
                          try clear c24b1
                          try clear c26
                          try clear c26b0
                          try clear p2
                          obtain ⟨kq, x113_24, rfl, HA, HJ24, ⟨mc24, rfl⟩⟩ := hcut
                          cases kq with
                          | zero => exact absurd HA.out (by simp [bits_Div64.j4])
                          | succ kj24 =>
                            have H := HA.out
                            clear HA
                            simp only [bits_Div64.j4] at H
                            by_cases c27 : x113_24 = true
                            · subst c27
                              have H1 : (if (IntKind.u64.wrap (x16_2 + ((ji10) / 4294967296))) ≥ 4294967296 then (if 0 ≤ ji8 then (some (IntKind.u64.wrap ((IntKind.u64.wrap (x15_18 * 4294967296)) + (IntKind.u64.wrap (x18_2 - 1))), shr .u64 (IntKind.u64.wrap ((IntKind.u64.wrap ((IntKind.u64.wrap ((IntKind.u64.wrap ((IntKind.u64.wrap ((IntKind.u64.wrap ((Go.bits .or .u64 (ji12) (ji15)) * 4294967296)) + ((ji17) / 4294967296))) - (IntKind.u64.wrap (x15_18 * ji10)))) * 4294967296)) + (Go.bits .and .u64 (ji17) 4294967295))) - (IntKind.u64.wrap ((IntKind.u64.wrap (x18_2 - 1)) * ji10)))) ji8)) else (none)) else (bits_Div64.l1 kj24 ji10 ji8 ((ji10) / 4294967296) (Go.bits .and .u64 (ji10) 4294967295) (Go.bits .and .u64 (ji17) 4294967295) x15_18 (IntKind.u64.wrap (x16_2 + ((ji10) / 4294967296))) (IntKind.u64.wrap ((IntKind.u64.wrap ((IntKind.u64.wrap ((Go.bits .or .u64 (ji12) (ji15)) * 4294967296)) + ((ji17) / 4294967296))) - (IntKind.u64.wrap (x15_18 * ji10)))) (IntKind.u64.wrap (x18_2 - 1)))) = some (r1, r2) := by rw [if_pos rfl] at H; exact H
                              clear H
                              have H := H1
                              clear H1
                              by_cases c28 : (IntKind.u64.wrap (x16_2 + ((ji10) / 4294967296))) ≥ 4294967296
                              · rw [if_pos c28] at H
                                have c28b0 : decide (4294967296 ≤ (IntKind.u64.wrap (x16_2 + ((ji10) / 4294967296)))) = true := decide_eq_true c28
                                clear c28
                                by_cases c29 : 0 ≤ ji8
                                · rw [if_pos c29] at H
                                  have c29b0 := eq_true c29
                                  (try (have c29z := c29b0; rw [ByteArray.size_extract, Nat.min_self] at c29z))
                                  have c29b1 : decide (0 ≤ ji8) = true := decide_eq_true c29
                                  clear c29
                                  obtain ⟨ji30, hji30⟩ : ∃ j_ : Int, (shr .u64 (IntKind.u64.wrap ((IntKind.u64.wrap ((IntKind.u64.wrap ((IntKind.u64.wrap ((IntKind.u64.wrap ((IntKind.u64.wrap ((Go.bits .or .u64 (ji12) (ji15)) * 4294967296)) + ((ji17) / 4294967296))) - (IntKind.u64.wrap (x15_18 * ji10)))) * 4294967296)) + (Go.bits .and .u64 (ji17) 4294967295))) - (IntKind.u64.wrap ((IntKind.u64.wrap (x18_2 - 1)) * ji10)))) ji8) = j_ := ⟨_, rfl⟩
                                  replace H : (some (IntKind.u64.wrap ((IntKind.u64.wrap (x15_18 * 4294967296)) + (IntKind.u64.wrap (x18_2 - 1))), ji30)) = some (r1, r2) := by first | (rw [hji30] at H; exact H) | (simp only [hji30] at H ⊢; exact H)
                                  have hji30_ : ((IntKind.u64.wrap ((IntKind.u64.wrap ((IntKind.u64.wrap ((IntKind.u64.wrap ((IntKind.u64.wrap ((IntKind.u64.wrap ((Go.bits .or .u64 (ji12) (ji15)) * 4294967296)) + ((ji17) / 4294967296))) - (IntKind.u64.wrap (x15_18 * ji10)))) * 4294967296)) + (Go.bits .and .u64 (ji17) 4294967295))) - (IntKind.u64.wrap ((IntKind.u64.wrap (x18_2 - 1)) * ji10)))) / 2 ^ min ji8.toNat 64) = ji30 := hji30
                                  have hji30z : ji8 ≤ 64 → ((IntKind.u64.wrap ((IntKind.u64.wrap ((IntKind.u64.wrap ((IntKind.u64.wrap ((IntKind.u64.wrap ((IntKind.u64.wrap ((Go.bits .or .u64 (ji12) (ji15)) * 4294967296)) + ((ji17) / 4294967296))) - (IntKind.u64.wrap (x15_18 * ji10)))) * 4294967296)) + (Go.bits .and .u64 (ji17) 4294967295))) - (IntKind.u64.wrap ((IntKind.u64.wrap (x18_2 - 1)) * ji10)))) / 2 ^ ji8.toNat) = ji30 := shr_small hji30
                                  simp only [Option.some.injEq, Prod.mk.injEq] at H
                                  obtain ⟨rfl, rfl⟩ := H
                                  go_wp2
                                  repeat (go_quiet (fail); try go_wp2)
                                  go_ret2
                                  exact ⟨by first | rfl | (simp; done) | (simp only [← hji8, ← hji10, ← hji12, ← hji13, ← hji15, ← hji17, ← hji30] <;> (first | rfl | simp)) | (simp [*]; done), by repeat (first | exact Drawn0.refl _ | apply Drawn0.step)⟩
                                · rw [if_neg c29] at H
                                  exact absurd H (by simp)
                              · rw [if_neg c28] at H
                                have c28b0 : decide (4294967296 ≤ (IntKind.u64.wrap (x16_2 + ((ji10) / 4294967296)))) = false := decide_eq_false c28
                                clear c28
                                have H' := Aside0.mk H
                                clear H
                                go_wp2
                                repeat (go_quiet (fail); try go_wp2)
                                go_roundg kj24
                                case measure => have := HJ18.out; have := HK2.out; have := HJ24.out; omega
                                case rel => exact ⟨(IntKind.u64.wrap (x16_2 + ((ji10) / 4294967296))), (IntKind.u64.wrap (x18_2 - 1)), (by first | rfl | (simp; done) | (simp only [← hji10] <;> (first | rfl | simp)) | (simp [*]; done)), (by first | rfl | (simp; done) | (simp [*]; done)), H', ⟨by have := HJ18.out; have := HK2.out; have := HJ24.out; omega⟩, by repeat (first | exact Drawn0.refl _ | apply Drawn0.step)⟩
                            · replace c27 := Bool.eq_false_iff.mpr c27
                              subst c27
                              have H1 : (if 0 ≤ ji8 then (some (IntKind.u64.wrap ((IntKind.u64.wrap (x15_18 * 4294967296)) + x18_2), shr .u64 (IntKind.u64.wrap ((IntKind.u64.wrap ((IntKind.u64.wrap ((IntKind.u64.wrap ((IntKind.u64.wrap ((IntKind.u64.wrap ((Go.bits .or .u64 (ji12) (ji15)) * 4294967296)) + ((ji17) / 4294967296))) - (IntKind.u64.wrap (x15_18 * ji10)))) * 4294967296)) + (Go.bits .and .u64 (ji17) 4294967295))) - (IntKind.u64.wrap (x18_2 * ji10)))) ji8)) else (none)) = some (r1, r2) := by rw [if_neg (show ¬ (false = true) by decide)] at H; exact H
                              clear H
                              have H := H1
                              clear H1
                              by_cases c31 : 0 ≤ ji8
                              · rw [if_pos c31] at H
                                have c31b0 := eq_true c31
                                (try (have c31z := c31b0; rw [ByteArray.size_extract, Nat.min_self] at c31z))
                                have c31b1 : decide (0 ≤ ji8) = true := decide_eq_true c31
                                clear c31
                                obtain ⟨ji32, hji32⟩ : ∃ j_ : Int, (shr .u64 (IntKind.u64.wrap ((IntKind.u64.wrap ((IntKind.u64.wrap ((IntKind.u64.wrap ((IntKind.u64.wrap ((IntKind.u64.wrap ((Go.bits .or .u64 (ji12) (ji15)) * 4294967296)) + ((ji17) / 4294967296))) - (IntKind.u64.wrap (x15_18 * ji10)))) * 4294967296)) + (Go.bits .and .u64 (ji17) 4294967295))) - (IntKind.u64.wrap (x18_2 * ji10)))) ji8) = j_ := ⟨_, rfl⟩
                                replace H : (some (IntKind.u64.wrap ((IntKind.u64.wrap (x15_18 * 4294967296)) + x18_2), ji32)) = some (r1, r2) := by first | (rw [hji32] at H; exact H) | (simp only [hji32] at H ⊢; exact H)
                                have hji32_ : ((IntKind.u64.wrap ((IntKind.u64.wrap ((IntKind.u64.wrap ((IntKind.u64.wrap ((IntKind.u64.wrap ((IntKind.u64.wrap ((Go.bits .or .u64 (ji12) (ji15)) * 4294967296)) + ((ji17) / 4294967296))) - (IntKind.u64.wrap (x15_18 * ji10)))) * 4294967296)) + (Go.bits .and .u64 (ji17) 4294967295))) - (IntKind.u64.wrap (x18_2 * ji10)))) / 2 ^ min ji8.toNat 64) = ji32 := hji32
                                have hji32z : ji8 ≤ 64 → ((IntKind.u64.wrap ((IntKind.u64.wrap ((IntKind.u64.wrap ((IntKind.u64.wrap ((IntKind.u64.wrap ((IntKind.u64.wrap ((Go.bits .or .u64 (ji12) (ji15)) * 4294967296)) + ((ji17) / 4294967296))) - (IntKind.u64.wrap (x15_18 * ji10)))) * 4294967296)) + (Go.bits .and .u64 (ji17) 4294967295))) - (IntKind.u64.wrap (x18_2 * ji10)))) / 2 ^ ji8.toNat) = ji32 := shr_small hji32
                                simp only [Option.some.injEq, Prod.mk.injEq] at H
                                obtain ⟨rfl, rfl⟩ := H
                                go_wp2
                                repeat (go_quiet (fail); try go_wp2)
                                go_ret2
                                exact ⟨by first | rfl | (simp; done) | (simp only [← hji8, ← hji10, ← hji12, ← hji13, ← hji15, ← hji17, ← hji32] <;> (first | rfl | simp)) | (simp [*]; done), by repeat (first | exact Drawn0.refl _ | apply Drawn0.step)⟩
                              · rw [if_neg c31] at H
                                exact absurd H (by simp)
          · rw [if_neg c14] at H
            exact absurd H (by simp)
        · rw [if_neg c9] at H
          exact absurd H (by simp)
end Go.Proofs.Ytpmmiabcfnejmaa.H
end
section
namespace Go.Proofs.Ytpmmiabcfnejmaa.H
open Go.RowKit Go.Proofs.YtpmmiabcfnejmaaW.PrintWords Go.Proofs.YtpmmiabcfnejmaaW.PrintLast Go.Proofs.YtpmmiabcfnejmaaW.PrintMore
attribute [local go_sem] max2_int min2_int max_two min_two max_three min_three max_four min_four   -- for this text's walks alone
set_option linter.unusedVariables false
set_option linter.unusedSimpArgs false
def quant_whole.f (k : Nat) (a0 : ByteArray) (a1 : Int) (a2 : Int) (a3 : Int) : Option (Int × Bool) := if a2 = 1 then ((quant_value.f k a0 1125899906842624000).bind fun bt107 => (if (wrap64 (Int.tdiv a3 1000)) = 0 then (none) else (some (wrap64 (Int.tdiv bt107.1 (wrap64 (Int.tdiv a3 1000))), bt107.2)))) else ((quant_value.f k a0 1125899906842624).bind fun bt109 => ((bits_Mul64.f (IntKind.u64.wrap (wrap64 ((wrap64 (bt109.1 * 1000)) + a1))) (IntKind.u64.wrap (a2))).bind fun bt111 => (if bt109.2 = true then (if bt111.1 ≥ (IntKind.u64.wrap (a3)) then (some (0, false)) else ((bits_Div64.f k bt111.1 bt111.2 (IntKind.u64.wrap (a3))).bind fun bt113 => (some (wrap64 (mn bt113.1 1125899906842625), true)))) else (some (0, false)))))
theorem quant_whole.mono : ∀ a0 a1 a2 a3 k, LeO (quant_whole.f k a0 a1 a2 a3) (quant_whole.f (k + 1) a0 a1 a2 a3) := by
  intro a0 a1 a2 a3 k
  unfold quant_whole.f
  repeat' first
      | (with_reducible exact bits_Div64.mono _ _ _ _)
      | (with_reducible exact quant_value.mono _ _ _)
      | (with_reducible exact LeO.refl _)
      | (with_reducible exact LeO.none _)
      | (with_reducible refine LeO.ite ?_ ?_)
      | (with_reducible refine LeO.bind ?_ (fun _ => ?_))
      | exact bits_Div64.mono _ _ _ _
      | exact quant_value.mono _ _ _
      | exact LeO.none _
      | refine LeO.ite ?_ ?_
      | refine LeO.bind ?_ (fun _ => ?_)
set_option maxHeartbeats 8000000 in
set_option maxRecDepth 100000 in
theorem quant_whole.calls (k : Nat) (a0 : ByteArray) (a1 : Int) (a2 : Int) (a3 : Int) (r1 : Int) (r2 : Bool) (w : World) (h : quant_whole.f k a0 a1 a2 a3 = some (r1, r2)) :
    Calls Try.prog 30 #[.string a0, .int .i64 a1, .int .i64 a2, .int .i64 a3] w fun e w' => e = .returned (.tuple #[.int .i64 r1, .bool r2]) ∧ Below w.heap.size w w' := by
  have HB := Aside0.mk (Below.refl w.heap.size w)
  have H : (if a2 = 1 then ((quant_value.f k a0 1125899906842624000).bind fun bt107 => (if (wrap64 (Int.tdiv a3 1000)) = 0 then (none) else (some (wrap64 (Int.tdiv bt107.1 (wrap64 (Int.tdiv a3 1000))), bt107.2)))) else ((quant_value.f k a0 1125899906842624).bind fun bt109 => ((bits_Mul64.f (IntKind.u64.wrap (wrap64 ((wrap64 (bt109.1 * 1000)) + a1))) (IntKind.u64.wrap (a2))).bind fun bt111 => (if bt109.2 = true then (if bt111.1 ≥ (IntKind.u64.wrap (a3)) then (some (0, false)) else ((bits_Div64.f k bt111.1 bt111.2 (IntKind.u64.wrap (a3))).bind fun bt113 => (some (wrap64 (mn bt113.1 1125899906842625), true)))) else (some (0, false)))))) = some (r1, r2) := h
  clear h
  by_cases c5 : a2 = 1
  · rw [if_pos c5] at H
    have c5b0 : (a2 == 1) = true := beq_iff_eq.mpr c5
    have c5b1 : (a2 != 1) = false := bne_eq_false_iff_eq.mpr c5
    clear c5
    replace H := Option.bind_eq_some_iff.mp H
    obtain ⟨⟨t107, t108⟩, A60, H⟩ := H
    replace H : (if (wrap64 (Int.tdiv a3 1000)) = 0 then (none) else (some (wrap64 (Int.tdiv t107 (wrap64 (Int.tdiv a3 1000))), t108))) = some (r1, r2) := H
    have A6 := Aside0.mk A60
    clear A60
    by_cases c7 : (wrap64 (Int.tdiv a3 1000)) = 0
    · rw [if_pos c7] at H
      exact absurd H (by simp)
    · rw [if_neg c7] at H
      have c7b0 : ((wrap64 (Int.tdiv a3 1000)) == 0) = false := beq_eq_false_iff_ne.mpr c7
      have c7b1 : ((wrap64 (Int.tdiv a3 1000)) != 0) = true := bne_iff_ne.mpr c7
      simp only [Option.some.injEq, Prod.mk.injEq] at H
      obtain ⟨rfl, rfl⟩ := H
      go_enter Try.func30, Try.ntmps30
      go_wp2_with (first | ((first | ((with_reducible refine gate_callee (f := 23) rfl ?_); refine goesL_ (some 22) rfl rfl Try.func23 (by kernel_rfl) rfl #[.string a0, .int .i64 1125899906842624000] rfl (by (try simp only [List.map_toArray, List.map_cons, List.map_nil]); first | done | rfl | (simp only [List.length_drop, List.length_take]; rfl)) ?_; (with_reducible refine (quant_value.calls k a0 1125899906842624000 t107 t108 _ A6.out).mono ?_); rintro e w' ⟨rfl, ⟨nd, rfl⟩⟩; refine ⟨_, rfl, ?_⟩) | (go_at_call 23; (with_reducible refine (quant_value.calls k a0 1125899906842624000 t107 t108 _ A6.out).mono ?_); rintro e w' ⟨rfl, ⟨nd, rfl⟩⟩))))
      go_ret2
      exact ⟨by first | rfl | (simp [errW_none, errW_some] <;> rfl) | (simp [*, errW_none, errW_some] <;> rfl), by repeat (first | (with_reducible first | exact HB.out | apply below_alloc | apply pw_below_drewN | apply below_drew1) | exact HB.out)⟩
  · rw [if_neg c5] at H
    have c5b0 : (a2 == 1) = false := beq_eq_false_iff_ne.mpr c5
    have c5b1 : (a2 != 1) = true := bne_iff_ne.mpr c5
    replace H := Option.bind_eq_some_iff.mp H
    obtain ⟨⟨t109, t110⟩, A80, H⟩ := H
    replace H : ((bits_Mul64.f (IntKind.u64.wrap (wrap64 ((wrap64 (t109 * 1000)) + a1))) (IntKind.u64.wrap (a2))).bind fun bt111 => (if t110 = true then (if bt111.1 ≥ (IntKind.u64.wrap (a3)) then (some (0, false)) else ((bits_Div64.f k bt111.1 bt111.2 (IntKind.u64.wrap (a3))).bind fun bt113 => (some (wrap64 (mn bt113.1 1125899906842625), true)))) else (some (0, false)))) = some (r1, r2) := H
    have A8 := Aside0.mk A80
    clear A80
    replace H := Option.bind_eq_some_iff.mp H
    obtain ⟨⟨t111, t112⟩, A90, H⟩ := H
    replace H : (if t110 = true then (if t111 ≥ (IntKind.u64.wrap (a3)) then (some (0, false)) else ((bits_Div64.f k t111 t112 (IntKind.u64.wrap (a3))).bind fun bt113 => (some (wrap64 (mn bt113.1 1125899906842625), true)))) else (some (0, false))) = some (r1, r2) := H
    have A9 := Aside0.mk A90
    clear A90
    by_cases c10 : t110 = true
    · subst c10
      have H1 : (if t111 ≥ (IntKind.u64.wrap (a3)) then (some (0, false)) else ((bits_Div64.f k t111 t112 (IntKind.u64.wrap (a3))).bind fun bt113 => (some (wrap64 (mn bt113.1 1125899906842625), true)))) = some (r1, r2) := by rw [if_pos rfl] at H; exact H
      clear H
      have H := H1
      clear H1
      by_cases c11 : t111 ≥ (IntKind.u64.wrap (a3))
      · rw [if_pos c11] at H
        have c11b0 : decide ((IntKind.u64.wrap (a3)) ≤ t111) = true := decide_eq_true c11
        clear c11
        simp only [Option.some.injEq, Prod.mk.injEq] at H
        obtain ⟨rfl, rfl⟩ := H
        go_enter Try.func30, Try.ntmps30
        go_wp2_with (first | ((first | ((with_reducible refine gate_callee (f := 23) rfl ?_); refine goesL_ (some 32) rfl rfl Try.func23 (by kernel_rfl) rfl #[.string a0, .int .i64 1125899906842624] rfl (by (try simp only [List.map_toArray, List.map_cons, List.map_nil]); first | done | rfl | (simp only [List.length_drop, List.length_take]; rfl)) ?_; (with_reducible refine (quant_value.calls k a0 1125899906842624 t109 true _ A8.out).mono ?_); rintro e w' ⟨rfl, ⟨nd, rfl⟩⟩; refine ⟨_, rfl, ?_⟩) | (go_at_call 23; (with_reducible refine (quant_value.calls k a0 1125899906842624 t109 true _ A8.out).mono ?_); rintro e w' ⟨rfl, ⟨nd, rfl⟩⟩))) | ((first | ((with_reducible refine gate_callee (f := 37) rfl ?_); refine goesL_ (some 43) rfl rfl Try.func37 (by kernel_rfl) rfl #[.int .u64 (IntKind.u64.wrap (wrap64 ((wrap64 (t109 * 1000)) + a1))), .int .u64 (IntKind.u64.wrap (a2))] rfl (by (try simp only [List.map_toArray, List.map_cons, List.map_nil]); first | done | rfl | (simp only [List.length_drop, List.length_take]; rfl)) ?_; (with_reducible refine (bits_Mul64.calls (IntKind.u64.wrap (wrap64 ((wrap64 (t109 * 1000)) + a1))) (IntKind.u64.wrap (a2)) t111 t112 _ A9.out).mono ?_); rintro e w' ⟨rfl, ⟨nd, rfl⟩⟩; refine ⟨_, rfl, ?_⟩) | (go_at_call 37; (with_reducible refine (bits_Mul64.calls (IntKind.u64.wrap (wrap64 ((wrap64 (t109 * 1000)) + a1))) (IntKind.u64.wrap (a2)) t111 t112 _ A9.out).mono ?_); rintro e w' ⟨rfl, ⟨nd, rfl⟩⟩))))
        go_ret2
        exact ⟨by first | rfl | (simp [errW_none, errW_some] <;> rfl) | (simp [*, errW_none, errW_some] <;> rfl), by repeat (first | (with_reducible first | exact HB.out | apply below_alloc | apply pw_below_drewN | apply below_drew1) | exact HB.out)⟩
      · rw [if_neg c11] at H
        have c11b0 : decide ((IntKind.u64.wrap (a3)) ≤ t111) = false := decide_eq_false c11
        clear c11
        replace H := Option.bind_eq_some_iff.mp H
        obtain ⟨⟨t113, t114⟩, A120, H⟩ := H
        replace H : (some (wrap64 (mn t113 1125899906842625), true)) = some (r1, r2) := H
        have A12 := Aside0.mk A120
        clear A120
        obtain ⟨ji13, hji13⟩ : ∃ j_ : Int, (mn t113 1125899906842625) = j_ := ⟨_, rfl⟩
        replace H : (some (wrap64 (ji13), true)) = some (r1, r2) := by first | (rw [hji13] at H; exact H) | (simp only [hji13] at H ⊢; exact H)
        (try rw [hji13] at A8)
        (try rw [hji13] at A9)
        (try rw [hji13] at A12)
        (try (have hji13h : ji13 ≤ 1125899906842625 := by (rw [← hji13]; unfold mn; (repeat' split) <;> omega)))
        (try (have hji13g : ji13 ≤ 64 := by omega))
        have hji13_ : (if 1125899906842625 < t113 then 1125899906842625 else t113) = ji13 := hji13
        simp only [Option.some.injEq, Prod.mk.injEq] at H
        obtain ⟨rfl, rfl⟩ := H
        go_enter Try.func30, Try.ntmps30
        go_wp2_with (first | ((first | ((with_reducible refine gate_callee (f := 23) rfl ?_); refine goesL_ (some 32) rfl rfl Try.func23 (by kernel_rfl) rfl #[.string a0, .int .i64 1125899906842624] rfl (by (try simp only [List.map_toArray, List.map_cons, List.map_nil]); first | done | rfl | (simp only [List.length_drop, List.length_take]; rfl)) ?_; (with_reducible refine (quant_value.calls k a0 1125899906842624 t109 true _ A8.out).mono ?_); rintro e w' ⟨rfl, ⟨nd, rfl⟩⟩; refine ⟨_, rfl, ?_⟩) | (go_at_call 23; (with_reducible refine (quant_value.calls k a0 1125899906842624 t109 true _ A8.out).mono ?_); rintro e w' ⟨rfl, ⟨nd, rfl⟩⟩))) | ((first | ((with_reducible refine gate_callee (f := 37) rfl ?_); refine goesL_ (some 43) rfl rfl Try.func37 (by kernel_rfl) rfl #[.int .u64 (IntKind.u64.wrap (wrap64 ((wrap64 (t109 * 1000)) + a1))), .int .u64 (IntKind.u64.wrap (a2))] rfl (by (try simp only [List.map_toArray, List.map_cons, List.map_nil]); first | done | rfl | (simp only [List.length_drop, List.length_take]; rfl)) ?_; (with_reducible refine (bits_Mul64.calls (IntKind.u64.wrap (wrap64 ((wrap64 (t109 * 1000)) + a1))) (IntKind.u64.wrap (a2)) t111 t112 _ A9.out).mono ?_); rintro e w' ⟨rfl, ⟨nd, rfl⟩⟩; refine ⟨_, rfl, ?_⟩) | (go_at_call 37; (with_reducible refine (bits_Mul64.calls (IntKind.u64.wrap (wrap64 ((wrap64 (t109 * 1000)) + a1))) (IntKind.u64.wrap (a2)) t111 t112 _ A9.out).mono ?_); rintro e w' ⟨rfl, ⟨nd, rfl⟩⟩))) | ((first | ((with_reducible refine gate_callee (f := 38) rfl ?_); refine goesL_ (some 59) rfl rfl Try.func38 (by kernel_rfl) rfl #[.int .u64 t111, .int .u64 t112, .int .u64 (IntKind.u64.wrap (a3))] rfl (by (try simp only [List.map_toArray, List.map_cons, List.map_nil]); first | done | rfl | (simp only [List.length_drop, List.length_take]; rfl)) ?_; (with_reducible refine (bits_Div64.calls k t111 t112 (IntKind.u64.wrap (a3)) t113 t114 _ A12.out).mono ?_); rintro e w' ⟨rfl, ⟨nd, rfl⟩⟩; refine ⟨_, rfl, ?_⟩) | (go_at_call 38; (with_reducible refine (bits_Div64.calls k t111 t112 (IntKind.u64.wrap (a3)) t113 t114 _ A12.out).mono ?_); rintro e w' ⟨rfl, ⟨nd, rfl⟩⟩))))
        go_ret2
        exact ⟨by first | rfl | (simp [errW_none, errW_some] <;> rfl) | (simp only [← hji13]; first | rfl | (simp [errW_none, errW_some] <;> rfl)) | (simp [*, errW_none, errW_some] <;> rfl), by repeat (first | (with_reducible first | exact HB.out | apply below_alloc | apply pw_below_drewN | apply below_drew1) | exact HB.out)⟩
    · replace c10 := Bool.eq_false_iff.mpr c10
      subst c10
      have H1 : (some (0, false)) = some (r1, r2) := by rw [if_neg (show ¬ (false = true) by decide)] at H; exact H
      clear H
      have H := H1
      clear H1
      simp only [Option.some.injEq, Prod.mk.injEq] at H
      obtain ⟨rfl, rfl⟩ := H
      go_enter Try.func30, Try.ntmps30
      go_wp2_with (first | ((first | ((with_reducible refine gate_callee (f := 23) rfl ?_); refine goesL_ (some 32) rfl rfl Try.func23 (by kernel_rfl) rfl #[.string a0, .int .i64 1125899906842624] rfl (by (try simp only [List.map_toArray, List.map_cons, List.map_nil]); first | done | rfl | (simp only [List.length_drop, List.length_take]; rfl)) ?_; (with_reducible refine (quant_value.calls k a0 1125899906842624 t109 false _ A8.out).mono ?_); rintro e w' ⟨rfl, ⟨nd, rfl⟩⟩; refine ⟨_, rfl, ?_⟩) | (go_at_call 23; (with_reducible refine (quant_value.calls k a0 1125899906842624 t109 false _ A8.out).mono ?_); rintro e w' ⟨rfl, ⟨nd, rfl⟩⟩))) | ((first | ((with_reducible refine gate_callee (f := 37) rfl ?_); refine goesL_ (some 43) rfl rfl Try.func37 (by kernel_rfl) rfl #[.int .u64 (IntKind.u64.wrap (wrap64 ((wrap64 (t109 * 1000)) + a1))), .int .u64 (IntKind.u64.wrap (a2))] rfl (by (try simp only [List.map_toArray, List.map_cons, List.map_nil]); first | done | rfl | (simp only [List.length_drop, List.length_take]; rfl)) ?_; (with_reducible refine (bits_Mul64.calls (IntKind.u64.wrap (wrap64 ((wrap64 (t109 * 1000)) + a1))) (IntKind.u64.wrap (a2)) t111 t112 _ A9.out).mono ?_); rintro e w' ⟨rfl, ⟨nd, rfl⟩⟩; refine ⟨_, rfl, ?_⟩) | (go_at_call 37; (with_reducible refine (bits_Mul64.calls (IntKind.u64.wrap (wrap64 ((wrap64 (t109 * 1000)) + a1))) (IntKind.u64.wrap (a2)) t111 t112 _ A9.out).mono ?_); rintro e w' ⟨rfl, ⟨nd, rfl⟩⟩))))
      go_ret2
      exact ⟨by first | rfl | (simp [errW_none, errW_some] <;> rfl) | (simp [*, errW_none, errW_some] <;> rfl), by repeat (first | (with_reducible first | exact HB.out | apply below_alloc | apply pw_below_drewN | apply below_drew1) | exact HB.out)⟩
end Go.Proofs.Ytpmmiabcfnejmaa.H
end
section
namespace Go.Proofs.Ytpmmiabcfnejmaa.H
open Go.RowKit Go.Proofs.YtpmmiabcfnejmaaW.PrintWords Go.Proofs.YtpmmiabcfnejmaaW.PrintLast Go.Proofs.YtpmmiabcfnejmaaW.PrintMore
attribute [local go_sem] max2_int min2_int max_two min_two max_three min_three max_four min_four   -- for this text's walks alone
set_option linter.unusedVariables false
set_option linter.unusedSimpArgs false
def quant_amount.f (k : Nat) (a0 : ByteArray) (a1 : Int) : Option (Int × Int) :=
  (quant_cut.f k a0).bind fun c => if c.2.2.2 = 0 then (match unitO c.2.2.1 with
    | none => some (0, 9)
    | some u => (quant_exact.f k c.1 c.2.1 u a1).bind fun b => if b = true then ((quant_whole.f k c.1 c.2.1 u a1).bind fun n => if n.2 = true then (if n.1 > 1125899906842624 then some (0, 10) else some (n.1, 0)) else some (0, 10)) else some (0, 8)) else some (0, c.2.2.2)
theorem quant_amount.mono : ∀ a0 a1 k, LeO (quant_amount.f k a0 a1) (quant_amount.f (k + 1) a0 a1) := by
  intro a0 a1 k
  unfold quant_amount.f
  refine LeO.bind (quant_cut.mono _ _) (fun c => LeO.ite ?_ (LeO.refl _))
  cases unitO c.2.2.1 with
  | none => exact LeO.refl _
  | some u => exact LeO.bind (quant_exact.mono _ _ _ _ _) (fun b => LeO.ite (LeO.bind (quant_whole.mono _ _ _ _ _) (fun n => LeO.refl _)) (LeO.refl _))
theorem ta_some (u : Int) (W : World) : (Instr.typeAssert (unitV (some u)) 20 43 true).run Try.prog W = .ok (.tuple #[.int .i64 u, .bool true]) W := by kernel_rfl
theorem ta_none (W : World) : (Instr.typeAssert (unitV none) 20 43 true).run Try.prog W = .ok (.tuple #[.int .i64 0, .bool false]) W := by kernel_rfl
set_option maxHeartbeats 8000000 in
set_option maxRecDepth 100000 in
theorem quant_amount.calls (k : Nat) (a0 : ByteArray) (a1 : Int) (r1 : Int) (r2 : Int) (w : World) (h : quant_amount.f k a0 a1 = some (r1, r2)) :
    Calls Try.prog 20 #[.string a0, .int .i64 a1] w fun e w' => e = .returned (.tuple #[.int .i64 r1, .int .i64 r2]) ∧ Below w.heap.size w w' := by
  unfold quant_amount.f at h
  obtain ⟨⟨c1, c2, c3, c4⟩, hc, h⟩ := Option.bind_eq_some_iff.mp h
  have HC := Aside0.mk hc
  clear hc
  simp only at h
  by_cases he : c4 = 0
  · rw [if_pos he] at h
    subst he
    cases hu : unitO c3 with
    | none =>
      rw [hu] at h
      simp only [Option.some.injEq, Prod.mk.injEq] at h
      obtain ⟨rfl, rfl⟩ := h
      have hU := fun w => quant_unit.calls c3 w
      rw [hu] at hU
      have HU := Aside0.mk hU
      clear hU
      have hT := ta_none
      go_enter Try.func20, Try.ntmps20
      go_wp2_with (first | (go_at_call 27; refine (quant_cut.calls k a0 c1 c2 c3 0 _ HC.out).mono ?_; rintro e w' ⟨rfl, ⟨nd1, rfl⟩⟩) | (go_at_call 28; refine (HU.out _).mono ?_; rintro e w' ⟨rfl, ⟨nd2, rfl⟩⟩))
      refine bodyPost_ret (results_list (rs := [.tmp 4, .tmp 5]) rfl (by simp) (.tmp (.tmp .nil))) rfl ?_
      exact ⟨by first | rfl | (simp; done) | (simp [*]; done), by repeat (first | exact HB4.out | exact Below.refl _ _ | apply pw_below_drewN)⟩
    | some u =>
      rw [hu] at h
      obtain ⟨b, hb, h⟩ := Option.bind_eq_some_iff.mp h
      have HB := Aside0.mk hb
      clear hb
      have hU := fun w => quant_unit.calls c3 w
      rw [hu] at hU
      have HU := Aside0.mk hU
      clear hU
      have hT := ta_some u
      cases b with
      | false =>
        rw [if_neg (by simp)] at h
        simp only [Option.some.injEq, Prod.mk.injEq] at h
        obtain ⟨rfl, rfl⟩ := h
        go_enter Try.func20, Try.ntmps20
        go_wp2_with (first | (go_at_call 27; refine (quant_cut.calls k a0 c1 c2 c3 0 _ HC.out).mono ?_; rintro e w' ⟨rfl, ⟨nd1, rfl⟩⟩) | (go_at_call 28; refine (HU.out _).mono ?_; rintro e w' ⟨rfl, ⟨nd2, rfl⟩⟩) | (go_at_call 29; refine (quant_exact.calls k c1 c2 u a1 false _ HB.out).mono ?_; rintro e w' ⟨rfl, ⟨nd3, rfl⟩⟩))
        refine bodyPost_ret (results_list (rs := [.tmp 4, .tmp 5]) rfl (by simp) (.tmp (.tmp .nil))) rfl ?_
        exact ⟨by first | rfl | (simp; done) | (simp [*]; done), by repeat (first | exact HB4.out | exact Below.refl _ _ | apply pw_below_drewN)⟩
      | true =>
        rw [if_pos rfl] at h
        obtain ⟨⟨n, ok⟩, hn, h⟩ := Option.bind_eq_some_iff.mp h
        have HN := Aside0.mk hn
        clear hn
        simp only at h
        cases ok with
        | false =>
          rw [if_neg (by simp)] at h
          simp only [Option.some.injEq, Prod.mk.injEq] at h
          obtain ⟨rfl, rfl⟩ := h
          go_enter Try.func20, Try.ntmps20
          go_wp2_with (first | (go_at_call 27; refine (quant_cut.calls k a0 c1 c2 c3 0 _ HC.out).mono ?_; rintro e w' ⟨rfl, ⟨nd1, rfl⟩⟩) | (go_at_call 28; refine (HU.out _).mono ?_; rintro e w' ⟨rfl, ⟨nd2, rfl⟩⟩) | (go_at_call 29; refine (quant_exact.calls k c1 c2 u a1 true _ HB.out).mono ?_; rintro e w' ⟨rfl, ⟨nd3, rfl⟩⟩) | (go_at_call 30; refine (quant_whole.calls k c1 c2 u a1 n false _ HN.out).mono ?_; rintro e w' ⟨rfl, hb4⟩; have HB4 := Aside0.mk (below_step (pw_below_drewN (Below.refl w.heap.size w) _) hb4); clear hb4))
          refine bodyPost_ret (results_list (rs := [.tmp 4, .tmp 5]) rfl (by simp) (.tmp (.tmp .nil))) rfl ?_
          exact ⟨by first | rfl | (simp; done) | (simp [*]; done), by repeat (first | exact HB4.out | exact Below.refl _ _ | apply pw_below_drewN)⟩
        | true =>
          rw [if_pos rfl] at h
          by_cases hm : n > 1125899906842624
          · rw [if_pos hm] at h
            have hd : decide (1125899906842624 < n) = true := decide_eq_true hm
            simp only [Option.some.injEq, Prod.mk.injEq] at h
            obtain ⟨rfl, rfl⟩ := h
            go_enter Try.func20, Try.ntmps20
            go_wp2_with (first | (go_at_call 27; refine (quant_cut.calls k a0 c1 c2 c3 0 _ HC.out).mono ?_; rintro e w' ⟨rfl, ⟨nd1, rfl⟩⟩) | (go_at_call 28; refine (HU.out _).mono ?_; rintro e w' ⟨rfl, ⟨nd2, rfl⟩⟩) | (go_at_call 29; refine (quant_exact.calls k c1 c2 u a1 true _ HB.out).mono ?_; rintro e w' ⟨rfl, ⟨nd3, rfl⟩⟩) | (go_at_call 30; refine (quant_whole.calls k c1 c2 u a1 n true _ HN.out).mono ?_; rintro e w' ⟨rfl, hb4⟩; have HB4 := Aside0.mk (below_step (pw_below_drewN (Below.refl w.heap.size w) _) hb4); clear hb4))
            refine bodyPost_ret (results_list (rs := [.tmp 4, .tmp 5]) rfl (by simp) (.tmp (.tmp .nil))) rfl ?_
            exact ⟨by first | rfl | (simp; done) | (simp [*]; done), by repeat (first | exact HB4.out | exact Below.refl _ _ | apply pw_below_drewN)⟩
          · rw [if_neg hm] at h
            have hd : decide (1125899906842624 < n) = false := decide_eq_false hm
            simp only [Option.some.injEq, Prod.mk.injEq] at h
            obtain ⟨rfl, rfl⟩ := h
            go_enter Try.func20, Try.ntmps20
            go_wp2_with (first | (go_at_call 27; refine (quant_cut.calls k a0 c1 c2 c3 0 _ HC.out).mono ?_; rintro e w' ⟨rfl, ⟨nd1, rfl⟩⟩) | (go_at_call 28; refine (HU.out _).mono ?_; rintro e w' ⟨rfl, ⟨nd2, rfl⟩⟩) | (go_at_call 29; refine (quant_exact.calls k c1 c2 u a1 true _ HB.out).mono ?_; rintro e w' ⟨rfl, ⟨nd3, rfl⟩⟩) | (go_at_call 30; refine (quant_whole.calls k c1 c2 u a1 n true _ HN.out).mono ?_; rintro e w' ⟨rfl, hb4⟩; have HB4 := Aside0.mk (below_step (pw_below_drewN (Below.refl w.heap.size w) _) hb4); clear hb4))
            refine bodyPost_ret (results_list (rs := [.tmp 4, .tmp 5]) rfl (by simp) (.tmp (.tmp .nil))) rfl ?_
            exact ⟨by first | rfl | (simp; done) | (simp [*]; done), by repeat (first | exact HB4.out | exact Below.refl _ _ | apply pw_below_drewN)⟩
  · rw [if_neg he] at h
    simp only [Option.some.injEq, Prod.mk.injEq] at h
    obtain ⟨rfl, rfl⟩ := h
    have he1 : (c4 == 0) = false := beq_eq_false_iff_ne.mpr he
    have he2 : (c4 != 0) = true := bne_iff_ne.mpr he
    go_enter Try.func20, Try.ntmps20
    go_wp2_with (first | (go_at_call 27; refine (quant_cut.calls k a0 c1 c2 c3 c4 _ HC.out).mono ?_; rintro e w' ⟨rfl, ⟨nd1, rfl⟩⟩))
    refine bodyPost_ret (results_list (rs := [.tmp 4, .tmp 5]) rfl (by simp) (.tmp (.tmp .nil))) rfl ?_
    exact ⟨by first | rfl | (simp; done) | (simp [*]; done), by repeat (first | exact HB4.out | exact Below.refl _ _ | apply pw_below_drewN)⟩
end Go.Proofs.Ytpmmiabcfnejmaa.H
end
section
namespace Go.Proofs.Ytpmmiabcfnejmaa.H
open Go.RowKit Go.Proofs.YtpmmiabcfnejmaaW.PrintWords Go.Proofs.YtpmmiabcfnejmaaW.PrintLast Go.Proofs.YtpmmiabcfnejmaaW.PrintMore
attribute [local go_sem] max2_int min2_int max_two min_two max_three min_three max_four min_four   -- for this text's walks alone
set_option linter.unusedVariables false
set_option linter.unusedSimpArgs false
def quant_Parse.f (k : Nat) (a0 : ByteArray) : Option (Int × Int) := (quant_amount.f k a0 1000000).bind fun bt115 => (some (bt115.1, bt115.2))
theorem quant_Parse.mono : ∀ a0 k, LeO (quant_Parse.f k a0) (quant_Parse.f (k + 1) a0) := by
  intro a0 k
  unfold quant_Parse.f
  repeat' first
      | (with_reducible exact quant_amount.mono _ _ _)
      | (with_reducible exact LeO.refl _)
      | (with_reducible exact LeO.none _)
      | (with_reducible refine LeO.ite ?_ ?_)
      | (with_reducible refine LeO.bind ?_ (fun _ => ?_))
      | exact quant_amount.mono _ _ _
      | exact LeO.none _
      | refine LeO.ite ?_ ?_
      | refine LeO.bind ?_ (fun _ => ?_)
set_option maxHeartbeats 8000000 in
set_option maxRecDepth 100000 in
theorem quant_Parse.calls (k : Nat) (a0 : ByteArray) (r1 : Int) (r2 : Int) (w : World) (h : quant_Parse.f k a0 = some (r1, r2)) :
    Calls Try.prog 9 #[.string a0] w fun e w' => e = .returned (.tuple #[.int .i64 r1, .int .i64 r2]) ∧ Below w.heap.size w w' := by
  have HB := Aside0.mk (Below.refl w.heap.size w)
  have H : ((quant_amount.f k a0 1000000).bind fun bt115 => (some (bt115.1, bt115.2))) = some (r1, r2) := h
  clear h
  replace H := Option.bind_eq_some_iff.mp H
  obtain ⟨⟨t115, t116⟩, A20, H⟩ := H
  replace H : (some (t115, t116)) = some (r1, r2) := H
  have A2 := Aside0.mk A20
  clear A20
  simp only [Option.some.injEq, Prod.mk.injEq] at H
  obtain ⟨rfl, rfl⟩ := H
  go_enter Try.func9, Try.ntmps9
  go_wp2_with (first | ((first | ((with_reducible refine gate_callee (f := 20) rfl ?_); refine goesL_ (some 5) rfl rfl Try.func20 (by kernel_rfl) rfl #[.string a0, .int .i64 1000000] rfl (by (try simp only [List.map_toArray, List.map_cons, List.map_nil]); first | done | rfl | (simp only [List.length_drop, List.length_take]; rfl)) ?_; (with_reducible refine (quant_amount.calls k a0 1000000 t115 t116 _ A2.out).mono ?_); rintro e w3 ⟨rfl, hb⟩; refine ⟨_, rfl, ?_⟩) | (go_at_call 20; (with_reducible refine (quant_amount.calls k a0 1000000 t115 t116 _ A2.out).mono ?_); rintro e w3 ⟨rfl, hb⟩)); have n0_ := Aside0.mk (below_step (by repeat (first | (with_reducible first | exact HB.out | apply below_alloc | apply pw_below_drewN | apply below_drew1) | exact HB.out)) hb); clear HB; have HB := n0_; clear n0_; (try clear hb); (try clear hb2); (try clear hk); (try clear hi)))
  go_ret2
  exact ⟨by first | rfl | (simp [errW_none, errW_some] <;> rfl) | (simp [*, errW_none, errW_some] <;> rfl), by repeat (first | (with_reducible first | exact HB.out | apply below_alloc | apply pw_below_drewN | apply below_drew1) | exact HB.out)⟩
end Go.Proofs.Ytpmmiabcfnejmaa.H
end
section
namespace Go.Proofs.Ytpmmiabcfnejmaa.H
open Go.RowKit Go.Proofs.YtpmmiabcfnejmaaW.PrintWords Go.Proofs.YtpmmiabcfnejmaaW.PrintLast Go.Proofs.YtpmmiabcfnejmaaW.PrintMore
attribute [local go_sem] max2_int min2_int max_two min_two max_three min_three max_four min_four   -- for this text's walks alone
set_option linter.unusedVariables false
set_option linter.unusedSimpArgs false
def quant_Milli.f (k : Nat) (a0 : ByteArray) : Option (Int × Int) := (quant_amount.f k a0 1000).bind fun bt117 => (some (bt117.1, bt117.2))
theorem quant_Milli.mono : ∀ a0 k, LeO (quant_Milli.f k a0) (quant_Milli.f (k + 1) a0) := by
  intro a0 k
  unfold quant_Milli.f
  repeat' first
      | (with_reducible exact quant_amount.mono _ _ _)
      | (with_reducible exact LeO.refl _)
      | (with_reducible exact LeO.none _)
      | (with_reducible refine LeO.ite ?_ ?_)
      | (with_reducible refine LeO.bind ?_ (fun _ => ?_))
      | exact quant_amount.mono _ _ _
      | exact LeO.none _
      | refine LeO.ite ?_ ?_
      | refine LeO.bind ?_ (fun _ => ?_)
set_option maxHeartbeats 8000000 in
set_option maxRecDepth 100000 in
theorem quant_Milli.calls (k : Nat) (a0 : ByteArray) (r1 : Int) (r2 : Int) (w : World) (h : quant_Milli.f k a0 = some (r1, r2)) :
    Calls Try.prog 11 #[.string a0] w fun e w' => e = .returned (.tuple #[.int .i64 r1, .int .i64 r2]) ∧ Below w.heap.size w w' := by
  have HB := Aside0.mk (Below.refl w.heap.size w)
  have H : ((quant_amount.f k a0 1000).bind fun bt117 => (some (bt117.1, bt117.2))) = some (r1, r2) := h
  clear h
  replace H := Option.bind_eq_some_iff.mp H
  obtain ⟨⟨t117, t118⟩, A20, H⟩ := H
  replace H : (some (t117, t118)) = some (r1, r2) := H
  have A2 := Aside0.mk A20
  clear A20
  simp only [Option.some.injEq, Prod.mk.injEq] at H
  obtain ⟨rfl, rfl⟩ := H
  go_enter Try.func11, Try.ntmps11
  go_wp2_with (first | ((first | ((with_reducible refine gate_callee (f := 20) rfl ?_); refine goesL_ (some 5) rfl rfl Try.func20 (by kernel_rfl) rfl #[.string a0, .int .i64 1000] rfl (by (try simp only [List.map_toArray, List.map_cons, List.map_nil]); first | done | rfl | (simp only [List.length_drop, List.length_take]; rfl)) ?_; (with_reducible refine (quant_amount.calls k a0 1000 t117 t118 _ A2.out).mono ?_); rintro e w3 ⟨rfl, hb⟩; refine ⟨_, rfl, ?_⟩) | (go_at_call 20; (with_reducible refine (quant_amount.calls k a0 1000 t117 t118 _ A2.out).mono ?_); rintro e w3 ⟨rfl, hb⟩)); have n0_ := Aside0.mk (below_step (by repeat (first | (with_reducible first | exact HB.out | apply below_alloc | apply pw_below_drewN | apply below_drew1) | exact HB.out)) hb); clear HB; have HB := n0_; clear n0_; (try clear hb); (try clear hb2); (try clear hk); (try clear hi)))
  go_ret2
  exact ⟨by first | rfl | (simp [errW_none, errW_some] <;> rfl) | (simp [*, errW_none, errW_some] <;> rfl), by repeat (first | (with_reducible first | exact HB.out | apply below_alloc | apply pw_below_drewN | apply below_drew1) | exact HB.out)⟩
end Go.Proofs.Ytpmmiabcfnejmaa.H
end
section
namespace Go.Proofs.Ytpmmiabcfnejmaa.H
open Go.RowKit Go.Proofs.YtpmmiabcfnejmaaW.PrintWords Go.Proofs.YtpmmiabcfnejmaaW.PrintLast Go.Proofs.YtpmmiabcfnejmaaW.PrintMore
attribute [local go_sem] max2_int min2_int max_two min_two max_three min_three max_four min_four   -- for this text's walks alone
set_option linter.unusedVariables false
set_option linter.unusedSimpArgs false
def quant_Number.j0 : Nat → ByteArray → Bool → Option (Int × Int)
  | 0, _, _ => none
  | k + 1, x0, x14 => if x14 = true then (some (0, 8)) else ((quant_value.f k x0 1125899906842624).bind fun bt120 => (if bt120.2 = true then (some (bt120.1, 0)) else (some (0, 10))))
def quant_Number.f (k : Nat) (a0 : ByteArray) : Option (Int × Int) := if a0.toList = ([] : List UInt8) then (quant_Number.j0 k a0 true) else ((quant_head.f k a0).bind fun t119 => (quant_Number.j0 k a0 (t119 != (a0.size : Int))))
theorem quant_Number.mono_l : ∀ k, (∀ y0 y1, LeO (quant_Number.j0 k y0 y1) (quant_Number.j0 (k + 1) y0 y1))
  | 0 => fun _ _ r h => by simp [quant_Number.j0] at h
  | k + 1 => by
    have ih0 := quant_Number.mono_l k
    · intro y0 y1
      unfold quant_Number.j0
      repeat' first
      | (with_reducible exact ih0 _ _)
      | (with_reducible exact quant_head.mono _ _)
      | (with_reducible exact quant_value.mono _ _ _)
      | (with_reducible exact LeO.refl _)
      | (with_reducible exact LeO.none _)
      | (with_reducible refine LeO.ite ?_ ?_)
      | (with_reducible refine LeO.bind ?_ (fun _ => ?_))
      | exact ih0 _ _
      | exact quant_head.mono _ _
      | exact quant_value.mono _ _ _
      | exact LeO.none _
      | refine LeO.ite ?_ ?_
      | refine LeO.bind ?_ (fun _ => ?_)
theorem quant_Number.mono : ∀ a0 k, LeO (quant_Number.f k a0) (quant_Number.f (k + 1) a0) := by
  intro a0 k
  have ih0 := quant_Number.mono_l k
  unfold quant_Number.f
  repeat' first
      | (with_reducible exact ih0 _ _)
      | (with_reducible exact quant_head.mono _ _)
      | (with_reducible exact quant_value.mono _ _ _)
      | (with_reducible exact LeO.refl _)
      | (with_reducible exact LeO.none _)
      | (with_reducible refine LeO.ite ?_ ?_)
      | (with_reducible refine LeO.bind ?_ (fun _ => ?_))
      | exact ih0 _ _
      | exact quant_head.mono _ _
      | exact quant_value.mono _ _ _
      | exact LeO.none _
      | refine LeO.ite ?_ ?_
      | refine LeO.bind ?_ (fun _ => ?_)
set_option maxHeartbeats 8000000 in
set_option maxRecDepth 100000 in
theorem quant_Number.calls (k : Nat) (a0 : ByteArray) (r1 : Int) (r2 : Int) (w : World) (h : quant_Number.f k a0 = some (r1, r2)) :
    Calls Try.prog 13 #[.string a0] w fun e w' => e = .returned (.tuple #[.int .i64 r1, .int .i64 r2]) ∧ Drawn0 w w' := by
  have H : (if a0.toList = ([] : List UInt8) then (quant_Number.j0 k a0 true) else ((quant_head.f k a0).bind fun t119 => (quant_Number.j0 k a0 (t119 != (a0.size : Int))))) = some (r1, r2) := h
  clear h
  have HC2 := Aside0.mk H
  clear H
  go_enter Try.func13, Try.ntmps13
  go_upto_region 1 with (fail)
  go_cut [14] (fun v14 wc => ∃ (kq : Nat) (x14_1 : Bool), v14 = .bool x14_1 ∧ Aside0 (quant_Number.j0 kq a0 x14_1 = some (r1, r2)) ∧ Aside0 (kq ≤ k) ∧ Drawn0 w wc)
  case first =>
    have H := HC2.out
    clear HC2
    by_cases c3 : a0.toList = ([] : List UInt8)
    · rw [if_pos c3] at H
      have c3b0 : (a0.toList == ([] : List UInt8)) = true := beq_iff_eq.mpr c3
      have c3b1 : (a0.toList != ([] : List UInt8)) = false := bne_eq_false_iff_eq.mpr c3
      clear c3
      (first | rw [c3b0] | (simp only [i64_w, i32_w]; rw [c3b0]) | skip)
      have H' := Aside0.mk H
      clear H
      go_wp2
      go_meet
      case rel => exact ⟨_, (true), (by first | rfl | (simp; done) | (simp [*]; done)), H', ⟨by first | omega | exact Nat.le_refl _⟩, by repeat (first | exact Drawn0.refl _ | apply Drawn0.step)⟩
    · rw [if_neg c3] at H
      have c3b0 : (a0.toList == ([] : List UInt8)) = false := beq_eq_false_iff_ne.mpr c3
      have c3b1 : (a0.toList != ([] : List UInt8)) = true := bne_iff_ne.mpr c3
      (first | rw [c3b0] | (simp only [i64_w, i32_w]; rw [c3b0]) | skip)
      replace H := Option.bind_eq_some_iff.mp H
      obtain ⟨t119, A40, H⟩ := H
      replace H : (quant_Number.j0 k a0 (t119 != (a0.size : Int))) = some (r1, r2) := H
      have A4 := Aside0.mk A40
      clear A40
      have H' := Aside0.mk H
      clear H
      go_wp2_with (first | (go_at_call 22; (with_reducible refine (quant_head.calls k a0 t119 _ A4.out).mono ?_); rintro e w' ⟨rfl, ⟨nd, rfl⟩⟩))
      go_meet
      case rel => exact ⟨_, ((t119 != (a0.size : Int))), (by first | rfl | (simp; done) | (simp [*]; done)), H', ⟨by first | omega | exact Nat.le_refl _⟩, by repeat (first | exact Drawn0.refl _ | apply Drawn0.step)⟩
  case rest =>
    clear HC2
    try clear c1
    try clear p2
    try clear c3
    try clear c3b0
    try clear c3b1
    obtain ⟨kq, x14_1, rfl, HA, HJ1, ⟨mc1, rfl⟩⟩ := hcut
    cases kq with
    | zero => exact absurd HA.out (by simp [quant_Number.j0])
    | succ kj1 =>
      have H := HA.out
      clear HA
      simp only [quant_Number.j0] at H
      by_cases c5 : x14_1 = true
      · subst c5
        have H1 : (some (0, 8)) = some (r1, r2) := by rw [if_pos rfl] at H; exact H
        clear H
        have H := H1
        clear H1
        simp only [Option.some.injEq, Prod.mk.injEq] at H
        obtain ⟨rfl, rfl⟩ := H
        go_wp2
        go_ret2
        exact ⟨by first | rfl | (simp; done) | (simp [*]; done), by repeat (first | exact Drawn0.refl _ | apply Drawn0.step)⟩
      · replace c5 := Bool.eq_false_iff.mpr c5
        subst c5
        have H1 : ((quant_value.f kj1 a0 1125899906842624).bind fun bt120 => (if bt120.2 = true then (some (bt120.1, 0)) else (some (0, 10)))) = some (r1, r2) := by rw [if_neg (show ¬ (false = true) by decide)] at H; exact H
        clear H
        have H := H1
        clear H1
        replace H := Option.bind_eq_some_iff.mp H
        obtain ⟨⟨t120, t121⟩, A60, H⟩ := H
        replace H : (if t121 = true then (some (t120, 0)) else (some (0, 10))) = some (r1, r2) := H
        have A6 := Aside0.mk A60
        clear A60
        by_cases c7 : t121 = true
        · subst c7
          have H1 : (some (t120, 0)) = some (r1, r2) := by rw [if_pos rfl] at H; exact H
          clear H
          have H := H1
          clear H1
          simp only [Option.some.injEq, Prod.mk.injEq] at H
          obtain ⟨rfl, rfl⟩ := H
          go_wp2_with (first | ((first | ((with_reducible refine gate_callee (f := 23) rfl ?_); refine goesL_ (some 17) rfl rfl Try.func23 (by kernel_rfl) rfl #[.string a0, .int .i64 1125899906842624] rfl (by (try simp only [List.map_toArray, List.map_cons, List.map_nil]); first | done | rfl | (simp only [List.length_drop, List.length_take]; rfl)) ?_; (with_reducible refine (quant_value.calls kj1 a0 1125899906842624 t120 true _ A6.out).mono ?_); rintro e w' ⟨rfl, ⟨nd, rfl⟩⟩; refine ⟨_, rfl, ?_⟩) | (go_at_call 23; (with_reducible refine (quant_value.calls kj1 a0 1125899906842624 t120 true _ A6.out).mono ?_); rintro e w' ⟨rfl, ⟨nd, rfl⟩⟩))))
          go_ret2
          exact ⟨by first | rfl | (simp; done) | (simp [*]; done), by repeat (first | exact Drawn0.refl _ | apply Drawn0.step)⟩
        · replace c7 := Bool.eq_false_iff.mpr c7
          subst c7
          have H1 : (some (0, 10)) = some (r1, r2) := by rw [if_neg (show ¬ (false = true) by decide)] at H; exact H
          clear H
          have H := H1
          clear H1
          simp only [Option.some.injEq, Prod.mk.injEq] at H
          obtain ⟨rfl, rfl⟩ := H
          go_wp2_with (first | ((first | ((with_reducible refine gate_callee (f := 23) rfl ?_); refine goesL_ (some 17) rfl rfl Try.func23 (by kernel_rfl) rfl #[.string a0, .int .i64 1125899906842624] rfl (by (try simp only [List.map_toArray, List.map_cons, List.map_nil]); first | done | rfl | (simp only [List.length_drop, List.length_take]; rfl)) ?_; (with_reducible refine (quant_value.calls kj1 a0 1125899906842624 t120 false _ A6.out).mono ?_); rintro e w' ⟨rfl, ⟨nd, rfl⟩⟩; refine ⟨_, rfl, ?_⟩) | (go_at_call 23; (with_reducible refine (quant_value.calls kj1 a0 1125899906842624 t120 false _ A6.out).mono ?_); rintro e w' ⟨rfl, ⟨nd, rfl⟩⟩))))
          go_ret2
          exact ⟨by first | rfl | (simp; done) | (simp [*]; done), by repeat (first | exact Drawn0.refl _ | apply Drawn0.step)⟩
end Go.Proofs.Ytpmmiabcfnejmaa.H
end
section
namespace Go.Proofs.Ytpmmiabcfnejmaa.H
open Go.RowKit Go.Proofs.YtpmmiabcfnejmaaW.PrintWords Go.Proofs.YtpmmiabcfnejmaaW.PrintLast Go.Proofs.YtpmmiabcfnejmaaW.PrintMore
attribute [local go_sem] max2_int min2_int max_two min_two max_three min_three max_four min_four   -- for this text's walks alone
set_option linter.unusedVariables false
set_option linter.unusedSimpArgs false
def decGo : Nat → Nat → List Int → List Int
  | 0, _, acc => acc
  | f + 1, n, acc => if n < 10 then (48 + (n : Int)) :: acc else decGo f (n / 10) ((48 + ((n % 10 : Nat) : Int)) :: acc)
def decB (n : Int) : ByteArray := strOfNums (decGo 20 n.toNat [])
def quant_digits.f (a0 : Int) : Option ByteArray := if 0 ≤ a0 ∧ a0 < 9223372036854775808 then some (decB a0) else none
theorem dig_sliceAt (g : Nat) (i : Int) (h1 : 1 ≤ i) (h2 : i ≤ 20) (W : World) : (Instr.sliceAt 48 (.pointer (some ⟨g, 0, none⟩)) (some (.int .i64 (i - 1))) none none).run Try.prog W = .ok (.slice (some ⟨g, i.toNat - 1, none⟩) (21 - i.toNat) (21 - i.toNat)) W := by
  have ha : Try.prog.arrayLen 48 = 20 := by kernel_rfl
  have ht : Try.prog.underlying 48 = some (.array (Try.prog.arrayLen 48) (Try.prog.elem 48)) := by kernel_rfl
  have hs : (sizeOf (Try.prog.elem 48)).run Try.prog W = .ok 1 W := by kernel_rfl
  rw [run_sliceAt_array_l W 48 ⟨g, 0, none⟩ ht .i64 (i - 1) (by omega) (by rw [ha]; omega), hs]
  simp only [Result.andThen, slicedAt, ha]
  have e : (i - 1).toNat = i.toNat - 1 := by omega
  rw [e, if_neg (by omega), Nat.mul_one, add_plain]
  have e2 : 20 - (i.toNat - 1) = 21 - i.toNat := by omega
  rw [e2]
theorem dig_conv (g : Nat) (i n : Nat) (xs : List Int) (hl : xs.length = n) (W : World) (hc : ∀ j, j < n → W.cell? ⟨g, i + j, none⟩ = some (.int .u8 (xs.getD j 0))) : (convert 39 9 (.slice (some ⟨g, i, none⟩) n n)).run Try.prog W = .ok (.string (strOfNums xs)) W :=
  run_convert_bytes_arg W 39 5 Try.underlying39 Try.underlying5 g i n n xs hl hc 9 Try.underlying9
theorem dig_step (f m : Nat) (acc : List Int) (hf : 1 ≤ f) : ∃ f', f = f' + 1 ∧ decGo f m acc = if m < 10 then (48 + (m : Int)) :: acc else decGo f' (m / 10) ((48 + ((m % 10 : Nat) : Int)) :: acc) := by
  obtain ⟨f', rfl⟩ : ∃ f', f = f' + 1 := ⟨f - 1, by omega⟩
  exact ⟨f', rfl, rfl⟩
theorem dig_cells {arr : Array Value} {i : Nat} {acc : List Int} {v : Int} (hs : arr.size = 20) (hi : 1 ≤ i) (hl : i + acc.length = 20) (ha : ∀ j, j < acc.length → arr[i + j]? = some (.int .u8 (acc.getD j 0))) :
    ∀ j, j < (v :: acc).length → (arr.setIfInBounds (i - 1) (.int .u8 v))[i - 1 + j]? = some (.int .u8 ((v :: acc).getD j 0)) := by
  intro j hj
  rcases Nat.eq_zero_or_pos j with rfl | h
  · rw [Nat.add_zero, Array.getElem?_setIfInBounds_self_of_lt (by omega)]
    rfl
  · obtain ⟨k, rfl⟩ : ∃ k, j = k + 1 := ⟨j - 1, by omega⟩
    rw [Array.getElem?_setIfInBounds_ne (by omega)]
    have := ha k (by simp at hj; omega)
    rw [show i - 1 + (k + 1) = i + k by omega, this]
    rfl
set_option maxHeartbeats 8000000 in
set_option maxRecDepth 100000 in
theorem quant_digits.calls (a0 : Int) (r : ByteArray) (w : World) (h : quant_digits.f a0 = some r) :
    Calls Try.prog 26 #[.int .i64 a0] w fun e w' => e = .returned (.string r) ∧ Below w.heap.size w w' := by
  have hc : 0 ≤ a0 ∧ a0 < 9223372036854775808 := by
    unfold quant_digits.f at h
    split at h
    · assumption
    · cases h
  unfold quant_digits.f at h
  rw [if_pos hc] at h
  obtain rfl := Option.some.inj h
  clear h
  obtain ⟨m0, rfl⟩ : ∃ m0 : Nat, a0 = m0 := ⟨a0.toNat, by omega⟩
  have hR := Aside0.mk (show decB (m0 : Int) = strOfNums (decGo 20 m0 []) from rfl)
  generalize decB (m0 : Int) = R at *
  go_enter Try.func26, Try.ntmps26
  go_wp2
  go_loopw [0, 4] (fun v p w' => ∃ (m f : Nat) (i : Int) (acc : List Int) (arr : Array Value), v = .int .i64 m ∧ p = .int .i64 i ∧ Aside0 (w'.heap[w.heap.size]? = some (.cells arr 48 (0, 0))) ∧ Aside0 (arr.size = 20) ∧ Aside0 (∀ j, j < acc.length → arr[i.toNat + j]? = some (.int .u8 (acc.getD j 0))) ∧ Aside0 (Below w.heap.size w w') ∧ Aside0 (decGo f m acc = decGo 20 m0 []) ∧ Aside0 (m < 10 ^ f) ∧ i + acc.length = 20 ∧ 1 ≤ f ∧ f + acc.length = 20 ∧ m ≤ m0) (fun v p w' => (intOf p).toNat)
  case atStart =>
    exact ⟨m0, 20, 20, [], _, rfl, rfl, ⟨heap_alloc_new w _⟩, ⟨by simp⟩, ⟨fun j hj => by cases hj⟩, ⟨(Below.refl _ _).alloc (Nat.le_refl _) _⟩, ⟨rfl⟩, ⟨by omega⟩, by simp, by omega, by simp, by omega⟩
  case round =>
    obtain ⟨m, f, i, acc, arr, rfl, rfl, HG, HS, HA, HB, HE, HM, hi, hf, hfa, hm0⟩ := hrel
    have h1 : 1 ≤ i := by omega
    have h2 : i ≤ 20 := by omega
    obtain ⟨old, hold⟩ : ∃ old, wr.cell? ⟨w.heap.size, i.toNat - 1, none⟩ = some old := by
      rw [blk_cell HG.out]
      exact ⟨_, Array.getElem?_eq_getElem (by have := HS.out; omega)⟩
    have hfz : wr.frozen? ⟨w.heap.size, i.toNat - 1, none⟩ = false := blk_frozen HG.out _
    have hsl := dig_sliceAt w.heap.size i h1 h2
    obtain ⟨f', rfl, hst⟩ := dig_step f m acc hf
    have HQ := Aside0.mk (HE.out.symm.trans hst)
    clear hst HE
    have HC := Aside0.mk (dig_cells (v := 48 + (m : Int) % 10) HS.out (i := i.toNat) (by omega) (by omega) HA.out)
    have HG' := Aside0.mk (blk_set HG.out (i.toNat - 1) (.int .u8 (48 + (m : Int) % 10)))
    have HB' := Aside0.mk (below_set (j := i.toNat - 1) (v := .int .u8 (48 + (m : Int) % 10)) HB.out (Nat.le_refl _))
    by_cases hm : m < 10
    · have hq : ((m : Int) / 10 == 0) = true := by simp; omega
      have hcv := dig_conv w.heap.size (i.toNat - 1) (21 - i.toNat) ((48 + (m : Int) % 10) :: acc) (by simp; omega) (wr.setCell ⟨w.heap.size, i.toNat - 1, none⟩ (.int .u8 (48 + (m : Int) % 10))) (fun j hj => by
        rw [blk_cell HG'.out]
        exact HC.out j (by simp; omega))
      go_wp2
      go_ret
      have e := HQ.out
      rw [if_pos hm] at e
      have e2 : (m : Int) % 10 = m := by omega
      rw [← e2] at e
      exact ⟨by rw [hR.out, e]; first | rfl | (simp; done) | (simp [e2]; done), HB'.out⟩
    · have hq : ((m : Int) / 10 == 0) = false := by simp; omega
      go_wp2
      go_roundw
      case rel =>
        have e := HQ.out
        rw [if_neg hm] at e
        have hM : m / 10 < 10 ^ f' := by
          have h3 := HM.out
          rw [Nat.pow_succ] at h3
          omega
        have hf1 : 1 ≤ f' := by
          rcases Nat.eq_zero_or_pos f' with h4 | h4
          · subst h4
            rw [Nat.pow_zero] at hM
            omega
          · exact h4
        refine ⟨m / 10, f', i - 1, (48 + (m : Int) % 10) :: acc, _, rfl, rfl, HG', ⟨by rw [Array.size_setIfInBounds]; exact HS.out⟩, ⟨?_⟩, HB', ⟨by rw [e]; rfl⟩, ⟨hM⟩, by simp; omega, hf1, by simp; omega, by omega⟩
        rw [show (i - 1).toNat = i.toNat - 1 by omega]
        exact HC.out
      case measure => simp [intOf]; omega
end Go.Proofs.Ytpmmiabcfnejmaa.H
end
section
namespace Go.Proofs.Ytpmmiabcfnejmaa.H
open Go.RowKit Go.Proofs.YtpmmiabcfnejmaaW.PrintWords Go.Proofs.YtpmmiabcfnejmaaW.PrintLast Go.Proofs.YtpmmiabcfnejmaaW.PrintMore
attribute [local go_sem] max2_int min2_int max_two min_two max_three min_three max_four min_four   -- for this text's walks alone
set_option linter.unusedVariables false
set_option linter.unusedSimpArgs false
/-- The worlds that stand behind w, what w had being as it was. -/
def BW (w : World) : Type := { W : World // Below w.heap.size w W }
instance bwNonempty (w : World) : Nonempty (BW w) := ⟨⟨w, Below.refl _ _⟩⟩
theorem BW.cell {w : World} (q : BW w) {a : Addr} {v : Value} (h : w.cell? a = some v) : q.1.cell? a = some v := pw_cell_below q.2 h
theorem wp_region_bw {P : Program} {id : Nat} {Q : Exit → Act → World → Prop} {a : Act} {w : World} {l : List Oper} (hm : P.follows .mixedOrders = true) (hB : Region.lexB .any l.toArray = true)
    (h : wpQuiet P l.toArray (fun W => ∃ q : BW w, W = q.1) (fun a' => ∀ q : BW w, Q .normal a' q.1) l a) : (Code.region id l.toArray true).wp P Q a w :=
  wp_region_quiet (C := fun W => ∃ q : BW w, W = q.1) hm hB ⟨⟨_, pw_below_drewN (Below.refl _ _) 1⟩, rfl⟩ (by
    have e : (fun a' : Act => ∀ w', (∃ q : BW w, w' = q.1) → Q .normal a' w') = (fun a' => ∀ q : BW w, Q .normal a' q.1) := by
      funext a'
      exact propext ⟨fun hh q => hh _ ⟨q, rfl⟩, fun hh w' ⟨q, hq⟩ => hq ▸ hh q⟩
    rw [e]
    simpa using h)
theorem Calls.bw {P : Program} {f : FuncId} {args : Array Value} {w : World} {q : BW w} {v : Value}
    (h : Calls P f args q.1 fun e w' => e = .returned v ∧ Below q.1.heap.size q.1 w') : Calls P f args q.1 fun e w'' => e = .returned v ∧ ∃ q' : BW w, w'' = q'.1 :=
  h.mono fun _ w' ⟨he, hb⟩ => ⟨he, ⟨w', below_then q.2 q.2.size hb⟩, rfl⟩
end Go.Proofs.Ytpmmiabcfnejmaa.H
end
section
namespace Go.Proofs.Ytpmmiabcfnejmaa.H
open Go.RowKit Go.Proofs.YtpmmiabcfnejmaaW.PrintWords Go.Proofs.YtpmmiabcfnejmaaW.PrintLast Go.Proofs.YtpmmiabcfnejmaaW.PrintMore
attribute [local go_sem] max2_int min2_int max_two min_two max_three min_three max_four min_four   -- for this text's walks alone
set_option linter.unusedVariables false
set_option linter.unusedSimpArgs false
section
variable {P : Program} (W : World)
theorem tx_lo (t : TypeId) (h : P.underlying t = some .string) (s : ByteArray) (i : Int) (h0 : 0 ≤ i) (h1 : i ≤ s.size) :
    (Instr.slice t (.string s) (some (.int .i64 i)) none none).run P W = .ok (.string (s.extract i.toNat s.size)) W := by
  have hi : 0 ≤ i ∧ i ≤ (s.size : Int) := ⟨h0, h1⟩
  simp [Instr.slice, Instr.sliceBounds, Instr.sliceBound, asIntOf, run_underlying h, hi]
  try (intro hc; omega)
theorem tx_hi (t : TypeId) (h : P.underlying t = some .string) (s : ByteArray) (j : Int) (h0 : 0 ≤ j) (h1 : j ≤ s.size) :
    (Instr.slice t (.string s) none (some (.int .i64 j)) none).run P W = .ok (.string (s.extract 0 j.toNat)) W := by
  have hi : 0 ≤ j ∧ j ≤ (s.size : Int) := ⟨h0, h1⟩
  simp [Instr.slice, Instr.sliceBounds, Instr.sliceBound, asIntOf, run_underlying h, hi]
  try (intro hc; omega)
theorem tx_at (t : TypeId) (h : P.underlying t = some .string) (s : ByteArray) (i : Int) (h0 : 0 ≤ i) (h1 : i < s.size) :
    (Instr.index t (.string s) (.int .i64 i)).run P W = .ok (.int .u8 (bt s i)) W := by
  rw [run_index_string W t s .i64 i h, dif_pos ⟨h0, h1⟩]
  rw [← bt_at s i (by omega)]
theorem tx_cat (x y : ByteArray) (h : x.size + y.size ≤ 9223372036854775807) :
    (Op.stringOp .add x y).run P W = .ok (.string (x ++ y)) W := run_string_add_sum W x y h
end
end Go.Proofs.Ytpmmiabcfnejmaa.H
end
section
namespace Go.Proofs.Ytpmmiabcfnejmaa.H
open Go.RowKit Go.Proofs.YtpmmiabcfnejmaaW.PrintWords Go.Proofs.YtpmmiabcfnejmaaW.PrintLast Go.Proofs.YtpmmiabcfnejmaaW.PrintMore
attribute [local go_sem] max2_int min2_int max_two min_two max_three min_three max_four min_four   -- for this text's walks alone
set_option linter.unusedVariables false
set_option linter.unusedSimpArgs false
def showGo : Nat → Nat → Nat → Nat × Nat
  | 0, n, k => (n, k)
  | d + 1, n, k => if 0 < n ∧ n % 1024 = 0 then showGo d (n / 1024) (k + 1) else (n, k)
def showName (k : Nat) : ByteArray := [⟨#[]⟩, ⟨#[75, 105]⟩, ⟨#[77, 105]⟩, ⟨#[71, 105]⟩, ⟨#[84, 105]⟩].getD k ⟨#[]⟩
def showB (n : Nat) : ByteArray := decB ((showGo 4 n 0).1 : Int) ++ showName (showGo 4 n 0).2
def quant_Show.f (a0 : Int) : Option ByteArray := some (if a0 < 0 ∨ 1125899906842624 < a0 then ⟨#[]⟩ else showB a0.toNat)
def showArr : Array Value := #[.string ⟨#[]⟩, .string ⟨#[75, 105]⟩, .string ⟨#[77, 105]⟩, .string ⟨#[71, 105]⟩, .string ⟨#[84, 105]⟩]
theorem decGo_len : ∀ f n acc, (decGo f n acc).length ≤ f + acc.length
  | 0, _, acc => by simp [decGo]
  | f + 1, n, acc => by
    unfold decGo
    split
    · simp; omega
    · have := decGo_len f (n / 10) ((48 + ((n % 10 : Nat) : Int)) :: acc)
      simp at this ⊢
      omega
theorem decB_size (n : Int) : (decB n).size ≤ 20 := by
  unfold decB strOfNums
  have := decGo_len 20 n.toNat []
  simpa [ByteArray.size] using this
theorem showName_size (k : Nat) : (showName k).size ≤ 2 := by
  match k with
  | 0 | 1 | 2 | 3 | 4 => decide
  | k + 5 => exact Nat.zero_le _
theorem showArr_at (k : Nat) (h : k < 5) : showArr[k]? = some (.string (showName k)) := by
  match k, h with
  | 0, _ | 1, _ | 2, _ | 3, _ | 4, _ => rfl
set_option maxHeartbeats 8000000 in
set_option maxRecDepth 100000 in
theorem quant_Show.calls (a0 : Int) (r : ByteArray) (w : World) (h : quant_Show.f a0 = some r) :
    Calls Try.prog 15 #[.int .i64 a0] w fun e w' => e = .returned (.string r) ∧ Below w.heap.size w w' := by
  unfold quant_Show.f at h
  obtain rfl := Option.some.inj h
  clear h
  by_cases h0 : a0 < 0
  · have d0 : decide (a0 < 0) = true := decide_eq_true h0
    rw [if_pos (.inl h0)]
    clear h0
    go_enter Try.func15, Try.ntmps15
    go_wp2
    go_ret
    exact ⟨by first | rfl | (simp; done) | (simp [*]; done), by repeat (first | exact Below.refl _ _ | apply pw_below_drewN)⟩
  · have d0 : decide (a0 < 0) = false := decide_eq_false h0
    by_cases h1 : 1125899906842624 < a0
    · have d1 : decide (1125899906842624 < a0) = true := decide_eq_true h1
      rw [if_pos (.inr h1)]
      clear h0 h1
      go_enter Try.func15, Try.ntmps15
      go_wp2
      go_ret
      exact ⟨by first | rfl | (simp; done) | (simp [*]; done), by repeat (first | exact Below.refl _ _ | apply pw_below_drewN)⟩
    · have d1 : decide (1125899906842624 < a0) = false := decide_eq_false h1
      rw [if_neg (by omega)]
      obtain ⟨m0, rfl⟩ : ∃ m0 : Nat, a0 = m0 := ⟨a0.toNat, by omega⟩
      rw [show ((m0 : Int)).toNat = m0 from rfl]
      have hm0 : m0 ≤ 1125899906842624 := by omega
      clear h0 h1
      have HR := Aside0.mk (show showB m0 = decB ((showGo 4 m0 0).1 : Int) ++ showName (showGo 4 m0 0).2 from rfl)
      generalize showB m0 = R at *
      go_enter Try.func15, Try.ntmps15
      go_wp2
      go_loopw [0, 4] (fun v p w' => ∃ (n k d : Nat), v = .int .i64 n ∧ p = .int .i64 k ∧ k + d = 4 ∧ Aside0 (showGo d n k = showGo 4 m0 0) ∧ n ≤ m0 ∧ Aside0 (w'.heap[w.heap.size]? = some (.cells showArr 37 (0, 0))) ∧ Aside0 (Below w.heap.size w w')) (fun v p w' => 4 - (intOf p).toNat)
      case atStart =>
        exact ⟨m0, 0, 4, rfl, rfl, rfl, ⟨rfl⟩, Nat.le_refl _, ⟨heap_alloc_new w _⟩, ⟨(Below.refl _ _).alloc (Nat.le_refl _) _⟩⟩
      case round =>
        obtain ⟨n, k, d, rfl, rfl, hkd, HS, hn, HG, HB⟩ := hrel
        have hq := fun q : BW wr => q.cell ((blk_cell HG.out k).trans (showArr_at k (by omega)))
        have hcat := fun W => tx_cat (P := Try.prog) W (decB (n : Int)) (showName k) (by have := decB_size n; have := showName_size k; omega)
        have HF := Aside0.mk (show quant_digits.f (n : Int) = some (decB n) by unfold quant_digits.f; rw [if_pos (by omega)])
        by_cases hc : 0 < n ∧ n % 1024 = 0
        · have e1 : decide ((0 : Int) < (n : Int)) = true := decide_eq_true (by omega)
          have e2 : decide (0 < n) = true := decide_eq_true hc.1
          have e3 : ((n : Int) % 1024 == 0) = true := by simp; omega
          cases d with
          | zero =>
            have e4 : decide ((k : Int) < 4) = false := decide_eq_false (by omega)
            have e5 : decide (k < 4) = false := decide_eq_false (by omega)
            have HE := Aside0.mk (show (n, k) = showGo 4 m0 0 from HS.out)
            have hR : R = decB (n : Int) ++ showName k := by rw [HR.out, ← HE.out]
            simp only [← hR] at hcat
            go_wp2
            (try simp only [Act.put])
            refine wp_region_bw (by kernel_rfl) (by kernel_rfl) ?_
            repeat (go_big_quiet_step (first | (go_at_call 26; exact Calls.bw (quant_digits.calls (n : Int) (decB n) _ HF.out))))
            refine wpQuiet_nil ?_
            intro q
            go_wp2
            go_ret
            exact ⟨by first | rfl | (simp; done) | (simp [*]; done), below_then HB.out HB.out.size q.2⟩
          | succ d =>
            have e4 : decide ((k : Int) < 4) = true := decide_eq_true (by omega)
            have e5 : decide (k < 4) = true := decide_eq_true (by omega)
            have HE := HS.out
            unfold showGo at HE
            rw [if_pos hc] at HE
            replace HE := Aside0.mk HE
            clear hq hcat
            go_wp2
            go_roundw
            case rel => exact ⟨n / 1024, k + 1, d, by simp, by simp, by omega, HE, by omega, HG, HB⟩
            case measure => simp [intOf]; omega
        · have HE := Aside0.mk (show (n, k) = showGo 4 m0 0 by
            rw [← HS.out]
            cases d with
            | zero => rfl
            | succ d =>
              unfold showGo
              rw [if_neg hc])
          by_cases h0 : 0 < n
          · have e1 : decide ((0 : Int) < (n : Int)) = true := decide_eq_true (by omega)
            have e2 : decide (0 < n) = true := decide_eq_true h0
            have e3 : ((n : Int) % 1024 == 0) = false := by simp; omega
            have hR : R = decB (n : Int) ++ showName k := by rw [HR.out, ← HE.out]
            simp only [← hR] at hcat
            go_wp2
            (try simp only [Act.put])
            refine wp_region_bw (by kernel_rfl) (by kernel_rfl) ?_
            repeat (go_big_quiet_step (first | (go_at_call 26; exact Calls.bw (quant_digits.calls (n : Int) (decB n) _ HF.out))))
            refine wpQuiet_nil ?_
            intro q
            go_wp2
            go_ret
            exact ⟨by first | rfl | (simp; done) | (simp [*]; done), below_then HB.out HB.out.size q.2⟩
          · have e1 : decide ((0 : Int) < (n : Int)) = false := decide_eq_false (by omega)
            have e2 : decide (0 < n) = false := decide_eq_false h0
            have hR : R = decB (n : Int) ++ showName k := by rw [HR.out, ← HE.out]
            simp only [← hR] at hcat
            go_wp2
            (try simp only [Act.put])
            refine wp_region_bw (by kernel_rfl) (by kernel_rfl) ?_
            repeat (go_big_quiet_step (first | (go_at_call 26; exact Calls.bw (quant_digits.calls (n : Int) (decB n) _ HF.out))))
            refine wpQuiet_nil ?_
            intro q
            go_wp2
            go_ret
            exact ⟨by first | rfl | (simp; done) | (simp [*]; done), below_then HB.out HB.out.size q.2⟩
end Go.Proofs.Ytpmmiabcfnejmaa.H
end
section
namespace Go.Proofs.Ytpmmiabcfnejmaa.H
open Go.RowKit Go.Proofs.YtpmmiabcfnejmaaW.PrintWords Go.Proofs.YtpmmiabcfnejmaaW.PrintLast Go.Proofs.YtpmmiabcfnejmaaW.PrintMore
attribute [local go_sem] max2_int min2_int max_two min_two max_three min_three max_four min_four   -- for this text's walks alone
set_option linter.unusedVariables false
set_option linter.unusedSimpArgs false
def quant_ShowMilli.j0 : Nat → Int → Bool → Option (ByteArray)
  | 0, _, _ => none
  | k + 1, x0, x3 => if x3 = true then (some (⟨#[]⟩ : ByteArray)) else (if (Int.tmod x0 1000) = 0 then ((quant_digits.f (wrap64 (Int.tdiv x0 1000))).bind fun t122 => (some t122)) else ((quant_digits.f x0).bind fun t123 => (if t123.size + 1 ≤ 9223372036854775807 then (some (t123 ++ (⟨#[109]⟩ : ByteArray))) else (none))))
def quant_ShowMilli.f (k : Nat) (a0 : Int) : Option (ByteArray) := if a0 < 0 then (quant_ShowMilli.j0 k a0 true) else (quant_ShowMilli.j0 k a0 (decide (a0 > 1125899906842624)))
theorem quant_ShowMilli.mono_l : ∀ k, (∀ y0 y1, LeO (quant_ShowMilli.j0 k y0 y1) (quant_ShowMilli.j0 (k + 1) y0 y1))
  | 0 => fun _ _ r h => by simp [quant_ShowMilli.j0] at h
  | k + 1 => by
    have ih0 := quant_ShowMilli.mono_l k
    · intro y0 y1
      unfold quant_ShowMilli.j0
      repeat' first
      | (with_reducible exact ih0 _ _)
      | (with_reducible exact LeO.refl _)
      | (with_reducible exact LeO.none _)
      | (with_reducible refine LeO.ite ?_ ?_)
      | (with_reducible refine LeO.bind ?_ (fun _ => ?_))
      | exact ih0 _ _
      | exact LeO.none _
      | refine LeO.ite ?_ ?_
      | refine LeO.bind ?_ (fun _ => ?_)
theorem quant_ShowMilli.mono : ∀ a0 k, LeO (quant_ShowMilli.f k a0) (quant_ShowMilli.f (k + 1) a0) := by
  intro a0 k
  have ih0 := quant_ShowMilli.mono_l k
  unfold quant_ShowMilli.f
  repeat' first
      | (with_reducible exact ih0 _ _)
      | (with_reducible exact LeO.refl _)
      | (with_reducible exact LeO.none _)
      | (with_reducible refine LeO.ite ?_ ?_)
      | (with_reducible refine LeO.bind ?_ (fun _ => ?_))
      | exact ih0 _ _
      | exact LeO.none _
      | refine LeO.ite ?_ ?_
      | refine LeO.bind ?_ (fun _ => ?_)
set_option maxHeartbeats 8000000 in
set_option maxRecDepth 100000 in
theorem quant_ShowMilli.calls (k : Nat) (a0 : Int) (r : ByteArray) (w : World) (h : quant_ShowMilli.f k a0 = some r) :
    Calls Try.prog 17 #[.int .i64 a0] w fun e w' => e = .returned (.string r) ∧ Below w.heap.size w w' := by
  have HB := Aside0.mk (Below.refl w.heap.size w)
  have H : (if a0 < 0 then (quant_ShowMilli.j0 k a0 true) else (quant_ShowMilli.j0 k a0 (decide (a0 > 1125899906842624)))) = some r := h
  clear h
  have HC2 := Aside0.mk H
  clear H
  go_enter Try.func17, Try.ntmps17
  go_upto_region 1 with (fail)
  go_cut [3] (fun v3 wc => ∃ (kq : Nat) (x3_1 : Bool), v3 = .bool x3_1 ∧ Aside0 (quant_ShowMilli.j0 kq a0 x3_1 = some r) ∧ Aside0 (kq ≤ k) ∧ Aside0 (Below w.heap.size w wc))
  case first =>
    have H := HC2.out
    clear HC2
    by_cases c3 : a0 < 0
    · rw [if_pos c3] at H
      have c3b0 : decide (a0 < 0) = true := decide_eq_true c3
      clear c3
      (first | rw [c3b0] | (simp only [i64_w, i32_w]; rw [c3b0]) | skip)
      have H' := Aside0.mk H
      clear H
      go_wp2
      go_meet
      case rel => exact ⟨_, (true), (by first | rfl | (simp; done) | (simp [*]; done)), H', ⟨by first | omega | exact Nat.le_refl _⟩, ⟨by repeat (first | (with_reducible first | exact HB.out | apply below_alloc | apply pw_below_drewN | apply below_drew1) | exact HB.out)⟩⟩
    · rw [if_neg c3] at H
      have c3b0 : decide (a0 < 0) = false := decide_eq_false c3
      clear c3
      (first | rw [c3b0] | (simp only [i64_w, i32_w]; rw [c3b0]) | skip)
      have H' := Aside0.mk H
      clear H
      go_wp2
      go_meet
      case rel => exact ⟨_, (decide (a0 > 1125899906842624)), (by first | rfl | (simp; done) | (simp [*]; done)), H', ⟨by first | omega | exact Nat.le_refl _⟩, ⟨by repeat (first | (with_reducible first | exact HB.out | apply below_alloc | apply pw_below_drewN | apply below_drew1) | exact HB.out)⟩⟩
  case rest =>
    clear HC2
    try clear c1
    try clear p2
    try clear c3
    try clear c3b0
    obtain ⟨kq, x3_1, rfl, HA, HJ1, HB⟩ := hcut
    cases kq with
    | zero => exact absurd HA.out (by simp [quant_ShowMilli.j0])
    | succ kj1 =>
      have H := HA.out
      clear HA
      simp only [quant_ShowMilli.j0] at H
      by_cases c4 : x3_1 = true
      · subst c4
        have H1 : (some (⟨#[]⟩ : ByteArray)) = some r := by rw [if_pos rfl] at H; exact H
        clear H
        have H := H1
        clear H1
        obtain rfl := Option.some.inj H
        go_wp2
        go_ret
        exact ⟨by first | rfl | (simp [errW_none, errW_some] <;> rfl) | (simp [*, errW_none, errW_some] <;> rfl), by repeat (first | (with_reducible first | exact HB.out | apply below_alloc | apply pw_below_drewN | apply below_drew1) | exact HB.out)⟩
      · replace c4 := Bool.eq_false_iff.mpr c4
        subst c4
        have H1 : (if (Int.tmod a0 1000) = 0 then ((quant_digits.f (wrap64 (Int.tdiv a0 1000))).bind fun t122 => (some t122)) else ((quant_digits.f a0).bind fun t123 => (if t123.size + 1 ≤ 9223372036854775807 then (some (t123 ++ (⟨#[109]⟩ : ByteArray))) else (none)))) = some r := by rw [if_neg (show ¬ (false = true) by decide)] at H; exact H
        clear H
        have H := H1
        clear H1
        by_cases c5 : (Int.tmod a0 1000) = 0
        · rw [if_pos c5] at H
          have c5b0 : ((Int.tmod a0 1000) == 0) = true := beq_iff_eq.mpr c5
          have c5b1 : ((Int.tmod a0 1000) != 0) = false := bne_eq_false_iff_eq.mpr c5
          clear c5
          replace H := Option.bind_eq_some_iff.mp H
          obtain ⟨t122, A60, H⟩ := H
          replace H : (some t122) = some r := H
          have A6 := Aside0.mk A60
          clear A60
          obtain rfl := Option.some.inj H
          go_wp2_with (first | ((first | ((with_reducible refine gate_callee (f := 26) rfl ?_); refine goesL_ (some 16) rfl rfl Try.func26 (by kernel_rfl) rfl #[.int .i64 (wrap64 (Int.tdiv a0 1000))] rfl (by (try simp only [List.map_toArray, List.map_cons, List.map_nil]); first | done | rfl | (simp only [List.length_drop, List.length_take]; rfl)) ?_; (with_reducible refine (quant_digits.calls (wrap64 (Int.tdiv a0 1000)) t122 _ A6.out).mono ?_); rintro e w7 ⟨rfl, hb⟩; refine ⟨_, rfl, ?_⟩) | (go_at_call 26; (with_reducible refine (quant_digits.calls (wrap64 (Int.tdiv a0 1000)) t122 _ A6.out).mono ?_); rintro e w7 ⟨rfl, hb⟩)); have n0_ := Aside0.mk (below_step (by repeat (first | (with_reducible first | exact HB.out | apply below_alloc | apply pw_below_drewN | apply below_drew1) | exact HB.out)) hb); clear HB; have HB := n0_; clear n0_; (try clear hb); (try clear hb2); (try clear hk); (try clear hi)))
          go_ret
          exact ⟨by first | rfl | (simp [errW_none, errW_some] <;> rfl) | (simp [*, errW_none, errW_some] <;> rfl), by repeat (first | (with_reducible first | exact HB.out | apply below_alloc | apply pw_below_drewN | apply below_drew1) | exact HB.out)⟩
        · rw [if_neg c5] at H
          have c5b0 : ((Int.tmod a0 1000) == 0) = false := beq_eq_false_iff_ne.mpr c5
          have c5b1 : ((Int.tmod a0 1000) != 0) = true := bne_iff_ne.mpr c5
          replace H := Option.bind_eq_some_iff.mp H
          obtain ⟨t123, A80, H⟩ := H
          replace H : (if t123.size + 1 ≤ 9223372036854775807 then (some (t123 ++ (⟨#[109]⟩ : ByteArray))) else (none)) = some r := H
          have A8 := Aside0.mk A80
          clear A80
          by_cases c9 : t123.size + 1 ≤ 9223372036854775807
          · rw [if_pos c9] at H
            have c9b0 := eq_true c9
            (try (have c9z := c9b0; rw [ByteArray.size_extract, Nat.min_self] at c9z))
            have c9b1 : decide (t123.size + 1 ≤ 9223372036854775807) = true := decide_eq_true c9
            try have c9b2 : (9223372036854775807 < t123.size + 1) = False := eq_false (Nat.not_lt.2 c9)
            obtain rfl := Option.some.inj H
            go_wp2_with (first | ((first | ((with_reducible refine gate_callee (f := 26) rfl ?_); refine goesL_ (some 18) rfl rfl Try.func26 (by kernel_rfl) rfl #[.int .i64 a0] rfl (by (try simp only [List.map_toArray, List.map_cons, List.map_nil]); first | done | rfl | (simp only [List.length_drop, List.length_take]; rfl)) ?_; (with_reducible refine (quant_digits.calls a0 t123 _ A8.out).mono ?_); rintro e w10 ⟨rfl, hb⟩; refine ⟨_, rfl, ?_⟩) | (go_at_call 26; (with_reducible refine (quant_digits.calls a0 t123 _ A8.out).mono ?_); rintro e w10 ⟨rfl, hb⟩)); have n0_ := Aside0.mk (below_step (by repeat (first | (with_reducible first | exact HB.out | apply below_alloc | apply pw_below_drewN | apply below_drew1) | exact HB.out)) hb); clear HB; have HB := n0_; clear n0_; (try clear hb); (try clear hb2); (try clear hk); (try clear hi)))
            go_ret
            exact ⟨by first | rfl | (simp [errW_none, errW_some] <;> rfl) | (simp [*, errW_none, errW_some] <;> rfl), by repeat (first | (with_reducible first | exact HB.out | apply below_alloc | apply pw_below_drewN | apply below_drew1) | exact HB.out)⟩
          · rw [if_neg c9] at H
            exact absurd H (by simp)
end Go.Proofs.Ytpmmiabcfnejmaa.H
end
section
namespace Go.Proofs.Ytpmmiabcfnejmaa.H
open Go.RowKit Go.Proofs.YtpmmiabcfnejmaaW.PrintWords Go.Proofs.YtpmmiabcfnejmaaW.PrintLast Go.Proofs.YtpmmiabcfnejmaaW.PrintMore
attribute [local go_sem] max2_int min2_int max_two min_two max_three min_three max_four min_four   -- for this text's walks alone
set_option linter.unusedVariables false
set_option linter.unusedSimpArgs false
def triremelaw03_known.f (k : Nat)  : Option (Bool) := (quant_Parse.f k (⟨#[49, 46, 53, 75, 105]⟩ : ByteArray)).bind fun bt124 => ((quant_Parse.f k (⟨#[49, 109]⟩ : ByteArray)).bind fun bt126 => ((quant_Milli.f k (⟨#[50, 53, 48, 109]⟩ : ByteArray)).bind fun bt128 => ((quant_Milli.f k (⟨#[48, 46, 53]⟩ : ByteArray)).bind fun bt130 => ((quant_Parse.f k (⟨#[57, 120]⟩ : ByteArray)).bind fun bt132 => ((quant_Parse.f k (⟨#[49, 48, 50, 53, 84]⟩ : ByteArray)).bind fun bt134 => ((quant_Number.f k (⟨#[49, 55]⟩ : ByteArray)).bind fun bt136 => (if bt124.1 = 1536 then (if bt124.2 = 0 then (if bt126.2 = 8 then (if bt128.1 = 250 then (if bt128.2 = 0 then (if bt130.1 = 500 then (if bt130.2 = 0 then (if bt132.2 = 9 then (if bt134.2 = 0 then (if bt136.1 = 17 then (if bt136.2 = 0 then ((quant_Show.f 2048).bind fun t138 => (if t138.toList = ([50, 75, 105] : List UInt8) then ((quant_Show.f 1536).bind fun t139 => (if t139.toList = ([49, 53, 51, 54] : List UInt8) then ((quant_ShowMilli.f k 1500).bind fun t140 => (if t140.toList = ([49, 53, 48, 48, 109] : List UInt8) then ((quant_ShowMilli.f k 3000).bind fun t141 => (some (t141.toList == ([51] : List UInt8)))) else (none))) else (none))) else (none))) else (none)) else (none)) else (none)) else (none)) else (none)) else (none)) else (none)) else (none)) else (none)) else (none)) else (none))))))))
theorem triremelaw03_known.mono : ∀ k, LeO (triremelaw03_known.f k ) (triremelaw03_known.f (k + 1) ) := by
  intro  k
  unfold triremelaw03_known.f
  repeat' first
      | (with_reducible exact quant_Milli.mono _ _)
      | (with_reducible exact quant_Number.mono _ _)
      | (with_reducible exact quant_Parse.mono _ _)
      | (with_reducible exact quant_ShowMilli.mono _ _)
      | (with_reducible exact LeO.refl _)
      | (with_reducible exact LeO.none _)
      | (with_reducible refine LeO.ite ?_ ?_)
      | (with_reducible refine LeO.bind ?_ (fun _ => ?_))
      | exact quant_Milli.mono _ _
      | exact quant_Number.mono _ _
      | exact quant_Parse.mono _ _
      | exact quant_ShowMilli.mono _ _
      | exact LeO.none _
      | refine LeO.ite ?_ ?_
      | refine LeO.bind ?_ (fun _ => ?_)
set_option maxHeartbeats 8000000 in
set_option maxRecDepth 100000 in
theorem triremelaw03_known.calls (k : Nat)  (r : Bool) (w : World) (h : triremelaw03_known.f k  = some r) :
    Calls Try.prog 8 #[] w fun e w' => e = .returned (.bool r) ∧ Below w.heap.size w w' := by
  have HB := Aside0.mk (Below.refl w.heap.size w)
  have H : ((quant_Parse.f k (⟨#[49, 46, 53, 75, 105]⟩ : ByteArray)).bind fun bt124 => ((quant_Parse.f k (⟨#[49, 109]⟩ : ByteArray)).bind fun bt126 => ((quant_Milli.f k (⟨#[50, 53, 48, 109]⟩ : ByteArray)).bind fun bt128 => ((quant_Milli.f k (⟨#[48, 46, 53]⟩ : ByteArray)).bind fun bt130 => ((quant_Parse.f k (⟨#[57, 120]⟩ : ByteArray)).bind fun bt132 => ((quant_Parse.f k (⟨#[49, 48, 50, 53, 84]⟩ : ByteArray)).bind fun bt134 => ((quant_Number.f k (⟨#[49, 55]⟩ : ByteArray)).bind fun bt136 => (if bt124.1 = 1536 then (if bt124.2 = 0 then (if bt126.2 = 8 then (if bt128.1 = 250 then (if bt128.2 = 0 then (if bt130.1 = 500 then (if bt130.2 = 0 then (if bt132.2 = 9 then (if bt134.2 = 0 then (if bt136.1 = 17 then (if bt136.2 = 0 then ((quant_Show.f 2048).bind fun t138 => (if t138.toList = ([50, 75, 105] : List UInt8) then ((quant_Show.f 1536).bind fun t139 => (if t139.toList = ([49, 53, 51, 54] : List UInt8) then ((quant_ShowMilli.f k 1500).bind fun t140 => (if t140.toList = ([49, 53, 48, 48, 109] : List UInt8) then ((quant_ShowMilli.f k 3000).bind fun t141 => (some (t141.toList == ([51] : List UInt8)))) else (none))) else (none))) else (none))) else (none)) else (none)) else (none)) else (none)) else (none)) else (none)) else (none)) else (none)) else (none)) else (none)) else (none))))))))) = some r := h
  clear h
  replace H := Option.bind_eq_some_iff.mp H
  obtain ⟨⟨t124, t125⟩, A10, H⟩ := H
  replace H : ((quant_Parse.f k (⟨#[49, 109]⟩ : ByteArray)).bind fun bt126 => ((quant_Milli.f k (⟨#[50, 53, 48, 109]⟩ : ByteArray)).bind fun bt128 => ((quant_Milli.f k (⟨#[48, 46, 53]⟩ : ByteArray)).bind fun bt130 => ((quant_Parse.f k (⟨#[57, 120]⟩ : ByteArray)).bind fun bt132 => ((quant_Parse.f k (⟨#[49, 48, 50, 53, 84]⟩ : ByteArray)).bind fun bt134 => ((quant_Number.f k (⟨#[49, 55]⟩ : ByteArray)).bind fun bt136 => (if t124 = 1536 then (if t125 = 0 then (if bt126.2 = 8 then (if bt128.1 = 250 then (if bt128.2 = 0 then (if bt130.1 = 500 then (if bt130.2 = 0 then (if bt132.2 = 9 then (if bt134.2 = 0 then (if bt136.1 = 17 then (if bt136.2 = 0 then ((quant_Show.f 2048).bind fun t138 => (if t138.toList = ([50, 75, 105] : List UInt8) then ((quant_Show.f 1536).bind fun t139 => (if t139.toList = ([49, 53, 51, 54] : List UInt8) then ((quant_ShowMilli.f k 1500).bind fun t140 => (if t140.toList = ([49, 53, 48, 48, 109] : List UInt8) then ((quant_ShowMilli.f k 3000).bind fun t141 => (some (t141.toList == ([51] : List UInt8)))) else (none))) else (none))) else (none))) else (none)) else (none)) else (none)) else (none)) else (none)) else (none)) else (none)) else (none)) else (none)) else (none)) else (none)))))))) = some r := H
  have A1 := Aside0.mk A10
  clear A10
  replace H := Option.bind_eq_some_iff.mp H
  obtain ⟨⟨t126, t127⟩, A20, H⟩ := H
  replace H : ((quant_Milli.f k (⟨#[50, 53, 48, 109]⟩ : ByteArray)).bind fun bt128 => ((quant_Milli.f k (⟨#[48, 46, 53]⟩ : ByteArray)).bind fun bt130 => ((quant_Parse.f k (⟨#[57, 120]⟩ : ByteArray)).bind fun bt132 => ((quant_Parse.f k (⟨#[49, 48, 50, 53, 84]⟩ : ByteArray)).bind fun bt134 => ((quant_Number.f k (⟨#[49, 55]⟩ : ByteArray)).bind fun bt136 => (if t124 = 1536 then (if t125 = 0 then (if t127 = 8 then (if bt128.1 = 250 then (if bt128.2 = 0 then (if bt130.1 = 500 then (if bt130.2 = 0 then (if bt132.2 = 9 then (if bt134.2 = 0 then (if bt136.1 = 17 then (if bt136.2 = 0 then ((quant_Show.f 2048).bind fun t138 => (if t138.toList = ([50, 75, 105] : List UInt8) then ((quant_Show.f 1536).bind fun t139 => (if t139.toList = ([49, 53, 51, 54] : List UInt8) then ((quant_ShowMilli.f k 1500).bind fun t140 => (if t140.toList = ([49, 53, 48, 48, 109] : List UInt8) then ((quant_ShowMilli.f k 3000).bind fun t141 => (some (t141.toList == ([51] : List UInt8)))) else (none))) else (none))) else (none))) else (none)) else (none)) else (none)) else (none)) else (none)) else (none)) else (none)) else (none)) else (none)) else (none)) else (none))))))) = some r := H
  have A2 := Aside0.mk A20
  clear A20
  replace H := Option.bind_eq_some_iff.mp H
  obtain ⟨⟨t128, t129⟩, A30, H⟩ := H
  replace H : ((quant_Milli.f k (⟨#[48, 46, 53]⟩ : ByteArray)).bind fun bt130 => ((quant_Parse.f k (⟨#[57, 120]⟩ : ByteArray)).bind fun bt132 => ((quant_Parse.f k (⟨#[49, 48, 50, 53, 84]⟩ : ByteArray)).bind fun bt134 => ((quant_Number.f k (⟨#[49, 55]⟩ : ByteArray)).bind fun bt136 => (if t124 = 1536 then (if t125 = 0 then (if t127 = 8 then (if t128 = 250 then (if t129 = 0 then (if bt130.1 = 500 then (if bt130.2 = 0 then (if bt132.2 = 9 then (if bt134.2 = 0 then (if bt136.1 = 17 then (if bt136.2 = 0 then ((quant_Show.f 2048).bind fun t138 => (if t138.toList = ([50, 75, 105] : List UInt8) then ((quant_Show.f 1536).bind fun t139 => (if t139.toList = ([49, 53, 51, 54] : List UInt8) then ((quant_ShowMilli.f k 1500).bind fun t140 => (if t140.toList = ([49, 53, 48, 48, 109] : List UInt8) then ((quant_ShowMilli.f k 3000).bind fun t141 => (some (t141.toList == ([51] : List UInt8)))) else (none))) else (none))) else (none))) else (none)) else (none)) else (none)) else (none)) else (none)) else (none)) else (none)) else (none)) else (none)) else (none)) else (none)))))) = some r := H
  have A3 := Aside0.mk A30
  clear A30
  replace H := Option.bind_eq_some_iff.mp H
  obtain ⟨⟨t130, t131⟩, A40, H⟩ := H
  replace H : ((quant_Parse.f k (⟨#[57, 120]⟩ : ByteArray)).bind fun bt132 => ((quant_Parse.f k (⟨#[49, 48, 50, 53, 84]⟩ : ByteArray)).bind fun bt134 => ((quant_Number.f k (⟨#[49, 55]⟩ : ByteArray)).bind fun bt136 => (if t124 = 1536 then (if t125 = 0 then (if t127 = 8 then (if t128 = 250 then (if t129 = 0 then (if t130 = 500 then (if t131 = 0 then (if bt132.2 = 9 then (if bt134.2 = 0 then (if bt136.1 = 17 then (if bt136.2 = 0 then ((quant_Show.f 2048).bind fun t138 => (if t138.toList = ([50, 75, 105] : List UInt8) then ((quant_Show.f 1536).bind fun t139 => (if t139.toList = ([49, 53, 51, 54] : List UInt8) then ((quant_ShowMilli.f k 1500).bind fun t140 => (if t140.toList = ([49, 53, 48, 48, 109] : List UInt8) then ((quant_ShowMilli.f k 3000).bind fun t141 => (some (t141.toList == ([51] : List UInt8)))) else (none))) else (none))) else (none))) else (none)) else (none)) else (none)) else (none)) else (none)) else (none)) else (none)) else (none)) else (none)) else (none)) else (none))))) = some r := H
  have A4 := Aside0.mk A40
  clear A40
  replace H := Option.bind_eq_some_iff.mp H
  obtain ⟨⟨t132, t133⟩, A50, H⟩ := H
  replace H : ((quant_Parse.f k (⟨#[49, 48, 50, 53, 84]⟩ : ByteArray)).bind fun bt134 => ((quant_Number.f k (⟨#[49, 55]⟩ : ByteArray)).bind fun bt136 => (if t124 = 1536 then (if t125 = 0 then (if t127 = 8 then (if t128 = 250 then (if t129 = 0 then (if t130 = 500 then (if t131 = 0 then (if t133 = 9 then (if bt134.2 = 0 then (if bt136.1 = 17 then (if bt136.2 = 0 then ((quant_Show.f 2048).bind fun t138 => (if t138.toList = ([50, 75, 105] : List UInt8) then ((quant_Show.f 1536).bind fun t139 => (if t139.toList = ([49, 53, 51, 54] : List UInt8) then ((quant_ShowMilli.f k 1500).bind fun t140 => (if t140.toList = ([49, 53, 48, 48, 109] : List UInt8) then ((quant_ShowMilli.f k 3000).bind fun t141 => (some (t141.toList == ([51] : List UInt8)))) else (none))) else (none))) else (none))) else (none)) else (none)) else (none)) else (none)) else (none)) else (none)) else (none)) else (none)) else (none)) else (none)) else (none)))) = some r := H
  have A5 := Aside0.mk A50
  clear A50
  replace H := Option.bind_eq_some_iff.mp H
  obtain ⟨⟨t134, t135⟩, A60, H⟩ := H
  replace H : ((quant_Number.f k (⟨#[49, 55]⟩ : ByteArray)).bind fun bt136 => (if t124 = 1536 then (if t125 = 0 then (if t127 = 8 then (if t128 = 250 then (if t129 = 0 then (if t130 = 500 then (if t131 = 0 then (if t133 = 9 then (if t135 = 0 then (if bt136.1 = 17 then (if bt136.2 = 0 then ((quant_Show.f 2048).bind fun t138 => (if t138.toList = ([50, 75, 105] : List UInt8) then ((quant_Show.f 1536).bind fun t139 => (if t139.toList = ([49, 53, 51, 54] : List UInt8) then ((quant_ShowMilli.f k 1500).bind fun t140 => (if t140.toList = ([49, 53, 48, 48, 109] : List UInt8) then ((quant_ShowMilli.f k 3000).bind fun t141 => (some (t141.toList == ([51] : List UInt8)))) else (none))) else (none))) else (none))) else (none)) else (none)) else (none)) else (none)) else (none)) else (none)) else (none)) else (none)) else (none)) else (none)) else (none))) = some r := H
  have A6 := Aside0.mk A60
  clear A60
  replace H := Option.bind_eq_some_iff.mp H
  obtain ⟨⟨t136, t137⟩, A70, H⟩ := H
  replace H : (if t124 = 1536 then (if t125 = 0 then (if t127 = 8 then (if t128 = 250 then (if t129 = 0 then (if t130 = 500 then (if t131 = 0 then (if t133 = 9 then (if t135 = 0 then (if t136 = 17 then (if t137 = 0 then ((quant_Show.f 2048).bind fun t138 => (if t138.toList = ([50, 75, 105] : List UInt8) then ((quant_Show.f 1536).bind fun t139 => (if t139.toList = ([49, 53, 51, 54] : List UInt8) then ((quant_ShowMilli.f k 1500).bind fun t140 => (if t140.toList = ([49, 53, 48, 48, 109] : List UInt8) then ((quant_ShowMilli.f k 3000).bind fun t141 => (some (t141.toList == ([51] : List UInt8)))) else (none))) else (none))) else (none))) else (none)) else (none)) else (none)) else (none)) else (none)) else (none)) else (none)) else (none)) else (none)) else (none)) else (none)) = some r := H
  have A7 := Aside0.mk A70
  clear A70
  by_cases c8 : t124 = 1536
  · rw [if_pos c8] at H
    have c8b0 : (t124 == 1536) = true := beq_iff_eq.mpr c8
    have c8b1 : (t124 != 1536) = false := bne_eq_false_iff_eq.mpr c8
    clear c8
    by_cases c9 : t125 = 0
    · rw [if_pos c9] at H
      have c9b0 : (t125 == 0) = true := beq_iff_eq.mpr c9
      have c9b1 : (t125 != 0) = false := bne_eq_false_iff_eq.mpr c9
      clear c9
      by_cases c10 : t127 = 8
      · rw [if_pos c10] at H
        have c10b0 : (t127 == 8) = true := beq_iff_eq.mpr c10
        have c10b1 : (t127 != 8) = false := bne_eq_false_iff_eq.mpr c10
        clear c10
        by_cases c11 : t128 = 250
        · rw [if_pos c11] at H
          have c11b0 : (t128 == 250) = true := beq_iff_eq.mpr c11
          have c11b1 : (t128 != 250) = false := bne_eq_false_iff_eq.mpr c11
          clear c11
          by_cases c12 : t129 = 0
          · rw [if_pos c12] at H
            have c12b0 : (t129 == 0) = true := beq_iff_eq.mpr c12
            have c12b1 : (t129 != 0) = false := bne_eq_false_iff_eq.mpr c12
            clear c12
            by_cases c13 : t130 = 500
            · rw [if_pos c13] at H
              have c13b0 : (t130 == 500) = true := beq_iff_eq.mpr c13
              have c13b1 : (t130 != 500) = false := bne_eq_false_iff_eq.mpr c13
              clear c13
              by_cases c14 : t131 = 0
              · rw [if_pos c14] at H
                have c14b0 : (t131 == 0) = true := beq_iff_eq.mpr c14
                have c14b1 : (t131 != 0) = false := bne_eq_false_iff_eq.mpr c14
                clear c14
                by_cases c15 : t133 = 9
                · rw [if_pos c15] at H
                  have c15b0 : (t133 == 9) = true := beq_iff_eq.mpr c15
                  have c15b1 : (t133 != 9) = false := bne_eq_false_iff_eq.mpr c15
                  clear c15
                  by_cases c16 : t135 = 0
                  · rw [if_pos c16] at H
                    have c16b0 : (t135 == 0) = true := beq_iff_eq.mpr c16
                    have c16b1 : (t135 != 0) = false := bne_eq_false_iff_eq.mpr c16
                    clear c16
                    by_cases c17 : t136 = 17
                    · rw [if_pos c17] at H
                      have c17b0 : (t136 == 17) = true := beq_iff_eq.mpr c17
                      have c17b1 : (t136 != 17) = false := bne_eq_false_iff_eq.mpr c17
                      clear c17
                      by_cases c18 : t137 = 0
                      · rw [if_pos c18] at H
                        have c18b0 : (t137 == 0) = true := beq_iff_eq.mpr c18
                        have c18b1 : (t137 != 0) = false := bne_eq_false_iff_eq.mpr c18
                        clear c18
                        replace H := Option.bind_eq_some_iff.mp H
                        obtain ⟨t138, A190, H⟩ := H
                        replace H : (if t138.toList = ([50, 75, 105] : List UInt8) then ((quant_Show.f 1536).bind fun t139 => (if t139.toList = ([49, 53, 51, 54] : List UInt8) then ((quant_ShowMilli.f k 1500).bind fun t140 => (if t140.toList = ([49, 53, 48, 48, 109] : List UInt8) then ((quant_ShowMilli.f k 3000).bind fun t141 => (some (t141.toList == ([51] : List UInt8)))) else (none))) else (none))) else (none)) = some r := H
                        have A19 := Aside0.mk A190
                        clear A190
                        by_cases c20 : t138.toList = ([50, 75, 105] : List UInt8)
                        · rw [if_pos c20] at H
                          have c20b0 : (t138.toList == ([50, 75, 105] : List UInt8)) = true := beq_iff_eq.mpr c20
                          have c20b1 : (t138.toList != ([50, 75, 105] : List UInt8)) = false := bne_eq_false_iff_eq.mpr c20
                          clear c20
                          replace H := Option.bind_eq_some_iff.mp H
                          obtain ⟨t139, A210, H⟩ := H
                          replace H : (if t139.toList = ([49, 53, 51, 54] : List UInt8) then ((quant_ShowMilli.f k 1500).bind fun t140 => (if t140.toList = ([49, 53, 48, 48, 109] : List UInt8) then ((quant_ShowMilli.f k 3000).bind fun t141 => (some (t141.toList == ([51] : List UInt8)))) else (none))) else (none)) = some r := H
                          have A21 := Aside0.mk A210
                          clear A210
                          by_cases c22 : t139.toList = ([49, 53, 51, 54] : List UInt8)
                          · rw [if_pos c22] at H
                            have c22b0 : (t139.toList == ([49, 53, 51, 54] : List UInt8)) = true := beq_iff_eq.mpr c22
                            have c22b1 : (t139.toList != ([49, 53, 51, 54] : List UInt8)) = false := bne_eq_false_iff_eq.mpr c22
                            clear c22
                            replace H := Option.bind_eq_some_iff.mp H
                            obtain ⟨t140, A230, H⟩ := H
                            replace H : (if t140.toList = ([49, 53, 48, 48, 109] : List UInt8) then ((quant_ShowMilli.f k 3000).bind fun t141 => (some (t141.toList == ([51] : List UInt8)))) else (none)) = some r := H
                            have A23 := Aside0.mk A230
                            clear A230
                            by_cases c24 : t140.toList = ([49, 53, 48, 48, 109] : List UInt8)
                            · rw [if_pos c24] at H
                              have c24b0 : (t140.toList == ([49, 53, 48, 48, 109] : List UInt8)) = true := beq_iff_eq.mpr c24
                              have c24b1 : (t140.toList != ([49, 53, 48, 48, 109] : List UInt8)) = false := bne_eq_false_iff_eq.mpr c24
                              clear c24
                              replace H := Option.bind_eq_some_iff.mp H
                              obtain ⟨t141, A250, H⟩ := H
                              replace H : (some (t141.toList == ([51] : List UInt8))) = some r := H
                              have A25 := Aside0.mk A250
                              clear A250
                              obtain rfl := Option.some.inj H
                              go_enter Try.func8, Try.ntmps8
                              go_wp2_with (first | ((first | ((with_reducible refine gate_callee (f := 9) rfl ?_); refine goesL_ (some 16) rfl rfl Try.func9 (by kernel_rfl) rfl #[.string (⟨#[49, 46, 53, 75, 105]⟩ : ByteArray)] rfl (by (try simp only [List.map_toArray, List.map_cons, List.map_nil]); first | done | rfl | (simp only [List.length_drop, List.length_take]; rfl)) ?_; (with_reducible refine (quant_Parse.calls k (⟨#[49, 46, 53, 75, 105]⟩ : ByteArray) t124 t125 _ A1.out).mono ?_); rintro e w26 ⟨rfl, hb⟩; refine ⟨_, rfl, ?_⟩) | (go_at_call 9; (with_reducible refine (quant_Parse.calls k (⟨#[49, 46, 53, 75, 105]⟩ : ByteArray) t124 t125 _ A1.out).mono ?_); rintro e w26 ⟨rfl, hb⟩)); have n0_ := Aside0.mk (below_step (by repeat (first | (with_reducible first | exact HB.out | apply below_alloc | apply pw_below_drewN | apply below_drew1) | exact HB.out)) hb); clear HB; have HB := n0_; clear n0_; (try clear hb); (try clear hb2); (try clear hk); (try clear hi)) | ((first | ((with_reducible refine gate_callee (f := 9) rfl ?_); refine goesL_ (some 20) rfl rfl Try.func9 (by kernel_rfl) rfl #[.string (⟨#[49, 109]⟩ : ByteArray)] rfl (by (try simp only [List.map_toArray, List.map_cons, List.map_nil]); first | done | rfl | (simp only [List.length_drop, List.length_take]; rfl)) ?_; (with_reducible refine (quant_Parse.calls k (⟨#[49, 109]⟩ : ByteArray) t126 t127 _ A2.out).mono ?_); rintro e w27 ⟨rfl, hb⟩; refine ⟨_, rfl, ?_⟩) | (go_at_call 9; (with_reducible refine (quant_Parse.calls k (⟨#[49, 109]⟩ : ByteArray) t126 t127 _ A2.out).mono ?_); rintro e w27 ⟨rfl, hb⟩)); have n0_ := Aside0.mk (below_step (by repeat (first | (with_reducible first | exact HB.out | apply below_alloc | apply pw_below_drewN | apply below_drew1) | exact HB.out)) hb); clear HB; have HB := n0_; clear n0_; (try clear hb); (try clear hb2); (try clear hk); (try clear hi)) | ((first | ((with_reducible refine gate_callee (f := 11) rfl ?_); refine goesL_ (some 24) rfl rfl Try.func11 (by kernel_rfl) rfl #[.string (⟨#[50, 53, 48, 109]⟩ : ByteArray)] rfl (by (try simp only [List.map_toArray, List.map_cons, List.map_nil]); first | done | rfl | (simp only [List.length_drop, List.length_take]; rfl)) ?_; (with_reducible refine (quant_Milli.calls k (⟨#[50, 53, 48, 109]⟩ : ByteArray) t128 t129 _ A3.out).mono ?_); rintro e w28 ⟨rfl, hb⟩; refine ⟨_, rfl, ?_⟩) | (go_at_call 11; (with_reducible refine (quant_Milli.calls k (⟨#[50, 53, 48, 109]⟩ : ByteArray) t128 t129 _ A3.out).mono ?_); rintro e w28 ⟨rfl, hb⟩)); have n0_ := Aside0.mk (below_step (by repeat (first | (with_reducible first | exact HB.out | apply below_alloc | apply pw_below_drewN | apply below_drew1) | exact HB.out)) hb); clear HB; have HB := n0_; clear n0_; (try clear hb); (try clear hb2); (try clear hk); (try clear hi)) | ((first | ((with_reducible refine gate_callee (f := 11) rfl ?_); refine goesL_ (some 28) rfl rfl Try.func11 (by kernel_rfl) rfl #[.string (⟨#[48, 46, 53]⟩ : ByteArray)] rfl (by (try simp only [List.map_toArray, List.map_cons, List.map_nil]); first | done | rfl | (simp only [List.length_drop, List.length_take]; rfl)) ?_; (with_reducible refine (quant_Milli.calls k (⟨#[48, 46, 53]⟩ : ByteArray) t130 t131 _ A4.out).mono ?_); rintro e w29 ⟨rfl, hb⟩; refine ⟨_, rfl, ?_⟩) | (go_at_call 11; (with_reducible refine (quant_Milli.calls k (⟨#[48, 46, 53]⟩ : ByteArray) t130 t131 _ A4.out).mono ?_); rintro e w29 ⟨rfl, hb⟩)); have n0_ := Aside0.mk (below_step (by repeat (first | (with_reducible first | exact HB.out | apply below_alloc | apply pw_below_drewN | apply below_drew1) | exact HB.out)) hb); clear HB; have HB := n0_; clear n0_; (try clear hb); (try clear hb2); (try clear hk); (try clear hi)) | ((first | ((with_reducible refine gate_callee (f := 9) rfl ?_); refine goesL_ (some 32) rfl rfl Try.func9 (by kernel_rfl) rfl #[.string (⟨#[57, 120]⟩ : ByteArray)] rfl (by (try simp only [List.map_toArray, List.map_cons, List.map_nil]); first | done | rfl | (simp only [List.length_drop, List.length_take]; rfl)) ?_; (with_reducible refine (quant_Parse.calls k (⟨#[57, 120]⟩ : ByteArray) t132 t133 _ A5.out).mono ?_); rintro e w30 ⟨rfl, hb⟩; refine ⟨_, rfl, ?_⟩) | (go_at_call 9; (with_reducible refine (quant_Parse.calls k (⟨#[57, 120]⟩ : ByteArray) t132 t133 _ A5.out).mono ?_); rintro e w30 ⟨rfl, hb⟩)); have n0_ := Aside0.mk (below_step (by repeat (first | (with_reducible first | exact HB.out | apply below_alloc | apply pw_below_drewN | apply below_drew1) | exact HB.out)) hb); clear HB; have HB := n0_; clear n0_; (try clear hb); (try clear hb2); (try clear hk); (try clear hi)) | ((first | ((with_reducible refine gate_callee (f := 9) rfl ?_); refine goesL_ (some 36) rfl rfl Try.func9 (by kernel_rfl) rfl #[.string (⟨#[49, 48, 50, 53, 84]⟩ : ByteArray)] rfl (by (try simp only [List.map_toArray, List.map_cons, List.map_nil]); first | done | rfl | (simp only [List.length_drop, List.length_take]; rfl)) ?_; (with_reducible refine (quant_Parse.calls k (⟨#[49, 48, 50, 53, 84]⟩ : ByteArray) t134 t135 _ A6.out).mono ?_); rintro e w31 ⟨rfl, hb⟩; refine ⟨_, rfl, ?_⟩) | (go_at_call 9; (with_reducible refine (quant_Parse.calls k (⟨#[49, 48, 50, 53, 84]⟩ : ByteArray) t134 t135 _ A6.out).mono ?_); rintro e w31 ⟨rfl, hb⟩)); have n0_ := Aside0.mk (below_step (by repeat (first | (with_reducible first | exact HB.out | apply below_alloc | apply pw_below_drewN | apply below_drew1) | exact HB.out)) hb); clear HB; have HB := n0_; clear n0_; (try clear hb); (try clear hb2); (try clear hk); (try clear hi)) | ((first | ((with_reducible refine gate_callee (f := 13) rfl ?_); refine goesL_ (some 40) rfl rfl Try.func13 (by kernel_rfl) rfl #[.string (⟨#[49, 55]⟩ : ByteArray)] rfl (by (try simp only [List.map_toArray, List.map_cons, List.map_nil]); first | done | rfl | (simp only [List.length_drop, List.length_take]; rfl)) ?_; (with_reducible refine (quant_Number.calls k (⟨#[49, 55]⟩ : ByteArray) t136 t137 _ A7.out).mono ?_); rintro e w' ⟨rfl, ⟨nd, rfl⟩⟩; refine ⟨_, rfl, ?_⟩) | (go_at_call 13; (with_reducible refine (quant_Number.calls k (⟨#[49, 55]⟩ : ByteArray) t136 t137 _ A7.out).mono ?_); rintro e w' ⟨rfl, ⟨nd, rfl⟩⟩))) | (go_at_call 15; (with_reducible refine (quant_Show.calls 2048 t138 _ A19.out).mono ?_); rintro e w32 ⟨rfl, hb⟩; have n0_ := Aside0.mk (below_step (by repeat (first | (with_reducible first | exact HB.out | apply below_alloc | apply pw_below_drewN | apply below_drew1) | exact HB.out)) hb); clear HB; have HB := n0_; clear n0_; (try clear hb); (try clear hb2); (try clear hk); (try clear hi)) | (go_at_call 15; (with_reducible refine (quant_Show.calls 1536 t139 _ A21.out).mono ?_); rintro e w33 ⟨rfl, hb⟩; have n0_ := Aside0.mk (below_step (by repeat (first | (with_reducible first | exact HB.out | apply below_alloc | apply pw_below_drewN | apply below_drew1) | exact HB.out)) hb); clear HB; have HB := n0_; clear n0_; (try clear hb); (try clear hb2); (try clear hk); (try clear hi)) | (go_at_call 17; (with_reducible refine (quant_ShowMilli.calls k 1500 t140 _ A23.out).mono ?_); rintro e w34 ⟨rfl, hb⟩; have n0_ := Aside0.mk (below_step (by repeat (first | (with_reducible first | exact HB.out | apply below_alloc | apply pw_below_drewN | apply below_drew1) | exact HB.out)) hb); clear HB; have HB := n0_; clear n0_; (try clear hb); (try clear hb2); (try clear hk); (try clear hi)) | (go_at_call 17; (with_reducible refine (quant_ShowMilli.calls k 3000 t141 _ A25.out).mono ?_); rintro e w35 ⟨rfl, hb⟩; have n0_ := Aside0.mk (below_step (by repeat (first | (with_reducible first | exact HB.out | apply below_alloc | apply pw_below_drewN | apply below_drew1) | exact HB.out)) hb); clear HB; have HB := n0_; clear n0_; (try clear hb); (try clear hb2); (try clear hk); (try clear hi)))
                              go_ret
                              exact ⟨by first | rfl | (simp [errW_none, errW_some] <;> rfl) | (simp [*, errW_none, errW_some] <;> rfl), by repeat (first | (with_reducible first | exact HB.out | apply below_alloc | apply pw_below_drewN | apply below_drew1) | exact HB.out)⟩
                            · rw [if_neg c24] at H
                              exact absurd H (by simp)
                          · rw [if_neg c22] at H
                            exact absurd H (by simp)
                        · rw [if_neg c20] at H
                          exact absurd H (by simp)
                      · rw [if_neg c18] at H
                        exact absurd H (by simp)
                    · rw [if_neg c17] at H
                      exact absurd H (by simp)
                  · rw [if_neg c16] at H
                    exact absurd H (by simp)
                · rw [if_neg c15] at H
                  exact absurd H (by simp)
              · rw [if_neg c14] at H
                exact absurd H (by simp)
            · rw [if_neg c13] at H
              exact absurd H (by simp)
          · rw [if_neg c12] at H
            exact absurd H (by simp)
        · rw [if_neg c11] at H
          exact absurd H (by simp)
      · rw [if_neg c10] at H
        exact absurd H (by simp)
    · rw [if_neg c9] at H
      exact absurd H (by simp)
  · rw [if_neg c8] at H
    exact absurd H (by simp)
end Go.Proofs.Ytpmmiabcfnejmaa.H
end
