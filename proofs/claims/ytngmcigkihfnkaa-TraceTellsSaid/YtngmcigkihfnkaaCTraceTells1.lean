import Derived.Deep.Slices
import Derived.SizedLaws
import Derived.Test.YtngmcigkihfnkaaProg
import Derived.Below
import Derived.Deep.Draws
import Derived.Deep.AppendLies
import Derived.Maps.AppendAt
import Derived.OwnWalk
import Derived.Laws.BytesArg
import Derived.Laws.MakeOwn
import Derived.Laws.OwnMore
import Derived.Deep.OwnRows
import Derived.Tactics
import Derived.Lib.ConvBytes
import Derived.Laws.Slices
import Derived.WalkKit
import Derived.KernelRfl
import Derived.RowKit3
import Derived.Deep.LoopGhost
import Derived.Deep.QuietTactic
import Derived.BigQuiet
import Derived.WideLaws
import Derived.Deep.DeepCutAuto
import Derived.Deep.CutBlock
import Derived.Deep.RegionHeld3
import Derived.Laws.Rows
import Derived.Lib.AppendStr
import Derived.ArgAppend
import Derived.Laws.IdiomCopy
import Derived.OrdersHeld
import Derived.Laws.BitsLemmas
import Derived.RowKit
import Derived.Laws.RangeAny
import Derived.Laws.Cover1
import Derived.Lib.OthersKept
import Derived.Maps.Own
import Derived.Maps.OwnOps
import Derived.Maps.OwnSet
import Derived.Test.YtngmcigkihfnkaaCTraceBase0
import Derived.Test.YtngmcigkihfnkaaCTraceBase1
import Derived.Test.YtngmcigkihfnkaaCTraceBase2
import Derived.Test.YtngmcigkihfnkaaCTraceBase3
import Derived.Test.YtngmcigkihfnkaaCTraceTells0
section
namespace Go.Proofs.Ytngmcigkihfnkaa.H
open Go.RowKit Go.Proofs.YtngmcigkihfnkaaW.PrintWords Go.Proofs.YtngmcigkihfnkaaW.PrintLast Go.Proofs.YtngmcigkihfnkaaW.PrintMore
attribute [local go_sem] max2_int min2_int max_two min_two max_three min_three max_four min_four   -- for this text's walks alone
set_option linter.unusedVariables false
set_option linter.unusedSimpArgs false
def triremelaw32_light.l0 : Nat → List (S39) → Int → Option (Bool)
  | 0, _, _ => none
  | k + 1, x0, x3 => if x3 < (x0.length : Int) then (if 0 ≤ x3 then (if (((rd_T39 x0 x3).f1).size : Int) > 100 then (some false) else (if (((rd_T39 x0 x3).f2).size : Int) > 300 then (some false) else (triremelaw32_light.l0 k x0 (wrap64 (x3 + 1))))) else (none)) else (some true)
def triremelaw32_light.f (k : Nat) (l0 : List (S39)) : Option (Bool) := if (l0.length : Int) > 60 then (some false) else (triremelaw32_light.l0 k l0 0)
set_option maxHeartbeats 8000000 in
set_option maxRecDepth 100000 in
theorem triremelaw32_light.calls (k : Nat) (A0 : Option Addr) (c0 : Nat) (l0 : List (S39)) (r : Bool) (w : World) (hr0 : Kd.C k39 w A0 l0.length l0) (hc0 : l0.length ≤ c0) (h : triremelaw32_light.f k l0 = some r) :
    Calls Try.prog 12 #[.slice A0 l0.length c0] w fun e w' => e = .returned (.bool r) ∧ Drawn0 w w' := by
  have HR0 := Aside0.mk hr0
  have HC0 := Aside0.mk hc0
  clear hr0 hc0
  have H : (if (l0.length : Int) > 60 then (some false) else (triremelaw32_light.l0 k l0 0)) = some r := h
  clear h
  by_cases c2 : (l0.length : Int) > 60
  · rw [if_pos c2] at H
    have c2b0 : decide (60 < (l0.length : Int)) = true := decide_eq_true c2
    have c2b1 : decide (60 < l0.length) = true := decide_eq_true (by omega)
    clear c2
    obtain rfl := Option.some.inj H
    go_enter Try.func12, Try.ntmps12
    go_wp2
    go_ret
    exact ⟨by first | rfl | (simp; done) | (simp [*]; done), by repeat (first | exact Drawn0.refl _ | apply Drawn0.step)⟩
  · rw [if_neg c2] at H
    have c2b0 : decide (60 < (l0.length : Int)) = false := decide_eq_false c2
    have c2b1 : decide (60 < l0.length) = false := decide_eq_false (by omega)
    clear c2
    have H' := Aside0.mk H
    clear H
    go_enter Try.func12, Try.ntmps12
    go_wp2
    go_loopg [3] k (fun kq v3 w' => ∃ (x3_1 : Int), v3 = .int .i64 x3_1 ∧ Aside0 (triremelaw32_light.l0 kq l0 x3_1 = some r) ∧ Aside0 (kq ≤ k) ∧ Drawn0 w w')
    case atStart => exact ⟨(0), (by first | rfl | (simp; done) | (simp [*]; done)), H', ⟨Nat.le_refl _⟩, by repeat (first | exact Drawn0.refl _ | apply Drawn0.step)⟩
    case round =>
      clear H'
      try clear c1
      try clear c2
      try clear c2b0
      try clear c2b1
      try clear p2
      obtain ⟨x3_1, rfl, HA, HK1, ⟨m1, rfl⟩⟩ := hrel
      cases gk with
      | zero => exact absurd HA.out (by simp [triremelaw32_light.l0])
      | succ k1 =>
        have H := HA.out
        clear HA
        simp only [triremelaw32_light.l0] at H
        by_cases c3 : x3_1 < (l0.length : Int)
        · rw [if_pos c3] at H
          have c3b0 : decide (x3_1 < (l0.length : Int)) = true := decide_eq_true c3
          clear c3
          by_cases c4 : 0 ≤ x3_1
          · rw [if_pos c4] at H
            have c4b0 : decide (0 ≤ x3_1) = true := decide_eq_true c4
            clear c4
            by_cases c5 : (((rd_T39 l0 x3_1).f1).size : Int) > 100
            · rw [if_pos c5] at H
              have c5b0 : decide (100 < (((rd_T39 l0 x3_1).f1).size : Int)) = true := decide_eq_true c5
              have c5b1 : decide (100 < ((rd_T39 l0 x3_1).f1).size) = true := decide_eq_true (by omega)
              clear c5
              obtain rfl := Option.some.inj H
              have p309 : 0 ≤ (x3_1 : Int) := of_decide_eq_true (by first | (with_reducible assumption) | assumption)
              have q309 : x3_1 < (l0.length : Int) := of_decide_eq_true (by first | (with_reducible assumption) | assumption)
              obtain ⟨ad309, e309, hx309_0, hx309_1, hx309_2, hx309_3⟩ := at_T39 HR0.out x3_1 p309 q309
              cases e309
              replace p309 := eq_true p309
              replace q309 := eq_true q309
              (try (have qz309 := q309; rw [ByteArray.size_extract, Nat.min_self] at qz309))
              go_wp2
              go_ret
              exact ⟨by first | rfl | (simp; done) | (simp [*]; done), by repeat (first | exact Drawn0.refl _ | apply Drawn0.step)⟩
            · rw [if_neg c5] at H
              have c5b0 : decide (100 < (((rd_T39 l0 x3_1).f1).size : Int)) = false := decide_eq_false c5
              have c5b1 : decide (100 < ((rd_T39 l0 x3_1).f1).size) = false := decide_eq_false (by omega)
              clear c5
              by_cases c6 : (((rd_T39 l0 x3_1).f2).size : Int) > 300
              · rw [if_pos c6] at H
                have c6b0 : decide (300 < (((rd_T39 l0 x3_1).f2).size : Int)) = true := decide_eq_true c6
                have c6b1 : decide (300 < ((rd_T39 l0 x3_1).f2).size) = true := decide_eq_true (by omega)
                clear c6
                obtain rfl := Option.some.inj H
                have p309 : 0 ≤ (x3_1 : Int) := of_decide_eq_true (by first | (with_reducible assumption) | assumption)
                have q309 : x3_1 < (l0.length : Int) := of_decide_eq_true (by first | (with_reducible assumption) | assumption)
                obtain ⟨ad309, e309, hx309_0, hx309_1, hx309_2, hx309_3⟩ := at_T39 HR0.out x3_1 p309 q309
                cases e309
                replace p309 := eq_true p309
                replace q309 := eq_true q309
                (try (have qz309 := q309; rw [ByteArray.size_extract, Nat.min_self] at qz309))
                have p310 : 0 ≤ (x3_1 : Int) := of_decide_eq_true (by first | (with_reducible assumption) | assumption)
                have q310 : x3_1 < (l0.length : Int) := of_decide_eq_true (by first | (with_reducible assumption) | assumption)
                obtain ⟨ad310, e310, hx310_0, hx310_1, hx310_2, hx310_3⟩ := at_T39 HR0.out x3_1 p310 q310
                obtain rfl : ad309 = ad310 := (by injection e310)
                replace p310 := eq_true p310
                replace q310 := eq_true q310
                (try (have qz310 := q310; rw [ByteArray.size_extract, Nat.min_self] at qz310))
                go_wp2
                go_ret
                exact ⟨by first | rfl | (simp; done) | (simp [*]; done), by repeat (first | exact Drawn0.refl _ | apply Drawn0.step)⟩
              · rw [if_neg c6] at H
                have c6b0 : decide (300 < (((rd_T39 l0 x3_1).f2).size : Int)) = false := decide_eq_false c6
                have c6b1 : decide (300 < ((rd_T39 l0 x3_1).f2).size) = false := decide_eq_false (by omega)
                clear c6
                have H' := Aside0.mk H
                clear H
                have p309 : 0 ≤ (x3_1 : Int) := of_decide_eq_true (by first | (with_reducible assumption) | assumption)
                have q309 : x3_1 < (l0.length : Int) := of_decide_eq_true (by first | (with_reducible assumption) | assumption)
                obtain ⟨ad309, e309, hx309_0, hx309_1, hx309_2, hx309_3⟩ := at_T39 HR0.out x3_1 p309 q309
                cases e309
                replace p309 := eq_true p309
                replace q309 := eq_true q309
                (try (have qz309 := q309; rw [ByteArray.size_extract, Nat.min_self] at qz309))
                have p310 : 0 ≤ (x3_1 : Int) := of_decide_eq_true (by first | (with_reducible assumption) | assumption)
                have q310 : x3_1 < (l0.length : Int) := of_decide_eq_true (by first | (with_reducible assumption) | assumption)
                obtain ⟨ad310, e310, hx310_0, hx310_1, hx310_2, hx310_3⟩ := at_T39 HR0.out x3_1 p310 q310
                obtain rfl : ad309 = ad310 := (by injection e310)
                replace p310 := eq_true p310
                replace q310 := eq_true q310
                (try (have qz310 := q310; rw [ByteArray.size_extract, Nat.min_self] at qz310))
                go_wp2
                go_roundg k1
                case measure => have := HK1.out; omega
                case rel => exact ⟨(wrap64 (x3_1 + 1)), (by first | rfl | (simp; done) | (simp [*]; done)), H', ⟨by have := HK1.out; omega⟩, by repeat (first | exact Drawn0.refl _ | apply Drawn0.step)⟩
          · rw [if_neg c4] at H
            exact absurd H (by simp)
        · rw [if_neg c3] at H
          have c3b0 : decide (x3_1 < (l0.length : Int)) = false := decide_eq_false c3
          clear c3
          obtain rfl := Option.some.inj H
          go_wp2
          go_ret
          exact ⟨by first | rfl | (simp; done) | (simp [*]; done), by repeat (first | exact Drawn0.refl _ | apply Drawn0.step)⟩
end Go.Proofs.Ytngmcigkihfnkaa.H
end
section
namespace Go.Proofs.Ytngmcigkihfnkaa.H
open Go.RowKit Go.Proofs.YtngmcigkihfnkaaW.PrintWords Go.Proofs.YtngmcigkihfnkaaW.PrintLast Go.Proofs.YtngmcigkihfnkaaW.PrintMore
attribute [local go_sem] max2_int min2_int max_two min_two max_three min_three max_four min_four   -- for this text's walks alone
set_option linter.unusedVariables false
set_option linter.unusedSimpArgs false
def triremelaw32_given.l0 : Nat → List (S39) → List (S37) → Int → Option ((List (S37)))
  | 0, _, _, _ => none
  | k + 1, x0, x3, x4 => if x4 < (x0.length : Int) then (if 0 ≤ x4 then (if x3.length < 2932031007402 then (triremelaw32_given.l0 k x0 (x3 ++ [(⟨(rd_T39 x0 x4).f0, (rd_T39 x0 x4).f1, (rd_T39 x0 x4).f2, (rd_T39 x0 x4).f3⟩ : S37)]) (wrap64 (x4 + 1))) else (none)) else (none)) else (some x3)
def triremelaw32_given.f (k : Nat) (l0 : List (S39)) : Option ((List (S37))) := triremelaw32_given.l0 k l0 ([] : List (S37)) 0
def triremelaw32_given.T5 : Bool × List (List Nat × List Nat) := (true, [([], []), ([], []), ([], []), ([1, 2], [1, 2]), ([3], [3]), ([4], [4]), ([], []), ([], []), ([6, 7], [6, 7]), ([8], [8]), ([9], [9]), ([], []), ([], []), ([11, 12], [11, 12]), ([13], [13]), ([14], [14]), ([], []), ([], []), ([16, 17], [16, 17]), ([18], [18]), ([19], [19]), ([5, 10, 15, 20], [5, 10, 15, 20]), ([21], [21]), ([0, 22], [0, 22]), ([23, 23, 0, 1, 2, 3, 4, 5, 6, 7, 8, 9, 10, 11, 12, 13, 14, 15, 16, 17, 18, 19, 20, 21, 22, 23], [0, 23])])
def triremelaw32_given.B5 : List Nat := [0, 0, 0, 6, 14, 30, 0, 0, 192, 448, 960, 0, 0, 6144, 14336, 30720, 0, 0, 196608, 458752, 983040, 2097150, 4194302, 8388607, 16777215]
theorem triremelaw32_given.tab5 : rtab .any (opsOf Try.f13 5) = triremelaw32_given.T5 := by kernel_rfl
theorem triremelaw32_given.bits5 : waitsOk triremelaw32_given.T5.2 triremelaw32_given.B5 = true := by kernel_rfl
set_option maxHeartbeats 8000000 in
set_option maxRecDepth 100000 in
theorem triremelaw32_given.calls (k : Nat) (A0 : Option Addr) (c0 : Nat) (l0 : List (S39)) (r : List (S37)) (w : World) (hr0 : Kd.C k39 w A0 l0.length l0) (hc0 : l0.length ≤ c0) (h : triremelaw32_given.f k l0 = some r) :
    Calls Try.prog 13 #[.slice A0 l0.length c0] w fun e w' => ∃ v0_ : Value, e = .returned (v0_) ∧ Kd.R k37 37 w' w.heap.size (fun _ => True) v0_ r ∧ Below w.heap.size w w' := by
  have hu37 := Try.underlying37
  have HR0 := Aside0.mk hr0
  have HC0 := Aside0.mk hc0
  clear hr0 hc0
  have HB := Aside0.mk (Below.refl w.heap.size w)
  have H : (triremelaw32_given.l0 k l0 ([] : List (S37)) 0) = some r := h
  clear h
  have H' := Aside0.mk H
  clear H
  go_enter Try.func13, Try.ntmps13
  go_wp2
  go_loopg [3, 4] k (fun kq v3 v4 w' => ∃ (x3_1 : List (S37)) (x4_1 : Int), v4 = .int .i64 x4_1 ∧ Aside0 (triremelaw32_given.l0 kq l0 x3_1 x4_1 = some r) ∧ Aside0 (kq ≤ k) ∧ Aside0 (Kd.R k37 37 w' w.heap.size (fun _ => True) v3 x3_1) ∧ Aside0 (Below w.heap.size w w'))
  case atStart => exact ⟨(([] : List (S37))), (0), (by first | rfl | (simp; done) | (simp [*]; done)), H', ⟨Nat.le_refl _⟩, ⟨by first | exact Kd.R_nil _ _ _ _ _ | exact Kd.N_nil _ _ _ _ _ | exact Kd.V_nil _ _ _ _ _ | exact Kd.Q_nil _ _ _ _ _ | exact Kd.S_nil _ _ _ _ _⟩, ⟨by repeat (first | (with_reducible first | exact HB.out | apply below_alloc | apply pw_below_drewN | apply below_drew1) | exact HB.out)⟩⟩
  case round =>
    clear H'
    try clear c1
    obtain ⟨x3_1, x4_1, rfl, HA, HK1, HO_3, HB⟩ := hrel
    cases gk with
    | zero => exact absurd HA.out (by simp [triremelaw32_given.l0])
    | succ k1 =>
      have H := HA.out
      clear HA
      simp only [triremelaw32_given.l0] at H
      by_cases c2 : x4_1 < (l0.length : Int)
      · rw [if_pos c2] at H
        have c2b0 : decide (x4_1 < (l0.length : Int)) = true := decide_eq_true c2
        clear c2
        by_cases c3 : 0 ≤ x4_1
        · rw [if_pos c3] at H
          have c3b0 : decide (0 ≤ x4_1) = true := decide_eq_true c3
          clear c3
          by_cases c4 : x3_1.length < 2932031007402
          · rw [if_pos c4] at H
            have LMc4 := Aside0.mk c4
            clear c4
            obtain ⟨y315, hy315⟩ : ∃ y_ : List (S37), y_ = (x3_1 ++ [(⟨(rd_T39 l0 x4_1).f0, (rd_T39 l0 x4_1).f1, (rd_T39 l0 x4_1).f2, (rd_T39 l0 x4_1).f3⟩ : S37)]) := ⟨_, rfl⟩
            replace H : (triremelaw32_given.l0 k1 l0 y315 (wrap64 (x4_1 + 1))) = some r := by first | (rw [hy315]; with_reducible exact H) | (have H2_ := (Option.bind_some _ _).symm.trans H; rw [hy315]; with_reducible exact H2_) | (have H2_ := (Option.bind_some _ _).symm.trans H; with_reducible exact H2_) | with_reducible exact H | (rw [hy315]; exact H) | exact H
            have Ny315 := Aside0.mk hy315
            clear hy315
            have H' := Aside0.mk H
            clear H
            try go_wp2
            have n0_ := Aside0.mk (Kd.R_drew HO_3.out)
            have n1_ := Aside0.mk (below_drew1 HB.out)
            clear HO_3
            clear HB
            have HO_3 := n0_
            have HB := n1_
            clear n0_ n1_
            have p311 : 0 ≤ (x4_1 : Int) := of_decide_eq_true (by first | (with_reducible assumption) | assumption)
            have q311 : x4_1 < (l0.length : Int) := of_decide_eq_true (by first | (with_reducible assumption) | assumption)
            obtain ⟨ad311, e311, hx311_0, hx311_1, hx311_2, hx311_3⟩ := at_T39 HR0.out x4_1 p311 q311
            have hw311_3 := hx311_3
            have hw311_2 := hx311_2
            have hw311_1 := hx311_1
            have hw311_0 := hx311_0
            cases e311
            replace hx311_0 := (HB.out.cell (World.block_lt_of_cell? w _ hx311_0)).trans hx311_0
            replace hx311_1 := (HB.out.cell (World.block_lt_of_cell? w _ hx311_1)).trans hx311_1
            replace hx311_2 := (HB.out.cell (World.block_lt_of_cell? w _ hx311_2)).trans hx311_2
            replace hx311_3 := (HB.out.cell (World.block_lt_of_cell? w _ hx311_3)).trans hx311_3
            replace p311 := eq_true p311
            replace q311 := eq_true q311
            (try (have qz311 := q311; rw [ByteArray.size_extract, Nat.min_self] at qz311))
            have p312 : 0 ≤ (x4_1 : Int) := of_decide_eq_true (by first | (with_reducible assumption) | assumption)
            have q312 : x4_1 < (l0.length : Int) := of_decide_eq_true (by first | (with_reducible assumption) | assumption)
            obtain ⟨ad312, e312, hx312_0, hx312_1, hx312_2, hx312_3⟩ := at_T39 HR0.out x4_1 p312 q312
            have hw312_3 := hx312_3
            have hw312_2 := hx312_2
            have hw312_1 := hx312_1
            have hw312_0 := hx312_0
            obtain rfl : ad311 = ad312 := (by injection e312)
            replace hx312_0 := (HB.out.cell (World.block_lt_of_cell? w _ hx312_0)).trans hx312_0
            replace hx312_1 := (HB.out.cell (World.block_lt_of_cell? w _ hx312_1)).trans hx312_1
            replace hx312_2 := (HB.out.cell (World.block_lt_of_cell? w _ hx312_2)).trans hx312_2
            replace hx312_3 := (HB.out.cell (World.block_lt_of_cell? w _ hx312_3)).trans hx312_3
            replace p312 := eq_true p312
            replace q312 := eq_true q312
            (try (have qz312 := q312; rw [ByteArray.size_extract, Nat.min_self] at qz312))
            have p313 : 0 ≤ (x4_1 : Int) := of_decide_eq_true (by first | (with_reducible assumption) | assumption)
            have q313 : x4_1 < (l0.length : Int) := of_decide_eq_true (by first | (with_reducible assumption) | assumption)
            obtain ⟨ad313, e313, hx313_0, hx313_1, hx313_2, hx313_3⟩ := at_T39 HR0.out x4_1 p313 q313
            have hw313_3 := hx313_3
            have hw313_2 := hx313_2
            have hw313_1 := hx313_1
            have hw313_0 := hx313_0
            obtain rfl : ad311 = ad313 := (by injection e313)
            replace hx313_0 := (HB.out.cell (World.block_lt_of_cell? w _ hx313_0)).trans hx313_0
            replace hx313_1 := (HB.out.cell (World.block_lt_of_cell? w _ hx313_1)).trans hx313_1
            replace hx313_2 := (HB.out.cell (World.block_lt_of_cell? w _ hx313_2)).trans hx313_2
            replace hx313_3 := (HB.out.cell (World.block_lt_of_cell? w _ hx313_3)).trans hx313_3
            replace p313 := eq_true p313
            replace q313 := eq_true q313
            (try (have qz313 := q313; rw [ByteArray.size_extract, Nat.min_self] at qz313))
            have p314 : 0 ≤ (x4_1 : Int) := of_decide_eq_true (by first | (with_reducible assumption) | assumption)
            have q314 : x4_1 < (l0.length : Int) := of_decide_eq_true (by first | (with_reducible assumption) | assumption)
            obtain ⟨ad314, e314, hx314_0, hx314_1, hx314_2, hx314_3⟩ := at_T39 HR0.out x4_1 p314 q314
            have hw314_3 := hx314_3
            have hw314_2 := hx314_2
            have hw314_1 := hx314_1
            have hw314_0 := hx314_0
            obtain rfl : ad311 = ad314 := (by injection e314)
            replace hx314_0 := (HB.out.cell (World.block_lt_of_cell? w _ hx314_0)).trans hx314_0
            replace hx314_1 := (HB.out.cell (World.block_lt_of_cell? w _ hx314_1)).trans hx314_1
            replace hx314_2 := (HB.out.cell (World.block_lt_of_cell? w _ hx314_2)).trans hx314_2
            replace hx314_3 := (HB.out.cell (World.block_lt_of_cell? w _ hx314_3)).trans hx314_3
            replace p314 := eq_true p314
            replace q314 := eq_true q314
            (try (have qz314 := q314; rw [ByteArray.size_extract, Nat.min_self] at qz314))
            refine start_ (n := 25) (S := fun w' => w'.cell? (ad311.add ((x4_1).toNat * 4)) = some (.int .i64 ((rd_T39 l0 x4_1).f0)) ∧ w'.cell? ⟨(ad311.add ((x4_1).toNat * 4)).block, (ad311.add ((x4_1).toNat * 4)).off + 1, none⟩ = some (.string ((rd_T39 l0 x4_1).f1)) ∧ w'.cell? ⟨(ad311.add ((x4_1).toNat * 4)).block, (ad311.add ((x4_1).toNat * 4)).off + 2, none⟩ = some (.string ((rd_T39 l0 x4_1).f2)) ∧ w'.cell? ⟨(ad311.add ((x4_1).toNat * 4)).block, (ad311.add ((x4_1).toNat * 4)).off + 3, none⟩ = some (.int .i64 ((rd_T39 l0 x4_1).f3)) ∧ w'.cell? (ad311.add ((x4_1).toNat * 4)) = some (.int .i64 ((rd_T39 l0 x4_1).f0)) ∧ w'.cell? ⟨(ad311.add ((x4_1).toNat * 4)).block, (ad311.add ((x4_1).toNat * 4)).off + 1, none⟩ = some (.string ((rd_T39 l0 x4_1).f1)) ∧ w'.cell? ⟨(ad311.add ((x4_1).toNat * 4)).block, (ad311.add ((x4_1).toNat * 4)).off + 2, none⟩ = some (.string ((rd_T39 l0 x4_1).f2)) ∧ w'.cell? ⟨(ad311.add ((x4_1).toNat * 4)).block, (ad311.add ((x4_1).toNat * 4)).off + 3, none⟩ = some (.int .i64 ((rd_T39 l0 x4_1).f3)) ∧ w'.cell? (ad311.add ((x4_1).toNat * 4)) = some (.int .i64 ((rd_T39 l0 x4_1).f0)) ∧ w'.cell? ⟨(ad311.add ((x4_1).toNat * 4)).block, (ad311.add ((x4_1).toNat * 4)).off + 1, none⟩ = some (.string ((rd_T39 l0 x4_1).f1)) ∧ w'.cell? ⟨(ad311.add ((x4_1).toNat * 4)).block, (ad311.add ((x4_1).toNat * 4)).off + 2, none⟩ = some (.string ((rd_T39 l0 x4_1).f2)) ∧ w'.cell? ⟨(ad311.add ((x4_1).toNat * 4)).block, (ad311.add ((x4_1).toNat * 4)).off + 3, none⟩ = some (.int .i64 ((rd_T39 l0 x4_1).f3)) ∧ w'.cell? (ad311.add ((x4_1).toNat * 4)) = some (.int .i64 ((rd_T39 l0 x4_1).f0)) ∧ w'.cell? ⟨(ad311.add ((x4_1).toNat * 4)).block, (ad311.add ((x4_1).toNat * 4)).off + 1, none⟩ = some (.string ((rd_T39 l0 x4_1).f1)) ∧ w'.cell? ⟨(ad311.add ((x4_1).toNat * 4)).block, (ad311.add ((x4_1).toNat * 4)).off + 2, none⟩ = some (.string ((rd_T39 l0 x4_1).f2)) ∧ w'.cell? ⟨(ad311.add ((x4_1).toNat * 4)).block, (ad311.add ((x4_1).toNat * 4)).off + 3, none⟩ = some (.int .i64 ((rd_T39 l0 x4_1).f3))) (ds := []) #[false, false, false, false, false, false, false, false, false, false, false, false, false, false, false, false, false, false, false, false, false, false, false, false, false] (by kernel_rfl) rfl rfl ⟨((HB.out.cell (World.block_lt_of_cell? w _ hw311_0)).trans hw311_0), ((HB.out.cell (World.block_lt_of_cell? w _ hw311_1)).trans hw311_1), ((HB.out.cell (World.block_lt_of_cell? w _ hw311_2)).trans hw311_2), ((HB.out.cell (World.block_lt_of_cell? w _ hw311_3)).trans hw311_3), ((HB.out.cell (World.block_lt_of_cell? w _ hw312_0)).trans hw312_0), ((HB.out.cell (World.block_lt_of_cell? w _ hw312_1)).trans hw312_1), ((HB.out.cell (World.block_lt_of_cell? w _ hw312_2)).trans hw312_2), ((HB.out.cell (World.block_lt_of_cell? w _ hw312_3)).trans hw312_3), ((HB.out.cell (World.block_lt_of_cell? w _ hw313_0)).trans hw313_0), ((HB.out.cell (World.block_lt_of_cell? w _ hw313_1)).trans hw313_1), ((HB.out.cell (World.block_lt_of_cell? w _ hw313_2)).trans hw313_2), ((HB.out.cell (World.block_lt_of_cell? w _ hw313_3)).trans hw313_3), ((HB.out.cell (World.block_lt_of_cell? w _ hw314_0)).trans hw314_0), ((HB.out.cell (World.block_lt_of_cell? w _ hw314_1)).trans hw314_1), ((HB.out.cell (World.block_lt_of_cell? w _ hw314_2)).trans hw314_2), ((HB.out.cell (World.block_lt_of_cell? w _ hw314_3)).trans hw314_3)⟩ (fun hHeld => ?_); refine with_tabW triremelaw32_given.tab5 triremelaw32_given.bits5 (fun HT_ HW_ => ?_)
            generalize wr.drew = w5 at HO_3 HB hx311_0 hx311_1 hx311_2 hx311_3 hx312_0 hx312_1 hx312_2 hx312_3 hx313_0 hx313_1 hx313_2 hx313_3 hx314_0 hx314_1 hx314_2 hx314_3 hHeld ⊢
            refine pure_ (i := 0) (N := some 11) (v := ?_) (a' := ?_) #[true, false, false, false, false, false, false, false, false, false, false, false, false, false, false, false, false, false, false, false, false, false, false, false, false] rfl rfl (any_of HT_.out (by kernel_rfl)) (fun _ _ _ h => h) (Or.inl ⟨by rfl, ?_⟩) ?_ ?_
            rotate_left
            · intro w'; go_simp; with_reducible rfl
            rotate_left
            · simp only [Act.put, List.setIfInBounds_toArray, List.set_cons_zero, List.set_cons_succ, i64_w, i32_w]; rfl
            refine pure_ (i := 1) (N := some 12) (v := ?_) (a' := ?_) #[true, true, false, false, false, false, false, false, false, false, false, false, false, false, false, false, false, false, false, false, false, false, false, false, false] rfl rfl (any_of HT_.out (by kernel_rfl)) (fun _ _ _ h => h) (Or.inl ⟨by rfl, ?_⟩) ?_ ?_
            rotate_left
            · intro w'; go_simp; with_reducible rfl
            rotate_left
            · simp only [Act.put, List.setIfInBounds_toArray, List.set_cons_zero, List.set_cons_succ, i64_w, i32_w]; rfl
            refine pure_ (i := 2) (N := some 13) (v := ?_) (a' := ?_) #[true, true, true, false, false, false, false, false, false, false, false, false, false, false, false, false, false, false, false, false, false, false, false, false, false] rfl rfl (any_of HT_.out (by kernel_rfl)) (fun _ _ _ h => h) (Or.inl ⟨by rfl, ?_⟩) ?_ ?_
            rotate_left
            · intro w'; go_simp; with_reducible rfl
            rotate_left
            · simp only [Act.put, List.setIfInBounds_toArray, List.set_cons_zero, List.set_cons_succ, i64_w, i32_w]; rfl
            refine pure_ (i := 3) (N := some 14) (v := ?_) (a' := ?_) #[true, true, true, true, false, false, false, false, false, false, false, false, false, false, false, false, false, false, false, false, false, false, false, false, false] rfl rfl (any_of HT_.out (by kernel_rfl)) (fun _ _ _ h => h) (Or.inl ⟨by rfl, ?_⟩) ?_ ?_
            rotate_left
            · intro w'; go_simp; with_reducible rfl
            rotate_left
            · simp only [Act.put, List.setIfInBounds_toArray, List.set_cons_zero, List.set_cons_succ, i64_w, i32_w]; rfl
            refine pure_ (i := 4) (N := some 15) (v := ?_) (a' := ?_) #[true, true, true, true, true, false, false, false, false, false, false, false, false, false, false, false, false, false, false, false, false, false, false, false, false] rfl rfl (any_of HT_.out (by kernel_rfl)) (fun _ _ _ h => h) (Or.inl ⟨by rfl, ?_⟩) ?_ ?_
            rotate_left
            · intro w'; go_simp; with_reducible rfl
            rotate_left
            · simp only [Act.put, List.setIfInBounds_toArray, List.set_cons_zero, List.set_cons_succ, i64_w, i32_w]; rfl
            refine pure_ (i := 6) (N := some 17) (v := ?_) (a' := ?_) #[true, true, true, true, true, false, true, false, false, false, false, false, false, false, false, false, false, false, false, false, false, false, false, false, false] rfl rfl (any_of HT_.out (by kernel_rfl)) (fun _ _ _ h => h) (Or.inl ⟨by rfl, ?_⟩) ?_ ?_
            rotate_left
            · intro w'; go_simp; with_reducible rfl
            rotate_left
            · simp only [Act.put, List.setIfInBounds_toArray, List.set_cons_zero, List.set_cons_succ, i64_w, i32_w]; rfl
            refine pure_ (i := 7) (N := some 18) (v := ?_) (a' := ?_) #[true, true, true, true, true, false, true, true, false, false, false, false, false, false, false, false, false, false, false, false, false, false, false, false, false] rfl rfl (any_of HT_.out (by kernel_rfl)) (fun _ _ _ h => h) (Or.inl ⟨by rfl, ?_⟩) ?_ ?_
            rotate_left
            · intro w'; go_simp; with_reducible rfl
            rotate_left
            · simp only [Act.put, List.setIfInBounds_toArray, List.set_cons_zero, List.set_cons_succ, i64_w, i32_w]; rfl
            refine pure_ (i := 8) (N := some 19) (v := ?_) (a' := ?_) #[true, true, true, true, true, false, true, true, true, false, false, false, false, false, false, false, false, false, false, false, false, false, false, false, false] rfl rfl (any_of HT_.out (by kernel_rfl)) (fun _ _ _ h => h) (Or.inl ⟨by rfl, ?_⟩) ?_ ?_
            rotate_left
            · intro w'; go_simp; with_reducible rfl
            rotate_left
            · simp only [Act.put, List.setIfInBounds_toArray, List.set_cons_zero, List.set_cons_succ, i64_w, i32_w]; rfl
            refine pure_ (i := 9) (N := some 20) (v := ?_) (a' := ?_) #[true, true, true, true, true, false, true, true, true, true, false, false, false, false, false, false, false, false, false, false, false, false, false, false, false] rfl rfl (any_of HT_.out (by kernel_rfl)) (fun _ _ _ h => h) (Or.inl ⟨by rfl, ?_⟩) ?_ ?_
            rotate_left
            · intro w'; go_simp; with_reducible rfl
            rotate_left
            · simp only [Act.put, List.setIfInBounds_toArray, List.set_cons_zero, List.set_cons_succ, i64_w, i32_w]; rfl
            refine pure_ (i := 11) (N := some 22) (v := ?_) (a' := ?_) #[true, true, true, true, true, false, true, true, true, true, false, true, false, false, false, false, false, false, false, false, false, false, false, false, false] rfl rfl (any_of HT_.out (by kernel_rfl)) (fun _ _ _ h => h) (Or.inl ⟨by rfl, ?_⟩) ?_ ?_
            rotate_left
            · intro w'; go_simp; with_reducible rfl
            rotate_left
            · simp only [Act.put, List.setIfInBounds_toArray, List.set_cons_zero, List.set_cons_succ, i64_w, i32_w]; rfl
            refine pure_ (i := 12) (N := some 23) (v := ?_) (a' := ?_) #[true, true, true, true, true, false, true, true, true, true, false, true, true, false, false, false, false, false, false, false, false, false, false, false, false] rfl rfl (any_of HT_.out (by kernel_rfl)) (fun _ _ _ h => h) (Or.inl ⟨by rfl, ?_⟩) ?_ ?_
            rotate_left
            · intro w'; go_simp; with_reducible rfl
            rotate_left
            · simp only [Act.put, List.setIfInBounds_toArray, List.set_cons_zero, List.set_cons_succ, i64_w, i32_w]; rfl
            refine pure_ (i := 13) (N := some 24) (v := ?_) (a' := ?_) #[true, true, true, true, true, false, true, true, true, true, false, true, true, true, false, false, false, false, false, false, false, false, false, false, false] rfl rfl (any_of HT_.out (by kernel_rfl)) (fun _ _ _ h => h) (Or.inl ⟨by rfl, ?_⟩) ?_ ?_
            rotate_left
            · intro w'; go_simp; with_reducible rfl
            rotate_left
            · simp only [Act.put, List.setIfInBounds_toArray, List.set_cons_zero, List.set_cons_succ, i64_w, i32_w]; rfl
            refine pure_ (i := 14) (N := some 25) (v := ?_) (a' := ?_) #[true, true, true, true, true, false, true, true, true, true, false, true, true, true, true, false, false, false, false, false, false, false, false, false, false] rfl rfl (any_of HT_.out (by kernel_rfl)) (fun _ _ _ h => h) (Or.inl ⟨by rfl, ?_⟩) ?_ ?_
            rotate_left
            · intro w'; go_simp; with_reducible rfl
            rotate_left
            · simp only [Act.put, List.setIfInBounds_toArray, List.set_cons_zero, List.set_cons_succ, i64_w, i32_w]; rfl
            refine pure_ (i := 16) (N := some 27) (v := ?_) (a' := ?_) #[true, true, true, true, true, false, true, true, true, true, false, true, true, true, true, false, true, false, false, false, false, false, false, false, false] rfl rfl (any_of HT_.out (by kernel_rfl)) (fun _ _ _ h => h) (Or.inl ⟨by rfl, ?_⟩) ?_ ?_
            rotate_left
            · intro w'; go_simp; with_reducible rfl
            rotate_left
            · simp only [Act.put, List.setIfInBounds_toArray, List.set_cons_zero, List.set_cons_succ, i64_w, i32_w]; rfl
            refine pure_ (i := 17) (N := some 28) (v := ?_) (a' := ?_) #[true, true, true, true, true, false, true, true, true, true, false, true, true, true, true, false, true, true, false, false, false, false, false, false, false] rfl rfl (any_of HT_.out (by kernel_rfl)) (fun _ _ _ h => h) (Or.inl ⟨by rfl, ?_⟩) ?_ ?_
            rotate_left
            · intro w'; go_simp; with_reducible rfl
            rotate_left
            · simp only [Act.put, List.setIfInBounds_toArray, List.set_cons_zero, List.set_cons_succ, i64_w, i32_w]; rfl
            refine pure_ (i := 18) (N := some 29) (v := ?_) (a' := ?_) #[true, true, true, true, true, false, true, true, true, true, false, true, true, true, true, false, true, true, true, false, false, false, false, false, false] rfl rfl (any_of HT_.out (by kernel_rfl)) (fun _ _ _ h => h) (Or.inl ⟨by rfl, ?_⟩) ?_ ?_
            rotate_left
            · intro w'; go_simp; with_reducible rfl
            rotate_left
            · simp only [Act.put, List.setIfInBounds_toArray, List.set_cons_zero, List.set_cons_succ, i64_w, i32_w]; rfl
            refine pure_ (i := 19) (N := some 30) (v := ?_) (a' := ?_) #[true, true, true, true, true, false, true, true, true, true, false, true, true, true, true, false, true, true, true, true, false, false, false, false, false] rfl rfl (any_of HT_.out (by kernel_rfl)) (fun _ _ _ h => h) (Or.inl ⟨by rfl, ?_⟩) ?_ ?_
            rotate_left
            · intro w'; go_simp; with_reducible rfl
            rotate_left
            · simp only [Act.put, List.setIfInBounds_toArray, List.set_cons_zero, List.set_cons_succ, i64_w, i32_w]; rfl
            refine take_ (i := 5) (N := some 16) (v := ?_) (a' := ?_) #[true, true, true, true, true, true, true, true, true, true, false, true, true, true, true, false, true, true, true, true, false, false, false, false, false] rfl rfl (take_ofW HT_.out HW_.out (by kernel_rfl)) (fun _ _ _ h => h) (Or.inl ⟨by rfl, ?_⟩) hHeld ?_ ?_
            rotate_left
            · rintro w' ⟨s0, s1, s2, s3, s4, s5, s6, s7, s8, s9, s10, s11, s12, s13, s14, s15⟩; go_simp; with_reducible rfl
            rotate_left
            · simp only [Act.put, List.setIfInBounds_toArray, List.set_cons_zero, List.set_cons_succ, i64_w, i32_w]; rfl
            refine take_ (i := 10) (N := some 21) (v := ?_) (a' := ?_) #[true, true, true, true, true, true, true, true, true, true, true, true, true, true, true, false, true, true, true, true, false, false, false, false, false] rfl rfl (take_ofW HT_.out HW_.out (by kernel_rfl)) (fun _ _ _ h => h) (Or.inl ⟨by rfl, ?_⟩) hHeld ?_ ?_
            rotate_left
            · rintro w' ⟨s0, s1, s2, s3, s4, s5, s6, s7, s8, s9, s10, s11, s12, s13, s14, s15⟩; go_simp; with_reducible rfl
            rotate_left
            · simp only [Act.put, List.setIfInBounds_toArray, List.set_cons_zero, List.set_cons_succ, i64_w, i32_w]; rfl
            refine take_ (i := 15) (N := some 26) (v := ?_) (a' := ?_) #[true, true, true, true, true, true, true, true, true, true, true, true, true, true, true, true, true, true, true, true, false, false, false, false, false] rfl rfl (take_ofW HT_.out HW_.out (by kernel_rfl)) (fun _ _ _ h => h) (Or.inl ⟨by rfl, ?_⟩) hHeld ?_ ?_
            rotate_left
            · rintro w' ⟨s0, s1, s2, s3, s4, s5, s6, s7, s8, s9, s10, s11, s12, s13, s14, s15⟩; go_simp; with_reducible rfl
            rotate_left
            · simp only [Act.put, List.setIfInBounds_toArray, List.set_cons_zero, List.set_cons_succ, i64_w, i32_w]; rfl
            refine take_ (i := 20) (N := some 31) (v := ?_) (a' := ?_) #[true, true, true, true, true, true, true, true, true, true, true, true, true, true, true, true, true, true, true, true, true, false, false, false, false] rfl rfl (take_ofW HT_.out HW_.out (by kernel_rfl)) (fun _ _ _ h => h) (Or.inl ⟨by rfl, ?_⟩) hHeld ?_ ?_
            rotate_left
            · rintro w' ⟨s0, s1, s2, s3, s4, s5, s6, s7, s8, s9, s10, s11, s12, s13, s14, s15⟩; go_simp; with_reducible rfl
            rotate_left
            · simp only [Act.put, List.setIfInBounds_toArray, List.set_cons_zero, List.set_cons_succ, i64_w, i32_w]; rfl
            refine pure_ (i := 21) (N := some 32) (v := ?_) (a' := ?_) #[true, true, true, true, true, true, true, true, true, true, true, true, true, true, true, true, true, true, true, true, true, true, false, false, false] rfl rfl (any_of HT_.out (by kernel_rfl)) (fun _ _ _ h => h) (Or.inl ⟨by rfl, ?_⟩) ?_ ?_
            rotate_left
            · intro w'; go_simp; with_reducible rfl
            rotate_left
            · simp only [Act.put, List.setIfInBounds_toArray, List.set_cons_zero, List.set_cons_succ, i64_w, i32_w]; rfl
            refine one_ (i := 22) (N := some 33) #[true, true, true, true, true, true, true, true, true, true, true, true, true, true, true, true, true, true, true, true, true, true, true, false, false] rfl rfl (one_of HT_.out (by kernel_rfl)) (by decide) (fun K hK => ?_)
            refine value_ (w1 := ?_) (v := ?_) (by rfl) rfl ?_ ?_
            rotate_left 2
            · go_simp
              constructor
              · rfl
              · rfl
            refine hK.out _ _ ⟨(World.cell?_alloc_lt _ _ _ (World.block_lt_of_cell? _ _ (((HB.out.cell (World.block_lt_of_cell? w _ hw311_0)).trans hw311_0)))).trans (((HB.out.cell (World.block_lt_of_cell? w _ hw311_0)).trans hw311_0)), (World.cell?_alloc_lt _ _ _ (World.block_lt_of_cell? _ _ (((HB.out.cell (World.block_lt_of_cell? w _ hw311_1)).trans hw311_1)))).trans (((HB.out.cell (World.block_lt_of_cell? w _ hw311_1)).trans hw311_1)), (World.cell?_alloc_lt _ _ _ (World.block_lt_of_cell? _ _ (((HB.out.cell (World.block_lt_of_cell? w _ hw311_2)).trans hw311_2)))).trans (((HB.out.cell (World.block_lt_of_cell? w _ hw311_2)).trans hw311_2)), (World.cell?_alloc_lt _ _ _ (World.block_lt_of_cell? _ _ (((HB.out.cell (World.block_lt_of_cell? w _ hw311_3)).trans hw311_3)))).trans (((HB.out.cell (World.block_lt_of_cell? w _ hw311_3)).trans hw311_3)), (World.cell?_alloc_lt _ _ _ (World.block_lt_of_cell? _ _ (((HB.out.cell (World.block_lt_of_cell? w _ hw312_0)).trans hw312_0)))).trans (((HB.out.cell (World.block_lt_of_cell? w _ hw312_0)).trans hw312_0)), (World.cell?_alloc_lt _ _ _ (World.block_lt_of_cell? _ _ (((HB.out.cell (World.block_lt_of_cell? w _ hw312_1)).trans hw312_1)))).trans (((HB.out.cell (World.block_lt_of_cell? w _ hw312_1)).trans hw312_1)), (World.cell?_alloc_lt _ _ _ (World.block_lt_of_cell? _ _ (((HB.out.cell (World.block_lt_of_cell? w _ hw312_2)).trans hw312_2)))).trans (((HB.out.cell (World.block_lt_of_cell? w _ hw312_2)).trans hw312_2)), (World.cell?_alloc_lt _ _ _ (World.block_lt_of_cell? _ _ (((HB.out.cell (World.block_lt_of_cell? w _ hw312_3)).trans hw312_3)))).trans (((HB.out.cell (World.block_lt_of_cell? w _ hw312_3)).trans hw312_3)), (World.cell?_alloc_lt _ _ _ (World.block_lt_of_cell? _ _ (((HB.out.cell (World.block_lt_of_cell? w _ hw313_0)).trans hw313_0)))).trans (((HB.out.cell (World.block_lt_of_cell? w _ hw313_0)).trans hw313_0)), (World.cell?_alloc_lt _ _ _ (World.block_lt_of_cell? _ _ (((HB.out.cell (World.block_lt_of_cell? w _ hw313_1)).trans hw313_1)))).trans (((HB.out.cell (World.block_lt_of_cell? w _ hw313_1)).trans hw313_1)), (World.cell?_alloc_lt _ _ _ (World.block_lt_of_cell? _ _ (((HB.out.cell (World.block_lt_of_cell? w _ hw313_2)).trans hw313_2)))).trans (((HB.out.cell (World.block_lt_of_cell? w _ hw313_2)).trans hw313_2)), (World.cell?_alloc_lt _ _ _ (World.block_lt_of_cell? _ _ (((HB.out.cell (World.block_lt_of_cell? w _ hw313_3)).trans hw313_3)))).trans (((HB.out.cell (World.block_lt_of_cell? w _ hw313_3)).trans hw313_3)), (World.cell?_alloc_lt _ _ _ (World.block_lt_of_cell? _ _ (((HB.out.cell (World.block_lt_of_cell? w _ hw314_0)).trans hw314_0)))).trans (((HB.out.cell (World.block_lt_of_cell? w _ hw314_0)).trans hw314_0)), (World.cell?_alloc_lt _ _ _ (World.block_lt_of_cell? _ _ (((HB.out.cell (World.block_lt_of_cell? w _ hw314_1)).trans hw314_1)))).trans (((HB.out.cell (World.block_lt_of_cell? w _ hw314_1)).trans hw314_1)), (World.cell?_alloc_lt _ _ _ (World.block_lt_of_cell? _ _ (((HB.out.cell (World.block_lt_of_cell? w _ hw314_2)).trans hw314_2)))).trans (((HB.out.cell (World.block_lt_of_cell? w _ hw314_2)).trans hw314_2)), (World.cell?_alloc_lt _ _ _ (World.block_lt_of_cell? _ _ (((HB.out.cell (World.block_lt_of_cell? w _ hw314_3)).trans hw314_3)))).trans (((HB.out.cell (World.block_lt_of_cell? w _ hw314_3)).trans hw314_3))⟩ (fun hHeld => ?_)
            clear hK K
            refine norm_ (a' := ?_) ?_ ?_
            rotate_left
            · show Act.put _ (some 33) _ = _
              simp only [Act.put, List.setIfInBounds_toArray, List.set_cons_zero, List.set_cons_succ, i64_w, i32_w]
              rfl
            refine one_ (i := 23) (N := some 34) #[true, true, true, true, true, true, true, true, true, true, true, true, true, true, true, true, true, true, true, true, true, true, true, true, false] rfl rfl (one_of HT_.out (by kernel_rfl)) (by decide) (fun K hK => ?_)
            refine Kd.R_append_step k37 (w0 := w) w.heap.size (by rfl) (.tmp 11) (.tmp 33) 23 37 (.agg #[(.int .i64 0), (.string ⟨#[]⟩), (.string ⟨#[]⟩), (.int .i64 0)]) 48 rfl Try.underlying23 info37 rfl (by decide) (by omega) u3 x3_1 (⟨(rd_T39 l0 x4_1).f0, (rd_T39 l0 x4_1).f1, (rd_T39 l0 x4_1).f2, (rd_T39 l0 x4_1).f3⟩ : S37) [.int .i64 ((rd_T39 l0 x4_1).f0), .string ((rd_T39 l0 x4_1).f1), .string ((rd_T39 l0 x4_1).f2), .int .i64 ((rd_T39 l0 x4_1).f3)] (fun _ => True) (fun _ => False) rfl rfl ?aP (fun _ hk => hk.elim) ?aF ?aO ?aB ?aS ?aL ?_
            (case aP => exact k37_mkM _ _ _ (⟨(rd_T39 l0 x4_1).f0, (rd_T39 l0 x4_1).f1, (rd_T39 l0 x4_1).f2, (rd_T39 l0 x4_1).f3⟩ : S37))
            (case aB => exact (by repeat (first | (with_reducible first | exact HB.out | apply below_alloc | apply pw_below_drewN | apply below_drew1) | exact HB.out)))
            (case aF => exact (fun _ _ => trivial))
            (case aO => exact (by (with_reducible repeat (first | apply Kd.R_alloc | apply Kd.R_drewN | apply Kd.R_drew)); exact HO_3.out))
            (case aS => exact (below_size (by repeat (first | (with_reducible first | exact HB.out | apply below_alloc | apply pw_below_drewN | apply below_drew1) | exact HB.out))))
            (case aL => have := LMc4.out; omega)
            intro v316 w6 ho hb hg hat
            rw [← Ny315.out] at ho
            have n0_ := Aside0.mk (hb)
            have n1_ := Aside0.mk (ho)
            clear HB
            clear HO_3
            have HB := n0_
            have HO317 := n1_
            clear n0_ n1_
            clear ho hb hg hat
            refine hK.out _ _ ⟨((HB.out.cell (World.block_lt_of_cell? w _ hw311_0)).trans hw311_0), ((HB.out.cell (World.block_lt_of_cell? w _ hw311_1)).trans hw311_1), ((HB.out.cell (World.block_lt_of_cell? w _ hw311_2)).trans hw311_2), ((HB.out.cell (World.block_lt_of_cell? w _ hw311_3)).trans hw311_3), ((HB.out.cell (World.block_lt_of_cell? w _ hw312_0)).trans hw312_0), ((HB.out.cell (World.block_lt_of_cell? w _ hw312_1)).trans hw312_1), ((HB.out.cell (World.block_lt_of_cell? w _ hw312_2)).trans hw312_2), ((HB.out.cell (World.block_lt_of_cell? w _ hw312_3)).trans hw312_3), ((HB.out.cell (World.block_lt_of_cell? w _ hw313_0)).trans hw313_0), ((HB.out.cell (World.block_lt_of_cell? w _ hw313_1)).trans hw313_1), ((HB.out.cell (World.block_lt_of_cell? w _ hw313_2)).trans hw313_2), ((HB.out.cell (World.block_lt_of_cell? w _ hw313_3)).trans hw313_3), ((HB.out.cell (World.block_lt_of_cell? w _ hw314_0)).trans hw314_0), ((HB.out.cell (World.block_lt_of_cell? w _ hw314_1)).trans hw314_1), ((HB.out.cell (World.block_lt_of_cell? w _ hw314_2)).trans hw314_2), ((HB.out.cell (World.block_lt_of_cell? w _ hw314_3)).trans hw314_3)⟩ (fun hHeld => ?_)
            clear hK K
            refine norm_ (a' := ?_) ?_ ?_
            rotate_left
            · show Act.put _ (some 34) _ = _
              simp only [Act.put, List.setIfInBounds_toArray, List.set_cons_zero, List.set_cons_succ, i64_w, i32_w]
              rfl
            refine pure_ (i := 24) (N := some 3) (v := ?_) (a' := ?_) #[true, true, true, true, true, true, true, true, true, true, true, true, true, true, true, true, true, true, true, true, true, true, true, true, true] rfl rfl (any_of HT_.out (by kernel_rfl)) (fun _ _ _ h => h) (Or.inl ⟨by rfl, ?_⟩) ?_ ?_
            rotate_left
            · intro w'; go_simp; with_reducible rfl
            rotate_left
            · simp only [Act.put, List.setIfInBounds_toArray, List.set_cons_zero, List.set_cons_succ, i64_w, i32_w]; rfl
            refine done_ (done_of HT_.out (by kernel_rfl)) ?_
            try go_wp2
            go_roundg k1
            case measure => have := HK1.out; omega
            case rel => exact ⟨(y315), (wrap64 (x4_1 + 1)), (by first | rfl | (simp; done) | (simp [*]; done)), H', ⟨by have := HK1.out; omega⟩, ⟨by (with_reducible repeat (first | apply Kd.R_alloc | apply Kd.R_drewN | apply Kd.R_drew)); exact HO317.out⟩, ⟨by repeat (first | (with_reducible first | exact HB.out | apply below_alloc | apply pw_below_drewN | apply below_drew1) | exact HB.out)⟩⟩
          · rw [if_neg c4] at H
            exact absurd H (by simp)
        · rw [if_neg c3] at H
          exact absurd H (by simp)
      · rw [if_neg c2] at H
        have c2b0 : decide (x4_1 < (l0.length : Int)) = false := decide_eq_false c2
        clear c2
        obtain rfl := Option.some.inj H
        go_wp2
        go_ret
        exact ⟨_, by first | rfl | (simp [errW_none, errW_some] <;> rfl) | (simp [*, errW_none, errW_some] <;> rfl), by (with_reducible repeat (first | apply Kd.R_alloc | apply Kd.R_drewN | apply Kd.R_drew)); exact HO_3.out, by repeat (first | (with_reducible first | exact HB.out | apply below_alloc | apply pw_below_drewN | apply below_drew1) | exact HB.out)⟩
end Go.Proofs.Ytngmcigkihfnkaa.H
end
section
namespace Go.Proofs.Ytngmcigkihfnkaa.H
open Go.RowKit Go.Proofs.YtngmcigkihfnkaaW.PrintWords Go.Proofs.YtngmcigkihfnkaaW.PrintLast Go.Proofs.YtngmcigkihfnkaaW.PrintMore
attribute [local go_sem] max2_int min2_int max_two min_two max_three min_three max_four min_four   -- for this text's walks alone
set_option linter.unusedVariables false
set_option linter.unusedSimpArgs false
def Opens (P : Program) (t : TypeId) {α : Type} (d : Kd α) (ok : α → Prop) : Prop :=
  ∀ {H : Type} (enc : TypeId × Value → H) (w : World) (base fuel : Nat) (held : Bool) (cs : List Value) (x : DataW H × List MemPlace), DataW.trod enc P w base (fun _ => true) held fuel t cs = some x → (∀ n ∈ x.1.weights P t, n ≤ reachBytes) → ∃ y : α, d.K w y cs ∧ ok y
section
open Go.ChangeShapes Go.WideShapes
variable {P : Program}
theorem opens_int {t : TypeId} {k : IntKind} (ht : P.underlying t = some (.int k)) : Opens P t (Kd.int k) (fun n => (Lit.int k n).wf = true) := by
  intro H enc w base fuel held cs x h _
  obtain ⟨n, rfl, _, hw⟩ := DataW.trod_int ht h
  exact ⟨n, rfl, hw⟩
theorem opens_string {t : TypeId} (ht : P.underlying t = some .string) : Opens P t Kd.string (fun s => s.size ≤ 140737488351232) := by
  intro H enc w base fuel held cs x h hw
  obtain ⟨s, rfl, rfl, _⟩ := DataW.trod_string ht h
  refine ⟨s, rfl, ?_⟩
  have := hw s.data.toList.length (by simp [DataW.weights])
  rw [Array.length_toList] at this
  exact this
theorem list_of_lt {α : Type} {p : Nat → α → Prop} : ∀ n : Nat, (∀ i, i < n → ∃ y, p i y) → ∃ ys : List α, ys.length = n ∧ ∀ i y, ys[i]? = some y → p i y
  | 0, _ => ⟨[], rfl, fun i y h => by simp at h⟩
  | n + 1, h => by
    obtain ⟨ys, hl, hp⟩ := list_of_lt n (fun i hi => h i (Nat.lt_succ_of_lt hi))
    obtain ⟨y, hy⟩ := h n (Nat.lt_succ_self n)
    refine ⟨ys ++ [y], by simp [hl], fun i z hz => ?_⟩
    rcases Nat.lt_or_ge i ys.length with hi | hi
    · rw [List.getElem?_append_left hi] at hz
      exact hp i z hz
    · have hlt := (List.getElem?_eq_some_iff.1 hz).1
      rw [List.length_append, List.length_singleton] at hlt
      have e : i = ys.length := by omega
      subst e
      rw [List.getElem?_append_right (Nat.le_refl _)] at hz
      simp at hz
      rw [← hz, hl]
      exact hy
theorem weightsAll_in {H : Type} {e : TypeId} {d : DataW H} : ∀ {l : List (DataW H)}, d ∈ l → ∀ n ∈ d.weights P e, n ∈ DataW.weightsAll P e l
  | [], h, _, _ => by cases h
  | x :: l, h, n, hn => by
    unfold DataW.weightsAll
    rcases List.mem_cons.1 h with rfl | h
    · exact List.mem_append_left _ hn
    · exact List.mem_append_right _ (weightsAll_in h n hn)
theorem opens_slice {α : Type} {d : Kd α} {ok : α → Prop} {t e : TypeId} {B : Nat} (ht : P.underlying t = some (.slice e)) (hc : P.cellsOf e = d.sz) (hB : P.bytesOf e = B) (he : Opens P e d ok) :
    Opens P t (Kd.slice e d) (fun l => l.length * B ≤ 140737488351232 ∧ ∀ y ∈ l, ok y) := by
  intro H enc w base fuel held cs x h hw
  rcases Go.Deep.open_slice ht h with ⟨rfl, rfl⟩ | ⟨a, len, cap, m, n, D, Pl, rfl, _, hl, hm, hmm, rfl, hx⟩
  · exact ⟨[], ⟨none, 0, rfl, Nat.zero_le _, Kd.C_nil _ _⟩, by simp, fun y hy => by cases hy⟩
  · have hmm' : m = cap := by rw [hmm]; rfl
    have hwt : (DataW.slice ((List.range len).map D) ((List.range (m - len)).map fun j => D (len + j))).weights P t = (((List.range len).map D).length + ((List.range (m - len)).map fun j => D (len + j)).length) * P.bytesOf e :: (DataW.weightsAll P e ((List.range len).map D) ++ DataW.weightsAll P e ((List.range (m - len)).map fun j => D (len + j))) := by
      simp [DataW.weights, ht]
    obtain ⟨ys, hyl, hy⟩ := list_of_lt (p := fun i (y : α) => (∃ cs' : List Value, w.cells? base (a.add (i * P.cellsOf e)) (P.cellsOf e) = some cs' ∧ d.K w y cs') ∧ ok y) len (fun i hi => by
      obtain ⟨cs', h1, h2⟩ := hx i (by omega)
      obtain ⟨y, h3, h4⟩ := he enc w base n held cs' _ h2 (fun q hq => hw q (by
        rw [hwt]
        exact List.mem_cons_of_mem _ (List.mem_append_left _ (weightsAll_in (List.mem_map.2 ⟨i, List.mem_range.2 hi, rfl⟩) q hq))))
      exact ⟨y, ⟨cs', h1, h3⟩, h4⟩)
    have hsz := hw ((((List.range len).map D).length + ((List.range (m - len)).map fun j => D (len + j)).length) * P.bytesOf e) (by rw [hwt]; exact List.mem_cons_self)
    rw [List.length_map, List.length_range, hB] at hsz
    have hsz2 : len * B ≤ 140737488351232 := Nat.le_trans (Nat.mul_le_mul_right _ (Nat.le_add_right _ _)) hsz
    refine ⟨ys, ⟨some a, cap, by rw [hyl], by rw [hyl]; exact hl, hyl ▸ rfl, by rw [hyl]; unfold maxLen at hm; omega, fun _ => ⟨a, rfl, fun j p hj => ?_⟩⟩, by rw [hyl]; exact hsz2, fun y hy' => ?_⟩
    · obtain ⟨⟨cs', h1, h2⟩, _⟩ := hy j p hj
      obtain ⟨_, hlen, hcell⟩ := World.cells?_some h1
      refine ⟨cs', hlen.trans hc, h2, fun i u hu => ?_⟩
      have hi : i < P.cellsOf e := by
        have := (List.getElem?_eq_some_iff.1 hu).1
        omega
      have h3 := hcell i hi
      rw [Go.Deep.add_add, hu, hc] at h3
      exact h3
    · obtain ⟨i, hi, hy'⟩ := List.mem_iff_getElem.1 hy'
      exact (hy i y (by rw [List.getElem?_eq_getElem hi, hy'])).2
theorem split_step (cs : List Value) (a s : Nat) : cs.drop a = (cs.drop a).take s ++ cs.drop (a + s) := by
  rw [← List.drop_drop]
  exact (List.take_append_drop s (cs.drop a)).symm
theorem split_last (cs : List Value) (a s : Nat) (h : cs.length ≤ a + s) : (cs.drop a).take s = cs.drop a := List.take_of_length_le (by rw [List.length_drop]; omega)
end
end Go.Proofs.Ytngmcigkihfnkaa.H
end
section
namespace Go.Proofs.Ytngmcigkihfnkaa.H
open Go.RowKit Go.Proofs.YtngmcigkihfnkaaW.PrintWords Go.Proofs.YtngmcigkihfnkaaW.PrintLast Go.Proofs.YtngmcigkihfnkaaW.PrintMore
attribute [local go_sem] max2_int min2_int max_two min_two max_three min_three max_four min_four   -- for this text's walks alone
set_option linter.unusedVariables false
set_option linter.unusedSimpArgs false
def triremeref01_Digits.f : Nat → Int → Option (ByteArray)
  | 0, _ => none
  | k + 1, a0 => if a0 < 10 then (some (strOfNums (([(wrap64 (48 + a0)) % 256] : List Int)))) else ((triremeref01_Digits.f k (wrap64 (Int.tdiv a0 10))).bind fun t235 => ((some (([(wrap64 (48 + (Int.tmod a0 10))) % 256] : List Int) : List Int)).bind fun y236 => (if t235.size + (strOfNums y236).size ≤ 9223372036854775807 then (some (t235 ++ (strOfNums y236))) else (none))))
def triremeref01_Digits.T3 : Bool × List (List Nat × List Nat) := (true, [([], []), ([0], [0]), ([1], [1]), ([], []), ([3], [3]), ([4], [4]), ([5], [5]), ([6], [6]), ([7], [7]), ([2, 8], [2, 8]), ([9, 2, 0, 1, 2, 3, 4, 5, 6, 7, 8, 9], [9])])
def triremeref01_Digits.B3 : List Nat := [0, 1, 3, 0, 8, 24, 56, 120, 248, 511, 1023]
theorem triremeref01_Digits.tab3 : rtab .any (opsOf Try.f47 3) = triremeref01_Digits.T3 := by kernel_rfl
theorem triremeref01_Digits.bits3 : waitsOk triremeref01_Digits.T3.2 triremeref01_Digits.B3 = true := by kernel_rfl
set_option maxHeartbeats 8000000 in
set_option maxRecDepth 100000 in
theorem triremeref01_Digits.calls (k : Nat) : ∀ (a0 : Int) (r : ByteArray) (w : World) (h : triremeref01_Digits.f k a0 = some r),
    Calls Try.prog 47 #[.int .i64 a0] w fun e w' => e = .returned (.string r) ∧ Below w.heap.size w w' := by
  induction k using Nat.strongRecOn with
  | _ k ih =>
  intro a0 r w h
  cases k with
  | zero => exact absurd h (by simp [triremeref01_Digits.f])
  | succ k =>
  simp only [triremeref01_Digits.f] at h
  have HB := Aside0.mk (Below.refl w.heap.size w)
  have H : (if a0 < 10 then (some (strOfNums (([(wrap64 (48 + a0)) % 256] : List Int)))) else ((triremeref01_Digits.f k (wrap64 (Int.tdiv a0 10))).bind fun t235 => ((some (([(wrap64 (48 + (Int.tmod a0 10))) % 256] : List Int) : List Int)).bind fun y236 => (if t235.size + (strOfNums y236).size ≤ 9223372036854775807 then (some (t235 ++ (strOfNums y236))) else (none))))) = some r := h
  clear h
  by_cases c2 : a0 < 10
  · rw [if_pos c2] at H
    have c2b0 : decide (a0 < 10) = true := decide_eq_true c2
    clear c2
    obtain ⟨y232, hy232⟩ : ∃ y_ : List Int, y_ = (([(wrap64 (48 + a0)) % 256] : List Int)) := ⟨_, rfl⟩
    replace H : (some (strOfNums y232)) = some r := by first | (rw [hy232]; with_reducible exact H) | (have H2_ := (Option.bind_some _ _).symm.trans H; rw [hy232]; with_reducible exact H2_) | (have H2_ := (Option.bind_some _ _).symm.trans H; with_reducible exact H2_) | with_reducible exact H | (rw [hy232]; exact H) | exact H
    have Ny232 := Aside0.mk hy232
    clear hy232
    obtain rfl := Option.some.inj H
    go_enter Try.func47, Try.ntmps47
    go_wp2_with (first | ((with_reducible refine gate_dst (N := 8) rfl ?_); refine Kd.R_lit (Kd.int .u8) _ 5 ?hg (N := 8) ?hd (xs := ([(wrap64 (48 + a0)) % 256] : List Int)) (inner := [.int .u8 ((wrap64 (48 + a0)) % 256)]) (ok := fun _ => True) (okp := fun _ => True) ?hr ?hp (fun _ hk => hk) trivial (Below.refl _ _) (Nat.le_refl _) (by simp) ?_; (case hd => rfl); (case hg => rfl); (case hr => first | (go_simp; done) | (go_simp; rfl)); (case hp => exact (Reps.one (show Kd.M (Kd.int .u8) _ _ _ ((wrap64 (48 + a0)) % 256) [.int .u8 ((wrap64 (48 + a0)) % 256)] from rfl) (Reps.none _ _))); intro v233 w3 ho4 hb hg_ hnew_; clear hg_ hnew_; (first | rw [← Ny232.out] at ho4 | (simp only [Int.reduceToNat] at ho4; rw [← Ny232.out] at ho4)); have n0_ := Aside0.mk (Kd.R_lower ho4 (below_size (by repeat (first | (with_reducible first | exact HB.out | apply below_alloc | apply pw_below_drewN | apply below_drew1) | exact HB.out)))); have n1_ := Aside0.mk (below_step (by repeat (first | (with_reducible first | exact HB.out | apply below_alloc | apply pw_below_drewN | apply below_drew1) | exact HB.out)) hb); clear HB; have HO234 := n0_; have HB := n1_; clear n0_ n1_; clear hb ho4; have hcv5 := own_string (P := Try.prog) Try.underlying74 Try.underlying5 Try.underlying9 (Kd.own_of_R HO234.out)))
    go_ret
    exact ⟨by first | rfl | (simp [errW_none, errW_some] <;> rfl) | (simp [*, errW_none, errW_some] <;> rfl), by repeat (first | (with_reducible first | exact HB.out | apply below_alloc | apply pw_below_drewN | apply below_drew1) | exact HB.out)⟩
  · rw [if_neg c2] at H
    have c2b0 : decide (a0 < 10) = false := decide_eq_false c2
    clear c2
    replace H := Option.bind_eq_some_iff.mp H
    obtain ⟨t235, A60, H⟩ := H
    replace H : ((some (([(wrap64 (48 + (Int.tmod a0 10))) % 256] : List Int) : List Int)).bind fun y236 => (if t235.size + (strOfNums y236).size ≤ 9223372036854775807 then (some (t235 ++ (strOfNums y236))) else (none))) = some r := H
    have A6 := Aside0.mk A60
    clear A60
    obtain ⟨y236, hy236⟩ : ∃ y_ : List Int, y_ = (([(wrap64 (48 + (Int.tmod a0 10))) % 256] : List Int)) := ⟨_, rfl⟩
    replace H : (if t235.size + (strOfNums y236).size ≤ 9223372036854775807 then (some (t235 ++ (strOfNums y236))) else (none)) = some r := by first | (rw [hy236]; with_reducible exact H) | (have H2_ := (Option.bind_some _ _).symm.trans H; rw [hy236]; with_reducible exact H2_) | (have H2_ := (Option.bind_some _ _).symm.trans H; with_reducible exact H2_) | with_reducible exact H | (rw [hy236]; exact H) | exact H
    have Ny236 := Aside0.mk hy236
    clear hy236
    by_cases c7 : t235.size + (strOfNums y236).size ≤ 9223372036854775807
    · rw [if_pos c7] at H
      have c7b0 := eq_true c7
      (try (have c7z := c7b0; rw [ByteArray.size_extract, Nat.min_self] at c7z))
      have c7b1 : decide (t235.size + (strOfNums y236).size ≤ 9223372036854775807) = true := decide_eq_true c7
      try have c7b2 : (9223372036854775807 < t235.size + (strOfNums y236).size) = False := eq_false (Nat.not_lt.2 c7)
      obtain rfl := Option.some.inj H
      go_enter Try.func47, Try.ntmps47
      try go_wp2
      have n0_ := Aside0.mk (below_drew1 HB.out)
      clear HB
      have HB := n0_
      clear n0_
      refine start_ (n := 11) (S := fun w' => True) (ds := []) #[false, false, false, false, false, false, false, false, false, false, false] (by kernel_rfl) rfl rfl trivial (fun hHeld => ?_); refine with_tabW triremeref01_Digits.tab3 triremeref01_Digits.bits3 (fun HT_ HW_ => ?_)
      generalize w.drew = w8 at HB hHeld ⊢
      refine pure_ (i := 0) (N := some 10) (v := ?_) (a' := ?_) #[true, false, false, false, false, false, false, false, false, false, false] rfl rfl (any_of HT_.out (by kernel_rfl)) (fun _ _ _ h => h) (Or.inl ⟨by rfl, ?_⟩) ?_ ?_
      rotate_left
      · intro w'; go_simp; with_reducible rfl
      rotate_left
      · simp only [Act.put, List.setIfInBounds_toArray, List.set_cons_zero, List.set_cons_succ, i64_w, i32_w]; rfl
      refine pure_ (i := 1) (N := some 11) (v := ?_) (a' := ?_) #[true, true, false, false, false, false, false, false, false, false, false] rfl rfl (any_of HT_.out (by kernel_rfl)) (fun _ _ _ h => h) (Or.inl ⟨by rfl, ?_⟩) ?_ ?_
      rotate_left
      · intro w'; go_simp; with_reducible rfl
      rotate_left
      · simp only [Act.put, List.setIfInBounds_toArray, List.set_cons_zero, List.set_cons_succ, i64_w, i32_w]; rfl
      refine pure_ (i := 3) (N := some 13) (v := ?_) (a' := ?_) #[true, true, false, true, false, false, false, false, false, false, false] rfl rfl (any_of HT_.out (by kernel_rfl)) (fun _ _ _ h => h) (Or.inl ⟨by rfl, ?_⟩) ?_ ?_
      rotate_left
      · intro w'; go_simp; with_reducible rfl
      rotate_left
      · simp only [Act.put, List.setIfInBounds_toArray, List.set_cons_zero, List.set_cons_succ, i64_w, i32_w]; rfl
      refine pure_ (i := 4) (N := some 14) (v := ?_) (a' := ?_) #[true, true, false, true, true, false, false, false, false, false, false] rfl rfl (any_of HT_.out (by kernel_rfl)) (fun _ _ _ h => h) (Or.inl ⟨by rfl, ?_⟩) ?_ ?_
      rotate_left
      · intro w'; go_simp; with_reducible rfl
      rotate_left
      · simp only [Act.put, List.setIfInBounds_toArray, List.set_cons_zero, List.set_cons_succ, i64_w, i32_w]; rfl
      refine pure_ (i := 5) (N := some 15) (v := ?_) (a' := ?_) #[true, true, false, true, true, true, false, false, false, false, false] rfl rfl (any_of HT_.out (by kernel_rfl)) (fun _ _ _ h => h) (Or.inl ⟨by rfl, ?_⟩) ?_ ?_
      rotate_left
      · intro w'; go_simp; with_reducible rfl
      rotate_left
      · simp only [Act.put, List.setIfInBounds_toArray, List.set_cons_zero, List.set_cons_succ, i64_w, i32_w]; rfl
      refine pure_ (i := 6) (N := some 16) (v := ?_) (a' := ?_) #[true, true, false, true, true, true, true, false, false, false, false] rfl rfl (any_of HT_.out (by kernel_rfl)) (fun _ _ _ h => h) (Or.inl ⟨by rfl, ?_⟩) ?_ ?_
      rotate_left
      · intro w'; go_simp; with_reducible rfl
      rotate_left
      · simp only [Act.put, List.setIfInBounds_toArray, List.set_cons_zero, List.set_cons_succ, i64_w, i32_w]; rfl
      refine join_ (σ := Value) 2 #[true, true, true, true, true, true, true, true, true, false, false] (fun s_ => [(12, .string t235), (17, s_), (18, .string (strOfNums y236))]) (fun s_ w' => (Kd.R (Kd.int .u8) 5 w' w.heap.size (fun _ => True) s_ y236) ∧ (Below w.heap.size w w')) ?_ ?_
      rotate_left
      · intro hCont
        refine two_ (i := 2) (j := 7) (Ni := some 12) (Nj := some 17) #[true, true, true, true, true, true, true, false, false, false, false] #[true, true, false, true, true, true, true, true, false, false, false] rfl rfl rfl rfl (two_of HT_.out (by kernel_rfl)) (by decide) (by decide) (fun K hK => ?_) (fun K hK => ?_)
        · skip
          refine goes_ Try.func47 (by kernel_rfl) rfl #[.int .i64 (wrap64 (Int.tdiv a0 10))] (by rfl) rfl rfl (by (try simp only [List.map_toArray, List.map_cons, List.map_nil]); first | done | rfl | (simp only [List.length_drop, List.length_take]; rfl)) ?_
          with_reducible refine (ih k (by omega) (wrap64 (Int.tdiv a0 10)) t235 _ A6.out).mono ?_
          rintro e w9 ⟨rfl, hb⟩
          refine ⟨_, rfl, ?_⟩
          have n0_ := Aside0.mk (below_step (by repeat (first | (with_reducible first | exact HB.out | apply below_alloc | apply pw_below_drewN | apply below_drew1) | exact HB.out)) hb)
          clear HB
          have HB := n0_
          clear n0_
          (try clear hb); (try clear hb2); (try clear hk); (try clear hi)
          refine hK.out _ _ trivial (fun hHeld => ?_)
          clear hK K
          refine norm_ (a' := ?_) ?_ ?_
          rotate_left
          · show Act.put _ (some 12) _ = _
            simp only [Act.put, List.setIfInBounds_toArray, List.set_cons_zero, List.set_cons_succ, i64_w, i32_w]
            rfl
          refine one_ (i := 7) (N := some 17) #[true, true, true, true, true, true, true, true, false, false, false] rfl rfl (one_of HT_.out (by kernel_rfl)) (by decide) (fun K hK => ?_)
          refine Kd.R_lit_step (Kd.int .u8) _ 5 ?hg (N := 17) ?hd (xs := ([(wrap64 (48 + (Int.tmod a0 10))) % 256] : List Int)) (inner := [.int .u8 ((wrap64 (48 + (Int.tmod a0 10))) % 256)]) (ok := fun _ => True) (okp := fun _ => True) ?hr ?hp (fun _ hk => hk) trivial (Below.refl _ _) (Nat.le_refl _) (by simp) ?_; (case hd => rfl); (case hg => rfl); (case hr => first | (go_simp; done) | (go_simp; rfl)); (case hp => exact (Reps.one (show Kd.M (Kd.int .u8) _ _ _ ((wrap64 (48 + (Int.tmod a0 10))) % 256) [.int .u8 ((wrap64 (48 + (Int.tmod a0 10))) % 256)] from rfl) (Reps.none _ _)))
          intro v237 w10 ho11 hb hg_ hnew_
          clear hg_ hnew_
          (first | rw [← Ny236.out] at ho11 | (simp only [Int.reduceToNat] at ho11; rw [← Ny236.out] at ho11))
          have n0_ := Aside0.mk (Kd.R_lower ho11 (below_size (by repeat (first | (with_reducible first | exact HB.out | apply below_alloc | apply pw_below_drewN | apply below_drew1) | exact HB.out))))
          have n1_ := Aside0.mk (below_step (by repeat (first | (with_reducible first | exact HB.out | apply below_alloc | apply pw_below_drewN | apply below_drew1) | exact HB.out)) hb)
          clear HB
          have HO238 := n0_
          have HB := n1_
          clear n0_ n1_
          clear hb ho11
          refine hK.out _ _ trivial (fun hHeld => ?_)
          clear hK K
          refine norm_ (a' := ?_) ?_ ?_
          rotate_left
          · show Act.put _ (some 17) _ = _
            simp only [Act.put, List.setIfInBounds_toArray, List.set_cons_zero, List.set_cons_succ, i64_w, i32_w]
            rfl
          refine one_ (i := 8) (N := some 18) #[true, true, true, true, true, true, true, true, true, false, false] rfl rfl (one_of HT_.out (by kernel_rfl)) (by decide) (fun K hK => ?_)
          have hcv12 := own_string (P := Try.prog) Try.underlying74 Try.underlying5 Try.underlying9 (Kd.own_of_R HO238.out)
          refine value_ (w1 := ?_) (v := ?_) (by rfl) rfl ?_ ?_
          rotate_left 2
          · go_simp
            constructor
            · rfl
            · rfl
          clear hcv12
          refine hK.out _ _ trivial (fun hHeld => ?_)
          clear hK K
          refine norm_ (a' := ?_) ?_ ?_
          rotate_left
          · show Act.put _ (some 18) _ = _
            simp only [Act.put, List.setIfInBounds_toArray, List.set_cons_zero, List.set_cons_succ, i64_w, i32_w]
            rfl
          exact norm_ (by simp only [putAll, Act.put, List.setIfInBounds_toArray, List.set_cons_zero, List.set_cons_succ]) (hCont (v237) _ ⟨(by (with_reducible repeat (first | apply Kd.R_alloc | apply Kd.R_drewN | apply Kd.R_drew)); exact HO238.out), (by repeat (first | (with_reducible first | exact HB.out | apply below_alloc | apply pw_below_drewN | apply below_drew1) | exact HB.out))⟩)
        · skip
          refine Kd.R_lit_step (Kd.int .u8) _ 5 ?hg (N := 17) ?hd (xs := ([(wrap64 (48 + (Int.tmod a0 10))) % 256] : List Int)) (inner := [.int .u8 ((wrap64 (48 + (Int.tmod a0 10))) % 256)]) (ok := fun _ => True) (okp := fun _ => True) ?hr ?hp (fun _ hk => hk) trivial (Below.refl _ _) (Nat.le_refl _) (by simp) ?_; (case hd => rfl); (case hg => rfl); (case hr => first | (go_simp; done) | (go_simp; rfl)); (case hp => exact (Reps.one (show Kd.M (Kd.int .u8) _ _ _ ((wrap64 (48 + (Int.tmod a0 10))) % 256) [.int .u8 ((wrap64 (48 + (Int.tmod a0 10))) % 256)] from rfl) (Reps.none _ _)))
          intro v237 w9 ho10 hb hg_ hnew_
          clear hg_ hnew_
          (first | rw [← Ny236.out] at ho10 | (simp only [Int.reduceToNat] at ho10; rw [← Ny236.out] at ho10))
          have n0_ := Aside0.mk (Kd.R_lower ho10 (below_size (by repeat (first | (with_reducible first | exact HB.out | apply below_alloc | apply pw_below_drewN | apply below_drew1) | exact HB.out))))
          have n1_ := Aside0.mk (below_step (by repeat (first | (with_reducible first | exact HB.out | apply below_alloc | apply pw_below_drewN | apply below_drew1) | exact HB.out)) hb)
          clear HB
          have HO238 := n0_
          have HB := n1_
          clear n0_ n1_
          clear hb ho10
          refine hK.out _ _ trivial (fun hHeld => ?_)
          clear hK K
          refine norm_ (a' := ?_) ?_ ?_
          rotate_left
          · show Act.put _ (some 17) _ = _
            simp only [Act.put, List.setIfInBounds_toArray, List.set_cons_zero, List.set_cons_succ, i64_w, i32_w]
            rfl
          refine two_ (i := 2) (j := 8) (Ni := some 12) (Nj := some 18) #[true, true, true, true, true, true, true, true, false, false, false] #[true, true, false, true, true, true, true, true, true, false, false] rfl rfl rfl rfl (two_of HT_.out (by kernel_rfl)) (by decide) (by decide) (fun K hK => ?_) (fun K hK => ?_)
          · skip
            refine goes_ Try.func47 (by kernel_rfl) rfl #[.int .i64 (wrap64 (Int.tdiv a0 10))] (by rfl) rfl rfl (by (try simp only [List.map_toArray, List.map_cons, List.map_nil]); first | done | rfl | (simp only [List.length_drop, List.length_take]; rfl)) ?_
            with_reducible refine (ih k (by omega) (wrap64 (Int.tdiv a0 10)) t235 _ A6.out).mono ?_
            rintro e w11 ⟨rfl, hb⟩
            refine ⟨_, rfl, ?_⟩
            have n0_ := Aside0.mk (Kd.R_below (by (with_reducible repeat (first | apply Kd.R_alloc | apply Kd.R_drewN | apply Kd.R_drew)); exact HO238.out) hb)
            have n1_ := Aside0.mk (below_step (by repeat (first | (with_reducible first | exact HB.out | apply below_alloc | apply pw_below_drewN | apply below_drew1) | exact HB.out)) hb)
            clear HO238
            clear HB
            have HO238 := n0_
            have HB := n1_
            clear n0_ n1_
            (try clear hb); (try clear hb2); (try clear hk); (try clear hi)
            refine hK.out _ _ trivial (fun hHeld => ?_)
            clear hK K
            refine norm_ (a' := ?_) ?_ ?_
            rotate_left
            · show Act.put _ (some 12) _ = _
              simp only [Act.put, List.setIfInBounds_toArray, List.set_cons_zero, List.set_cons_succ, i64_w, i32_w]
              rfl
            refine one_ (i := 8) (N := some 18) #[true, true, true, true, true, true, true, true, true, false, false] rfl rfl (one_of HT_.out (by kernel_rfl)) (by decide) (fun K hK => ?_)
            have hcv12 := own_string (P := Try.prog) Try.underlying74 Try.underlying5 Try.underlying9 (Kd.own_of_R HO238.out)
            refine value_ (w1 := ?_) (v := ?_) (by rfl) rfl ?_ ?_
            rotate_left 2
            · go_simp
              constructor
              · rfl
              · rfl
            clear hcv12
            refine hK.out _ _ trivial (fun hHeld => ?_)
            clear hK K
            refine norm_ (a' := ?_) ?_ ?_
            rotate_left
            · show Act.put _ (some 18) _ = _
              simp only [Act.put, List.setIfInBounds_toArray, List.set_cons_zero, List.set_cons_succ, i64_w, i32_w]
              rfl
            exact norm_ (by simp only [putAll, Act.put, List.setIfInBounds_toArray, List.set_cons_zero, List.set_cons_succ]) (hCont (v237) _ ⟨(by (with_reducible repeat (first | apply Kd.R_alloc | apply Kd.R_drewN | apply Kd.R_drew)); exact HO238.out), (by repeat (first | (with_reducible first | exact HB.out | apply below_alloc | apply pw_below_drewN | apply below_drew1) | exact HB.out))⟩)
          · skip
            have hcv11 := own_string (P := Try.prog) Try.underlying74 Try.underlying5 Try.underlying9 (Kd.own_of_R HO238.out)
            refine value_ (w1 := ?_) (v := ?_) (by rfl) rfl ?_ ?_
            rotate_left 2
            · go_simp
              constructor
              · rfl
              · rfl
            clear hcv11
            refine hK.out _ _ trivial (fun hHeld => ?_)
            clear hK K
            refine norm_ (a' := ?_) ?_ ?_
            rotate_left
            · show Act.put _ (some 18) _ = _
              simp only [Act.put, List.setIfInBounds_toArray, List.set_cons_zero, List.set_cons_succ, i64_w, i32_w]
              rfl
            refine one_ (i := 2) (N := some 12) #[true, true, true, true, true, true, true, true, true, false, false] rfl rfl (one_of HT_.out (by kernel_rfl)) (by decide) (fun K hK => ?_)
            refine goes_ Try.func47 (by kernel_rfl) rfl #[.int .i64 (wrap64 (Int.tdiv a0 10))] (by rfl) rfl rfl (by (try simp only [List.map_toArray, List.map_cons, List.map_nil]); first | done | rfl | (simp only [List.length_drop, List.length_take]; rfl)) ?_
            with_reducible refine (ih k (by omega) (wrap64 (Int.tdiv a0 10)) t235 _ A6.out).mono ?_
            rintro e w12 ⟨rfl, hb⟩
            refine ⟨_, rfl, ?_⟩
            have n0_ := Aside0.mk (Kd.R_below (by (with_reducible repeat (first | apply Kd.R_alloc | apply Kd.R_drewN | apply Kd.R_drew)); exact HO238.out) hb)
            have n1_ := Aside0.mk (below_step (by repeat (first | (with_reducible first | exact HB.out | apply below_alloc | apply pw_below_drewN | apply below_drew1) | exact HB.out)) hb)
            clear HO238
            clear HB
            have HO238 := n0_
            have HB := n1_
            clear n0_ n1_
            (try clear hb); (try clear hb2); (try clear hk); (try clear hi)
            refine hK.out _ _ trivial (fun hHeld => ?_)
            clear hK K
            refine norm_ (a' := ?_) ?_ ?_
            rotate_left
            · show Act.put _ (some 12) _ = _
              simp only [Act.put, List.setIfInBounds_toArray, List.set_cons_zero, List.set_cons_succ, i64_w, i32_w]
              rfl
            exact norm_ (by simp only [putAll, Act.put, List.setIfInBounds_toArray, List.set_cons_zero, List.set_cons_succ]) (hCont (v237) _ ⟨(by (with_reducible repeat (first | apply Kd.R_alloc | apply Kd.R_drewN | apply Kd.R_drew)); exact HO238.out), (by repeat (first | (with_reducible first | exact HB.out | apply below_alloc | apply pw_below_drewN | apply below_drew1) | exact HB.out))⟩)
      rintro v237 w13 ⟨h0_, h1_⟩
      have n0_ : Aside0 (Kd.R (Kd.int .u8) 5 w13 w.heap.size (fun _ => True) v237 y236) := ⟨h0_⟩
      have n1_ : Aside0 (Below w.heap.size w w13) := ⟨h1_⟩
      clear HB
      clear h0_ h1_
      have HO238 := n0_
      have HB := n1_
      clear n0_ n1_
      have hHeld := trivial
      refine norm_ (a' := ?_) ?_ ?_
      rotate_left
      · simp only [putAll, Act.put, List.setIfInBounds_toArray, List.set_cons_zero, List.set_cons_succ]
        rfl
      refine pure_ (i := 9) (N := some 19) (v := ?_) (a' := ?_) #[true, true, true, true, true, true, true, true, true, true, false] rfl rfl (any_of HT_.out (by kernel_rfl)) (fun _ _ _ h => h) (Or.inl ⟨by rfl, ?_⟩) ?_ ?_
      rotate_left
      · intro w'; go_simp; with_reducible rfl
      rotate_left
      · simp only [Act.put, List.setIfInBounds_toArray, List.set_cons_zero, List.set_cons_succ, i64_w, i32_w]; rfl
      refine pure_ (i := 10) (N := some 2) (v := ?_) (a' := ?_) #[true, true, true, true, true, true, true, true, true, true, true] rfl rfl (any_of HT_.out (by kernel_rfl)) (fun _ _ _ h => h) (Or.inl ⟨by rfl, ?_⟩) ?_ ?_
      rotate_left
      · intro w'; go_simp; with_reducible rfl
      rotate_left
      · simp only [Act.put, List.setIfInBounds_toArray, List.set_cons_zero, List.set_cons_succ, i64_w, i32_w]; rfl
      refine done_ (done_of HT_.out (by kernel_rfl)) ?_
      try go_wp2
      go_ret
      exact ⟨by first | rfl | (simp [errW_none, errW_some] <;> rfl) | (simp [*, errW_none, errW_some] <;> rfl), by repeat (first | (with_reducible first | exact HB.out | apply below_alloc | apply pw_below_drewN | apply below_drew1) | exact HB.out)⟩
    · rw [if_neg c7] at H
      exact absurd H (by simp)
end Go.Proofs.Ytngmcigkihfnkaa.H
end
section
namespace Go.Proofs.Ytngmcigkihfnkaa.H
open Go.RowKit Go.Proofs.YtngmcigkihfnkaaW.PrintWords Go.Proofs.YtngmcigkihfnkaaW.PrintLast Go.Proofs.YtngmcigkihfnkaaW.PrintMore
set_option linter.unusedVariables false
set_option linter.unusedSimpArgs false
theorem decGo_len : ∀ f n acc, (decGo f n acc).length ≤ f + acc.length
  | 0, _, acc => by simp [decGo]
  | f + 1, n, acc => by
    unfold decGo
    split
    · simp; omega
    · have := decGo_len f (n / 10) ((48 + ((n % 10 : Nat) : Int)) :: acc)
      simp at this ⊢
      omega
theorem append_toList (a b : ByteArray) : (a ++ b).toList = a.toList ++ b.toList := by
  rw [ByteArray.toList_eq, ByteArray.toList_eq, ByteArray.toList_eq, ByteArray.data_append, Array.toList_append]
theorem one_size (x : Int) : (strOfNums [x]).size = 1 := rfl
theorem pdig_step (x : Nat) (h : x ≤ 9000000000000000000) : (wrap64 (48 + (Int.tmod (x : Int) 10))) % 256 = ((48 + x % 10 : Nat) : Int) := by
  rw [show Int.tmod (x : Int) 10 = ((x % 10 : Nat) : Int) from rfl, wrap_small (by omega) (by omega)]; omega
theorem pdiv_step (x : Nat) (h : x ≤ 9000000000000000000) : wrap64 (Int.tdiv (x : Int) 10) = ((x / 10 : Nat) : Int) := by
  rw [show Int.tdiv (x : Int) 10 = ((x / 10 : Nat) : Int) from rfl, wrap_small (by omega) (by omega)]
theorem decGo_app : ∀ (f n : Nat) (acc : List Int), decGo f n acc = decGo f n [] ++ acc
  | 0, _, acc => rfl
  | f + 1, n, acc => by
    simp only [decGo]
    by_cases h : n < 10
    · rw [if_pos h, if_pos h]; rfl
    · rw [if_neg h, if_neg h, decGo_app f _ (_ :: acc), decGo_app f _ [_], List.append_assoc]; rfl
theorem strOfNums_app (a b : List Int) : strOfNums (a ++ b) = strOfNums a ++ strOfNums b := by
  apply toList_inj
  rw [append_toList, ByteArray.toList_eq, ByteArray.toList_eq, ByteArray.toList_eq]
  simp [strOfNums]
theorem strOfNums_size (a : List Int) : (strOfNums a).size = a.length := by simp [strOfNums, ByteArray.size]
theorem one_cast' (d : Nat) : (48 + (d : Int)) = ((48 + d : Nat) : Int) := by omega
theorem digits_ev0 : ∀ (e n : Nat), n < 10 ^ (e + 1) → e + 1 ≤ 20 → n ≤ 9000000000000000000 → Ev (fun k => triremeref01_Digits.f k (n : Int)) (strOfNums (decGo (e + 1) n [])) := by
  intro e
  induction e with
  | zero =>
    intro n h he hn
    refine Ev.step (fun k => by rw [triremeref01_Digits.f]) ?_
    have h1 : n < 10 := by simpa using h
    simp only [decGo, h1, show (n : Int) < 10 by omega, if_true]
    rw [wrap_small (by omega) (by omega), show (48 + (n : Int)) % 256 = 48 + (n : Int) by omega]
    exact Ev.now _
  | succ e ih =>
    intro n h he hn
    refine Ev.step (fun k => by rw [triremeref01_Digits.f]) ?_
    by_cases h1 : n < 10
    · rw [decGo]
      simp only [h1, show (n : Int) < 10 by omega, if_true]
      rw [wrap_small (by omega) (by omega), show (48 + (n : Int)) % 256 = 48 + (n : Int) by omega]
      exact Ev.now _
    · rw [decGo]
      simp only [h1, show ¬ (n : Int) < 10 by omega, if_false]
      have hq : n / 10 < 10 ^ (e + 1) := by rw [Nat.pow_succ] at h; omega
      rw [pdiv_step n hn]
      refine Ev.bind (ih (n / 10) hq (by omega) (by omega)) ?_
      rw [pdig_step n hn, decGo_app _ _ [48 + ((n % 10 : Nat) : Int)], strOfNums_app, one_cast']
      simp only [Option.bind_some]
      refine ev_if (fun _ => Ev.now _) (fun h => absurd ?_ h)
      rw [strOfNums_size, one_size]
      have := decGo_len (e + 1) (n / 10) []
      simp only [List.length_nil] at this
      omega
theorem digits_ev (n : Nat) (hn : n ≤ 9000000000000000000) : Ev (fun k => triremeref01_Digits.f k (n : Int)) (decB (n : Int)) :=
  digits_ev0 19 n (Nat.lt_of_le_of_lt hn (by decide)) (by omega) hn
end Go.Proofs.Ytngmcigkihfnkaa.H
end
section
namespace Go.Proofs.Ytngmcigkihfnkaa.H
open Go.RowKit Go.Proofs.YtngmcigkihfnkaaW.PrintWords Go.Proofs.YtngmcigkihfnkaaW.PrintLast Go.Proofs.YtngmcigkihfnkaaW.PrintMore
attribute [local go_sem] max2_int min2_int max_two min_two max_three min_three max_four min_four   -- for this text's walks alone
set_option linter.unusedVariables false
set_option linter.unusedSimpArgs false
def triremeref01_more.f (a0 : ByteArray) (a1 : Int) : Option (Bool) := if a1 < (a0.size : Int) then (if 0 ≤ a1 then (if (bt a0 a1) ≥ 128 then (some (decide ((bt a0 a1) < 192))) else (some false)) else (none)) else (some false)
set_option maxHeartbeats 8000000 in
set_option maxRecDepth 100000 in
theorem triremeref01_more.calls (a0 : ByteArray) (a1 : Int) (r : Bool) (w : World) (h : triremeref01_more.f a0 a1 = some r) :
    Calls Try.prog 50 #[.string a0, .int .i64 a1] w fun e w' => e = .returned (.bool r) ∧ Drawn0 w w' := by
  have H : (if a1 < (a0.size : Int) then (if 0 ≤ a1 then (if (bt a0 a1) ≥ 128 then (some (decide ((bt a0 a1) < 192))) else (some false)) else (none)) else (some false)) = some r := h
  clear h
  by_cases c3 : a1 < (a0.size : Int)
  · rw [if_pos c3] at H
    have c3b0 : decide (a1 < (a0.size : Int)) = true := decide_eq_true c3
    clear c3
    by_cases c4 : 0 ≤ a1
    · rw [if_pos c4] at H
      have c4b0 : decide (0 ≤ a1) = true := decide_eq_true c4
      clear c4
      by_cases c6 : (bt a0 a1) ≥ 128
      · rw [if_pos c6] at H
        have c6b0 : decide (128 ≤ (bt a0 a1)) = true := decide_eq_true c6
        clear c6
        obtain rfl := Option.some.inj H
        have p5 : 0 ≤ (a1 : Int) := of_decide_eq_true (by first | (with_reducible assumption) | assumption)
        have q5 : a1 < (a0.size : Int) := of_decide_eq_true (by first | (with_reducible assumption) | assumption)
        have hx5 := bt_at a0 a1
        replace p5 := eq_true p5
        replace q5 := eq_true q5
        (try (have qz5 := q5; rw [ByteArray.size_extract, Nat.min_self] at qz5))
        have p7 : 0 ≤ (a1 : Int) := of_decide_eq_true (by first | (with_reducible assumption) | assumption)
        have q7 : a1 < (a0.size : Int) := of_decide_eq_true (by first | (with_reducible assumption) | assumption)
        have hx7 := bt_at a0 a1
        replace p7 := eq_true p7
        replace q7 := eq_true q7
        (try (have qz7 := q7; rw [ByteArray.size_extract, Nat.min_self] at qz7))
        go_enter Try.func50, Try.ntmps50
        go_wp2
        go_ret
        exact ⟨by first | rfl | (simp; done) | (simp [*]; done), by repeat (first | exact Drawn0.refl _ | apply Drawn0.step)⟩
      · rw [if_neg c6] at H
        have c6b0 : decide (128 ≤ (bt a0 a1)) = false := decide_eq_false c6
        clear c6
        obtain rfl := Option.some.inj H
        have p5 : 0 ≤ (a1 : Int) := of_decide_eq_true (by first | (with_reducible assumption) | assumption)
        have q5 : a1 < (a0.size : Int) := of_decide_eq_true (by first | (with_reducible assumption) | assumption)
        have hx5 := bt_at a0 a1
        replace p5 := eq_true p5
        replace q5 := eq_true q5
        (try (have qz5 := q5; rw [ByteArray.size_extract, Nat.min_self] at qz5))
        go_enter Try.func50, Try.ntmps50
        go_wp2
        go_ret
        exact ⟨by first | rfl | (simp; done) | (simp [*]; done), by repeat (first | exact Drawn0.refl _ | apply Drawn0.step)⟩
    · rw [if_neg c4] at H
      exact absurd H (by simp)
  · rw [if_neg c3] at H
    have c3b0 : decide (a1 < (a0.size : Int)) = false := decide_eq_false c3
    clear c3
    obtain rfl := Option.some.inj H
    go_enter Try.func50, Try.ntmps50
    go_wp2
    go_ret
    exact ⟨by first | rfl | (simp; done) | (simp [*]; done), by repeat (first | exact Drawn0.refl _ | apply Drawn0.step)⟩
end Go.Proofs.Ytngmcigkihfnkaa.H
end
section
namespace Go.Proofs.Ytngmcigkihfnkaa.H
open Go.RowKit Go.Proofs.YtngmcigkihfnkaaW.PrintWords Go.Proofs.YtngmcigkihfnkaaW.PrintLast Go.Proofs.YtngmcigkihfnkaaW.PrintMore
attribute [local go_sem] max2_int min2_int max_two min_two max_three min_three max_four min_four   -- for this text's walks alone
set_option linter.unusedVariables false
set_option linter.unusedSimpArgs false
mutual
def triremeref01_Rune.j0 : Nat → ByteArray → Int → Int → Bool → Option (Int × Int)
  | 0, _, _, _, _ => none
  | k + 1, x0, x1, x6, x18 => if x18 = true then (if 0 ≤ (wrap64 (x1 + 1)) then (if (wrap64 (x1 + 1)) < (x0.size : Int) then (if (wrap64 ((wrap64 ((wrap64 ((wrap64 (x6 - 192)) * 64)) + (wrap64 (bt x0 (wrap64 (x1 + 1)))))) - 128)) ≥ 128 then (some (wrap64 ((wrap64 ((wrap64 ((wrap64 (x6 - 192)) * 64)) + (wrap64 (bt x0 (wrap64 (x1 + 1)))))) - 128), 2)) else (some (0, 0))) else (none)) else (none)) else (if x6 ≥ 224 then (if x6 < 240 then ((triremeref01_more.f x0 (wrap64 (x1 + 1))).bind fun t220 => (if t220 = true then ((triremeref01_more.f x0 (wrap64 (x1 + 2))).bind fun t221 => (triremeref01_Rune.j1 k x0 x1 x6 t221)) else (triremeref01_Rune.j1 k x0 x1 x6 false))) else (triremeref01_Rune.j1 k x0 x1 x6 false)) else (triremeref01_Rune.j1 k x0 x1 x6 false))
def triremeref01_Rune.j1 : Nat → ByteArray → Int → Int → Bool → Option (Int × Int)
  | 0, _, _, _, _ => none
  | k + 1, x0, x1, x6, x44 => if x44 = true then (if 0 ≤ (wrap64 (x1 + 1)) then (if (wrap64 (x1 + 1)) < (x0.size : Int) then (if 0 ≤ (wrap64 (x1 + 2)) then (if (wrap64 (x1 + 2)) < (x0.size : Int) then (if (wrap64 ((wrap64 ((wrap64 ((wrap64 ((wrap64 (x6 - 224)) * 4096)) + (wrap64 ((wrap64 ((wrap64 (bt x0 (wrap64 (x1 + 1)))) - 128)) * 64)))) + (wrap64 (bt x0 (wrap64 (x1 + 2)))))) - 128)) ≥ 2048 then (if (wrap64 ((wrap64 ((wrap64 ((wrap64 ((wrap64 (x6 - 224)) * 4096)) + (wrap64 ((wrap64 ((wrap64 (bt x0 (wrap64 (x1 + 1)))) - 128)) * 64)))) + (wrap64 (bt x0 (wrap64 (x1 + 2)))))) - 128)) < 55296 then (some (wrap64 ((wrap64 ((wrap64 ((wrap64 ((wrap64 (x6 - 224)) * 4096)) + (wrap64 ((wrap64 ((wrap64 (bt x0 (wrap64 (x1 + 1)))) - 128)) * 64)))) + (wrap64 (bt x0 (wrap64 (x1 + 2)))))) - 128), 3)) else (if (wrap64 ((wrap64 ((wrap64 ((wrap64 ((wrap64 (x6 - 224)) * 4096)) + (wrap64 ((wrap64 ((wrap64 (bt x0 (wrap64 (x1 + 1)))) - 128)) * 64)))) + (wrap64 (bt x0 (wrap64 (x1 + 2)))))) - 128)) > 57343 then (some (wrap64 ((wrap64 ((wrap64 ((wrap64 ((wrap64 (x6 - 224)) * 4096)) + (wrap64 ((wrap64 ((wrap64 (bt x0 (wrap64 (x1 + 1)))) - 128)) * 64)))) + (wrap64 (bt x0 (wrap64 (x1 + 2)))))) - 128), 3)) else (some (0, 0)))) else (some (0, 0))) else (none)) else (none)) else (none)) else (none)) else (if x6 ≥ 240 then (if x6 < 248 then ((triremeref01_more.f x0 (wrap64 (x1 + 1))).bind fun t222 => (if t222 = true then ((triremeref01_more.f x0 (wrap64 (x1 + 2))).bind fun t223 => (if t223 = true then ((triremeref01_more.f x0 (wrap64 (x1 + 3))).bind fun t224 => (triremeref01_Rune.j2 k x0 x1 x6 t224)) else (triremeref01_Rune.j2 k x0 x1 x6 false))) else (triremeref01_Rune.j2 k x0 x1 x6 false))) else (triremeref01_Rune.j2 k x0 x1 x6 false)) else (triremeref01_Rune.j2 k x0 x1 x6 false))
def triremeref01_Rune.j2 : Nat → ByteArray → Int → Int → Bool → Option (Int × Int)
  | 0, _, _, _, _ => none
  | k + 1, x0, x1, x6, x92 => if x92 = true then (if 0 ≤ (wrap64 (x1 + 1)) then (if (wrap64 (x1 + 1)) < (x0.size : Int) then (if 0 ≤ (wrap64 (x1 + 2)) then (if (wrap64 (x1 + 2)) < (x0.size : Int) then (if 0 ≤ (wrap64 (x1 + 3)) then (if (wrap64 (x1 + 3)) < (x0.size : Int) then (if (wrap64 ((wrap64 ((wrap64 ((wrap64 ((wrap64 ((wrap64 (x6 - 240)) * 262144)) + (wrap64 ((wrap64 ((wrap64 (bt x0 (wrap64 (x1 + 1)))) - 128)) * 4096)))) + (wrap64 ((wrap64 ((wrap64 (bt x0 (wrap64 (x1 + 2)))) - 128)) * 64)))) + (wrap64 (bt x0 (wrap64 (x1 + 3)))))) - 128)) ≥ 65536 then (if (wrap64 ((wrap64 ((wrap64 ((wrap64 ((wrap64 ((wrap64 (x6 - 240)) * 262144)) + (wrap64 ((wrap64 ((wrap64 (bt x0 (wrap64 (x1 + 1)))) - 128)) * 4096)))) + (wrap64 ((wrap64 ((wrap64 (bt x0 (wrap64 (x1 + 2)))) - 128)) * 64)))) + (wrap64 (bt x0 (wrap64 (x1 + 3)))))) - 128)) ≤ 1114111 then (some (wrap64 ((wrap64 ((wrap64 ((wrap64 ((wrap64 ((wrap64 (x6 - 240)) * 262144)) + (wrap64 ((wrap64 ((wrap64 (bt x0 (wrap64 (x1 + 1)))) - 128)) * 4096)))) + (wrap64 ((wrap64 ((wrap64 (bt x0 (wrap64 (x1 + 2)))) - 128)) * 64)))) + (wrap64 (bt x0 (wrap64 (x1 + 3)))))) - 128), 4)) else (some (0, 0))) else (some (0, 0))) else (none)) else (none)) else (none)) else (none)) else (none)) else (none)) else (some (0, 0))
end
def triremeref01_Rune.f (k : Nat) (a0 : ByteArray) (a1 : Int) : Option (Int × Int) := if 0 ≤ a1 then (if a1 < (a0.size : Int) then (if (wrap64 (bt a0 a1)) < 128 then (some (wrap64 (bt a0 a1), 1)) else (if (wrap64 (bt a0 a1)) ≥ 192 then (if (wrap64 (bt a0 a1)) < 224 then ((triremeref01_more.f a0 (wrap64 (a1 + 1))).bind fun t219 => (triremeref01_Rune.j0 k a0 a1 (wrap64 (bt a0 a1)) t219)) else (triremeref01_Rune.j0 k a0 a1 (wrap64 (bt a0 a1)) false)) else (triremeref01_Rune.j0 k a0 a1 (wrap64 (bt a0 a1)) false))) else (none)) else (none)
set_option maxHeartbeats 8000000 in
set_option maxRecDepth 100000 in
theorem triremeref01_Rune.calls (k : Nat) (a0 : ByteArray) (a1 : Int) (r1 : Int) (r2 : Int) (w : World) (h : triremeref01_Rune.f k a0 a1 = some (r1, r2)) :
    Calls Try.prog 44 #[.string a0, .int .i64 a1] w fun e w' => e = .returned (.tuple #[.int .i64 r1, .int .i64 r2]) ∧ Drawn0 w w' := by
  have H : (if 0 ≤ a1 then (if a1 < (a0.size : Int) then (if (wrap64 (bt a0 a1)) < 128 then (some (wrap64 (bt a0 a1), 1)) else (if (wrap64 (bt a0 a1)) ≥ 192 then (if (wrap64 (bt a0 a1)) < 224 then ((triremeref01_more.f a0 (wrap64 (a1 + 1))).bind fun t219 => (triremeref01_Rune.j0 k a0 a1 (wrap64 (bt a0 a1)) t219)) else (triremeref01_Rune.j0 k a0 a1 (wrap64 (bt a0 a1)) false)) else (triremeref01_Rune.j0 k a0 a1 (wrap64 (bt a0 a1)) false))) else (none)) else (none)) = some (r1, r2) := h
  clear h
  by_cases c3 : 0 ≤ a1
  · rw [if_pos c3] at H
    have c3b0 : decide (0 ≤ a1) = true := decide_eq_true c3
    clear c3
    by_cases c4 : a1 < (a0.size : Int)
    · rw [if_pos c4] at H
      have c4b0 : decide (a1 < (a0.size : Int)) = true := decide_eq_true c4
      clear c4
      by_cases c6 : (wrap64 (bt a0 a1)) < 128
      · rw [if_pos c6] at H
        have c6b0 : decide ((wrap64 (bt a0 a1)) < 128) = true := decide_eq_true c6
        clear c6
        simp only [Option.some.injEq, Prod.mk.injEq] at H
        obtain ⟨rfl, rfl⟩ := H
        have p5 : 0 ≤ (a1 : Int) := of_decide_eq_true (by first | (with_reducible assumption) | assumption)
        have q5 : a1 < (a0.size : Int) := of_decide_eq_true (by first | (with_reducible assumption) | assumption)
        have hx5 := bt_at a0 a1
        replace p5 := eq_true p5
        replace q5 := eq_true q5
        (try (have qz5 := q5; rw [ByteArray.size_extract, Nat.min_self] at qz5))
        go_enter Try.func44, Try.ntmps44
        go_wp2
        repeat (go_quiet (fail); try go_wp2)
        go_ret2
        exact ⟨by first | rfl | (simp; done) | (simp [*]; done), by repeat (first | exact Drawn0.refl _ | apply Drawn0.step)⟩
      · rw [if_neg c6] at H
        have c6b0 : decide ((wrap64 (bt a0 a1)) < 128) = false := decide_eq_false c6
        clear c6
        have HC7 := Aside0.mk H
        clear H
        have p5 : 0 ≤ (a1 : Int) := of_decide_eq_true (by first | (with_reducible assumption) | assumption)
        have q5 : a1 < (a0.size : Int) := of_decide_eq_true (by first | (with_reducible assumption) | assumption)
        have hx5 := bt_at a0 a1
        replace p5 := eq_true p5
        replace q5 := eq_true q5
        (try (have qz5 := q5; rw [ByteArray.size_extract, Nat.min_self] at qz5))
        go_enter Try.func44, Try.ntmps44
        go_upto_region 4 with (fail)
        repeat (go_quiet (fail); go_upto_region 4 with (fail))
        go_cut [18] (fun v18 wc => ∃ (kq : Nat) (x18_6 : Bool), v18 = .bool x18_6 ∧ Aside0 (triremeref01_Rune.j0 kq a0 a1 (wrap64 (bt a0 a1)) x18_6 = some (r1, r2)) ∧ Aside0 (kq ≤ k) ∧ Drawn0 w wc)
        case first =>
          have H := HC7.out
          clear HC7
          by_cases c8 : (wrap64 (bt a0 a1)) ≥ 192
          · rw [if_pos c8] at H
            have c8b0 : decide (192 ≤ (wrap64 (bt a0 a1))) = true := decide_eq_true c8
            clear c8
            (first | rw [c8b0] | (simp only [i64_w, i32_w]; rw [c8b0]) | skip)
            by_cases c9 : (wrap64 (bt a0 a1)) < 224
            · rw [if_pos c9] at H
              have c9b0 : decide ((wrap64 (bt a0 a1)) < 224) = true := decide_eq_true c9
              clear c9
              replace H := Option.bind_eq_some_iff.mp H
              obtain ⟨t219, A100, H⟩ := H
              replace H : (triremeref01_Rune.j0 k a0 a1 (wrap64 (bt a0 a1)) t219) = some (r1, r2) := H
              have A10 := Aside0.mk A100
              clear A100
              have H' := Aside0.mk H
              clear H
              go_wp2_with (first | (go_at_call 50; (with_reducible refine (triremeref01_more.calls a0 (wrap64 (a1 + 1)) t219 _ A10.out).mono ?_); rintro e w' ⟨rfl, ⟨nd, rfl⟩⟩; (try first | exact ⟨rfl, _, World.drewN_drewN _ _ _⟩ | exact ⟨rfl, _, Eq.trans (World.drewN_drewN _ _ _) (congrArg (World.drewN _) (Nat.add_assoc _ _ _))⟩)))
              repeat (go_quiet (first | (go_at_call 50; (with_reducible refine (triremeref01_more.calls a0 (wrap64 (a1 + 1)) t219 _ A10.out).mono ?_); rintro e w' ⟨rfl, ⟨nd, rfl⟩⟩; (try first | exact ⟨rfl, _, World.drewN_drewN _ _ _⟩ | exact ⟨rfl, _, Eq.trans (World.drewN_drewN _ _ _) (congrArg (World.drewN _) (Nat.add_assoc _ _ _))⟩))); try go_wp2_with (first | (go_at_call 50; (with_reducible refine (triremeref01_more.calls a0 (wrap64 (a1 + 1)) t219 _ A10.out).mono ?_); rintro e w' ⟨rfl, ⟨nd, rfl⟩⟩; (try first | exact ⟨rfl, _, World.drewN_drewN _ _ _⟩ | exact ⟨rfl, _, Eq.trans (World.drewN_drewN _ _ _) (congrArg (World.drewN _) (Nat.add_assoc _ _ _))⟩))))
              go_meet
              case rel => exact ⟨_, (t219), (by first | rfl | (simp; done) | (simp [*]; done)), H', ⟨by first | omega | exact Nat.le_refl _⟩, by repeat (first | exact Drawn0.refl _ | apply Drawn0.step)⟩
            · rw [if_neg c9] at H
              have c9b0 : decide ((wrap64 (bt a0 a1)) < 224) = false := decide_eq_false c9
              clear c9
              have H' := Aside0.mk H
              clear H
              go_wp2
              repeat (go_quiet (fail); try go_wp2)
              go_meet
              case rel => exact ⟨_, (false), (by first | rfl | (simp; done) | (simp [*]; done)), H', ⟨by first | omega | exact Nat.le_refl _⟩, by repeat (first | exact Drawn0.refl _ | apply Drawn0.step)⟩
          · rw [if_neg c8] at H
            have c8b0 : decide (192 ≤ (wrap64 (bt a0 a1))) = false := decide_eq_false c8
            clear c8
            (first | rw [c8b0] | (simp only [i64_w, i32_w]; rw [c8b0]) | skip)
            have H' := Aside0.mk H
            clear H
            go_wp2
            repeat (go_quiet (fail); try go_wp2)
            go_meet
            case rel => exact ⟨_, (false), (by first | rfl | (simp; done) | (simp [*]; done)), H', ⟨by first | omega | exact Nat.le_refl _⟩, by repeat (first | exact Drawn0.refl _ | apply Drawn0.step)⟩
        case rest =>
          clear HC7
          try clear p2
          try clear c3
          try clear c3b0
          try clear c4
          try clear c4b0
          try clear p5
          try clear q5
          try clear hx5
          try clear c6
          try clear c6b0
          try clear p6
          try clear c8
          try clear c8b0
          try clear c9
          try clear c9b0
          try clear p5
          try clear q5
          obtain ⟨kq, x18_6, rfl, HA, HJ6, ⟨mc6, rfl⟩⟩ := hcut
          cases kq with
          | zero => exact absurd HA.out (by simp [triremeref01_Rune.j0])
          | succ kj6 =>
            have H := HA.out
            clear HA
            simp only [triremeref01_Rune.j0] at H
            by_cases c11 : x18_6 = true
            · subst c11
              have H1 : (if 0 ≤ (wrap64 (a1 + 1)) then (if (wrap64 (a1 + 1)) < (a0.size : Int) then (if (wrap64 ((wrap64 ((wrap64 ((wrap64 ((wrap64 (bt a0 a1)) - 192)) * 64)) + (wrap64 (bt a0 (wrap64 (a1 + 1)))))) - 128)) ≥ 128 then (some (wrap64 ((wrap64 ((wrap64 ((wrap64 ((wrap64 (bt a0 a1)) - 192)) * 64)) + (wrap64 (bt a0 (wrap64 (a1 + 1)))))) - 128), 2)) else (some (0, 0))) else (none)) else (none)) = some (r1, r2) := by rw [if_pos rfl] at H; exact H
              clear H
              have H := H1
              clear H1
              obtain ⟨ji12, hji12⟩ : ∃ j_ : Int, (wrap64 (a1 + 1)) = j_ := ⟨_, rfl⟩
              replace H : (if 0 ≤ (ji12) then (if (ji12) < (a0.size : Int) then (if (wrap64 ((wrap64 ((wrap64 ((wrap64 ((wrap64 (bt a0 a1)) - 192)) * 64)) + (wrap64 (bt a0 (ji12))))) - 128)) ≥ 128 then (some (wrap64 ((wrap64 ((wrap64 ((wrap64 ((wrap64 (bt a0 a1)) - 192)) * 64)) + (wrap64 (bt a0 (ji12))))) - 128), 2)) else (some (0, 0))) else (none)) else (none)) = some (r1, r2) := by first | (rw [hji12] at H; exact H) | (simp only [hji12] at H ⊢; exact H)
              have hji12w : (IntKind.i64.wrap (a1 + 1)) = ji12 := (i64_w _).trans hji12
              by_cases c13 : 0 ≤ (ji12)
              · rw [if_pos c13] at H
                have c13b0 : decide (0 ≤ (ji12)) = true := decide_eq_true c13
                clear c13
                by_cases c14 : (ji12) < (a0.size : Int)
                · rw [if_pos c14] at H
                  have c14b0 : decide ((ji12) < (a0.size : Int)) = true := decide_eq_true c14
                  clear c14
                  by_cases c16 : (wrap64 ((wrap64 ((wrap64 ((wrap64 ((wrap64 (bt a0 a1)) - 192)) * 64)) + (wrap64 (bt a0 (ji12))))) - 128)) ≥ 128
                  · rw [if_pos c16] at H
                    have c16b0 : decide (128 ≤ (wrap64 ((wrap64 ((wrap64 ((wrap64 ((wrap64 (bt a0 a1)) - 192)) * 64)) + (wrap64 (bt a0 (ji12))))) - 128))) = true := decide_eq_true c16
                    clear c16
                    simp only [Option.some.injEq, Prod.mk.injEq] at H
                    obtain ⟨rfl, rfl⟩ := H
                    have p15 : 0 ≤ ((ji12) : Int) := of_decide_eq_true (by first | (with_reducible assumption) | assumption)
                    have q15 : (ji12) < (a0.size : Int) := of_decide_eq_true (by first | (with_reducible assumption) | assumption)
                    have hx15 := bt_at a0 (ji12)
                    replace p15 := eq_true p15
                    replace q15 := eq_true q15
                    (try (have qz15 := q15; rw [ByteArray.size_extract, Nat.min_self] at qz15))
                    go_wp2
                    repeat (go_quiet (fail); try go_wp2)
                    go_ret2
                    exact ⟨by first | rfl | (simp; done) | (simp only [← hji12] <;> (first | rfl | simp)) | (simp [*]; done), by repeat (first | exact Drawn0.refl _ | apply Drawn0.step)⟩
                  · rw [if_neg c16] at H
                    have c16b0 : decide (128 ≤ (wrap64 ((wrap64 ((wrap64 ((wrap64 ((wrap64 (bt a0 a1)) - 192)) * 64)) + (wrap64 (bt a0 (ji12))))) - 128))) = false := decide_eq_false c16
                    clear c16
                    simp only [Option.some.injEq, Prod.mk.injEq] at H
                    obtain ⟨rfl, rfl⟩ := H
                    have p15 : 0 ≤ ((ji12) : Int) := of_decide_eq_true (by first | (with_reducible assumption) | assumption)
                    have q15 : (ji12) < (a0.size : Int) := of_decide_eq_true (by first | (with_reducible assumption) | assumption)
                    have hx15 := bt_at a0 (ji12)
                    replace p15 := eq_true p15
                    replace q15 := eq_true q15
                    (try (have qz15 := q15; rw [ByteArray.size_extract, Nat.min_self] at qz15))
                    go_wp2
                    repeat (go_quiet (fail); try go_wp2)
                    go_ret2
                    exact ⟨by first | rfl | (simp; done) | (simp only [← hji12] <;> (first | rfl | simp)) | (simp [*]; done), by repeat (first | exact Drawn0.refl _ | apply Drawn0.step)⟩
                · rw [if_neg c14] at H
                  exact absurd H (by simp)
              · rw [if_neg c13] at H
                exact absurd H (by simp)
            · replace c11 := Bool.eq_false_iff.mpr c11
              subst c11
              have H1 : (if (wrap64 (bt a0 a1)) ≥ 224 then (if (wrap64 (bt a0 a1)) < 240 then ((triremeref01_more.f a0 (wrap64 (a1 + 1))).bind fun t220 => (if t220 = true then ((triremeref01_more.f a0 (wrap64 (a1 + 2))).bind fun t221 => (triremeref01_Rune.j1 kj6 a0 a1 (wrap64 (bt a0 a1)) t221)) else (triremeref01_Rune.j1 kj6 a0 a1 (wrap64 (bt a0 a1)) false))) else (triremeref01_Rune.j1 kj6 a0 a1 (wrap64 (bt a0 a1)) false)) else (triremeref01_Rune.j1 kj6 a0 a1 (wrap64 (bt a0 a1)) false)) = some (r1, r2) := by rw [if_neg (show ¬ (false = true) by decide)] at H; exact H
              clear H
              have H := H1
              clear H1
              have HC17 := Aside0.mk H
              clear H
              go_upto_region 8 with (fail)
              repeat (go_quiet (fail); go_upto_region 8 with (fail))
              go_cut [44] (fun v44 wc => ∃ (kq : Nat) (x44_16 : Bool), v44 = .bool x44_16 ∧ Aside0 (triremeref01_Rune.j1 kq a0 a1 (wrap64 (bt a0 a1)) x44_16 = some (r1, r2)) ∧ Aside0 (kq ≤ kj6) ∧ Drawn0 w wc)
              case first =>
                have H := HC17.out
                clear HC17
                by_cases c18 : (wrap64 (bt a0 a1)) ≥ 224
                · rw [if_pos c18] at H
                  have c18b0 : decide (224 ≤ (wrap64 (bt a0 a1))) = true := decide_eq_true c18
                  clear c18
                  (first | rw [c18b0] | (simp only [i64_w, i32_w]; rw [c18b0]) | skip)
                  by_cases c19 : (wrap64 (bt a0 a1)) < 240
                  · rw [if_pos c19] at H
                    have c19b0 : decide ((wrap64 (bt a0 a1)) < 240) = true := decide_eq_true c19
                    clear c19
                    replace H := Option.bind_eq_some_iff.mp H
                    obtain ⟨t220, A200, H⟩ := H
                    replace H : (if t220 = true then ((triremeref01_more.f a0 (wrap64 (a1 + 2))).bind fun t221 => (triremeref01_Rune.j1 kj6 a0 a1 (wrap64 (bt a0 a1)) t221)) else (triremeref01_Rune.j1 kj6 a0 a1 (wrap64 (bt a0 a1)) false)) = some (r1, r2) := H
                    have A20 := Aside0.mk A200
                    clear A200
                    by_cases c21 : t220 = true
                    · subst c21
                      have H1 : ((triremeref01_more.f a0 (wrap64 (a1 + 2))).bind fun t221 => (triremeref01_Rune.j1 kj6 a0 a1 (wrap64 (bt a0 a1)) t221)) = some (r1, r2) := by rw [if_pos rfl] at H; exact H
                      clear H
                      have H := H1
                      clear H1
                      replace H := Option.bind_eq_some_iff.mp H
                      obtain ⟨t221, A220, H⟩ := H
                      replace H : (triremeref01_Rune.j1 kj6 a0 a1 (wrap64 (bt a0 a1)) t221) = some (r1, r2) := H
                      have A22 := Aside0.mk A220
                      clear A220
                      have H' := Aside0.mk H
                      clear H
                      go_wp2_with (first | (go_at_call 50; (with_reducible refine (triremeref01_more.calls a0 (wrap64 (a1 + 1)) true _ A20.out).mono ?_); rintro e w' ⟨rfl, ⟨nd, rfl⟩⟩; (try first | exact ⟨rfl, _, World.drewN_drewN _ _ _⟩ | exact ⟨rfl, _, Eq.trans (World.drewN_drewN _ _ _) (congrArg (World.drewN _) (Nat.add_assoc _ _ _))⟩)) | (go_at_call 50; (with_reducible refine (triremeref01_more.calls a0 (wrap64 (a1 + 2)) t221 _ A22.out).mono ?_); rintro e w' ⟨rfl, ⟨nd, rfl⟩⟩; (try first | exact ⟨rfl, _, World.drewN_drewN _ _ _⟩ | exact ⟨rfl, _, Eq.trans (World.drewN_drewN _ _ _) (congrArg (World.drewN _) (Nat.add_assoc _ _ _))⟩)))
                      repeat (go_quiet (first | (go_at_call 50; (with_reducible refine (triremeref01_more.calls a0 (wrap64 (a1 + 1)) true _ A20.out).mono ?_); rintro e w' ⟨rfl, ⟨nd, rfl⟩⟩; (try first | exact ⟨rfl, _, World.drewN_drewN _ _ _⟩ | exact ⟨rfl, _, Eq.trans (World.drewN_drewN _ _ _) (congrArg (World.drewN _) (Nat.add_assoc _ _ _))⟩)) | (go_at_call 50; (with_reducible refine (triremeref01_more.calls a0 (wrap64 (a1 + 2)) t221 _ A22.out).mono ?_); rintro e w' ⟨rfl, ⟨nd, rfl⟩⟩; (try first | exact ⟨rfl, _, World.drewN_drewN _ _ _⟩ | exact ⟨rfl, _, Eq.trans (World.drewN_drewN _ _ _) (congrArg (World.drewN _) (Nat.add_assoc _ _ _))⟩))); try go_wp2_with (first | (go_at_call 50; (with_reducible refine (triremeref01_more.calls a0 (wrap64 (a1 + 1)) true _ A20.out).mono ?_); rintro e w' ⟨rfl, ⟨nd, rfl⟩⟩; (try first | exact ⟨rfl, _, World.drewN_drewN _ _ _⟩ | exact ⟨rfl, _, Eq.trans (World.drewN_drewN _ _ _) (congrArg (World.drewN _) (Nat.add_assoc _ _ _))⟩)) | (go_at_call 50; (with_reducible refine (triremeref01_more.calls a0 (wrap64 (a1 + 2)) t221 _ A22.out).mono ?_); rintro e w' ⟨rfl, ⟨nd, rfl⟩⟩; (try first | exact ⟨rfl, _, World.drewN_drewN _ _ _⟩ | exact ⟨rfl, _, Eq.trans (World.drewN_drewN _ _ _) (congrArg (World.drewN _) (Nat.add_assoc _ _ _))⟩))))
                      go_meet
                      case rel => exact ⟨_, (t221), (by first | rfl | (simp; done) | (simp [*]; done)), H', ⟨by have := HJ6.out; first | omega | exact Nat.le_refl _⟩, by repeat (first | exact Drawn0.refl _ | apply Drawn0.step)⟩
                    · replace c21 := Bool.eq_false_iff.mpr c21
                      subst c21
                      have H1 : (triremeref01_Rune.j1 kj6 a0 a1 (wrap64 (bt a0 a1)) false) = some (r1, r2) := by rw [if_neg (show ¬ (false = true) by decide)] at H; exact H
                      clear H
                      have H := H1
                      clear H1
                      have H' := Aside0.mk H
                      clear H
                      go_wp2_with (first | (go_at_call 50; (with_reducible refine (triremeref01_more.calls a0 (wrap64 (a1 + 1)) false _ A20.out).mono ?_); rintro e w' ⟨rfl, ⟨nd, rfl⟩⟩; (try first | exact ⟨rfl, _, World.drewN_drewN _ _ _⟩ | exact ⟨rfl, _, Eq.trans (World.drewN_drewN _ _ _) (congrArg (World.drewN _) (Nat.add_assoc _ _ _))⟩)))
                      repeat (go_quiet (first | (go_at_call 50; (with_reducible refine (triremeref01_more.calls a0 (wrap64 (a1 + 1)) false _ A20.out).mono ?_); rintro e w' ⟨rfl, ⟨nd, rfl⟩⟩; (try first | exact ⟨rfl, _, World.drewN_drewN _ _ _⟩ | exact ⟨rfl, _, Eq.trans (World.drewN_drewN _ _ _) (congrArg (World.drewN _) (Nat.add_assoc _ _ _))⟩))); try go_wp2_with (first | (go_at_call 50; (with_reducible refine (triremeref01_more.calls a0 (wrap64 (a1 + 1)) false _ A20.out).mono ?_); rintro e w' ⟨rfl, ⟨nd, rfl⟩⟩; (try first | exact ⟨rfl, _, World.drewN_drewN _ _ _⟩ | exact ⟨rfl, _, Eq.trans (World.drewN_drewN _ _ _) (congrArg (World.drewN _) (Nat.add_assoc _ _ _))⟩))))
                      go_meet
                      case rel => exact ⟨_, (false), (by first | rfl | (simp; done) | (simp [*]; done)), H', ⟨by have := HJ6.out; first | omega | exact Nat.le_refl _⟩, by repeat (first | exact Drawn0.refl _ | apply Drawn0.step)⟩
                  · rw [if_neg c19] at H
                    have c19b0 : decide ((wrap64 (bt a0 a1)) < 240) = false := decide_eq_false c19
                    clear c19
                    have H' := Aside0.mk H
                    clear H
                    go_wp2
                    repeat (go_quiet (fail); try go_wp2)
                    go_meet
                    case rel => exact ⟨_, (false), (by first | rfl | (simp; done) | (simp [*]; done)), H', ⟨by have := HJ6.out; first | omega | exact Nat.le_refl _⟩, by repeat (first | exact Drawn0.refl _ | apply Drawn0.step)⟩
                · rw [if_neg c18] at H
                  have c18b0 : decide (224 ≤ (wrap64 (bt a0 a1))) = false := decide_eq_false c18
                  clear c18
                  (first | rw [c18b0] | (simp only [i64_w, i32_w]; rw [c18b0]) | skip)
                  have H' := Aside0.mk H
                  clear H
                  go_wp2
                  repeat (go_quiet (fail); try go_wp2)
                  go_meet
                  case rel => exact ⟨_, (false), (by first | rfl | (simp; done) | (simp [*]; done)), H', ⟨by have := HJ6.out; first | omega | exact Nat.le_refl _⟩, by repeat (first | exact Drawn0.refl _ | apply Drawn0.step)⟩
              case rest =>
                clear HC17
                try clear c1
                try clear p1
                try clear q1
                try clear hx1
                try clear c2
                try clear p2
                try clear c3
                try clear c3b0
                try clear c4
                try clear c4b0
                try clear p5
                try clear q5
                try clear hx5
                try clear c6
                try clear c6b0
                try clear p6
                try clear c8
                try clear c8b0
                try clear c9
                try clear c9b0
                try clear c11
                try clear c13
                try clear c13b0
                try clear c14
                try clear c14b0
                try clear p15
                try clear q15
                try clear hx15
                try clear c16
                try clear c16b0
                try clear c18
                try clear c18b0
                try clear c19
                try clear c19b0
                try clear c21
                try clear p15
                try clear p2
                try clear p5
                try clear p6
                try clear q15
                try clear q5
                obtain ⟨kq, x44_16, rfl, HA, HJ16, ⟨mc16, rfl⟩⟩ := hcut
                cases kq with
                | zero => exact absurd HA.out (by simp [triremeref01_Rune.j1])
                | succ kj16 =>
                  have H := HA.out
                  clear HA
                  simp only [triremeref01_Rune.j1] at H
                  by_cases c23 : x44_16 = true
                  · subst c23
                    have H1 : (if 0 ≤ (wrap64 (a1 + 1)) then (if (wrap64 (a1 + 1)) < (a0.size : Int) then (if 0 ≤ (wrap64 (a1 + 2)) then (if (wrap64 (a1 + 2)) < (a0.size : Int) then (if (wrap64 ((wrap64 ((wrap64 ((wrap64 ((wrap64 ((wrap64 (bt a0 a1)) - 224)) * 4096)) + (wrap64 ((wrap64 ((wrap64 (bt a0 (wrap64 (a1 + 1)))) - 128)) * 64)))) + (wrap64 (bt a0 (wrap64 (a1 + 2)))))) - 128)) ≥ 2048 then (if (wrap64 ((wrap64 ((wrap64 ((wrap64 ((wrap64 ((wrap64 (bt a0 a1)) - 224)) * 4096)) + (wrap64 ((wrap64 ((wrap64 (bt a0 (wrap64 (a1 + 1)))) - 128)) * 64)))) + (wrap64 (bt a0 (wrap64 (a1 + 2)))))) - 128)) < 55296 then (some (wrap64 ((wrap64 ((wrap64 ((wrap64 ((wrap64 ((wrap64 (bt a0 a1)) - 224)) * 4096)) + (wrap64 ((wrap64 ((wrap64 (bt a0 (wrap64 (a1 + 1)))) - 128)) * 64)))) + (wrap64 (bt a0 (wrap64 (a1 + 2)))))) - 128), 3)) else (if (wrap64 ((wrap64 ((wrap64 ((wrap64 ((wrap64 ((wrap64 (bt a0 a1)) - 224)) * 4096)) + (wrap64 ((wrap64 ((wrap64 (bt a0 (wrap64 (a1 + 1)))) - 128)) * 64)))) + (wrap64 (bt a0 (wrap64 (a1 + 2)))))) - 128)) > 57343 then (some (wrap64 ((wrap64 ((wrap64 ((wrap64 ((wrap64 ((wrap64 (bt a0 a1)) - 224)) * 4096)) + (wrap64 ((wrap64 ((wrap64 (bt a0 (wrap64 (a1 + 1)))) - 128)) * 64)))) + (wrap64 (bt a0 (wrap64 (a1 + 2)))))) - 128), 3)) else (some (0, 0)))) else (some (0, 0))) else (none)) else (none)) else (none)) else (none)) = some (r1, r2) := by rw [if_pos rfl] at H; exact H
                    clear H
                    have H := H1
                    clear H1
                    obtain ⟨ji24, hji24⟩ : ∃ j_ : Int, (wrap64 (a1 + 1)) = j_ := ⟨_, rfl⟩
                    replace H : (if 0 ≤ (ji24) then (if (ji24) < (a0.size : Int) then (if 0 ≤ (wrap64 (a1 + 2)) then (if (wrap64 (a1 + 2)) < (a0.size : Int) then (if (wrap64 ((wrap64 ((wrap64 ((wrap64 ((wrap64 ((wrap64 (bt a0 a1)) - 224)) * 4096)) + (wrap64 ((wrap64 ((wrap64 (bt a0 (ji24))) - 128)) * 64)))) + (wrap64 (bt a0 (wrap64 (a1 + 2)))))) - 128)) ≥ 2048 then (if (wrap64 ((wrap64 ((wrap64 ((wrap64 ((wrap64 ((wrap64 (bt a0 a1)) - 224)) * 4096)) + (wrap64 ((wrap64 ((wrap64 (bt a0 (ji24))) - 128)) * 64)))) + (wrap64 (bt a0 (wrap64 (a1 + 2)))))) - 128)) < 55296 then (some (wrap64 ((wrap64 ((wrap64 ((wrap64 ((wrap64 ((wrap64 (bt a0 a1)) - 224)) * 4096)) + (wrap64 ((wrap64 ((wrap64 (bt a0 (ji24))) - 128)) * 64)))) + (wrap64 (bt a0 (wrap64 (a1 + 2)))))) - 128), 3)) else (if (wrap64 ((wrap64 ((wrap64 ((wrap64 ((wrap64 ((wrap64 (bt a0 a1)) - 224)) * 4096)) + (wrap64 ((wrap64 ((wrap64 (bt a0 (ji24))) - 128)) * 64)))) + (wrap64 (bt a0 (wrap64 (a1 + 2)))))) - 128)) > 57343 then (some (wrap64 ((wrap64 ((wrap64 ((wrap64 ((wrap64 ((wrap64 (bt a0 a1)) - 224)) * 4096)) + (wrap64 ((wrap64 ((wrap64 (bt a0 (ji24))) - 128)) * 64)))) + (wrap64 (bt a0 (wrap64 (a1 + 2)))))) - 128), 3)) else (some (0, 0)))) else (some (0, 0))) else (none)) else (none)) else (none)) else (none)) = some (r1, r2) := by first | (rw [hji24] at H; exact H) | (simp only [hji24] at H ⊢; exact H)
                    have hji24w : (IntKind.i64.wrap (a1 + 1)) = ji24 := (i64_w _).trans hji24
                    by_cases c25 : 0 ≤ (ji24)
                    · rw [if_pos c25] at H
                      have c25b0 : decide (0 ≤ (ji24)) = true := decide_eq_true c25
                      clear c25
                      by_cases c26 : (ji24) < (a0.size : Int)
                      · rw [if_pos c26] at H
                        have c26b0 : decide ((ji24) < (a0.size : Int)) = true := decide_eq_true c26
                        clear c26
                        obtain ⟨ji28, hji28⟩ : ∃ j_ : Int, (wrap64 (a1 + 2)) = j_ := ⟨_, rfl⟩
                        replace H : (if 0 ≤ (ji28) then (if (ji28) < (a0.size : Int) then (if (wrap64 ((wrap64 ((wrap64 ((wrap64 ((wrap64 ((wrap64 (bt a0 a1)) - 224)) * 4096)) + (wrap64 ((wrap64 ((wrap64 (bt a0 (ji24))) - 128)) * 64)))) + (wrap64 (bt a0 (ji28))))) - 128)) ≥ 2048 then (if (wrap64 ((wrap64 ((wrap64 ((wrap64 ((wrap64 ((wrap64 (bt a0 a1)) - 224)) * 4096)) + (wrap64 ((wrap64 ((wrap64 (bt a0 (ji24))) - 128)) * 64)))) + (wrap64 (bt a0 (ji28))))) - 128)) < 55296 then (some (wrap64 ((wrap64 ((wrap64 ((wrap64 ((wrap64 ((wrap64 (bt a0 a1)) - 224)) * 4096)) + (wrap64 ((wrap64 ((wrap64 (bt a0 (ji24))) - 128)) * 64)))) + (wrap64 (bt a0 (ji28))))) - 128), 3)) else (if (wrap64 ((wrap64 ((wrap64 ((wrap64 ((wrap64 ((wrap64 (bt a0 a1)) - 224)) * 4096)) + (wrap64 ((wrap64 ((wrap64 (bt a0 (ji24))) - 128)) * 64)))) + (wrap64 (bt a0 (ji28))))) - 128)) > 57343 then (some (wrap64 ((wrap64 ((wrap64 ((wrap64 ((wrap64 ((wrap64 (bt a0 a1)) - 224)) * 4096)) + (wrap64 ((wrap64 ((wrap64 (bt a0 (ji24))) - 128)) * 64)))) + (wrap64 (bt a0 (ji28))))) - 128), 3)) else (some (0, 0)))) else (some (0, 0))) else (none)) else (none)) = some (r1, r2) := by first | (rw [hji28] at H; exact H) | (simp only [hji28] at H ⊢; exact H)
                        have hji28w : (IntKind.i64.wrap (a1 + 2)) = ji28 := (i64_w _).trans hji28
                        by_cases c29 : 0 ≤ (ji28)
                        · rw [if_pos c29] at H
                          have c29b0 : decide (0 ≤ (ji28)) = true := decide_eq_true c29
                          clear c29
                          by_cases c30 : (ji28) < (a0.size : Int)
                          · rw [if_pos c30] at H
                            have c30b0 : decide ((ji28) < (a0.size : Int)) = true := decide_eq_true c30
                            clear c30
                            by_cases c32 : (wrap64 ((wrap64 ((wrap64 ((wrap64 ((wrap64 ((wrap64 (bt a0 a1)) - 224)) * 4096)) + (wrap64 ((wrap64 ((wrap64 (bt a0 (ji24))) - 128)) * 64)))) + (wrap64 (bt a0 (ji28))))) - 128)) ≥ 2048
                            · rw [if_pos c32] at H
                              have c32b0 : decide (2048 ≤ (wrap64 ((wrap64 ((wrap64 ((wrap64 ((wrap64 ((wrap64 (bt a0 a1)) - 224)) * 4096)) + (wrap64 ((wrap64 ((wrap64 (bt a0 (ji24))) - 128)) * 64)))) + (wrap64 (bt a0 (ji28))))) - 128))) = true := decide_eq_true c32
                              clear c32
                              by_cases c33 : (wrap64 ((wrap64 ((wrap64 ((wrap64 ((wrap64 ((wrap64 (bt a0 a1)) - 224)) * 4096)) + (wrap64 ((wrap64 ((wrap64 (bt a0 (ji24))) - 128)) * 64)))) + (wrap64 (bt a0 (ji28))))) - 128)) < 55296
                              · rw [if_pos c33] at H
                                have c33b0 : decide ((wrap64 ((wrap64 ((wrap64 ((wrap64 ((wrap64 ((wrap64 (bt a0 a1)) - 224)) * 4096)) + (wrap64 ((wrap64 ((wrap64 (bt a0 (ji24))) - 128)) * 64)))) + (wrap64 (bt a0 (ji28))))) - 128)) < 55296) = true := decide_eq_true c33
                                clear c33
                                simp only [Option.some.injEq, Prod.mk.injEq] at H
                                obtain ⟨rfl, rfl⟩ := H
                                have p27 : 0 ≤ ((ji24) : Int) := of_decide_eq_true (by first | (with_reducible assumption) | assumption)
                                have q27 : (ji24) < (a0.size : Int) := of_decide_eq_true (by first | (with_reducible assumption) | assumption)
                                have hx27 := bt_at a0 (ji24)
                                replace p27 := eq_true p27
                                replace q27 := eq_true q27
                                (try (have qz27 := q27; rw [ByteArray.size_extract, Nat.min_self] at qz27))
                                have p31 : 0 ≤ ((ji28) : Int) := of_decide_eq_true (by first | (with_reducible assumption) | assumption)
                                have q31 : (ji28) < (a0.size : Int) := of_decide_eq_true (by first | (with_reducible assumption) | assumption)
                                have hx31 := bt_at a0 (ji28)
                                replace p31 := eq_true p31
                                replace q31 := eq_true q31
                                (try (have qz31 := q31; rw [ByteArray.size_extract, Nat.min_self] at qz31))
                                go_wp2
                                repeat (go_quiet (fail); try go_wp2)
                                go_ret2
                                exact ⟨by first | rfl | (simp; done) | (simp only [← hji24, ← hji28] <;> (first | rfl | simp)) | (simp [*]; done), by repeat (first | exact Drawn0.refl _ | apply Drawn0.step)⟩
                              · rw [if_neg c33] at H
                                have c33b0 : decide ((wrap64 ((wrap64 ((wrap64 ((wrap64 ((wrap64 ((wrap64 (bt a0 a1)) - 224)) * 4096)) + (wrap64 ((wrap64 ((wrap64 (bt a0 (ji24))) - 128)) * 64)))) + (wrap64 (bt a0 (ji28))))) - 128)) < 55296) = false := decide_eq_false c33
                                clear c33
                                by_cases c34 : (wrap64 ((wrap64 ((wrap64 ((wrap64 ((wrap64 ((wrap64 (bt a0 a1)) - 224)) * 4096)) + (wrap64 ((wrap64 ((wrap64 (bt a0 (ji24))) - 128)) * 64)))) + (wrap64 (bt a0 (ji28))))) - 128)) > 57343
                                · rw [if_pos c34] at H
                                  have c34b0 : decide (57343 < (wrap64 ((wrap64 ((wrap64 ((wrap64 ((wrap64 ((wrap64 (bt a0 a1)) - 224)) * 4096)) + (wrap64 ((wrap64 ((wrap64 (bt a0 (ji24))) - 128)) * 64)))) + (wrap64 (bt a0 (ji28))))) - 128))) = true := decide_eq_true c34
                                  clear c34
                                  simp only [Option.some.injEq, Prod.mk.injEq] at H
                                  obtain ⟨rfl, rfl⟩ := H
                                  have p27 : 0 ≤ ((ji24) : Int) := of_decide_eq_true (by first | (with_reducible assumption) | assumption)
                                  have q27 : (ji24) < (a0.size : Int) := of_decide_eq_true (by first | (with_reducible assumption) | assumption)
                                  have hx27 := bt_at a0 (ji24)
                                  replace p27 := eq_true p27
                                  replace q27 := eq_true q27
                                  (try (have qz27 := q27; rw [ByteArray.size_extract, Nat.min_self] at qz27))
                                  have p31 : 0 ≤ ((ji28) : Int) := of_decide_eq_true (by first | (with_reducible assumption) | assumption)
                                  have q31 : (ji28) < (a0.size : Int) := of_decide_eq_true (by first | (with_reducible assumption) | assumption)
                                  have hx31 := bt_at a0 (ji28)
                                  replace p31 := eq_true p31
                                  replace q31 := eq_true q31
                                  (try (have qz31 := q31; rw [ByteArray.size_extract, Nat.min_self] at qz31))
                                  go_wp2
                                  repeat (go_quiet (fail); try go_wp2)
                                  go_ret2
                                  exact ⟨by first | rfl | (simp; done) | (simp only [← hji24, ← hji28] <;> (first | rfl | simp)) | (simp [*]; done), by repeat (first | exact Drawn0.refl _ | apply Drawn0.step)⟩
                                · rw [if_neg c34] at H
                                  have c34b0 : decide (57343 < (wrap64 ((wrap64 ((wrap64 ((wrap64 ((wrap64 ((wrap64 (bt a0 a1)) - 224)) * 4096)) + (wrap64 ((wrap64 ((wrap64 (bt a0 (ji24))) - 128)) * 64)))) + (wrap64 (bt a0 (ji28))))) - 128))) = false := decide_eq_false c34
                                  clear c34
                                  simp only [Option.some.injEq, Prod.mk.injEq] at H
                                  obtain ⟨rfl, rfl⟩ := H
                                  have p27 : 0 ≤ ((ji24) : Int) := of_decide_eq_true (by first | (with_reducible assumption) | assumption)
                                  have q27 : (ji24) < (a0.size : Int) := of_decide_eq_true (by first | (with_reducible assumption) | assumption)
                                  have hx27 := bt_at a0 (ji24)
                                  replace p27 := eq_true p27
                                  replace q27 := eq_true q27
                                  (try (have qz27 := q27; rw [ByteArray.size_extract, Nat.min_self] at qz27))
                                  have p31 : 0 ≤ ((ji28) : Int) := of_decide_eq_true (by first | (with_reducible assumption) | assumption)
                                  have q31 : (ji28) < (a0.size : Int) := of_decide_eq_true (by first | (with_reducible assumption) | assumption)
                                  have hx31 := bt_at a0 (ji28)
                                  replace p31 := eq_true p31
                                  replace q31 := eq_true q31
                                  (try (have qz31 := q31; rw [ByteArray.size_extract, Nat.min_self] at qz31))
                                  go_wp2
                                  repeat (go_quiet (fail); try go_wp2)
                                  go_ret2
                                  exact ⟨by first | rfl | (simp; done) | (simp only [← hji24, ← hji28] <;> (first | rfl | simp)) | (simp [*]; done), by repeat (first | exact Drawn0.refl _ | apply Drawn0.step)⟩
                            · rw [if_neg c32] at H
                              have c32b0 : decide (2048 ≤ (wrap64 ((wrap64 ((wrap64 ((wrap64 ((wrap64 ((wrap64 (bt a0 a1)) - 224)) * 4096)) + (wrap64 ((wrap64 ((wrap64 (bt a0 (ji24))) - 128)) * 64)))) + (wrap64 (bt a0 (ji28))))) - 128))) = false := decide_eq_false c32
                              clear c32
                              simp only [Option.some.injEq, Prod.mk.injEq] at H
                              obtain ⟨rfl, rfl⟩ := H
                              have p27 : 0 ≤ ((ji24) : Int) := of_decide_eq_true (by first | (with_reducible assumption) | assumption)
                              have q27 : (ji24) < (a0.size : Int) := of_decide_eq_true (by first | (with_reducible assumption) | assumption)
                              have hx27 := bt_at a0 (ji24)
                              replace p27 := eq_true p27
                              replace q27 := eq_true q27
                              (try (have qz27 := q27; rw [ByteArray.size_extract, Nat.min_self] at qz27))
                              have p31 : 0 ≤ ((ji28) : Int) := of_decide_eq_true (by first | (with_reducible assumption) | assumption)
                              have q31 : (ji28) < (a0.size : Int) := of_decide_eq_true (by first | (with_reducible assumption) | assumption)
                              have hx31 := bt_at a0 (ji28)
                              replace p31 := eq_true p31
                              replace q31 := eq_true q31
                              (try (have qz31 := q31; rw [ByteArray.size_extract, Nat.min_self] at qz31))
                              go_wp2
                              repeat (go_quiet (fail); try go_wp2)
                              go_ret2
                              exact ⟨by first | rfl | (simp; done) | (simp only [← hji24, ← hji28] <;> (first | rfl | simp)) | (simp [*]; done), by repeat (first | exact Drawn0.refl _ | apply Drawn0.step)⟩
                          · rw [if_neg c30] at H
                            exact absurd H (by simp)
                        · rw [if_neg c29] at H
                          exact absurd H (by simp)
                      · rw [if_neg c26] at H
                        exact absurd H (by simp)
                    · rw [if_neg c25] at H
                      exact absurd H (by simp)
                  · replace c23 := Bool.eq_false_iff.mpr c23
                    subst c23
                    have H1 : (if (wrap64 (bt a0 a1)) ≥ 240 then (if (wrap64 (bt a0 a1)) < 248 then ((triremeref01_more.f a0 (wrap64 (a1 + 1))).bind fun t222 => (if t222 = true then ((triremeref01_more.f a0 (wrap64 (a1 + 2))).bind fun t223 => (if t223 = true then ((triremeref01_more.f a0 (wrap64 (a1 + 3))).bind fun t224 => (triremeref01_Rune.j2 kj16 a0 a1 (wrap64 (bt a0 a1)) t224)) else (triremeref01_Rune.j2 kj16 a0 a1 (wrap64 (bt a0 a1)) false))) else (triremeref01_Rune.j2 kj16 a0 a1 (wrap64 (bt a0 a1)) false))) else (triremeref01_Rune.j2 kj16 a0 a1 (wrap64 (bt a0 a1)) false)) else (triremeref01_Rune.j2 kj16 a0 a1 (wrap64 (bt a0 a1)) false)) = some (r1, r2) := by rw [if_neg (show ¬ (false = true) by decide)] at H; exact H
                    clear H
                    have H := H1
                    clear H1
                    have HC35 := Aside0.mk H
                    clear H
                    go_upto_region 12 with (fail)
                    repeat (go_quiet (fail); go_upto_region 12 with (fail))
                    go_cut [92] (fun v92 wc => ∃ (kq : Nat) (x92_34 : Bool), v92 = .bool x92_34 ∧ Aside0 (triremeref01_Rune.j2 kq a0 a1 (wrap64 (bt a0 a1)) x92_34 = some (r1, r2)) ∧ Aside0 (kq ≤ kj16) ∧ Drawn0 w wc)
                    case first =>
                      have H := HC35.out
                      clear HC35
                      by_cases c36 : (wrap64 (bt a0 a1)) ≥ 240
                      · rw [if_pos c36] at H
                        have c36b0 : decide (240 ≤ (wrap64 (bt a0 a1))) = true := decide_eq_true c36
                        clear c36
                        (first | rw [c36b0] | (simp only [i64_w, i32_w]; rw [c36b0]) | skip)
                        by_cases c37 : (wrap64 (bt a0 a1)) < 248
                        · rw [if_pos c37] at H
                          have c37b0 : decide ((wrap64 (bt a0 a1)) < 248) = true := decide_eq_true c37
                          clear c37
                          replace H := Option.bind_eq_some_iff.mp H
                          obtain ⟨t222, A380, H⟩ := H
                          replace H : (if t222 = true then ((triremeref01_more.f a0 (wrap64 (a1 + 2))).bind fun t223 => (if t223 = true then ((triremeref01_more.f a0 (wrap64 (a1 + 3))).bind fun t224 => (triremeref01_Rune.j2 kj16 a0 a1 (wrap64 (bt a0 a1)) t224)) else (triremeref01_Rune.j2 kj16 a0 a1 (wrap64 (bt a0 a1)) false))) else (triremeref01_Rune.j2 kj16 a0 a1 (wrap64 (bt a0 a1)) false)) = some (r1, r2) := H
                          have A38 := Aside0.mk A380
                          clear A380
                          by_cases c39 : t222 = true
                          · subst c39
                            have H1 : ((triremeref01_more.f a0 (wrap64 (a1 + 2))).bind fun t223 => (if t223 = true then ((triremeref01_more.f a0 (wrap64 (a1 + 3))).bind fun t224 => (triremeref01_Rune.j2 kj16 a0 a1 (wrap64 (bt a0 a1)) t224)) else (triremeref01_Rune.j2 kj16 a0 a1 (wrap64 (bt a0 a1)) false))) = some (r1, r2) := by rw [if_pos rfl] at H; exact H
                            clear H
                            have H := H1
                            clear H1
                            replace H := Option.bind_eq_some_iff.mp H
                            obtain ⟨t223, A400, H⟩ := H
                            replace H : (if t223 = true then ((triremeref01_more.f a0 (wrap64 (a1 + 3))).bind fun t224 => (triremeref01_Rune.j2 kj16 a0 a1 (wrap64 (bt a0 a1)) t224)) else (triremeref01_Rune.j2 kj16 a0 a1 (wrap64 (bt a0 a1)) false)) = some (r1, r2) := H
                            have A40 := Aside0.mk A400
                            clear A400
                            by_cases c41 : t223 = true
                            · subst c41
                              have H1 : ((triremeref01_more.f a0 (wrap64 (a1 + 3))).bind fun t224 => (triremeref01_Rune.j2 kj16 a0 a1 (wrap64 (bt a0 a1)) t224)) = some (r1, r2) := by rw [if_pos rfl] at H; exact H
                              clear H
                              have H := H1
                              clear H1
                              replace H := Option.bind_eq_some_iff.mp H
                              obtain ⟨t224, A420, H⟩ := H
                              replace H : (triremeref01_Rune.j2 kj16 a0 a1 (wrap64 (bt a0 a1)) t224) = some (r1, r2) := H
                              have A42 := Aside0.mk A420
                              clear A420
                              have H' := Aside0.mk H
                              clear H
                              go_wp2_with (first | (go_at_call 50; (with_reducible refine (triremeref01_more.calls a0 (wrap64 (a1 + 1)) true _ A38.out).mono ?_); rintro e w' ⟨rfl, ⟨nd, rfl⟩⟩; (try first | exact ⟨rfl, _, World.drewN_drewN _ _ _⟩ | exact ⟨rfl, _, Eq.trans (World.drewN_drewN _ _ _) (congrArg (World.drewN _) (Nat.add_assoc _ _ _))⟩)) | (go_at_call 50; (with_reducible refine (triremeref01_more.calls a0 (wrap64 (a1 + 2)) true _ A40.out).mono ?_); rintro e w' ⟨rfl, ⟨nd, rfl⟩⟩; (try first | exact ⟨rfl, _, World.drewN_drewN _ _ _⟩ | exact ⟨rfl, _, Eq.trans (World.drewN_drewN _ _ _) (congrArg (World.drewN _) (Nat.add_assoc _ _ _))⟩)) | (go_at_call 50; (with_reducible refine (triremeref01_more.calls a0 (wrap64 (a1 + 3)) t224 _ A42.out).mono ?_); rintro e w' ⟨rfl, ⟨nd, rfl⟩⟩; (try first | exact ⟨rfl, _, World.drewN_drewN _ _ _⟩ | exact ⟨rfl, _, Eq.trans (World.drewN_drewN _ _ _) (congrArg (World.drewN _) (Nat.add_assoc _ _ _))⟩)))
                              repeat (go_quiet (first | (go_at_call 50; (with_reducible refine (triremeref01_more.calls a0 (wrap64 (a1 + 1)) true _ A38.out).mono ?_); rintro e w' ⟨rfl, ⟨nd, rfl⟩⟩; (try first | exact ⟨rfl, _, World.drewN_drewN _ _ _⟩ | exact ⟨rfl, _, Eq.trans (World.drewN_drewN _ _ _) (congrArg (World.drewN _) (Nat.add_assoc _ _ _))⟩)) | (go_at_call 50; (with_reducible refine (triremeref01_more.calls a0 (wrap64 (a1 + 2)) true _ A40.out).mono ?_); rintro e w' ⟨rfl, ⟨nd, rfl⟩⟩; (try first | exact ⟨rfl, _, World.drewN_drewN _ _ _⟩ | exact ⟨rfl, _, Eq.trans (World.drewN_drewN _ _ _) (congrArg (World.drewN _) (Nat.add_assoc _ _ _))⟩)) | (go_at_call 50; (with_reducible refine (triremeref01_more.calls a0 (wrap64 (a1 + 3)) t224 _ A42.out).mono ?_); rintro e w' ⟨rfl, ⟨nd, rfl⟩⟩; (try first | exact ⟨rfl, _, World.drewN_drewN _ _ _⟩ | exact ⟨rfl, _, Eq.trans (World.drewN_drewN _ _ _) (congrArg (World.drewN _) (Nat.add_assoc _ _ _))⟩))); try go_wp2_with (first | (go_at_call 50; (with_reducible refine (triremeref01_more.calls a0 (wrap64 (a1 + 1)) true _ A38.out).mono ?_); rintro e w' ⟨rfl, ⟨nd, rfl⟩⟩; (try first | exact ⟨rfl, _, World.drewN_drewN _ _ _⟩ | exact ⟨rfl, _, Eq.trans (World.drewN_drewN _ _ _) (congrArg (World.drewN _) (Nat.add_assoc _ _ _))⟩)) | (go_at_call 50; (with_reducible refine (triremeref01_more.calls a0 (wrap64 (a1 + 2)) true _ A40.out).mono ?_); rintro e w' ⟨rfl, ⟨nd, rfl⟩⟩; (try first | exact ⟨rfl, _, World.drewN_drewN _ _ _⟩ | exact ⟨rfl, _, Eq.trans (World.drewN_drewN _ _ _) (congrArg (World.drewN _) (Nat.add_assoc _ _ _))⟩)) | (go_at_call 50; (with_reducible refine (triremeref01_more.calls a0 (wrap64 (a1 + 3)) t224 _ A42.out).mono ?_); rintro e w' ⟨rfl, ⟨nd, rfl⟩⟩; (try first | exact ⟨rfl, _, World.drewN_drewN _ _ _⟩ | exact ⟨rfl, _, Eq.trans (World.drewN_drewN _ _ _) (congrArg (World.drewN _) (Nat.add_assoc _ _ _))⟩))))
                              go_meet
                              case rel => exact ⟨_, (t224), (by first | rfl | (simp; done) | (simp [*]; done)), H', ⟨by have := HJ6.out; have := HJ16.out; first | omega | exact Nat.le_refl _⟩, by repeat (first | exact Drawn0.refl _ | apply Drawn0.step)⟩
                            · replace c41 := Bool.eq_false_iff.mpr c41
                              subst c41
                              have H1 : (triremeref01_Rune.j2 kj16 a0 a1 (wrap64 (bt a0 a1)) false) = some (r1, r2) := by rw [if_neg (show ¬ (false = true) by decide)] at H; exact H
                              clear H
                              have H := H1
                              clear H1
                              have H' := Aside0.mk H
                              clear H
                              go_wp2_with (first | (go_at_call 50; (with_reducible refine (triremeref01_more.calls a0 (wrap64 (a1 + 1)) true _ A38.out).mono ?_); rintro e w' ⟨rfl, ⟨nd, rfl⟩⟩; (try first | exact ⟨rfl, _, World.drewN_drewN _ _ _⟩ | exact ⟨rfl, _, Eq.trans (World.drewN_drewN _ _ _) (congrArg (World.drewN _) (Nat.add_assoc _ _ _))⟩)) | (go_at_call 50; (with_reducible refine (triremeref01_more.calls a0 (wrap64 (a1 + 2)) false _ A40.out).mono ?_); rintro e w' ⟨rfl, ⟨nd, rfl⟩⟩; (try first | exact ⟨rfl, _, World.drewN_drewN _ _ _⟩ | exact ⟨rfl, _, Eq.trans (World.drewN_drewN _ _ _) (congrArg (World.drewN _) (Nat.add_assoc _ _ _))⟩)))
                              repeat (go_quiet (first | (go_at_call 50; (with_reducible refine (triremeref01_more.calls a0 (wrap64 (a1 + 1)) true _ A38.out).mono ?_); rintro e w' ⟨rfl, ⟨nd, rfl⟩⟩; (try first | exact ⟨rfl, _, World.drewN_drewN _ _ _⟩ | exact ⟨rfl, _, Eq.trans (World.drewN_drewN _ _ _) (congrArg (World.drewN _) (Nat.add_assoc _ _ _))⟩)) | (go_at_call 50; (with_reducible refine (triremeref01_more.calls a0 (wrap64 (a1 + 2)) false _ A40.out).mono ?_); rintro e w' ⟨rfl, ⟨nd, rfl⟩⟩; (try first | exact ⟨rfl, _, World.drewN_drewN _ _ _⟩ | exact ⟨rfl, _, Eq.trans (World.drewN_drewN _ _ _) (congrArg (World.drewN _) (Nat.add_assoc _ _ _))⟩))); try go_wp2_with (first | (go_at_call 50; (with_reducible refine (triremeref01_more.calls a0 (wrap64 (a1 + 1)) true _ A38.out).mono ?_); rintro e w' ⟨rfl, ⟨nd, rfl⟩⟩; (try first | exact ⟨rfl, _, World.drewN_drewN _ _ _⟩ | exact ⟨rfl, _, Eq.trans (World.drewN_drewN _ _ _) (congrArg (World.drewN _) (Nat.add_assoc _ _ _))⟩)) | (go_at_call 50; (with_reducible refine (triremeref01_more.calls a0 (wrap64 (a1 + 2)) false _ A40.out).mono ?_); rintro e w' ⟨rfl, ⟨nd, rfl⟩⟩; (try first | exact ⟨rfl, _, World.drewN_drewN _ _ _⟩ | exact ⟨rfl, _, Eq.trans (World.drewN_drewN _ _ _) (congrArg (World.drewN _) (Nat.add_assoc _ _ _))⟩))))
                              go_meet
                              case rel => exact ⟨_, (false), (by first | rfl | (simp; done) | (simp [*]; done)), H', ⟨by have := HJ6.out; have := HJ16.out; first | omega | exact Nat.le_refl _⟩, by repeat (first | exact Drawn0.refl _ | apply Drawn0.step)⟩
                          · replace c39 := Bool.eq_false_iff.mpr c39
                            subst c39
                            have H1 : (triremeref01_Rune.j2 kj16 a0 a1 (wrap64 (bt a0 a1)) false) = some (r1, r2) := by rw [if_neg (show ¬ (false = true) by decide)] at H; exact H
                            clear H
                            have H := H1
                            clear H1
                            have H' := Aside0.mk H
                            clear H
                            go_wp2_with (first | (go_at_call 50; (with_reducible refine (triremeref01_more.calls a0 (wrap64 (a1 + 1)) false _ A38.out).mono ?_); rintro e w' ⟨rfl, ⟨nd, rfl⟩⟩; (try first | exact ⟨rfl, _, World.drewN_drewN _ _ _⟩ | exact ⟨rfl, _, Eq.trans (World.drewN_drewN _ _ _) (congrArg (World.drewN _) (Nat.add_assoc _ _ _))⟩)))
                            repeat (go_quiet (first | (go_at_call 50; (with_reducible refine (triremeref01_more.calls a0 (wrap64 (a1 + 1)) false _ A38.out).mono ?_); rintro e w' ⟨rfl, ⟨nd, rfl⟩⟩; (try first | exact ⟨rfl, _, World.drewN_drewN _ _ _⟩ | exact ⟨rfl, _, Eq.trans (World.drewN_drewN _ _ _) (congrArg (World.drewN _) (Nat.add_assoc _ _ _))⟩))); try go_wp2_with (first | (go_at_call 50; (with_reducible refine (triremeref01_more.calls a0 (wrap64 (a1 + 1)) false _ A38.out).mono ?_); rintro e w' ⟨rfl, ⟨nd, rfl⟩⟩; (try first | exact ⟨rfl, _, World.drewN_drewN _ _ _⟩ | exact ⟨rfl, _, Eq.trans (World.drewN_drewN _ _ _) (congrArg (World.drewN _) (Nat.add_assoc _ _ _))⟩))))
                            go_meet
                            case rel => exact ⟨_, (false), (by first | rfl | (simp; done) | (simp [*]; done)), H', ⟨by have := HJ6.out; have := HJ16.out; first | omega | exact Nat.le_refl _⟩, by repeat (first | exact Drawn0.refl _ | apply Drawn0.step)⟩
                        · rw [if_neg c37] at H
                          have c37b0 : decide ((wrap64 (bt a0 a1)) < 248) = false := decide_eq_false c37
                          clear c37
                          have H' := Aside0.mk H
                          clear H
                          go_wp2
                          repeat (go_quiet (fail); try go_wp2)
                          go_meet
                          case rel => exact ⟨_, (false), (by first | rfl | (simp; done) | (simp [*]; done)), H', ⟨by have := HJ6.out; have := HJ16.out; first | omega | exact Nat.le_refl _⟩, by repeat (first | exact Drawn0.refl _ | apply Drawn0.step)⟩
                      · rw [if_neg c36] at H
                        have c36b0 : decide (240 ≤ (wrap64 (bt a0 a1))) = false := decide_eq_false c36
                        clear c36
                        (first | rw [c36b0] | (simp only [i64_w, i32_w]; rw [c36b0]) | skip)
                        have H' := Aside0.mk H
                        clear H
                        go_wp2
                        repeat (go_quiet (fail); try go_wp2)
                        go_meet
                        case rel => exact ⟨_, (false), (by first | rfl | (simp; done) | (simp [*]; done)), H', ⟨by have := HJ6.out; have := HJ16.out; first | omega | exact Nat.le_refl _⟩, by repeat (first | exact Drawn0.refl _ | apply Drawn0.step)⟩
                    case rest =>
                      clear HC35
                      try clear c1
                      try clear p1
                      try clear q1
                      try clear hx1
                      try clear c2
                      try clear p2
                      try clear q2
                      try clear hx2
                      try clear c3
                      try clear c3b0
                      try clear p3
                      try clear q3
                      try clear hx3
                      try clear c4
                      try clear c4b0
                      try clear p5
                      try clear q5
                      try clear hx5
                      try clear c6
                      try clear c6b0
                      try clear p6
                      try clear c8
                      try clear c8b0
                      try clear c9
                      try clear c9b0
                      try clear c11
                      try clear c13
                      try clear c13b0
                      try clear c14
                      try clear c14b0
                      try clear p15
                      try clear q15
                      try clear hx15
                      try clear c16
                      try clear c16b0
                      try clear c18
                      try clear c18b0
                      try clear c19
                      try clear c19b0
                      try clear c21
                      try clear c23
                      try clear c25
                      try clear c25b0
                      try clear c26
                      try clear c26b0
                      try clear p27
                      try clear q27
                      try clear hx27
                      try clear c29
                      try clear c29b0
                      try clear c30
                      try clear c30b0
                      try clear p31
                      try clear q31
                      try clear hx31
                      try clear c32
                      try clear c32b0
                      try clear c33
                      try clear c33b0
                      try clear c34
                      try clear c34b0
                      try clear c36
                      try clear c36b0
                      try clear c37
                      try clear c37b0
                      try clear c39
                      try clear c41
                      try clear p1
                      try clear p15
                      try clear p2
                      try clear p27
                      try clear p31
                      try clear p5
                      try clear p6
                      try clear q1
                      try clear q15
                      try clear q27
                      try clear q31
                      try clear q5
                      obtain ⟨kq, x92_34, rfl, HA, HJ34, ⟨mc34, rfl⟩⟩ := hcut
                      cases kq with
                      | zero => exact absurd HA.out (by simp [triremeref01_Rune.j2])
                      | succ kj34 =>
                        have H := HA.out
                        clear HA
                        simp only [triremeref01_Rune.j2] at H
                        by_cases c43 : x92_34 = true
                        · subst c43
                          have H1 : (if 0 ≤ (wrap64 (a1 + 1)) then (if (wrap64 (a1 + 1)) < (a0.size : Int) then (if 0 ≤ (wrap64 (a1 + 2)) then (if (wrap64 (a1 + 2)) < (a0.size : Int) then (if 0 ≤ (wrap64 (a1 + 3)) then (if (wrap64 (a1 + 3)) < (a0.size : Int) then (if (wrap64 ((wrap64 ((wrap64 ((wrap64 ((wrap64 ((wrap64 ((wrap64 (bt a0 a1)) - 240)) * 262144)) + (wrap64 ((wrap64 ((wrap64 (bt a0 (wrap64 (a1 + 1)))) - 128)) * 4096)))) + (wrap64 ((wrap64 ((wrap64 (bt a0 (wrap64 (a1 + 2)))) - 128)) * 64)))) + (wrap64 (bt a0 (wrap64 (a1 + 3)))))) - 128)) ≥ 65536 then (if (wrap64 ((wrap64 ((wrap64 ((wrap64 ((wrap64 ((wrap64 ((wrap64 (bt a0 a1)) - 240)) * 262144)) + (wrap64 ((wrap64 ((wrap64 (bt a0 (wrap64 (a1 + 1)))) - 128)) * 4096)))) + (wrap64 ((wrap64 ((wrap64 (bt a0 (wrap64 (a1 + 2)))) - 128)) * 64)))) + (wrap64 (bt a0 (wrap64 (a1 + 3)))))) - 128)) ≤ 1114111 then (some (wrap64 ((wrap64 ((wrap64 ((wrap64 ((wrap64 ((wrap64 ((wrap64 (bt a0 a1)) - 240)) * 262144)) + (wrap64 ((wrap64 ((wrap64 (bt a0 (wrap64 (a1 + 1)))) - 128)) * 4096)))) + (wrap64 ((wrap64 ((wrap64 (bt a0 (wrap64 (a1 + 2)))) - 128)) * 64)))) + (wrap64 (bt a0 (wrap64 (a1 + 3)))))) - 128), 4)) else (some (0, 0))) else (some (0, 0))) else (none)) else (none)) else (none)) else (none)) else (none)) else (none)) = some (r1, r2) := by rw [if_pos rfl] at H; exact H
                          clear H
                          have H := H1
                          clear H1
                          obtain ⟨ji44, hji44⟩ : ∃ j_ : Int, (wrap64 (a1 + 1)) = j_ := ⟨_, rfl⟩
                          replace H : (if 0 ≤ (ji44) then (if (ji44) < (a0.size : Int) then (if 0 ≤ (wrap64 (a1 + 2)) then (if (wrap64 (a1 + 2)) < (a0.size : Int) then (if 0 ≤ (wrap64 (a1 + 3)) then (if (wrap64 (a1 + 3)) < (a0.size : Int) then (if (wrap64 ((wrap64 ((wrap64 ((wrap64 ((wrap64 ((wrap64 ((wrap64 (bt a0 a1)) - 240)) * 262144)) + (wrap64 ((wrap64 ((wrap64 (bt a0 (ji44))) - 128)) * 4096)))) + (wrap64 ((wrap64 ((wrap64 (bt a0 (wrap64 (a1 + 2)))) - 128)) * 64)))) + (wrap64 (bt a0 (wrap64 (a1 + 3)))))) - 128)) ≥ 65536 then (if (wrap64 ((wrap64 ((wrap64 ((wrap64 ((wrap64 ((wrap64 ((wrap64 (bt a0 a1)) - 240)) * 262144)) + (wrap64 ((wrap64 ((wrap64 (bt a0 (ji44))) - 128)) * 4096)))) + (wrap64 ((wrap64 ((wrap64 (bt a0 (wrap64 (a1 + 2)))) - 128)) * 64)))) + (wrap64 (bt a0 (wrap64 (a1 + 3)))))) - 128)) ≤ 1114111 then (some (wrap64 ((wrap64 ((wrap64 ((wrap64 ((wrap64 ((wrap64 ((wrap64 (bt a0 a1)) - 240)) * 262144)) + (wrap64 ((wrap64 ((wrap64 (bt a0 (ji44))) - 128)) * 4096)))) + (wrap64 ((wrap64 ((wrap64 (bt a0 (wrap64 (a1 + 2)))) - 128)) * 64)))) + (wrap64 (bt a0 (wrap64 (a1 + 3)))))) - 128), 4)) else (some (0, 0))) else (some (0, 0))) else (none)) else (none)) else (none)) else (none)) else (none)) else (none)) = some (r1, r2) := by first | (rw [hji44] at H; exact H) | (simp only [hji44] at H ⊢; exact H)
                          have hji44w : (IntKind.i64.wrap (a1 + 1)) = ji44 := (i64_w _).trans hji44
                          by_cases c45 : 0 ≤ (ji44)
                          · rw [if_pos c45] at H
                            have c45b0 : decide (0 ≤ (ji44)) = true := decide_eq_true c45
                            clear c45
                            by_cases c46 : (ji44) < (a0.size : Int)
                            · rw [if_pos c46] at H
                              have c46b0 : decide ((ji44) < (a0.size : Int)) = true := decide_eq_true c46
                              clear c46
                              obtain ⟨ji48, hji48⟩ : ∃ j_ : Int, (wrap64 (a1 + 2)) = j_ := ⟨_, rfl⟩
                              replace H : (if 0 ≤ (ji48) then (if (ji48) < (a0.size : Int) then (if 0 ≤ (wrap64 (a1 + 3)) then (if (wrap64 (a1 + 3)) < (a0.size : Int) then (if (wrap64 ((wrap64 ((wrap64 ((wrap64 ((wrap64 ((wrap64 ((wrap64 (bt a0 a1)) - 240)) * 262144)) + (wrap64 ((wrap64 ((wrap64 (bt a0 (ji44))) - 128)) * 4096)))) + (wrap64 ((wrap64 ((wrap64 (bt a0 (ji48))) - 128)) * 64)))) + (wrap64 (bt a0 (wrap64 (a1 + 3)))))) - 128)) ≥ 65536 then (if (wrap64 ((wrap64 ((wrap64 ((wrap64 ((wrap64 ((wrap64 ((wrap64 (bt a0 a1)) - 240)) * 262144)) + (wrap64 ((wrap64 ((wrap64 (bt a0 (ji44))) - 128)) * 4096)))) + (wrap64 ((wrap64 ((wrap64 (bt a0 (ji48))) - 128)) * 64)))) + (wrap64 (bt a0 (wrap64 (a1 + 3)))))) - 128)) ≤ 1114111 then (some (wrap64 ((wrap64 ((wrap64 ((wrap64 ((wrap64 ((wrap64 ((wrap64 (bt a0 a1)) - 240)) * 262144)) + (wrap64 ((wrap64 ((wrap64 (bt a0 (ji44))) - 128)) * 4096)))) + (wrap64 ((wrap64 ((wrap64 (bt a0 (ji48))) - 128)) * 64)))) + (wrap64 (bt a0 (wrap64 (a1 + 3)))))) - 128), 4)) else (some (0, 0))) else (some (0, 0))) else (none)) else (none)) else (none)) else (none)) = some (r1, r2) := by first | (rw [hji48] at H; exact H) | (simp only [hji48] at H ⊢; exact H)
                              have hji48w : (IntKind.i64.wrap (a1 + 2)) = ji48 := (i64_w _).trans hji48
                              by_cases c49 : 0 ≤ (ji48)
                              · rw [if_pos c49] at H
                                have c49b0 : decide (0 ≤ (ji48)) = true := decide_eq_true c49
                                clear c49
                                by_cases c50 : (ji48) < (a0.size : Int)
                                · rw [if_pos c50] at H
                                  have c50b0 : decide ((ji48) < (a0.size : Int)) = true := decide_eq_true c50
                                  clear c50
                                  obtain ⟨ji52, hji52⟩ : ∃ j_ : Int, (wrap64 (a1 + 3)) = j_ := ⟨_, rfl⟩
                                  replace H : (if 0 ≤ (ji52) then (if (ji52) < (a0.size : Int) then (if (wrap64 ((wrap64 ((wrap64 ((wrap64 ((wrap64 ((wrap64 ((wrap64 (bt a0 a1)) - 240)) * 262144)) + (wrap64 ((wrap64 ((wrap64 (bt a0 (ji44))) - 128)) * 4096)))) + (wrap64 ((wrap64 ((wrap64 (bt a0 (ji48))) - 128)) * 64)))) + (wrap64 (bt a0 (ji52))))) - 128)) ≥ 65536 then (if (wrap64 ((wrap64 ((wrap64 ((wrap64 ((wrap64 ((wrap64 ((wrap64 (bt a0 a1)) - 240)) * 262144)) + (wrap64 ((wrap64 ((wrap64 (bt a0 (ji44))) - 128)) * 4096)))) + (wrap64 ((wrap64 ((wrap64 (bt a0 (ji48))) - 128)) * 64)))) + (wrap64 (bt a0 (ji52))))) - 128)) ≤ 1114111 then (some (wrap64 ((wrap64 ((wrap64 ((wrap64 ((wrap64 ((wrap64 ((wrap64 (bt a0 a1)) - 240)) * 262144)) + (wrap64 ((wrap64 ((wrap64 (bt a0 (ji44))) - 128)) * 4096)))) + (wrap64 ((wrap64 ((wrap64 (bt a0 (ji48))) - 128)) * 64)))) + (wrap64 (bt a0 (ji52))))) - 128), 4)) else (some (0, 0))) else (some (0, 0))) else (none)) else (none)) = some (r1, r2) := by first | (rw [hji52] at H; exact H) | (simp only [hji52] at H ⊢; exact H)
                                  have hji52w : (IntKind.i64.wrap (a1 + 3)) = ji52 := (i64_w _).trans hji52
                                  by_cases c53 : 0 ≤ (ji52)
                                  · rw [if_pos c53] at H
                                    have c53b0 : decide (0 ≤ (ji52)) = true := decide_eq_true c53
                                    clear c53
                                    by_cases c54 : (ji52) < (a0.size : Int)
                                    · rw [if_pos c54] at H
                                      have c54b0 : decide ((ji52) < (a0.size : Int)) = true := decide_eq_true c54
                                      clear c54
                                      by_cases c56 : (wrap64 ((wrap64 ((wrap64 ((wrap64 ((wrap64 ((wrap64 ((wrap64 (bt a0 a1)) - 240)) * 262144)) + (wrap64 ((wrap64 ((wrap64 (bt a0 (ji44))) - 128)) * 4096)))) + (wrap64 ((wrap64 ((wrap64 (bt a0 (ji48))) - 128)) * 64)))) + (wrap64 (bt a0 (ji52))))) - 128)) ≥ 65536
                                      · rw [if_pos c56] at H
                                        have c56b0 : decide (65536 ≤ (wrap64 ((wrap64 ((wrap64 ((wrap64 ((wrap64 ((wrap64 ((wrap64 (bt a0 a1)) - 240)) * 262144)) + (wrap64 ((wrap64 ((wrap64 (bt a0 (ji44))) - 128)) * 4096)))) + (wrap64 ((wrap64 ((wrap64 (bt a0 (ji48))) - 128)) * 64)))) + (wrap64 (bt a0 (ji52))))) - 128))) = true := decide_eq_true c56
                                        clear c56
                                        by_cases c57 : (wrap64 ((wrap64 ((wrap64 ((wrap64 ((wrap64 ((wrap64 ((wrap64 (bt a0 a1)) - 240)) * 262144)) + (wrap64 ((wrap64 ((wrap64 (bt a0 (ji44))) - 128)) * 4096)))) + (wrap64 ((wrap64 ((wrap64 (bt a0 (ji48))) - 128)) * 64)))) + (wrap64 (bt a0 (ji52))))) - 128)) ≤ 1114111
                                        · rw [if_pos c57] at H
                                          have c57b0 : decide ((wrap64 ((wrap64 ((wrap64 ((wrap64 ((wrap64 ((wrap64 ((wrap64 (bt a0 a1)) - 240)) * 262144)) + (wrap64 ((wrap64 ((wrap64 (bt a0 (ji44))) - 128)) * 4096)))) + (wrap64 ((wrap64 ((wrap64 (bt a0 (ji48))) - 128)) * 64)))) + (wrap64 (bt a0 (ji52))))) - 128)) ≤ 1114111) = true := decide_eq_true c57
                                          clear c57
                                          simp only [Option.some.injEq, Prod.mk.injEq] at H
                                          obtain ⟨rfl, rfl⟩ := H
                                          have p47 : 0 ≤ ((ji44) : Int) := of_decide_eq_true (by first | (with_reducible assumption) | assumption)
                                          have q47 : (ji44) < (a0.size : Int) := of_decide_eq_true (by first | (with_reducible assumption) | assumption)
                                          have hx47 := bt_at a0 (ji44)
                                          replace p47 := eq_true p47
                                          replace q47 := eq_true q47
                                          (try (have qz47 := q47; rw [ByteArray.size_extract, Nat.min_self] at qz47))
                                          have p51 : 0 ≤ ((ji48) : Int) := of_decide_eq_true (by first | (with_reducible assumption) | assumption)
                                          have q51 : (ji48) < (a0.size : Int) := of_decide_eq_true (by first | (with_reducible assumption) | assumption)
                                          have hx51 := bt_at a0 (ji48)
                                          replace p51 := eq_true p51
                                          replace q51 := eq_true q51
                                          (try (have qz51 := q51; rw [ByteArray.size_extract, Nat.min_self] at qz51))
                                          have p55 : 0 ≤ ((ji52) : Int) := of_decide_eq_true (by first | (with_reducible assumption) | assumption)
                                          have q55 : (ji52) < (a0.size : Int) := of_decide_eq_true (by first | (with_reducible assumption) | assumption)
                                          have hx55 := bt_at a0 (ji52)
                                          replace p55 := eq_true p55
                                          replace q55 := eq_true q55
                                          (try (have qz55 := q55; rw [ByteArray.size_extract, Nat.min_self] at qz55))
                                          go_wp2
                                          repeat (go_quiet (fail); try go_wp2)
                                          go_ret2
                                          exact ⟨by first | rfl | (simp; done) | (simp only [← hji44, ← hji48, ← hji52] <;> (first | rfl | simp)) | (simp [*]; done), by repeat (first | exact Drawn0.refl _ | apply Drawn0.step)⟩
                                        · rw [if_neg c57] at H
                                          have c57b0 : decide ((wrap64 ((wrap64 ((wrap64 ((wrap64 ((wrap64 ((wrap64 ((wrap64 (bt a0 a1)) - 240)) * 262144)) + (wrap64 ((wrap64 ((wrap64 (bt a0 (ji44))) - 128)) * 4096)))) + (wrap64 ((wrap64 ((wrap64 (bt a0 (ji48))) - 128)) * 64)))) + (wrap64 (bt a0 (ji52))))) - 128)) ≤ 1114111) = false := decide_eq_false c57
                                          clear c57
                                          simp only [Option.some.injEq, Prod.mk.injEq] at H
                                          obtain ⟨rfl, rfl⟩ := H
                                          have p47 : 0 ≤ ((ji44) : Int) := of_decide_eq_true (by first | (with_reducible assumption) | assumption)
                                          have q47 : (ji44) < (a0.size : Int) := of_decide_eq_true (by first | (with_reducible assumption) | assumption)
                                          have hx47 := bt_at a0 (ji44)
                                          replace p47 := eq_true p47
                                          replace q47 := eq_true q47
                                          (try (have qz47 := q47; rw [ByteArray.size_extract, Nat.min_self] at qz47))
                                          have p51 : 0 ≤ ((ji48) : Int) := of_decide_eq_true (by first | (with_reducible assumption) | assumption)
                                          have q51 : (ji48) < (a0.size : Int) := of_decide_eq_true (by first | (with_reducible assumption) | assumption)
                                          have hx51 := bt_at a0 (ji48)
                                          replace p51 := eq_true p51
                                          replace q51 := eq_true q51
                                          (try (have qz51 := q51; rw [ByteArray.size_extract, Nat.min_self] at qz51))
                                          have p55 : 0 ≤ ((ji52) : Int) := of_decide_eq_true (by first | (with_reducible assumption) | assumption)
                                          have q55 : (ji52) < (a0.size : Int) := of_decide_eq_true (by first | (with_reducible assumption) | assumption)
                                          have hx55 := bt_at a0 (ji52)
                                          replace p55 := eq_true p55
                                          replace q55 := eq_true q55
                                          (try (have qz55 := q55; rw [ByteArray.size_extract, Nat.min_self] at qz55))
                                          go_wp2
                                          repeat (go_quiet (fail); try go_wp2)
                                          go_ret2
                                          exact ⟨by first | rfl | (simp; done) | (simp only [← hji44, ← hji48, ← hji52] <;> (first | rfl | simp)) | (simp [*]; done), by repeat (first | exact Drawn0.refl _ | apply Drawn0.step)⟩
                                      · rw [if_neg c56] at H
                                        have c56b0 : decide (65536 ≤ (wrap64 ((wrap64 ((wrap64 ((wrap64 ((wrap64 ((wrap64 ((wrap64 (bt a0 a1)) - 240)) * 262144)) + (wrap64 ((wrap64 ((wrap64 (bt a0 (ji44))) - 128)) * 4096)))) + (wrap64 ((wrap64 ((wrap64 (bt a0 (ji48))) - 128)) * 64)))) + (wrap64 (bt a0 (ji52))))) - 128))) = false := decide_eq_false c56
                                        clear c56
                                        simp only [Option.some.injEq, Prod.mk.injEq] at H
                                        obtain ⟨rfl, rfl⟩ := H
                                        have p47 : 0 ≤ ((ji44) : Int) := of_decide_eq_true (by first | (with_reducible assumption) | assumption)
                                        have q47 : (ji44) < (a0.size : Int) := of_decide_eq_true (by first | (with_reducible assumption) | assumption)
                                        have hx47 := bt_at a0 (ji44)
                                        replace p47 := eq_true p47
                                        replace q47 := eq_true q47
                                        (try (have qz47 := q47; rw [ByteArray.size_extract, Nat.min_self] at qz47))
                                        have p51 : 0 ≤ ((ji48) : Int) := of_decide_eq_true (by first | (with_reducible assumption) | assumption)
                                        have q51 : (ji48) < (a0.size : Int) := of_decide_eq_true (by first | (with_reducible assumption) | assumption)
                                        have hx51 := bt_at a0 (ji48)
                                        replace p51 := eq_true p51
                                        replace q51 := eq_true q51
                                        (try (have qz51 := q51; rw [ByteArray.size_extract, Nat.min_self] at qz51))
                                        have p55 : 0 ≤ ((ji52) : Int) := of_decide_eq_true (by first | (with_reducible assumption) | assumption)
                                        have q55 : (ji52) < (a0.size : Int) := of_decide_eq_true (by first | (with_reducible assumption) | assumption)
                                        have hx55 := bt_at a0 (ji52)
                                        replace p55 := eq_true p55
                                        replace q55 := eq_true q55
                                        (try (have qz55 := q55; rw [ByteArray.size_extract, Nat.min_self] at qz55))
                                        go_wp2
                                        repeat (go_quiet (fail); try go_wp2)
                                        go_ret2
                                        exact ⟨by first | rfl | (simp; done) | (simp only [← hji44, ← hji48, ← hji52] <;> (first | rfl | simp)) | (simp [*]; done), by repeat (first | exact Drawn0.refl _ | apply Drawn0.step)⟩
                                    · rw [if_neg c54] at H
                                      exact absurd H (by simp)
                                  · rw [if_neg c53] at H
                                    exact absurd H (by simp)
                                · rw [if_neg c50] at H
                                  exact absurd H (by simp)
                              · rw [if_neg c49] at H
                                exact absurd H (by simp)
                            · rw [if_neg c46] at H
                              exact absurd H (by simp)
                          · rw [if_neg c45] at H
                            exact absurd H (by simp)
                        · replace c43 := Bool.eq_false_iff.mpr c43
                          subst c43
                          have H1 : (some (0, 0)) = some (r1, r2) := by rw [if_neg (show ¬ (false = true) by decide)] at H; exact H
                          clear H
                          have H := H1
                          clear H1
                          simp only [Option.some.injEq, Prod.mk.injEq] at H
                          obtain ⟨rfl, rfl⟩ := H
                          go_wp2
                          repeat (go_quiet (fail); try go_wp2)
                          go_ret2
                          exact ⟨by first | rfl | (simp; done) | (simp [*]; done), by repeat (first | exact Drawn0.refl _ | apply Drawn0.step)⟩
    · rw [if_neg c4] at H
      exact absurd H (by simp)
  · rw [if_neg c3] at H
    exact absurd H (by simp)
end Go.Proofs.Ytngmcigkihfnkaa.H
end
section
namespace Go.Proofs.Ytngmcigkihfnkaa.H
open Go.RowKit Go.Proofs.YtngmcigkihfnkaaW.PrintWords Go.Proofs.YtngmcigkihfnkaaW.PrintLast Go.Proofs.YtngmcigkihfnkaaW.PrintMore
attribute [local go_sem] max2_int min2_int max_two min_two max_three min_three max_four min_four   -- for this text's walks alone
set_option linter.unusedVariables false
set_option linter.unusedSimpArgs false
def triremeref01_plain.f (a0 : Int) : Option (Bool) := if a0 > 32 then (if a0 = 127 then (some false) else (if a0 = 40 then (some false) else (if a0 = 41 then (some false) else (if a0 = 34 then (some false) else (some (a0 != 59)))))) else (some false)
set_option maxHeartbeats 8000000 in
set_option maxRecDepth 100000 in
theorem triremeref01_plain.calls (a0 : Int) (r : Bool) (w : World) (h : triremeref01_plain.f a0 = some r) :
    Calls Try.prog 45 #[.int .i64 a0] w fun e w' => e = .returned (.bool r) ∧ Drawn0 w w' := by
  have H : (if a0 > 32 then (if a0 = 127 then (some false) else (if a0 = 40 then (some false) else (if a0 = 41 then (some false) else (if a0 = 34 then (some false) else (some (a0 != 59)))))) else (some false)) = some r := h
  clear h
  by_cases c2 : a0 > 32
  · rw [if_pos c2] at H
    have c2b0 : decide (32 < a0) = true := decide_eq_true c2
    clear c2
    by_cases c3 : a0 = 127
    · rw [if_pos c3] at H
      have c3b0 : (a0 == 127) = true := beq_iff_eq.mpr c3
      have c3b1 : (a0 != 127) = false := bne_eq_false_iff_eq.mpr c3
      clear c3
      obtain rfl := Option.some.inj H
      go_enter Try.func45, Try.ntmps45
      go_wp2
      go_ret
      exact ⟨by first | rfl | (simp; done) | (simp [*]; done), by repeat (first | exact Drawn0.refl _ | apply Drawn0.step)⟩
    · rw [if_neg c3] at H
      have c3b0 : (a0 == 127) = false := beq_eq_false_iff_ne.mpr c3
      have c3b1 : (a0 != 127) = true := bne_iff_ne.mpr c3
      by_cases c4 : a0 = 40
      · rw [if_pos c4] at H
        have c4b0 : (a0 == 40) = true := beq_iff_eq.mpr c4
        have c4b1 : (a0 != 40) = false := bne_eq_false_iff_eq.mpr c4
        clear c4
        obtain rfl := Option.some.inj H
        go_enter Try.func45, Try.ntmps45
        go_wp2
        go_ret
        exact ⟨by first | rfl | (simp; done) | (simp [*]; done), by repeat (first | exact Drawn0.refl _ | apply Drawn0.step)⟩
      · rw [if_neg c4] at H
        have c4b0 : (a0 == 40) = false := beq_eq_false_iff_ne.mpr c4
        have c4b1 : (a0 != 40) = true := bne_iff_ne.mpr c4
        by_cases c5 : a0 = 41
        · rw [if_pos c5] at H
          have c5b0 : (a0 == 41) = true := beq_iff_eq.mpr c5
          have c5b1 : (a0 != 41) = false := bne_eq_false_iff_eq.mpr c5
          clear c5
          obtain rfl := Option.some.inj H
          go_enter Try.func45, Try.ntmps45
          go_wp2
          go_ret
          exact ⟨by first | rfl | (simp; done) | (simp [*]; done), by repeat (first | exact Drawn0.refl _ | apply Drawn0.step)⟩
        · rw [if_neg c5] at H
          have c5b0 : (a0 == 41) = false := beq_eq_false_iff_ne.mpr c5
          have c5b1 : (a0 != 41) = true := bne_iff_ne.mpr c5
          by_cases c6 : a0 = 34
          · rw [if_pos c6] at H
            have c6b0 : (a0 == 34) = true := beq_iff_eq.mpr c6
            have c6b1 : (a0 != 34) = false := bne_eq_false_iff_eq.mpr c6
            clear c6
            obtain rfl := Option.some.inj H
            go_enter Try.func45, Try.ntmps45
            go_wp2
            go_ret
            exact ⟨by first | rfl | (simp; done) | (simp [*]; done), by repeat (first | exact Drawn0.refl _ | apply Drawn0.step)⟩
          · rw [if_neg c6] at H
            have c6b0 : (a0 == 34) = false := beq_eq_false_iff_ne.mpr c6
            have c6b1 : (a0 != 34) = true := bne_iff_ne.mpr c6
            obtain rfl := Option.some.inj H
            go_enter Try.func45, Try.ntmps45
            go_wp2
            go_ret
            exact ⟨by first | rfl | (simp; done) | (simp [*]; done), by repeat (first | exact Drawn0.refl _ | apply Drawn0.step)⟩
  · rw [if_neg c2] at H
    have c2b0 : decide (32 < a0) = false := decide_eq_false c2
    clear c2
    obtain rfl := Option.some.inj H
    go_enter Try.func45, Try.ntmps45
    go_wp2
    go_ret
    exact ⟨by first | rfl | (simp; done) | (simp [*]; done), by repeat (first | exact Drawn0.refl _ | apply Drawn0.step)⟩
end Go.Proofs.Ytngmcigkihfnkaa.H
end
section
namespace Go.Proofs.Ytngmcigkihfnkaa.H
open Go.RowKit Go.Proofs.YtngmcigkihfnkaaW.PrintWords Go.Proofs.YtngmcigkihfnkaaW.PrintLast Go.Proofs.YtngmcigkihfnkaaW.PrintMore
attribute [local go_sem] max2_int min2_int max_two min_two max_three min_three max_four min_four   -- for this text's walks alone
set_option linter.unusedVariables false
set_option linter.unusedSimpArgs false
def triremeref01_Word.l0 : Nat → ByteArray → Int → Int → Option (Bool)
  | 0, _, _, _ => none
  | k + 1, x0, x3, x4 => if x4 < (x0.size : Int) then ((triremeref01_Rune.f k x0 x4).bind fun bt225 => (if bt225.2 = 0 then (some false) else ((triremeref01_plain.f bt225.1).bind fun t227 => (if t227 = true then (triremeref01_Word.l0 k x0 (wrap64 (x3 + 1)) (wrap64 (x4 + bt225.2))) else (some false))))) else (if x3 ≥ 1 then (some (decide (x3 ≤ 64))) else (some false))
def triremeref01_Word.f (k : Nat) (a0 : ByteArray) : Option (Bool) := triremeref01_Word.l0 k a0 0 0
set_option maxHeartbeats 8000000 in
set_option maxRecDepth 100000 in
theorem triremeref01_Word.calls (k : Nat) (a0 : ByteArray) (r : Bool) (w : World) (h : triremeref01_Word.f k a0 = some r) :
    Calls Try.prog 32 #[.string a0] w fun e w' => e = .returned (.bool r) ∧ Drawn0 w w' := by
  have H : (triremeref01_Word.l0 k a0 0 0) = some r := h
  clear h
  have H' := Aside0.mk H
  clear H
  go_enter Try.func32, Try.ntmps32
  go_wp2
  go_loopg [3, 4] k (fun kq v3 v4 w' => ∃ (x3_1 : Int) (x4_1 : Int), v3 = .int .i64 x3_1 ∧ v4 = .int .i64 x4_1 ∧ Aside0 (triremeref01_Word.l0 kq a0 x3_1 x4_1 = some r) ∧ Aside0 (kq ≤ k) ∧ Drawn0 w w')
  case atStart => exact ⟨(0), (0), (by first | rfl | (simp; done) | (simp [*]; done)), (by first | rfl | (simp; done) | (simp [*]; done)), H', ⟨Nat.le_refl _⟩, by repeat (first | exact Drawn0.refl _ | apply Drawn0.step)⟩
  case round =>
    clear H'
    obtain ⟨x3_1, x4_1, rfl, rfl, HA, HK1, ⟨m1, rfl⟩⟩ := hrel
    cases gk with
    | zero => exact absurd HA.out (by simp [triremeref01_Word.l0])
    | succ k1 =>
      have H := HA.out
      clear HA
      simp only [triremeref01_Word.l0] at H
      by_cases c2 : x4_1 < (a0.size : Int)
      · rw [if_pos c2] at H
        have c2b0 : decide (x4_1 < (a0.size : Int)) = true := decide_eq_true c2
        clear c2
        replace H := Option.bind_eq_some_iff.mp H
        obtain ⟨⟨t225, t226⟩, A30, H⟩ := H
        replace H : (if t226 = 0 then (some false) else ((triremeref01_plain.f t225).bind fun t227 => (if t227 = true then (triremeref01_Word.l0 k1 a0 (wrap64 (x3_1 + 1)) (wrap64 (x4_1 + t226))) else (some false)))) = some r := H
        have A3 := Aside0.mk A30
        clear A30
        by_cases c4 : t226 = 0
        · rw [if_pos c4] at H
          have c4b0 : (t226 == 0) = true := beq_iff_eq.mpr c4
          have c4b1 : (t226 != 0) = false := bne_eq_false_iff_eq.mpr c4
          clear c4
          obtain rfl := Option.some.inj H
          go_wp2_with (first | ((first | ((with_reducible refine gate_callee (f := 44) rfl ?_); refine goesL_ (some 14) rfl rfl Try.func44 (by kernel_rfl) rfl #[.string a0, .int .i64 x4_1] rfl (by (try simp only [List.map_toArray, List.map_cons, List.map_nil]); first | done | rfl | (simp only [List.length_drop, List.length_take]; rfl)) ?_; (with_reducible refine (triremeref01_Rune.calls k1 a0 x4_1 t225 t226 _ A3.out).mono ?_); rintro e w' ⟨rfl, ⟨nd, rfl⟩⟩; refine ⟨_, rfl, ?_⟩) | (go_at_call 44; (with_reducible refine (triremeref01_Rune.calls k1 a0 x4_1 t225 t226 _ A3.out).mono ?_); rintro e w' ⟨rfl, ⟨nd, rfl⟩⟩))))
          go_ret
          exact ⟨by first | rfl | (simp; done) | (simp [*]; done), by repeat (first | exact Drawn0.refl _ | apply Drawn0.step)⟩
        · rw [if_neg c4] at H
          have c4b0 : (t226 == 0) = false := beq_eq_false_iff_ne.mpr c4
          have c4b1 : (t226 != 0) = true := bne_iff_ne.mpr c4
          replace H := Option.bind_eq_some_iff.mp H
          obtain ⟨t227, A50, H⟩ := H
          replace H : (if t227 = true then (triremeref01_Word.l0 k1 a0 (wrap64 (x3_1 + 1)) (wrap64 (x4_1 + t226))) else (some false)) = some r := H
          have A5 := Aside0.mk A50
          clear A50
          by_cases c6 : t227 = true
          · subst c6
            have H1 : (triremeref01_Word.l0 k1 a0 (wrap64 (x3_1 + 1)) (wrap64 (x4_1 + t226))) = some r := by rw [if_pos rfl] at H; exact H
            clear H
            have H := H1
            clear H1
            have H' := Aside0.mk H
            clear H
            go_wp2_with (first | ((first | ((with_reducible refine gate_callee (f := 44) rfl ?_); refine goesL_ (some 14) rfl rfl Try.func44 (by kernel_rfl) rfl #[.string a0, .int .i64 x4_1] rfl (by (try simp only [List.map_toArray, List.map_cons, List.map_nil]); first | done | rfl | (simp only [List.length_drop, List.length_take]; rfl)) ?_; (with_reducible refine (triremeref01_Rune.calls k1 a0 x4_1 t225 t226 _ A3.out).mono ?_); rintro e w' ⟨rfl, ⟨nd, rfl⟩⟩; refine ⟨_, rfl, ?_⟩) | (go_at_call 44; (with_reducible refine (triremeref01_Rune.calls k1 a0 x4_1 t225 t226 _ A3.out).mono ?_); rintro e w' ⟨rfl, ⟨nd, rfl⟩⟩))) | (go_at_call 45; (with_reducible refine (triremeref01_plain.calls t225 true _ A5.out).mono ?_); rintro e w' ⟨rfl, ⟨nd, rfl⟩⟩))
            go_roundg k1
            case measure => have := HK1.out; omega
            case rel => exact ⟨(wrap64 (x3_1 + 1)), (wrap64 (x4_1 + t226)), (by first | rfl | (simp; done) | (simp [*]; done)), (by first | rfl | (simp; done) | (simp [*]; done)), H', ⟨by have := HK1.out; omega⟩, by repeat (first | exact Drawn0.refl _ | apply Drawn0.step)⟩
          · replace c6 := Bool.eq_false_iff.mpr c6
            subst c6
            have H1 : (some false) = some r := by rw [if_neg (show ¬ (false = true) by decide)] at H; exact H
            clear H
            have H := H1
            clear H1
            obtain rfl := Option.some.inj H
            go_wp2_with (first | ((first | ((with_reducible refine gate_callee (f := 44) rfl ?_); refine goesL_ (some 14) rfl rfl Try.func44 (by kernel_rfl) rfl #[.string a0, .int .i64 x4_1] rfl (by (try simp only [List.map_toArray, List.map_cons, List.map_nil]); first | done | rfl | (simp only [List.length_drop, List.length_take]; rfl)) ?_; (with_reducible refine (triremeref01_Rune.calls k1 a0 x4_1 t225 t226 _ A3.out).mono ?_); rintro e w' ⟨rfl, ⟨nd, rfl⟩⟩; refine ⟨_, rfl, ?_⟩) | (go_at_call 44; (with_reducible refine (triremeref01_Rune.calls k1 a0 x4_1 t225 t226 _ A3.out).mono ?_); rintro e w' ⟨rfl, ⟨nd, rfl⟩⟩))) | (go_at_call 45; (with_reducible refine (triremeref01_plain.calls t225 false _ A5.out).mono ?_); rintro e w' ⟨rfl, ⟨nd, rfl⟩⟩))
            go_ret
            exact ⟨by first | rfl | (simp; done) | (simp [*]; done), by repeat (first | exact Drawn0.refl _ | apply Drawn0.step)⟩
      · rw [if_neg c2] at H
        have c2b0 : decide (x4_1 < (a0.size : Int)) = false := decide_eq_false c2
        clear c2
        by_cases c7 : x3_1 ≥ 1
        · rw [if_pos c7] at H
          have c7b0 : decide (1 ≤ x3_1) = true := decide_eq_true c7
          clear c7
          obtain rfl := Option.some.inj H
          go_wp2
          go_ret
          exact ⟨by first | rfl | (simp; done) | (simp [*]; done), by repeat (first | exact Drawn0.refl _ | apply Drawn0.step)⟩
        · rw [if_neg c7] at H
          have c7b0 : decide (1 ≤ x3_1) = false := decide_eq_false c7
          clear c7
          obtain rfl := Option.some.inj H
          go_wp2
          go_ret
          exact ⟨by first | rfl | (simp; done) | (simp [*]; done), by repeat (first | exact Drawn0.refl _ | apply Drawn0.step)⟩
end Go.Proofs.Ytngmcigkihfnkaa.H
end
section
namespace Go.Proofs.Ytngmcigkihfnkaa.H
open Go.RowKit Go.Proofs.YtngmcigkihfnkaaW.PrintWords Go.Proofs.YtngmcigkihfnkaaW.PrintLast Go.Proofs.YtngmcigkihfnkaaW.PrintMore
set_option linter.unusedVariables false
set_option linter.unusedSimpArgs false
theorem get_bt (s : ByteArray) (i k : Nat) (h : i + k < s.size) : ((s.get! (i + k)).toNat : Int) = bt s ((i : Int) + (k : Int)) := by
  have e : ((i : Int) + (k : Int)).toNat = i + k := by omega
  have e2 : s.get! (i + k) = s[i + k]'h := by
    show s.get! (i + k) = _
    simp [ByteArray.get!, getElem!_pos, h]
    rfl
  rw [e2]
  unfold bt
  simp only [e]
  rw [dif_pos h]
def moreB (s : ByteArray) (i : Int) : Bool := decide (i < s.size) && (decide (bt s i ≥ 128) && decide (bt s i < 192))
theorem more_f (s : ByteArray) (i : Int) (h : 0 ≤ i) : triremeref01_more.f s i = some (moreB s i) := by
  unfold triremeref01_more.f moreB
  by_cases h1 : i < (s.size : Int) <;> by_cases h2 : bt s i ≥ 128 <;> simp [h, h1, h2]
/-- What the reference's Rune tells. -/
def runeR (s : ByteArray) (i : Int) : Int × Int :=
  let c := bt s i
  if c < 128 then (c, 1)
  else if 192 ≤ c ∧ c < 224 ∧ moreB s (i + 1) = true then
    (if (c - 192) * 64 + bt s (i + 1) - 128 ≥ 128 then ((c - 192) * 64 + bt s (i + 1) - 128, 2) else (0, 0))
  else if 224 ≤ c ∧ c < 240 ∧ moreB s (i + 1) = true ∧ moreB s (i + 2) = true then
    (if (c - 224) * 4096 + (bt s (i + 1) - 128) * 64 + bt s (i + 2) - 128 ≥ 2048 ∧ ((c - 224) * 4096 + (bt s (i + 1) - 128) * 64 + bt s (i + 2) - 128 < 55296 ∨ (c - 224) * 4096 + (bt s (i + 1) - 128) * 64 + bt s (i + 2) - 128 > 57343)
      then ((c - 224) * 4096 + (bt s (i + 1) - 128) * 64 + bt s (i + 2) - 128, 3) else (0, 0))
  else if 240 ≤ c ∧ c < 248 ∧ moreB s (i + 1) = true ∧ moreB s (i + 2) = true ∧ moreB s (i + 3) = true then
    (if (c - 240) * 262144 + (bt s (i + 1) - 128) * 4096 + (bt s (i + 2) - 128) * 64 + bt s (i + 3) - 128 ≥ 65536 ∧ (c - 240) * 262144 + (bt s (i + 1) - 128) * 4096 + (bt s (i + 2) - 128) * 64 + bt s (i + 3) - 128 ≤ 1114111
      then ((c - 240) * 262144 + (bt s (i + 1) - 128) * 4096 + (bt s (i + 2) - 128) * 64 + bt s (i + 3) - 128, 4) else (0, 0))
  else (0, 0)
theorem moreB_lt {s : ByteArray} {i : Int} (h : moreB s i = true) : i < (s.size : Int) ∧ 128 ≤ bt s i ∧ bt s i < 192 := by
  unfold moreB at h
  simp at h
  omega
theorem rune_j2 (s : ByteArray) (i c : Int) (b : Bool) (h0 : 0 ≤ i) (hs : i + 3 < 1000000000000) (hc : 0 ≤ c) (hc2 : c < 256) (hb : b = true → i + 3 < (s.size : Int)) (k : Nat) :
    triremeref01_Rune.j2 (k + 1) s i c b = some (if b = true then (if (c - 240) * 262144 + (bt s (i + 1) - 128) * 4096 + (bt s (i + 2) - 128) * 64 + bt s (i + 3) - 128 ≥ 65536 ∧ (c - 240) * 262144 + (bt s (i + 1) - 128) * 4096 + (bt s (i + 2) - 128) * 64 + bt s (i + 3) - 128 ≤ 1114111
      then ((c - 240) * 262144 + (bt s (i + 1) - 128) * 4096 + (bt s (i + 2) - 128) * 64 + bt s (i + 3) - 128, 4) else (0, 0)) else (0, 0)) := by
  have b1 := bt_range s (i + 1)
  have b2 := bt_range s (i + 2)
  have b3 := bt_range s (i + 3)
  rw [triremeref01_Rune.j2]
  cases b with
  | false => simp
  | true =>
    have h3 := hb rfl
    simp (disch := omega) only [wrap_small]
    simp only [if_true]
    rw [if_pos (by omega), if_pos (by omega), if_pos (by omega), if_pos (by omega), if_pos (by omega), if_pos (by omega)]
    repeat' split
    all_goals first | rfl | (exfalso; omega)
theorem rune_j1 (s : ByteArray) (i c : Int) (b : Bool) (h0 : 0 ≤ i) (hs : i + 3 < 1000000000000) (hc : 0 ≤ c) (hc2 : c < 256) (hb : b = true → i + 2 < (s.size : Int)) (k : Nat) :
    triremeref01_Rune.j1 (k + 2) s i c b = some (if b = true then (if (c - 224) * 4096 + (bt s (i + 1) - 128) * 64 + bt s (i + 2) - 128 ≥ 2048 ∧ ((c - 224) * 4096 + (bt s (i + 1) - 128) * 64 + bt s (i + 2) - 128 < 55296 ∨ (c - 224) * 4096 + (bt s (i + 1) - 128) * 64 + bt s (i + 2) - 128 > 57343)
      then ((c - 224) * 4096 + (bt s (i + 1) - 128) * 64 + bt s (i + 2) - 128, 3) else (0, 0))
      else if 240 ≤ c ∧ c < 248 ∧ moreB s (i + 1) = true ∧ moreB s (i + 2) = true ∧ moreB s (i + 3) = true then (if (c - 240) * 262144 + (bt s (i + 1) - 128) * 4096 + (bt s (i + 2) - 128) * 64 + bt s (i + 3) - 128 ≥ 65536 ∧ (c - 240) * 262144 + (bt s (i + 1) - 128) * 4096 + (bt s (i + 2) - 128) * 64 + bt s (i + 3) - 128 ≤ 1114111
      then ((c - 240) * 262144 + (bt s (i + 1) - 128) * 4096 + (bt s (i + 2) - 128) * 64 + bt s (i + 3) - 128, 4) else (0, 0)) else (0, 0)) := by
  have b1 := bt_range s (i + 1)
  have b2 := bt_range s (i + 2)
  rw [triremeref01_Rune.j1]
  cases b with
  | true =>
    have h3 := hb rfl
    simp (disch := omega) only [wrap_small]
    simp only [if_true]
    rw [if_pos (by omega), if_pos (by omega), if_pos (by omega), if_pos (by omega)]
    repeat' split
    all_goals first | rfl | (exfalso; omega)
  | false =>
    simp (disch := omega) only [wrap_small]
    rw [more_f s (i + 1) (by omega), more_f s (i + 2) (by omega), more_f s (i + 3) (by omega)]
    simp only [Option.bind_some, Bool.false_eq_true, if_false]
    by_cases g1 : c ≥ 240
    · rw [if_pos g1]
      by_cases g2 : c < 248
      · rw [if_pos g2]
        cases m1 : moreB s (i + 1) <;> cases m2 : moreB s (i + 2) <;> cases m3 : moreB s (i + 3) <;> simp only [Bool.false_eq_true, if_false, if_true, and_false, false_and, and_true, g2]
        all_goals rw [rune_j2 s i c _ h0 hs hc hc2 (by first | (intro h; cases h; done) | (intro _; exact (moreB_lt m3).1))]
        all_goals simp [g1]
      · rw [if_neg g2, rune_j2 s i c _ h0 hs hc hc2 (by intro h; cases h)]
        simp only [Bool.false_eq_true, if_false]
        rw [if_neg (by omega)]
    · rw [if_neg g1, rune_j2 s i c _ h0 hs hc hc2 (by intro h; cases h)]
      simp only [Bool.false_eq_true, if_false]
      rw [if_neg (by omega)]
theorem rune_f (s : ByteArray) (i : Int) (h0 : 0 ≤ i) (h1 : i < (s.size : Int)) (hs : (s.size : Int) < 100000000000) (k : Nat) : triremeref01_Rune.f (k + 3) s i = some (runeR s i) := by
  have b0 := bt_range s i
  have b1 := bt_range s (i + 1)
  unfold triremeref01_Rune.f runeR
  rw [if_pos h0, if_pos h1]
  simp (disch := omega) only [wrap_small]
  rw [more_f s (i + 1) (by omega)]
  simp only [Option.bind_some]
  by_cases g0 : bt s i < 128
  · rw [if_pos g0]; simp [g0]
  rw [if_neg g0]
  simp only [g0, if_false]
  have key : ∀ b : Bool, (b = true ↔ (192 ≤ bt s i ∧ bt s i < 224 ∧ moreB s (i + 1) = true)) → triremeref01_Rune.j0 (k + 3) s i (bt s i) b = some (if 192 ≤ bt s i ∧ bt s i < 224 ∧ moreB s (i + 1) = true then
    (if (bt s i - 192) * 64 + bt s (i + 1) - 128 ≥ 128 then ((bt s i - 192) * 64 + bt s (i + 1) - 128, 2) else (0, 0))
  else if 224 ≤ bt s i ∧ bt s i < 240 ∧ moreB s (i + 1) = true ∧ moreB s (i + 2) = true then
    (if (bt s i - 224) * 4096 + (bt s (i + 1) - 128) * 64 + bt s (i + 2) - 128 ≥ 2048 ∧ ((bt s i - 224) * 4096 + (bt s (i + 1) - 128) * 64 + bt s (i + 2) - 128 < 55296 ∨ (bt s i - 224) * 4096 + (bt s (i + 1) - 128) * 64 + bt s (i + 2) - 128 > 57343)
      then ((bt s i - 224) * 4096 + (bt s (i + 1) - 128) * 64 + bt s (i + 2) - 128, 3) else (0, 0))
  else if 240 ≤ bt s i ∧ bt s i < 248 ∧ moreB s (i + 1) = true ∧ moreB s (i + 2) = true ∧ moreB s (i + 3) = true then
    (if (bt s i - 240) * 262144 + (bt s (i + 1) - 128) * 4096 + (bt s (i + 2) - 128) * 64 + bt s (i + 3) - 128 ≥ 65536 ∧ (bt s i - 240) * 262144 + (bt s (i + 1) - 128) * 4096 + (bt s (i + 2) - 128) * 64 + bt s (i + 3) - 128 ≤ 1114111
      then ((bt s i - 240) * 262144 + (bt s (i + 1) - 128) * 4096 + (bt s (i + 2) - 128) * 64 + bt s (i + 3) - 128, 4) else (0, 0))
  else (0, 0)) := by
    intro b hb
    rw [triremeref01_Rune.j0]
    cases b with
    | true =>
      obtain ⟨g1, g2, g3⟩ := hb.1 rfl
      have hm := moreB_lt g3
      simp (disch := omega) only [wrap_small]
      simp only [if_true]
      rw [if_pos (by omega), if_pos (by omega), if_pos (show 192 ≤ bt s i ∧ bt s i < 224 ∧ moreB s (i + 1) = true from ⟨g1, g2, g3⟩)]
      split <;> rfl
    | false =>
      have hn : ¬ (192 ≤ bt s i ∧ bt s i < 224 ∧ moreB s (i + 1) = true) := fun h => by simpa using hb.2 h
      rw [if_neg hn]
      simp (disch := omega) only [wrap_small]
      rw [more_f s (i + 1) (by omega), more_f s (i + 2) (by omega)]
      simp only [Option.bind_some, Bool.false_eq_true, if_false]
      by_cases g1 : bt s i ≥ 224
      · rw [if_pos g1]
        by_cases g2 : bt s i < 240
        · rw [if_pos g2]
          have g4 : ¬ bt s i ≥ 240 := by omega
          cases m1 : moreB s (i + 1) <;> cases m2 : moreB s (i + 2) <;> simp only [Bool.false_eq_true, if_false, if_true, and_false, false_and, and_true, g2]
          all_goals rw [rune_j1 s i (bt s i) _ h0 (by omega) (by omega) (by omega) (by first | (intro h; cases h; done) | (intro _; exact (moreB_lt m2).1))]
          all_goals simp [g1, g4, m1, m2]
        · rw [if_neg g2, rune_j1 s i (bt s i) _ h0 (by omega) (by omega) (by omega) (by intro h; cases h)]
          simp only [Bool.false_eq_true, if_false]
          rw [if_neg (show ¬ (224 ≤ bt s i ∧ bt s i < 240 ∧ moreB s (i + 1) = true ∧ moreB s (i + 2) = true) by omega)]
      · rw [if_neg g1, rune_j1 s i (bt s i) _ h0 (by omega) (by omega) (by omega) (by intro h; cases h)]
        simp only [Bool.false_eq_true, if_false]
        rw [if_neg (show ¬ (224 ≤ bt s i ∧ bt s i < 240 ∧ moreB s (i + 1) = true ∧ moreB s (i + 2) = true) by omega)]
  by_cases g1 : bt s i ≥ 192
  · rw [if_pos g1]
    by_cases g2 : bt s i < 224
    · rw [if_pos g2]
      exact key _ ⟨fun h => ⟨g1, g2, h⟩, fun h => h.2.2⟩
    · rw [if_neg g2]
      exact key _ ⟨fun h => by simp at h, fun h => by omega⟩
  · rw [if_neg g1]
    exact key _ ⟨fun h => by simp at h, fun h => by omega⟩
/-- A rune that is right lies within the text. -/
theorem runeR_in (s : ByteArray) (i : Int) (h1 : i < (s.size : Int)) : (runeR s i).2 = 0 ∨ 1 ≤ (runeR s i).2 ∧ i + (runeR s i).2 ≤ s.size := by
  unfold runeR
  simp only []
  by_cases c0 : bt s i < 128
  · rw [if_pos c0]; right; exact ⟨by simp, by simp; omega⟩
  rw [if_neg c0]
  by_cases c1 : 192 ≤ bt s i ∧ bt s i < 224 ∧ moreB s (i + 1) = true
  · rw [if_pos c1]
    have h2 := moreB_lt c1.2.2
    split
    · right; exact ⟨by simp, by simp; omega⟩
    · left; rfl
  rw [if_neg c1]
  by_cases c2 : 224 ≤ bt s i ∧ bt s i < 240 ∧ moreB s (i + 1) = true ∧ moreB s (i + 2) = true
  · rw [if_pos c2]
    have h2 := moreB_lt c2.2.2.2
    split
    · right; exact ⟨by simp, by simp; omega⟩
    · left; rfl
  rw [if_neg c2]
  by_cases c3 : 240 ≤ bt s i ∧ bt s i < 248 ∧ moreB s (i + 1) = true ∧ moreB s (i + 2) = true ∧ moreB s (i + 3) = true
  · rw [if_pos c3]
    have h2 := moreB_lt c3.2.2.2.2
    split
    · right; exact ⟨by simp, by simp; omega⟩
    · left; rfl
  rw [if_neg c3]
  left; rfl
def nb (s : ByteArray) (i : Nat) : Nat := (bt s (i : Int)).toNat
theorem nb_cast (s : ByteArray) (i : Nat) : (nb s i : Int) = bt s i := by unfold nb; have := bt_range s i; omega
theorem nb_lt (s : ByteArray) (i : Nat) : nb s i < 256 := by unfold nb; have := bt_range s i; omega
theorem get_nb (s : ByteArray) (i k : Nat) (h : i + k < s.size) : (s.get! (i + k)).toNat = nb s (i + k) := by
  have := get_bt s i k h
  have h2 := nb_cast s (i + k)
  push_cast at h2
  omega
theorem moreB_nb (s : ByteArray) (i : Nat) : moreB s (i : Int) = (decide (i < s.size) && (nb s i / 64 == 2)) := by
  have h := nb_cast s i
  unfold moreB
  rw [← h]
  by_cases h1 : i < s.size
  · have h2 : ((i : Int) < (s.size : Int)) := by omega
    simp only [h1, h2, decide_true, Bool.true_and]
    rw [Bool.eq_iff_iff]
    simp
    omega
  · have h2 : ¬ ((i : Int) < (s.size : Int)) := by omega
    simp [h1, h2]
theorem cont_nb (s : ByteArray) (i k : Nat) : (decide (i + k < s.size) && ((s.get! (i + k)).toNat / 64 == 2)) = moreB s ((i + k : Nat) : Int) := by
  rw [moreB_nb]
  by_cases h : i + k < s.size
  · rw [get_nb s i k h]
  · simp [h]
/-- The model's own decoder, by the bytes. -/
theorem decode_nb (s : ByteArray) (i : Nat) (hi : i < s.size) : Utf8.decode s i =
    (if nb s i < 128 then (nb s i, 1)
    else if (nb s i / 32 == 6 && moreB s ((i + 1 : Nat) : Int)) = true then
      (if (nb s i % 32) * 64 + nb s (i + 1) % 64 ≥ 128 then ((nb s i % 32) * 64 + nb s (i + 1) % 64, 2) else (65533, 1))
    else if (nb s i / 16 == 14 && moreB s ((i + 1 : Nat) : Int) && moreB s ((i + 2 : Nat) : Int)) = true then
      (if (decide ((nb s i % 16) * 4096 + (nb s (i + 1) % 64) * 64 + nb s (i + 2) % 64 ≥ 2048) && Utf8.valid (((nb s i % 16) * 4096 + (nb s (i + 1) % 64) * 64 + nb s (i + 2) % 64 : Nat) : Int)) = true then ((nb s i % 16) * 4096 + (nb s (i + 1) % 64) * 64 + nb s (i + 2) % 64, 3) else (65533, 1))
    else if (nb s i / 8 == 30 && moreB s ((i + 1 : Nat) : Int) && moreB s ((i + 2 : Nat) : Int) && moreB s ((i + 3 : Nat) : Int)) = true then
      (if (decide ((nb s i % 8) * 262144 + (nb s (i + 1) % 64) * 4096 + (nb s (i + 2) % 64) * 64 + nb s (i + 3) % 64 ≥ 65536) && Utf8.valid (((nb s i % 8) * 262144 + (nb s (i + 1) % 64) * 4096 + (nb s (i + 2) % 64) * 64 + nb s (i + 3) % 64 : Nat) : Int)) = true then ((nb s i % 8) * 262144 + (nb s (i + 1) % 64) * 4096 + (nb s (i + 2) % 64) * 64 + nb s (i + 3) % 64, 4) else (65533, 1))
    else (65533, 1)) := by
  have g0 := get_nb s i 0 hi
  simp only [Nat.add_zero] at g0
  unfold Utf8.decode
  simp only [cont_nb, g0, Nat.add_zero, Utf8.runeError]
  by_cases h1 : i + 1 < s.size
  · have g1 := get_nb s i 1 h1
    by_cases h2 : i + 2 < s.size
    · have g2 := get_nb s i 2 h2
      by_cases h3 : i + 3 < s.size
      · have g3 := get_nb s i 3 h3
        simp only [g1, g2, g3]
      · have m3 : moreB s ((i + 3 : Nat) : Int) = false := by rw [moreB_nb]; simp [h3]
        simp only [g1, g2, m3, Bool.and_false, Bool.false_eq_true, if_false]
    · have m2 : moreB s ((i + 2 : Nat) : Int) = false := by rw [moreB_nb]; simp [h2]
      simp only [g1, m2, Bool.and_false, Bool.false_and, Bool.false_eq_true, if_false]
  · have m1 : moreB s ((i + 1 : Nat) : Int) = false := by rw [moreB_nb]; simp [h1]
    simp only [m1, Bool.and_false, Bool.false_and, Bool.false_eq_true, if_false]
theorem valid_iff (c : Nat) : Utf8.valid (c : Int) = (decide (c < 55296) || (decide (57344 ≤ c) && decide (c ≤ 1114111))) := by
  unfold Utf8.valid
  rw [Bool.eq_iff_iff]
  simp
  omega
/-- Arithmetic alone: the model's decoder, and the reference's. -/
theorem rune_arith (b0 b1 b2 b3 : Nat) (m1 m2 m3 in2 : Bool) (h0 : b0 < 256) (h1 : m1 = true → 128 ≤ b1 ∧ b1 < 192) (h2 : m2 = true → 128 ≤ b2 ∧ b2 < 192) (h3 : m3 = true → 128 ≤ b3 ∧ b3 < 192)
    (hin : in2 = true → b1 = 191 → m1 = true) (hin2 : in2 = true → b2 = 189 → m2 = true) (hin3 : m2 = true → in2 = true)
    (d : Nat × Nat) (hd : d = (if b0 < 128 then (b0, 1)
    else if (b0 / 32 == 6 && m1) = true then (if (b0 % 32) * 64 + b1 % 64 ≥ 128 then ((b0 % 32) * 64 + b1 % 64, 2) else (65533, 1))
    else if (b0 / 16 == 14 && m1 && m2) = true then
      (if (decide ((b0 % 16) * 4096 + (b1 % 64) * 64 + b2 % 64 ≥ 2048) && Utf8.valid (((b0 % 16) * 4096 + (b1 % 64) * 64 + b2 % 64 : Nat) : Int)) = true then ((b0 % 16) * 4096 + (b1 % 64) * 64 + b2 % 64, 3) else (65533, 1))
    else if (b0 / 8 == 30 && m1 && m2 && m3) = true then
      (if (decide ((b0 % 8) * 262144 + (b1 % 64) * 4096 + (b2 % 64) * 64 + b3 % 64 ≥ 65536) && Utf8.valid (((b0 % 8) * 262144 + (b1 % 64) * 4096 + (b2 % 64) * 64 + b3 % 64 : Nat) : Int)) = true then ((b0 % 8) * 262144 + (b1 % 64) * 4096 + (b2 % 64) * 64 + b3 % 64, 4) else (65533, 1))
    else (65533, 1)))
    (q : Int × Int) (hq : q = (if (b0 : Int) < 128 then ((b0 : Int), 1)
  else if 192 ≤ (b0 : Int) ∧ (b0 : Int) < 224 ∧ m1 = true then (if ((b0 : Int) - 192) * 64 + (b1 : Int) - 128 ≥ 128 then (((b0 : Int) - 192) * 64 + (b1 : Int) - 128, 2) else (0, 0))
  else if 224 ≤ (b0 : Int) ∧ (b0 : Int) < 240 ∧ m1 = true ∧ m2 = true then
    (if ((b0 : Int) - 224) * 4096 + ((b1 : Int) - 128) * 64 + (b2 : Int) - 128 ≥ 2048 ∧ (((b0 : Int) - 224) * 4096 + ((b1 : Int) - 128) * 64 + (b2 : Int) - 128 < 55296 ∨ ((b0 : Int) - 224) * 4096 + ((b1 : Int) - 128) * 64 + (b2 : Int) - 128 > 57343)
      then (((b0 : Int) - 224) * 4096 + ((b1 : Int) - 128) * 64 + (b2 : Int) - 128, 3) else (0, 0))
  else if 240 ≤ (b0 : Int) ∧ (b0 : Int) < 248 ∧ m1 = true ∧ m2 = true ∧ m3 = true then
    (if ((b0 : Int) - 240) * 262144 + ((b1 : Int) - 128) * 4096 + ((b2 : Int) - 128) * 64 + (b3 : Int) - 128 ≥ 65536 ∧ ((b0 : Int) - 240) * 262144 + ((b1 : Int) - 128) * 4096 + ((b2 : Int) - 128) * 64 + (b3 : Int) - 128 ≤ 1114111
      then (((b0 : Int) - 240) * 262144 + ((b1 : Int) - 128) * 4096 + ((b2 : Int) - 128) * 64 + (b3 : Int) - 128, 4) else (0, 0))
  else (0, 0))) (rt : Prop) (hrt : rt ↔ (d.1 ≠ 65533 ∨ in2 = true ∧ b0 = 239 ∧ b1 = 191 ∧ b2 = 189)) :
    (rt → q = ((d.1 : Int), (d.2 : Int))) ∧ (¬ rt → q.2 = 0) := by
  by_cases c0 : b0 < 128
  · rw [if_pos c0] at hd
    rw [if_pos (by omega)] at hq
    subst hd hq
    exact ⟨fun _ => rfl, fun h => absurd (hrt.2 (Or.inl (by simp; omega))) h⟩
  rw [if_neg c0] at hd
  rw [if_neg (by omega)] at hq
  by_cases c1 : 192 ≤ b0 ∧ b0 < 224 ∧ m1 = true
  · have e1 : (b0 / 32 == 6 && m1) = true := by simp [c1.2.2]; omega
    rw [if_pos e1] at hd
    rw [if_pos (by exact ⟨by omega, by omega, c1.2.2⟩)] at hq
    have g1 := h1 c1.2.2
    by_cases k1 : (b0 % 32) * 64 + b1 % 64 ≥ 128
    · rw [if_pos k1] at hd
      rw [if_pos (by omega)] at hq
      subst hd hq
      exact ⟨fun _ => by simp; omega, fun h => absurd (hrt.2 (Or.inl (by simp; omega))) h⟩
    · rw [if_neg k1] at hd
      rw [if_neg (by omega)] at hq
      subst hd hq
      exact ⟨fun h => by have := hrt.1 h; simp at this; omega, fun _ => rfl⟩
  have e1 : ¬ (b0 / 32 == 6 && m1) = true := by simp; intro h; cases m1 <;> simp_all; omega
  rw [if_neg e1] at hd
  rw [if_neg (by intro h; exact c1 ⟨by omega, by omega, h.2.2⟩)] at hq
  by_cases c2 : 224 ≤ b0 ∧ b0 < 240 ∧ m1 = true ∧ m2 = true
  · have e2 : (b0 / 16 == 14 && m1 && m2) = true := by simp [c2.2.2]; omega
    rw [if_pos e2] at hd
    rw [if_pos (by exact ⟨by omega, by omega, c2.2.2⟩)] at hq
    have g1 := h1 c2.2.2.1
    have g2 := h2 c2.2.2.2
    have g3 := hin3 c2.2.2.2
    rw [valid_iff] at hd
    by_cases k1 : (b0 % 16) * 4096 + (b1 % 64) * 64 + b2 % 64 ≥ 2048 ∧ ((b0 % 16) * 4096 + (b1 % 64) * 64 + b2 % 64 < 55296 ∨ 57344 ≤ (b0 % 16) * 4096 + (b1 % 64) * 64 + b2 % 64)
    · rw [if_pos (by simp; omega)] at hd
      rw [if_pos (by omega)] at hq
      subst hd hq
      refine ⟨fun _ => by simp; omega, fun h => absurd (hrt.2 ?_) h⟩
      by_cases k2 : (b0 % 16) * 4096 + (b1 % 64) * 64 + b2 % 64 = 65533
      · exact Or.inr ⟨g3, by omega, by omega, by omega⟩
      · exact Or.inl k2
    · rw [if_neg (by simp; omega)] at hd
      rw [if_neg (by omega)] at hq
      subst hd hq
      exact ⟨fun h => by have := hrt.1 h; simp at this; omega, fun _ => rfl⟩
  have e2 : ¬ (b0 / 16 == 14 && m1 && m2) = true := by simp; intro h; cases m1 <;> cases m2 <;> simp_all; omega
  rw [if_neg e2] at hd
  rw [if_neg (by intro h; exact c2 ⟨by omega, by omega, h.2.2⟩)] at hq
  by_cases c3 : 240 ≤ b0 ∧ b0 < 248 ∧ m1 = true ∧ m2 = true ∧ m3 = true
  · have e3 : (b0 / 8 == 30 && m1 && m2 && m3) = true := by simp [c3.2.2]; omega
    rw [if_pos e3] at hd
    rw [if_pos (by exact ⟨by omega, by omega, c3.2.2⟩)] at hq
    have g1 := h1 c3.2.2.1
    have g2 := h2 c3.2.2.2.1
    have g3 := h3 c3.2.2.2.2
    rw [valid_iff] at hd
    by_cases k1 : (b0 % 8) * 262144 + (b1 % 64) * 4096 + (b2 % 64) * 64 + b3 % 64 ≥ 65536 ∧ (b0 % 8) * 262144 + (b1 % 64) * 4096 + (b2 % 64) * 64 + b3 % 64 ≤ 1114111
    · rw [if_pos (by simp; omega)] at hd
      rw [if_pos (by omega)] at hq
      subst hd hq
      exact ⟨fun _ => by simp; omega, fun h => absurd (hrt.2 (Or.inl (by simp; omega))) h⟩
    · rw [if_neg (by simp; omega)] at hd
      rw [if_neg (by omega)] at hq
      subst hd hq
      exact ⟨fun h => by have := hrt.1 h; simp at this; omega, fun _ => rfl⟩
  have e3 : ¬ (b0 / 8 == 30 && m1 && m2 && m3) = true := by simp; intro h; cases m1 <;> cases m2 <;> cases m3 <;> simp_all; omega
  rw [if_neg e3] at hd
  rw [if_neg (by intro h; exact c3 ⟨by omega, by omega, h.2.2⟩)] at hq
  subst hd hq
  refine ⟨fun h => ?_, fun _ => rfl⟩
  rcases hrt.1 h with h | ⟨g1, g2, g3, g4⟩
  · simp at h
  · exact absurd ⟨by omega, by omega, hin g1 g3, hin2 g1 g4⟩ c2
theorem runeR_decode (s : ByteArray) (i : Nat) (hi : i < s.size) :
    (lexRightB s i = true → runeR s i = (((Utf8.decode s i).1 : Int), ((Utf8.decode s i).2 : Int))) ∧ (lexRightB s i = false → (runeR s i).2 = 0) := by
  have e0 := nb_cast s i
  have e1 := nb_cast s (i + 1)
  have e2 := nb_cast s (i + 2)
  have e3 := nb_cast s (i + 3)
  have p1 : ((i + 1 : Nat) : Int) = (i : Int) + 1 := by omega
  have p2 : ((i + 2 : Nat) : Int) = (i : Int) + 2 := by omega
  have p3 : ((i + 3 : Nat) : Int) = (i : Int) + 3 := by omega
  have m1 := @moreB_lt s ((i + 1 : Nat) : Int)
  have m2 := @moreB_lt s ((i + 2 : Nat) : Int)
  have m3 := @moreB_lt s ((i + 3 : Nat) : Int)
  have b1 := moreB_nb s (i + 1)
  have b2 := moreB_nb s (i + 2)
  have hd := decode_nb s i hi
  have key := rune_arith (nb s i) (nb s (i + 1)) (nb s (i + 2)) (nb s (i + 3)) (moreB s ((i + 1 : Nat) : Int)) (moreB s ((i + 2 : Nat) : Int)) (moreB s ((i + 3 : Nat) : Int)) (decide (i + 2 < s.size))
    (nb_lt s i) (fun h => by have := m1 h; omega) (fun h => by have := m2 h; omega) (fun h => by have := m3 h; omega)
    (fun h1 h2 => by simp at h1; rw [b1, h2]; simp; omega) (fun h1 h2 => by simp at h1; rw [b2, h2]; simp; omega) (fun h => by have := m2 h; simp; omega)
    (Utf8.decode s i) hd (runeR s i) (by unfold runeR; simp only [← p1, ← p2, ← p3, ← e0, ← e1, ← e2, ← e3]) (lexRightB s i = true) (by
      unfold lexRightB
      rw [← p1, ← p2, ← e0, ← e1, ← e2]
      simp
      omega)
  refine ⟨key.1, fun h => key.2 (by rw [h]; simp)⟩
theorem plain_f (c : Int) : triremeref01_plain.f c = some (lexPlainB c) := by
  unfold lexPlainB triremeref01_plain.f lex_plain.f
  by_cases h0 : c > 32 <;> by_cases h1 : c = 40 <;> by_cases h2 : c = 41 <;> by_cases h3 : c = 34 <;> by_cases h4 : c = 59 <;> by_cases h5 : c = 127 <;> simp [h0, h1, h2, h3, h4, h5]
  all_goals omega
theorem lexHead_ok (s : ByteArray) : ∀ (b i : Nat) (n : Int), (lexHead s b i).2 = true → (lexHead s b i).1 = (s.size : Int) → n ≤ lexRunes s b i n
  | 0, _, _, _, _ => by simp [lexRunes]
  | b + 1, i, n, h1, h2 => by
    unfold lexHead at h1 h2
    unfold lexRunes
    by_cases hi : i < s.size
    · rw [if_pos hi] at h1 h2 ⊢
      cases hr : lexRightB s i with
      | false => rw [hr] at h1; simp at h1
      | true =>
        rw [hr] at h1 h2
        simp only [if_true] at h1 h2 ⊢
        cases hp : lexPlainB ((Utf8.decode s i).1 : Int) with
        | false => rw [hp] at h2; simp at h2; omega
        | true =>
          rw [hp] at h1 h2
          simp only [if_true] at h1 h2
          have := lexHead_ok s b _ (n + 1) h1 h2
          omega
    · rw [if_neg hi]
      exact Int.le_refl _
theorem word_l0 (s : ByteArray) (hs : s.size ≤ 1000000000) : ∀ (b i : Nat) (n : Int), i ≤ s.size → s.size ≤ i + b → 0 ≤ n → n ≤ i → Ev (fun k => triremeref01_Word.l0 k s n (i : Int))
    ((lexHead s b i).2 && ((lexHead s b i).1 == (s.size : Int) && (decide (lexRunes s b i n ≥ 1) && decide (lexRunes s b i n ≤ 64)))) := by
  intro b
  induction b with
  | zero =>
    intro i n hi hb h0 h1
    refine Ev.step (fun k => by rw [triremeref01_Word.l0]) ?_
    have h2 : ¬ ((i : Int) < (s.size : Int)) := by omega
    simp only [h2, if_false]
    by_cases h3 : n ≥ 1 <;> simp only [h3, if_true, if_false, lexHead, lexRunes, BEq.rfl, Bool.true_and, decide_true, decide_false, Bool.false_and] <;> exact Ev.now _
  | succ b ih =>
    intro i n hi hb h0 h1
    refine Ev.step (fun k => by rw [triremeref01_Word.l0]) ?_
    by_cases h2 : i < s.size
    · have h3 : (i : Int) < (s.size : Int) := by omega
      simp only [h3, if_true]
      refine Ev.bind (a := runeR s i) ⟨3, fun k hk => by
        obtain ⟨m, rfl⟩ : ∃ m, k = m + 3 := ⟨k - 3, by omega⟩
        exact rune_f s i (by omega) h3 (by omega) m⟩ ?_
      have hd := runeR_decode s i h2
      unfold lexHead lexRunes
      rw [if_pos h2, if_pos h2]
      cases hr : lexRightB s i with
      | false =>
        simp only [hd.2 hr, if_true, Bool.false_eq_true, if_false]
        exact Ev.now _
      | true =>
        have hq := hd.1 hr
        have hw := lex_width s i h2
        have hin := runeR_in s i h3
        rw [hq] at hin
        simp only at hin
        simp only [hq, if_true]
        have hw0 : ¬ (((Utf8.decode s i).2 : Int) = 0) := by omega
        simp only [hw0, if_false]
        rw [plain_f]
        simp only [Option.bind_some]
        cases hp : lexPlainB ((Utf8.decode s i).1 : Int) with
        | false =>
          simp only [Bool.false_eq_true, if_false]
          have h4 : ((i : Int) == (s.size : Int)) = false := by simp; omega
          simp only [h4, Bool.false_and, Bool.and_false]
          exact Ev.now _
        | true =>
          simp only [if_true]
          have w1 : wrap64 (n + 1) = n + 1 := wrap_small (by omega) (by omega)
          have w2 : wrap64 ((i : Int) + ((Utf8.decode s i).2 : Int)) = ((i + (Utf8.decode s i).2 : Nat) : Int) := by rw [wrap_small (by omega) (by omega)]; push_cast; rfl
          rw [w1, w2]
          exact ih _ _ (by omega) (by omega) (by omega) (by omega)
    · have h3 : ¬ ((i : Int) < (s.size : Int)) := by omega
      simp only [h3, if_false]
      unfold lexHead lexRunes
      rw [if_neg h2, if_neg h2]
      by_cases h4 : n ≥ 1 <;> simp only [h4, if_true, if_false, BEq.rfl, Bool.true_and, decide_true, decide_false, Bool.false_and] <;> exact Ev.now _
/-- The two answers on what is a word are one. -/
theorem word_ev (s : ByteArray) (hs : s.size ≤ 1000000000) : Ev (fun k => triremeref01_Word.f k s) (lexWordB s) := by
  have h := word_l0 s hs s.size 0 0 (by omega) (by omega) (by omega) (by omega)
  have e : lexWordB s = ((lexHead s s.size 0).2 && ((lexHead s s.size 0).1 == (s.size : Int) && (decide (lexRunes s s.size 0 0 ≥ 1) && decide (lexRunes s s.size 0 0 ≤ 64)))) := by
    unfold lexWordB
    cases h1 : (lexHead s s.size 0).2 with
    | false => rfl
    | true =>
      by_cases h2 : (lexHead s s.size 0).1 = (s.size : Int)
      · have h3 : ((lexHead s s.size 0).1 == (s.size : Int)) = true := by simp [h2]
        rw [h3, h2]
        simp only [Bool.true_and]
        congr 1
        rw [Bool.eq_iff_iff]
        simp only [decide_eq_true_eq]
        by_cases h4 : 0 < s.size
        · constructor
          · intro _
            obtain ⟨b, hb⟩ : ∃ b, s.size = b + 1 := ⟨s.size - 1, by omega⟩
            rw [hb] at h1 h2 ⊢
            unfold lexHead at h1 h2
            unfold lexRunes
            rw [if_pos h4] at h1 h2 ⊢
            cases hr : lexRightB s 0 with
            | false => rw [hr] at h1; simp at h1
            | true =>
              rw [hr] at h1 h2
              simp only [if_true] at h1 h2 ⊢
              cases hp : lexPlainB ((Utf8.decode s 0).1 : Int) with
              | false => rw [hp] at h2; simp at h2; omega
              | true =>
                rw [hp] at h1 h2
                simp only [if_true] at h1 h2
                have := lexHead_ok s b _ (0 + 1) h1 (by rw [h2, hb])
                omega
          · intro _; omega
        · have h5 : s.size = 0 := by omega
          rw [h5]
          simp [lexRunes]
      · have h3 : ((lexHead s s.size 0).1 == (s.size : Int)) = false := by simp [h2]
        rw [h3]; rfl
  rw [e]
  exact h
end Go.Proofs.Ytngmcigkihfnkaa.H
end
section
namespace Go.Proofs.Ytngmcigkihfnkaa.H
open Go.RowKit Go.Proofs.YtngmcigkihfnkaaW.PrintWords Go.Proofs.YtngmcigkihfnkaaW.PrintLast Go.Proofs.YtngmcigkihfnkaaW.PrintMore
set_option linter.unusedVariables false
set_option linter.unusedSimpArgs false
def lineR (e : EvT) : ByteArray :=
  let s := decB e.now ++ (⟨#[58, 32]⟩ : ByteArray) ++ e.what
  let s := if e.name = ⟨#[]⟩ then s else s ++ ((⟨#[32]⟩ : ByteArray) ++ e.name)
  if 0 < e.n then s ++ ((⟨#[32]⟩ : ByteArray) ++ decB e.n) else s
def CleanB (s : ByteArray) : Prop := ∀ c ∈ s.toList, c ≠ 32 ∧ c ≠ 10
theorem lit_clean (l : List UInt8) (h : l.all (fun c => decide (c ≠ 32) && decide (c ≠ 10)) = true) : CleanB ⟨l.toArray⟩ := by
  intro c hc
  rw [ByteArray.toList_eq] at hc
  have := List.all_eq_true.1 h c hc
  simpa using this
theorem mem_clean : ∀ (l : List ByteArray) (s : ByteArray), (∀ x ∈ l, CleanB x ∧ x ≠ ⟨#[]⟩) → memB s l = true → CleanB s ∧ s ≠ ⟨#[]⟩ := by
  intro l s h hm
  obtain ⟨x, hx, he⟩ := List.any_eq_true.1 hm
  have : x = s := of_decide_eq_true he
  subst this
  exact h x hx
theorem k1_clean : ∀ x ∈ k1L, CleanB x ∧ x ≠ ⟨#[]⟩ := by
  intro x hx
  simp only [k1L, List.mem_cons, List.not_mem_nil, or_false] at hx
  rcases hx with rfl | rfl | rfl <;> exact ⟨lit_clean _ (by decide), by decide⟩
theorem k2_clean : ∀ x ∈ k2L, CleanB x ∧ x ≠ ⟨#[]⟩ := by
  intro x hx
  simp only [k2L, List.mem_cons, List.not_mem_nil, or_false] at hx
  rcases hx with rfl | rfl | rfl | rfl | rfl | rfl | rfl | rfl | rfl <;> exact ⟨lit_clean _ (by decide), by decide⟩
theorem k3_clean : ∀ x ∈ k3L, CleanB x ∧ x ≠ ⟨#[]⟩ := by
  intro x hx
  simp only [k3L, List.mem_cons, List.not_mem_nil, or_false] at hx
  rcases hx with rfl <;> exact ⟨lit_clean _ (by decide), by decide⟩
/-- What is right of an event: a kind's name, a number. -/
theorem right_parts (e : EvT) (h : rightR e = true) : (0 ≤ e.now ∧ e.now ≤ 1099511627776) ∧ (CleanB e.what ∧ e.what ≠ ⟨#[]⟩) ∧
    (e.name = ⟨#[]⟩ ∧ e.n = 0 ∨ lexWordB e.name = true ∧ 0 ≤ e.n ∧ e.n ≤ 200) := by
  unfold rightR at h
  by_cases h0 : e.now < 0 ∨ 1099511627776 < e.now
  · rw [if_pos h0] at h; cases h
  · rw [if_neg h0] at h
    refine ⟨by omega, ?_⟩
    by_cases h1 : memB e.what k1L = true
    · rw [if_pos h1] at h
      simp only [Bool.and_eq_true, decide_eq_true_eq] at h
      exact ⟨mem_clean _ _ k1_clean h1, .inr ⟨h.1, by omega, by omega⟩⟩
    · rw [if_neg h1] at h
      by_cases h2 : memB e.what k2L = true
      · rw [if_pos h2] at h
        simp only [Bool.and_eq_true, decide_eq_true_eq] at h
        exact ⟨mem_clean _ _ k2_clean h2, .inr ⟨h.1, by omega, by omega⟩⟩
      · rw [if_neg h2] at h
        simp only [Bool.and_eq_true, decide_eq_true_eq] at h
        exact ⟨mem_clean _ _ k3_clean h.1, .inl h.2⟩
end Go.Proofs.Ytngmcigkihfnkaa.H
end
section
namespace Go.Proofs.Ytngmcigkihfnkaa.H
open Go.RowKit Go.Proofs.YtngmcigkihfnkaaW.PrintWords Go.Proofs.YtngmcigkihfnkaaW.PrintLast Go.Proofs.YtngmcigkihfnkaaW.PrintMore
attribute [local go_sem] max2_int min2_int max_two min_two max_three min_three max_four min_four   -- for this text's walks alone
set_option linter.unusedVariables false
set_option linter.unusedSimpArgs false
mutual
def triremeref32_kind.j0 : Nat → ByteArray → Bool → Option (Int)
  | 0, _, _ => none
  | k + 1, x3, x4 => if x4 = true then (some 1) else (if x3.toList = ([99, 108, 101, 97, 110] : List UInt8) then (triremeref32_kind.j1 k x3 (x3.toList == ([99, 108, 101, 97, 110] : List UInt8))) else (if x3.toList = ([114, 101, 102, 117, 115, 101, 100] : List UInt8) then (triremeref32_kind.j1 k x3 (x3.toList == ([114, 101, 102, 117, 115, 101, 100] : List UInt8))) else (if x3.toList = ([104, 111, 112, 101, 108, 101, 115, 115] : List UInt8) then (triremeref32_kind.j1 k x3 (x3.toList == ([104, 111, 112, 101, 108, 101, 115, 115] : List UInt8))) else (if x3.toList = ([101, 118, 105, 99, 116] : List UInt8) then (triremeref32_kind.j1 k x3 (x3.toList == ([101, 118, 105, 99, 116] : List UInt8))) else (if x3.toList = ([100, 101, 108, 101, 116, 101] : List UInt8) then (triremeref32_kind.j1 k x3 (x3.toList == ([100, 101, 108, 101, 116, 101] : List UInt8))) else (if x3.toList = ([107, 101, 101, 112] : List UInt8) then (triremeref32_kind.j1 k x3 (x3.toList == ([107, 101, 101, 112] : List UInt8))) else (if x3.toList = ([115, 116, 111, 112] : List UInt8) then (triremeref32_kind.j1 k x3 (x3.toList == ([115, 116, 111, 112] : List UInt8))) else (if x3.toList = ([103, 111, 110, 101] : List UInt8) then (triremeref32_kind.j1 k x3 (x3.toList == ([103, 111, 110, 101] : List UInt8))) else (triremeref32_kind.j1 k x3 (x3.toList == ([100, 111, 119, 110] : List UInt8)))))))))))
def triremeref32_kind.j1 : Nat → ByteArray → Bool → Option (Int)
  | 0, _, _ => none
  | k + 1, x3, x8 => if x8 = true then (some 2) else (if x3.toList = ([117, 110, 104, 101, 97, 108, 116, 104, 121] : List UInt8) then (some 3) else (some 0))
end
def triremeref32_kind.f (k : Nat) (a0 : ByteArray) : Option (Int) := if a0.toList = ([117, 112] : List UInt8) then (triremeref32_kind.j0 k a0 (a0.toList == ([117, 112] : List UInt8))) else (if a0.toList = ([114, 97, 105, 115, 101] : List UInt8) then (triremeref32_kind.j0 k a0 (a0.toList == ([114, 97, 105, 115, 101] : List UInt8))) else (triremeref32_kind.j0 k a0 (a0.toList == ([102, 105, 120] : List UInt8))))
theorem triremeref32_kind.mono_l : ∀ k, (∀ y0 y1, LeO (triremeref32_kind.j0 k y0 y1) (triremeref32_kind.j0 (k + 1) y0 y1)) ∧ (∀ y0 y1, LeO (triremeref32_kind.j1 k y0 y1) (triremeref32_kind.j1 (k + 1) y0 y1))
  | 0 => ⟨fun _ _ r h => by simp [triremeref32_kind.j0] at h, fun _ _ r h => by simp [triremeref32_kind.j1] at h⟩
  | k + 1 => by
    obtain ⟨ih0, ih1⟩ := triremeref32_kind.mono_l k
    refine ⟨?_, ?_⟩
    · intro y0 y1
      unfold triremeref32_kind.j0
      repeat' first
      | (with_reducible exact ih0 _ _)
      | (with_reducible exact ih1 _ _)
      | (with_reducible exact LeO.refl _)
      | (with_reducible exact LeO.none _)
      | (with_reducible refine LeO.ite ?_ ?_)
      | (with_reducible refine LeO.bind ?_ (fun _ => ?_))
      | exact ih0 _ _
      | exact ih1 _ _
      | exact LeO.none _
      | refine LeO.ite ?_ ?_
      | refine LeO.bind ?_ (fun _ => ?_)
    · intro y0 y1
      unfold triremeref32_kind.j1
      repeat' first
      | (with_reducible exact ih0 _ _)
      | (with_reducible exact ih1 _ _)
      | (with_reducible exact LeO.refl _)
      | (with_reducible exact LeO.none _)
      | (with_reducible refine LeO.ite ?_ ?_)
      | (with_reducible refine LeO.bind ?_ (fun _ => ?_))
      | exact ih0 _ _
      | exact ih1 _ _
      | exact LeO.none _
      | refine LeO.ite ?_ ?_
      | refine LeO.bind ?_ (fun _ => ?_)
theorem triremeref32_kind.mono : ∀ a0 k, LeO (triremeref32_kind.f k a0) (triremeref32_kind.f (k + 1) a0) := by
  intro a0 k
  obtain ⟨ih0, ih1⟩ := triremeref32_kind.mono_l k
  unfold triremeref32_kind.f
  repeat' first
      | (with_reducible exact ih0 _ _)
      | (with_reducible exact ih1 _ _)
      | (with_reducible exact LeO.refl _)
      | (with_reducible exact LeO.none _)
      | (with_reducible refine LeO.ite ?_ ?_)
      | (with_reducible refine LeO.bind ?_ (fun _ => ?_))
      | exact ih0 _ _
      | exact ih1 _ _
      | exact LeO.none _
      | refine LeO.ite ?_ ?_
      | refine LeO.bind ?_ (fun _ => ?_)
set_option maxHeartbeats 8000000 in
set_option maxRecDepth 100000 in
theorem triremeref32_kind.calls (k : Nat) (a0 : ByteArray) (r : Int) (w : World) (h : triremeref32_kind.f k a0 = some r) :
    Calls Try.prog 31 #[.string a0] w fun e w' => e = .returned (.int .i64 r) ∧ Drawn0 w w' := by
  have H : (if a0.toList = ([117, 112] : List UInt8) then (triremeref32_kind.j0 k a0 (a0.toList == ([117, 112] : List UInt8))) else (if a0.toList = ([114, 97, 105, 115, 101] : List UInt8) then (triremeref32_kind.j0 k a0 (a0.toList == ([114, 97, 105, 115, 101] : List UInt8))) else (triremeref32_kind.j0 k a0 (a0.toList == ([102, 105, 120] : List UInt8))))) = some r := h
  clear h
  have HC2 := Aside0.mk H
  clear H
  go_enter Try.func31, Try.ntmps31
  go_upto_if 4 with (fail)
  go_cut [4] (fun v4 wc => ∃ (kq : Nat) (x4_1 : Bool), v4 = .bool x4_1 ∧ Aside0 (triremeref32_kind.j0 kq a0 x4_1 = some r) ∧ Aside0 (kq ≤ k) ∧ Drawn0 w wc)
  case first =>
    have H := HC2.out
    clear HC2
    by_cases c3 : a0.toList = ([117, 112] : List UInt8)
    · rw [if_pos c3] at H
      have c3b0 : (a0.toList == ([117, 112] : List UInt8)) = true := beq_iff_eq.mpr c3
      have c3b1 : (a0.toList != ([117, 112] : List UInt8)) = false := bne_eq_false_iff_eq.mpr c3
      clear c3
      (first | rw [c3b0] | (simp only [i64_w, i32_w]; rw [c3b0]) | skip)
      have H' := Aside0.mk H
      clear H
      go_wp2
      go_meet
      case rel => exact ⟨_, ((a0.toList == ([117, 112] : List UInt8))), (by first | rfl | (simp; done) | (simp [*]; done)), H', ⟨by first | omega | exact Nat.le_refl _⟩, by repeat (first | exact Drawn0.refl _ | apply Drawn0.step)⟩
    · rw [if_neg c3] at H
      have c3b0 : (a0.toList == ([117, 112] : List UInt8)) = false := beq_eq_false_iff_ne.mpr c3
      have c3b1 : (a0.toList != ([117, 112] : List UInt8)) = true := bne_iff_ne.mpr c3
      (first | rw [c3b0] | (simp only [i64_w, i32_w]; rw [c3b0]) | skip)
      by_cases c4 : a0.toList = ([114, 97, 105, 115, 101] : List UInt8)
      · rw [if_pos c4] at H
        have c4b0 : (a0.toList == ([114, 97, 105, 115, 101] : List UInt8)) = true := beq_iff_eq.mpr c4
        have c4b1 : (a0.toList != ([114, 97, 105, 115, 101] : List UInt8)) = false := bne_eq_false_iff_eq.mpr c4
        clear c4
        have H' := Aside0.mk H
        clear H
        go_wp2
        go_meet
        case rel => exact ⟨_, ((a0.toList == ([114, 97, 105, 115, 101] : List UInt8))), (by first | rfl | (simp; done) | (simp [*]; done)), H', ⟨by first | omega | exact Nat.le_refl _⟩, by repeat (first | exact Drawn0.refl _ | apply Drawn0.step)⟩
      · rw [if_neg c4] at H
        have c4b0 : (a0.toList == ([114, 97, 105, 115, 101] : List UInt8)) = false := beq_eq_false_iff_ne.mpr c4
        have c4b1 : (a0.toList != ([114, 97, 105, 115, 101] : List UInt8)) = true := bne_iff_ne.mpr c4
        have H' := Aside0.mk H
        clear H
        go_wp2
        go_meet
        case rel => exact ⟨_, ((a0.toList == ([102, 105, 120] : List UInt8))), (by first | rfl | (simp; done) | (simp [*]; done)), H', ⟨by first | omega | exact Nat.le_refl _⟩, by repeat (first | exact Drawn0.refl _ | apply Drawn0.step)⟩
  case rest =>
    clear HC2
    try clear p2
    try clear c3
    try clear c3b0
    try clear c3b1
    try clear c4
    try clear c4b0
    try clear c4b1
    obtain ⟨kq, x4_1, rfl, HA, HJ1, ⟨mc1, rfl⟩⟩ := hcut
    cases kq with
    | zero => exact absurd HA.out (by simp [triremeref32_kind.j0])
    | succ kj1 =>
      have H := HA.out
      clear HA
      simp only [triremeref32_kind.j0] at H
      by_cases c5 : x4_1 = true
      · subst c5
        have H1 : (some 1) = some r := by rw [if_pos rfl] at H; exact H
        clear H
        have H := H1
        clear H1
        obtain rfl := Option.some.inj H
        go_wp2
        go_ret
        exact ⟨by first | rfl | (simp; done) | (simp [*]; done), by repeat (first | exact Drawn0.refl _ | apply Drawn0.step)⟩
      · replace c5 := Bool.eq_false_iff.mpr c5
        subst c5
        have H1 : (if a0.toList = ([99, 108, 101, 97, 110] : List UInt8) then (triremeref32_kind.j1 kj1 a0 (a0.toList == ([99, 108, 101, 97, 110] : List UInt8))) else (if a0.toList = ([114, 101, 102, 117, 115, 101, 100] : List UInt8) then (triremeref32_kind.j1 kj1 a0 (a0.toList == ([114, 101, 102, 117, 115, 101, 100] : List UInt8))) else (if a0.toList = ([104, 111, 112, 101, 108, 101, 115, 115] : List UInt8) then (triremeref32_kind.j1 kj1 a0 (a0.toList == ([104, 111, 112, 101, 108, 101, 115, 115] : List UInt8))) else (if a0.toList = ([101, 118, 105, 99, 116] : List UInt8) then (triremeref32_kind.j1 kj1 a0 (a0.toList == ([101, 118, 105, 99, 116] : List UInt8))) else (if a0.toList = ([100, 101, 108, 101, 116, 101] : List UInt8) then (triremeref32_kind.j1 kj1 a0 (a0.toList == ([100, 101, 108, 101, 116, 101] : List UInt8))) else (if a0.toList = ([107, 101, 101, 112] : List UInt8) then (triremeref32_kind.j1 kj1 a0 (a0.toList == ([107, 101, 101, 112] : List UInt8))) else (if a0.toList = ([115, 116, 111, 112] : List UInt8) then (triremeref32_kind.j1 kj1 a0 (a0.toList == ([115, 116, 111, 112] : List UInt8))) else (if a0.toList = ([103, 111, 110, 101] : List UInt8) then (triremeref32_kind.j1 kj1 a0 (a0.toList == ([103, 111, 110, 101] : List UInt8))) else (triremeref32_kind.j1 kj1 a0 (a0.toList == ([100, 111, 119, 110] : List UInt8))))))))))) = some r := by rw [if_neg (show ¬ (false = true) by decide)] at H; exact H
        clear H
        have H := H1
        clear H1
        have HC6 := Aside0.mk H
        clear H
        go_upto_if 8 with (fail)
        go_cut [8] (fun v8 wc => ∃ (kq : Nat) (x8_5 : Bool), v8 = .bool x8_5 ∧ Aside0 (triremeref32_kind.j1 kq a0 x8_5 = some r) ∧ Aside0 (kq ≤ kj1) ∧ Drawn0 w wc)
        case first =>
          have H := HC6.out
          clear HC6
          by_cases c7 : a0.toList = ([99, 108, 101, 97, 110] : List UInt8)
          · rw [if_pos c7] at H
            have c7b0 : (a0.toList == ([99, 108, 101, 97, 110] : List UInt8)) = true := beq_iff_eq.mpr c7
            have c7b1 : (a0.toList != ([99, 108, 101, 97, 110] : List UInt8)) = false := bne_eq_false_iff_eq.mpr c7
            clear c7
            (first | rw [c7b0] | (simp only [i64_w, i32_w]; rw [c7b0]) | skip)
            have H' := Aside0.mk H
            clear H
            go_wp2
            go_meet
            case rel => exact ⟨_, ((a0.toList == ([99, 108, 101, 97, 110] : List UInt8))), (by first | rfl | (simp; done) | (simp [*]; done)), H', ⟨by have := HJ1.out; first | omega | exact Nat.le_refl _⟩, by repeat (first | exact Drawn0.refl _ | apply Drawn0.step)⟩
          · rw [if_neg c7] at H
            have c7b0 : (a0.toList == ([99, 108, 101, 97, 110] : List UInt8)) = false := beq_eq_false_iff_ne.mpr c7
            have c7b1 : (a0.toList != ([99, 108, 101, 97, 110] : List UInt8)) = true := bne_iff_ne.mpr c7
            (first | rw [c7b0] | (simp only [i64_w, i32_w]; rw [c7b0]) | skip)
            by_cases c8 : a0.toList = ([114, 101, 102, 117, 115, 101, 100] : List UInt8)
            · rw [if_pos c8] at H
              have c8b0 : (a0.toList == ([114, 101, 102, 117, 115, 101, 100] : List UInt8)) = true := beq_iff_eq.mpr c8
              have c8b1 : (a0.toList != ([114, 101, 102, 117, 115, 101, 100] : List UInt8)) = false := bne_eq_false_iff_eq.mpr c8
              clear c8
              have H' := Aside0.mk H
              clear H
              go_wp2
              go_meet
              case rel => exact ⟨_, ((a0.toList == ([114, 101, 102, 117, 115, 101, 100] : List UInt8))), (by first | rfl | (simp; done) | (simp [*]; done)), H', ⟨by have := HJ1.out; first | omega | exact Nat.le_refl _⟩, by repeat (first | exact Drawn0.refl _ | apply Drawn0.step)⟩
            · rw [if_neg c8] at H
              have c8b0 : (a0.toList == ([114, 101, 102, 117, 115, 101, 100] : List UInt8)) = false := beq_eq_false_iff_ne.mpr c8
              have c8b1 : (a0.toList != ([114, 101, 102, 117, 115, 101, 100] : List UInt8)) = true := bne_iff_ne.mpr c8
              by_cases c9 : a0.toList = ([104, 111, 112, 101, 108, 101, 115, 115] : List UInt8)
              · rw [if_pos c9] at H
                have c9b0 : (a0.toList == ([104, 111, 112, 101, 108, 101, 115, 115] : List UInt8)) = true := beq_iff_eq.mpr c9
                have c9b1 : (a0.toList != ([104, 111, 112, 101, 108, 101, 115, 115] : List UInt8)) = false := bne_eq_false_iff_eq.mpr c9
                clear c9
                have H' := Aside0.mk H
                clear H
                go_wp2
                go_meet
                case rel => exact ⟨_, ((a0.toList == ([104, 111, 112, 101, 108, 101, 115, 115] : List UInt8))), (by first | rfl | (simp; done) | (simp [*]; done)), H', ⟨by have := HJ1.out; first | omega | exact Nat.le_refl _⟩, by repeat (first | exact Drawn0.refl _ | apply Drawn0.step)⟩
              · rw [if_neg c9] at H
                have c9b0 : (a0.toList == ([104, 111, 112, 101, 108, 101, 115, 115] : List UInt8)) = false := beq_eq_false_iff_ne.mpr c9
                have c9b1 : (a0.toList != ([104, 111, 112, 101, 108, 101, 115, 115] : List UInt8)) = true := bne_iff_ne.mpr c9
                by_cases c10 : a0.toList = ([101, 118, 105, 99, 116] : List UInt8)
                · rw [if_pos c10] at H
                  have c10b0 : (a0.toList == ([101, 118, 105, 99, 116] : List UInt8)) = true := beq_iff_eq.mpr c10
                  have c10b1 : (a0.toList != ([101, 118, 105, 99, 116] : List UInt8)) = false := bne_eq_false_iff_eq.mpr c10
                  clear c10
                  have H' := Aside0.mk H
                  clear H
                  go_wp2
                  go_meet
                  case rel => exact ⟨_, ((a0.toList == ([101, 118, 105, 99, 116] : List UInt8))), (by first | rfl | (simp; done) | (simp [*]; done)), H', ⟨by have := HJ1.out; first | omega | exact Nat.le_refl _⟩, by repeat (first | exact Drawn0.refl _ | apply Drawn0.step)⟩
                · rw [if_neg c10] at H
                  have c10b0 : (a0.toList == ([101, 118, 105, 99, 116] : List UInt8)) = false := beq_eq_false_iff_ne.mpr c10
                  have c10b1 : (a0.toList != ([101, 118, 105, 99, 116] : List UInt8)) = true := bne_iff_ne.mpr c10
                  by_cases c11 : a0.toList = ([100, 101, 108, 101, 116, 101] : List UInt8)
                  · rw [if_pos c11] at H
                    have c11b0 : (a0.toList == ([100, 101, 108, 101, 116, 101] : List UInt8)) = true := beq_iff_eq.mpr c11
                    have c11b1 : (a0.toList != ([100, 101, 108, 101, 116, 101] : List UInt8)) = false := bne_eq_false_iff_eq.mpr c11
                    clear c11
                    have H' := Aside0.mk H
                    clear H
                    go_wp2
                    go_meet
                    case rel => exact ⟨_, ((a0.toList == ([100, 101, 108, 101, 116, 101] : List UInt8))), (by first | rfl | (simp; done) | (simp [*]; done)), H', ⟨by have := HJ1.out; first | omega | exact Nat.le_refl _⟩, by repeat (first | exact Drawn0.refl _ | apply Drawn0.step)⟩
                  · rw [if_neg c11] at H
                    have c11b0 : (a0.toList == ([100, 101, 108, 101, 116, 101] : List UInt8)) = false := beq_eq_false_iff_ne.mpr c11
                    have c11b1 : (a0.toList != ([100, 101, 108, 101, 116, 101] : List UInt8)) = true := bne_iff_ne.mpr c11
                    by_cases c12 : a0.toList = ([107, 101, 101, 112] : List UInt8)
                    · rw [if_pos c12] at H
                      have c12b0 : (a0.toList == ([107, 101, 101, 112] : List UInt8)) = true := beq_iff_eq.mpr c12
                      have c12b1 : (a0.toList != ([107, 101, 101, 112] : List UInt8)) = false := bne_eq_false_iff_eq.mpr c12
                      clear c12
                      have H' := Aside0.mk H
                      clear H
                      go_wp2
                      go_meet
                      case rel => exact ⟨_, ((a0.toList == ([107, 101, 101, 112] : List UInt8))), (by first | rfl | (simp; done) | (simp [*]; done)), H', ⟨by have := HJ1.out; first | omega | exact Nat.le_refl _⟩, by repeat (first | exact Drawn0.refl _ | apply Drawn0.step)⟩
                    · rw [if_neg c12] at H
                      have c12b0 : (a0.toList == ([107, 101, 101, 112] : List UInt8)) = false := beq_eq_false_iff_ne.mpr c12
                      have c12b1 : (a0.toList != ([107, 101, 101, 112] : List UInt8)) = true := bne_iff_ne.mpr c12
                      by_cases c13 : a0.toList = ([115, 116, 111, 112] : List UInt8)
                      · rw [if_pos c13] at H
                        have c13b0 : (a0.toList == ([115, 116, 111, 112] : List UInt8)) = true := beq_iff_eq.mpr c13
                        have c13b1 : (a0.toList != ([115, 116, 111, 112] : List UInt8)) = false := bne_eq_false_iff_eq.mpr c13
                        clear c13
                        have H' := Aside0.mk H
                        clear H
                        go_wp2
                        go_meet
                        case rel => exact ⟨_, ((a0.toList == ([115, 116, 111, 112] : List UInt8))), (by first | rfl | (simp; done) | (simp [*]; done)), H', ⟨by have := HJ1.out; first | omega | exact Nat.le_refl _⟩, by repeat (first | exact Drawn0.refl _ | apply Drawn0.step)⟩
                      · rw [if_neg c13] at H
                        have c13b0 : (a0.toList == ([115, 116, 111, 112] : List UInt8)) = false := beq_eq_false_iff_ne.mpr c13
                        have c13b1 : (a0.toList != ([115, 116, 111, 112] : List UInt8)) = true := bne_iff_ne.mpr c13
                        by_cases c14 : a0.toList = ([103, 111, 110, 101] : List UInt8)
                        · rw [if_pos c14] at H
                          have c14b0 : (a0.toList == ([103, 111, 110, 101] : List UInt8)) = true := beq_iff_eq.mpr c14
                          have c14b1 : (a0.toList != ([103, 111, 110, 101] : List UInt8)) = false := bne_eq_false_iff_eq.mpr c14
                          clear c14
                          have H' := Aside0.mk H
                          clear H
                          go_wp2
                          go_meet
                          case rel => exact ⟨_, ((a0.toList == ([103, 111, 110, 101] : List UInt8))), (by first | rfl | (simp; done) | (simp [*]; done)), H', ⟨by have := HJ1.out; first | omega | exact Nat.le_refl _⟩, by repeat (first | exact Drawn0.refl _ | apply Drawn0.step)⟩
                        · rw [if_neg c14] at H
                          have c14b0 : (a0.toList == ([103, 111, 110, 101] : List UInt8)) = false := beq_eq_false_iff_ne.mpr c14
                          have c14b1 : (a0.toList != ([103, 111, 110, 101] : List UInt8)) = true := bne_iff_ne.mpr c14
                          have H' := Aside0.mk H
                          clear H
                          go_wp2
                          go_meet
                          case rel => exact ⟨_, ((a0.toList == ([100, 111, 119, 110] : List UInt8))), (by first | rfl | (simp; done) | (simp [*]; done)), H', ⟨by have := HJ1.out; first | omega | exact Nat.le_refl _⟩, by repeat (first | exact Drawn0.refl _ | apply Drawn0.step)⟩
        case rest =>
          clear HC6
          try clear c1
          try clear p2
          try clear c3
          try clear c3b0
          try clear c3b1
          try clear c4
          try clear c4b0
          try clear c4b1
          try clear c5
          try clear c7
          try clear c7b0
          try clear c7b1
          try clear c8
          try clear c8b0
          try clear c8b1
          try clear c9
          try clear c9b0
          try clear c9b1
          try clear c10
          try clear c10b0
          try clear c10b1
          try clear c11
          try clear c11b0
          try clear c11b1
          try clear c12
          try clear c12b0
          try clear c12b1
          try clear c13
          try clear c13b0
          try clear c13b1
          try clear c14
          try clear c14b0
          try clear c14b1
          try clear p2
          obtain ⟨kq, x8_5, rfl, HA, HJ5, ⟨mc5, rfl⟩⟩ := hcut
          cases kq with
          | zero => exact absurd HA.out (by simp [triremeref32_kind.j1])
          | succ kj5 =>
            have H := HA.out
            clear HA
            simp only [triremeref32_kind.j1] at H
            by_cases c15 : x8_5 = true
            · subst c15
              have H1 : (some 2) = some r := by rw [if_pos rfl] at H; exact H
              clear H
              have H := H1
              clear H1
              obtain rfl := Option.some.inj H
              go_wp2
              go_ret
              exact ⟨by first | rfl | (simp; done) | (simp [*]; done), by repeat (first | exact Drawn0.refl _ | apply Drawn0.step)⟩
            · replace c15 := Bool.eq_false_iff.mpr c15
              subst c15
              have H1 : (if a0.toList = ([117, 110, 104, 101, 97, 108, 116, 104, 121] : List UInt8) then (some 3) else (some 0)) = some r := by rw [if_neg (show ¬ (false = true) by decide)] at H; exact H
              clear H
              have H := H1
              clear H1
              by_cases c16 : a0.toList = ([117, 110, 104, 101, 97, 108, 116, 104, 121] : List UInt8)
              · rw [if_pos c16] at H
                have c16b0 : (a0.toList == ([117, 110, 104, 101, 97, 108, 116, 104, 121] : List UInt8)) = true := beq_iff_eq.mpr c16
                have c16b1 : (a0.toList != ([117, 110, 104, 101, 97, 108, 116, 104, 121] : List UInt8)) = false := bne_eq_false_iff_eq.mpr c16
                clear c16
                obtain rfl := Option.some.inj H
                go_wp2
                go_ret
                exact ⟨by first | rfl | (simp; done) | (simp [*]; done), by repeat (first | exact Drawn0.refl _ | apply Drawn0.step)⟩
              · rw [if_neg c16] at H
                have c16b0 : (a0.toList == ([117, 110, 104, 101, 97, 108, 116, 104, 121] : List UInt8)) = false := beq_eq_false_iff_ne.mpr c16
                have c16b1 : (a0.toList != ([117, 110, 104, 101, 97, 108, 116, 104, 121] : List UInt8)) = true := bne_iff_ne.mpr c16
                obtain rfl := Option.some.inj H
                go_wp2
                go_ret
                exact ⟨by first | rfl | (simp; done) | (simp [*]; done), by repeat (first | exact Drawn0.refl _ | apply Drawn0.step)⟩
end Go.Proofs.Ytngmcigkihfnkaa.H
end
section
namespace Go.Proofs.Ytngmcigkihfnkaa.H
open Go.RowKit Go.Proofs.YtngmcigkihfnkaaW.PrintWords Go.Proofs.YtngmcigkihfnkaaW.PrintLast Go.Proofs.YtngmcigkihfnkaaW.PrintMore
attribute [local go_sem] max2_int min2_int max_two min_two max_three min_three max_four min_four   -- for this text's walks alone
set_option linter.unusedVariables false
set_option linter.unusedSimpArgs false
def triremeref32_Right.j0 : Nat → Bool → Int → ByteArray → ByteArray → Int → Option (Bool)
  | 0, _, _, _, _, _ => none
  | k + 1, x10, x229000, x229001, x229002, x229003 => if x10 = true then (some false) else ((triremeref32_kind.f k x229001).bind fun t229 => (if t229 = 1 then ((triremeref01_Word.f k x229002).bind fun t230 => (if t230 = true then (if x229003 ≥ 1 then (some (decide (x229003 ≤ 200))) else (some false)) else (some false))) else (if t229 = 2 then ((triremeref01_Word.f k x229002).bind fun t231 => (if t231 = true then (some (x229003 == 0)) else (some false))) else (if t229 = 3 then (if x229002.toList = ([] : List UInt8) then (some (x229003 == 0)) else (some false)) else (some false)))))
def triremeref32_Right.f (k : Nat) (a0_0 : Int) (a0_1 : ByteArray) (a0_2 : ByteArray) (a0_3 : Int) : Option (Bool) := if a0_0 < 0 then (triremeref32_Right.j0 k true a0_0 a0_1 a0_2 a0_3) else (triremeref32_Right.j0 k (decide (a0_0 > 1099511627776)) a0_0 a0_1 a0_2 a0_3)
set_option maxHeartbeats 8000000 in
set_option maxRecDepth 100000 in
theorem triremeref32_Right.calls (k : Nat) (a0_0 : Int) (a0_1 : ByteArray) (a0_2 : ByteArray) (a0_3 : Int) (r : Bool) (w : World) (h : triremeref32_Right.f k a0_0 a0_1 a0_2 a0_3 = some r) :
    Calls Try.prog 15 #[.agg #[.int .i64 a0_0, .string a0_1, .string a0_2, .int .i64 a0_3]] w fun e w' => e = .returned (.bool r) ∧ Below w.heap.size w w' := by
  have hu39 := Try.underlying39
  have HB := Aside0.mk (Below.refl w.heap.size w)
  have H : (if a0_0 < 0 then (triremeref32_Right.j0 k true a0_0 a0_1 a0_2 a0_3) else (triremeref32_Right.j0 k (decide (a0_0 > 1099511627776)) a0_0 a0_1 a0_2 a0_3)) = some r := h
  clear h
  have HC2 := Aside0.mk H
  clear H
  go_enter Try.func15, Try.ntmps15
  go_upto_region 1 with (first | ((with_reducible refine gate_dst (N := 1) rfl ?_); refine box_event ?hg (N := 1) ?hd (cs := #[.int .i64 a0_0, .string a0_1, .string a0_2, .int .i64 a0_3]) (t := 39) ?hr ?_; (case hd => rfl); (case hg => rfl); (case hr => first | (go_simp; done) | (go_simp; rfl)); intro gb228 hg w3 hbox hb; have n0_ := Aside0.mk (below_step (by repeat (first | (with_reducible first | exact HB.out | apply below_alloc | apply pw_below_drewN | apply below_drew1) | exact HB.out)) hb); have n1_ := Aside0.mk (hbox); have n2_ := Aside0.mk ((by rw [hg]; exact (below_size (by repeat (first | (with_reducible first | exact HB.out | apply below_alloc | apply pw_below_drewN | apply below_drew1) | exact HB.out))) : w.heap.size ≤ gb228)); have n3_ := Aside0.mk ((by rw [hg]; exact (below_size (by repeat (first | (with_reducible first | exact HB.out | apply below_alloc | apply pw_below_drewN | apply below_drew1) | exact HB.out))) : w.heap.size ≤ gb228)); clear HB; have HB := n0_; have BK228 := n1_; have GW228 := n2_; have GE228 := n3_; clear n0_ n1_ n2_ n3_; clear hb hbox hg))
  (try simp only [Act.put, List.setIfInBounds_toArray, List.set_cons_zero, List.set_cons_succ])
  go_cut [10] (fun v10 wc => ∃ (kq : Nat) (x10_1 : Bool), v10 = .bool x10_1 ∧ Aside0 (triremeref32_Right.j0 kq x10_1 a0_0 a0_1 a0_2 a0_3 = some r) ∧ Aside0 (kq ≤ k) ∧ Aside0 (wc.heap[gb228]? = some (.cells #[.int .i64 a0_0, .string a0_1, .string a0_2, .int .i64 a0_3] 39 (0, 0))) ∧ Aside0 (Below w.heap.size w wc))
  case first =>
    have H := HC2.out
    clear HC2
    by_cases c4 : a0_0 < 0
    · rw [if_pos c4] at H
      have c4b0 : decide (a0_0 < 0) = true := decide_eq_true c4
      clear c4
      (first | rw [c4b0] | (simp only [i64_w, i32_w]; rw [c4b0]) | skip)
      have H' := Aside0.mk H
      clear H
      have hcz5_0 : w3.cell? ⟨gb228, 0, none⟩ = some (.int .i64 a0_0) := (blk_cell BK228.out 0).trans rfl
      have hcz5_1 : w3.cell? ⟨gb228, 1, none⟩ = some (.string a0_1) := (blk_cell BK228.out 1).trans rfl
      have hcz5_2 : w3.cell? ⟨gb228, 2, none⟩ = some (.string a0_2) := (blk_cell BK228.out 2).trans rfl
      have hcz5_3 : w3.cell? ⟨gb228, 3, none⟩ = some (.int .i64 a0_3) := (blk_cell BK228.out 3).trans rfl
      have hfz5_0 := blk_frozen BK228.out 0
      have hfz5_1 := blk_frozen BK228.out 1
      have hfz5_2 := blk_frozen BK228.out 2
      have hfz5_3 := blk_frozen BK228.out 3
      go_wp2
      go_meet
      case rel => exact ⟨_, (true), (by first | rfl | (simp; done) | (simp [*]; done)), H', ⟨by first | omega | exact Nat.le_refl _⟩, ⟨by (with_reducible repeat (first | refine blk_drewN ?_ _ | refine blk_drew ?_ | refine blk_alloc ?_ _)); exact BK228.out⟩, ⟨by repeat (first | (with_reducible first | exact HB.out | apply below_alloc | apply pw_below_drewN | apply below_drew1 | refine below_set ?_ GE228.out) | exact HB.out)⟩⟩
    · rw [if_neg c4] at H
      have c4b0 : decide (a0_0 < 0) = false := decide_eq_false c4
      clear c4
      (first | rw [c4b0] | (simp only [i64_w, i32_w]; rw [c4b0]) | skip)
      have H' := Aside0.mk H
      clear H
      have hcz6_0 : w3.cell? ⟨gb228, 0, none⟩ = some (.int .i64 a0_0) := (blk_cell BK228.out 0).trans rfl
      have hcz6_1 : w3.cell? ⟨gb228, 1, none⟩ = some (.string a0_1) := (blk_cell BK228.out 1).trans rfl
      have hcz6_2 : w3.cell? ⟨gb228, 2, none⟩ = some (.string a0_2) := (blk_cell BK228.out 2).trans rfl
      have hcz6_3 : w3.cell? ⟨gb228, 3, none⟩ = some (.int .i64 a0_3) := (blk_cell BK228.out 3).trans rfl
      have hfz6_0 := blk_frozen BK228.out 0
      have hfz6_1 := blk_frozen BK228.out 1
      have hfz6_2 := blk_frozen BK228.out 2
      have hfz6_3 := blk_frozen BK228.out 3
      go_wp2
      go_meet
      case rel => exact ⟨_, (decide (a0_0 > 1099511627776)), (by first | rfl | (simp; done) | (simp [*]; done)), H', ⟨by first | omega | exact Nat.le_refl _⟩, ⟨by (with_reducible repeat (first | refine blk_drewN ?_ _ | refine blk_drew ?_ | refine blk_alloc ?_ _)); exact BK228.out⟩, ⟨by repeat (first | (with_reducible first | exact HB.out | apply below_alloc | apply pw_below_drewN | apply below_drew1 | refine below_set ?_ GE228.out) | exact HB.out)⟩⟩
  case rest =>
    clear HC2
    try clear c1
    try clear p2
    try clear c4
    try clear c4b0
    try clear hcz5_0
    try clear hcz5_1
    try clear hcz5_2
    try clear hcz5_3
    try clear hcz6_0
    try clear hcz6_1
    try clear hcz6_2
    try clear hcz6_3
    try clear hfz5_0
    try clear hfz5_1
    try clear hfz5_2
    try clear hfz5_3
    try clear hfz6_0
    try clear hfz6_1
    try clear hfz6_2
    try clear hfz6_3
    obtain ⟨kq, x10_1, rfl, HA, HJ1, BK228, HB⟩ := hcut
    cases kq with
    | zero => exact absurd HA.out (by simp [triremeref32_Right.j0])
    | succ kj1 =>
      have H := HA.out
      clear HA
      simp only [triremeref32_Right.j0] at H
      by_cases c7 : x10_1 = true
      · subst c7
        have H1 : (some false) = some r := by rw [if_pos rfl] at H; exact H
        clear H
        have H := H1
        clear H1
        obtain rfl := Option.some.inj H
        go_wp2
        go_ret
        exact ⟨by first | rfl | (simp [errW_none, errW_some] <;> rfl) | (simp [*, errW_none, errW_some] <;> rfl), by repeat (first | (with_reducible first | exact HB.out | apply below_alloc | apply pw_below_drewN | apply below_drew1 | refine below_set ?_ GE228.out) | exact HB.out)⟩
      · replace c7 := Bool.eq_false_iff.mpr c7
        subst c7
        have H1 : ((triremeref32_kind.f kj1 a0_1).bind fun t229 => (if t229 = 1 then ((triremeref01_Word.f kj1 a0_2).bind fun t230 => (if t230 = true then (if a0_3 ≥ 1 then (some (decide (a0_3 ≤ 200))) else (some false)) else (some false))) else (if t229 = 2 then ((triremeref01_Word.f kj1 a0_2).bind fun t231 => (if t231 = true then (some (a0_3 == 0)) else (some false))) else (if t229 = 3 then (if a0_2.toList = ([] : List UInt8) then (some (a0_3 == 0)) else (some false)) else (some false))))) = some r := by rw [if_neg (show ¬ (false = true) by decide)] at H; exact H
        clear H
        have H := H1
        clear H1
        replace H := Option.bind_eq_some_iff.mp H
        obtain ⟨t229, A80, H⟩ := H
        replace H : (if t229 = 1 then ((triremeref01_Word.f kj1 a0_2).bind fun t230 => (if t230 = true then (if a0_3 ≥ 1 then (some (decide (a0_3 ≤ 200))) else (some false)) else (some false))) else (if t229 = 2 then ((triremeref01_Word.f kj1 a0_2).bind fun t231 => (if t231 = true then (some (a0_3 == 0)) else (some false))) else (if t229 = 3 then (if a0_2.toList = ([] : List UInt8) then (some (a0_3 == 0)) else (some false)) else (some false)))) = some r := H
        have A8 := Aside0.mk A80
        clear A80
        by_cases c9 : t229 = 1
        · rw [if_pos c9] at H
          have c9b0 : (t229 == 1) = true := beq_iff_eq.mpr c9
          have c9b1 : (t229 != 1) = false := bne_eq_false_iff_eq.mpr c9
          clear c9
          replace H := Option.bind_eq_some_iff.mp H
          obtain ⟨t230, A100, H⟩ := H
          replace H : (if t230 = true then (if a0_3 ≥ 1 then (some (decide (a0_3 ≤ 200))) else (some false)) else (some false)) = some r := H
          have A10 := Aside0.mk A100
          clear A100
          by_cases c11 : t230 = true
          · subst c11
            have H1 : (if a0_3 ≥ 1 then (some (decide (a0_3 ≤ 200))) else (some false)) = some r := by rw [if_pos rfl] at H; exact H
            clear H
            have H := H1
            clear H1
            by_cases c12 : a0_3 ≥ 1
            · rw [if_pos c12] at H
              have c12b0 : decide (1 ≤ a0_3) = true := decide_eq_true c12
              clear c12
              obtain rfl := Option.some.inj H
              have hcz13_0 : wc.cell? ⟨gb228, 0, none⟩ = some (.int .i64 a0_0) := (blk_cell BK228.out 0).trans rfl
              have hcz13_1 : wc.cell? ⟨gb228, 1, none⟩ = some (.string a0_1) := (blk_cell BK228.out 1).trans rfl
              have hcz13_2 : wc.cell? ⟨gb228, 2, none⟩ = some (.string a0_2) := (blk_cell BK228.out 2).trans rfl
              have hcz13_3 : wc.cell? ⟨gb228, 3, none⟩ = some (.int .i64 a0_3) := (blk_cell BK228.out 3).trans rfl
              have hfz13_0 := blk_frozen BK228.out 0
              have hfz13_1 := blk_frozen BK228.out 1
              have hfz13_2 := blk_frozen BK228.out 2
              have hfz13_3 := blk_frozen BK228.out 3
              go_wp2_with (first | ((first | ((with_reducible refine gate_callee (f := 31) rfl ?_); refine goesL_ (some 13) rfl rfl Try.func31 (by kernel_rfl) rfl #[.string a0_1] rfl (by (try simp only [List.map_toArray, List.map_cons, List.map_nil]); first | done | rfl | (simp only [List.length_drop, List.length_take]; rfl)) ?_; (with_reducible refine (triremeref32_kind.calls kj1 a0_1 t229 _ A8.out).mono ?_); rintro e w' ⟨rfl, ⟨nd, rfl⟩⟩; refine ⟨_, rfl, ?_⟩) | (go_at_call 31; (with_reducible refine (triremeref32_kind.calls kj1 a0_1 t229 _ A8.out).mono ?_); rintro e w' ⟨rfl, ⟨nd, rfl⟩⟩))) | ((first | ((with_reducible refine gate_callee (f := 32) rfl ?_); refine goesL_ (some 18) rfl rfl Try.func32 (by kernel_rfl) rfl #[.string a0_2] rfl (by (try simp only [List.map_toArray, List.map_cons, List.map_nil]); first | done | rfl | (simp only [List.length_drop, List.length_take]; rfl)) ?_; (with_reducible refine (triremeref01_Word.calls kj1 a0_2 true _ A10.out).mono ?_); rintro e w' ⟨rfl, ⟨nd, rfl⟩⟩; refine ⟨_, rfl, ?_⟩) | (go_at_call 32; (with_reducible refine (triremeref01_Word.calls kj1 a0_2 true _ A10.out).mono ?_); rintro e w' ⟨rfl, ⟨nd, rfl⟩⟩))))
              go_ret
              exact ⟨by first | rfl | (simp [errW_none, errW_some] <;> rfl) | (simp [*, errW_none, errW_some] <;> rfl), by repeat (first | (with_reducible first | exact HB.out | apply below_alloc | apply pw_below_drewN | apply below_drew1 | refine below_set ?_ GE228.out) | exact HB.out)⟩
            · rw [if_neg c12] at H
              have c12b0 : decide (1 ≤ a0_3) = false := decide_eq_false c12
              clear c12
              obtain rfl := Option.some.inj H
              have hcz14_0 : wc.cell? ⟨gb228, 0, none⟩ = some (.int .i64 a0_0) := (blk_cell BK228.out 0).trans rfl
              have hcz14_1 : wc.cell? ⟨gb228, 1, none⟩ = some (.string a0_1) := (blk_cell BK228.out 1).trans rfl
              have hcz14_2 : wc.cell? ⟨gb228, 2, none⟩ = some (.string a0_2) := (blk_cell BK228.out 2).trans rfl
              have hcz14_3 : wc.cell? ⟨gb228, 3, none⟩ = some (.int .i64 a0_3) := (blk_cell BK228.out 3).trans rfl
              have hfz14_0 := blk_frozen BK228.out 0
              have hfz14_1 := blk_frozen BK228.out 1
              have hfz14_2 := blk_frozen BK228.out 2
              have hfz14_3 := blk_frozen BK228.out 3
              go_wp2_with (first | ((first | ((with_reducible refine gate_callee (f := 31) rfl ?_); refine goesL_ (some 13) rfl rfl Try.func31 (by kernel_rfl) rfl #[.string a0_1] rfl (by (try simp only [List.map_toArray, List.map_cons, List.map_nil]); first | done | rfl | (simp only [List.length_drop, List.length_take]; rfl)) ?_; (with_reducible refine (triremeref32_kind.calls kj1 a0_1 t229 _ A8.out).mono ?_); rintro e w' ⟨rfl, ⟨nd, rfl⟩⟩; refine ⟨_, rfl, ?_⟩) | (go_at_call 31; (with_reducible refine (triremeref32_kind.calls kj1 a0_1 t229 _ A8.out).mono ?_); rintro e w' ⟨rfl, ⟨nd, rfl⟩⟩))) | ((first | ((with_reducible refine gate_callee (f := 32) rfl ?_); refine goesL_ (some 18) rfl rfl Try.func32 (by kernel_rfl) rfl #[.string a0_2] rfl (by (try simp only [List.map_toArray, List.map_cons, List.map_nil]); first | done | rfl | (simp only [List.length_drop, List.length_take]; rfl)) ?_; (with_reducible refine (triremeref01_Word.calls kj1 a0_2 true _ A10.out).mono ?_); rintro e w' ⟨rfl, ⟨nd, rfl⟩⟩; refine ⟨_, rfl, ?_⟩) | (go_at_call 32; (with_reducible refine (triremeref01_Word.calls kj1 a0_2 true _ A10.out).mono ?_); rintro e w' ⟨rfl, ⟨nd, rfl⟩⟩))))
              go_ret
              exact ⟨by first | rfl | (simp [errW_none, errW_some] <;> rfl) | (simp [*, errW_none, errW_some] <;> rfl), by repeat (first | (with_reducible first | exact HB.out | apply below_alloc | apply pw_below_drewN | apply below_drew1 | refine below_set ?_ GE228.out) | exact HB.out)⟩
          · replace c11 := Bool.eq_false_iff.mpr c11
            subst c11
            have H1 : (some false) = some r := by rw [if_neg (show ¬ (false = true) by decide)] at H; exact H
            clear H
            have H := H1
            clear H1
            obtain rfl := Option.some.inj H
            have hcz15_0 : wc.cell? ⟨gb228, 0, none⟩ = some (.int .i64 a0_0) := (blk_cell BK228.out 0).trans rfl
            have hcz15_1 : wc.cell? ⟨gb228, 1, none⟩ = some (.string a0_1) := (blk_cell BK228.out 1).trans rfl
            have hcz15_2 : wc.cell? ⟨gb228, 2, none⟩ = some (.string a0_2) := (blk_cell BK228.out 2).trans rfl
            have hcz15_3 : wc.cell? ⟨gb228, 3, none⟩ = some (.int .i64 a0_3) := (blk_cell BK228.out 3).trans rfl
            have hfz15_0 := blk_frozen BK228.out 0
            have hfz15_1 := blk_frozen BK228.out 1
            have hfz15_2 := blk_frozen BK228.out 2
            have hfz15_3 := blk_frozen BK228.out 3
            go_wp2_with (first | ((first | ((with_reducible refine gate_callee (f := 31) rfl ?_); refine goesL_ (some 13) rfl rfl Try.func31 (by kernel_rfl) rfl #[.string a0_1] rfl (by (try simp only [List.map_toArray, List.map_cons, List.map_nil]); first | done | rfl | (simp only [List.length_drop, List.length_take]; rfl)) ?_; (with_reducible refine (triremeref32_kind.calls kj1 a0_1 t229 _ A8.out).mono ?_); rintro e w' ⟨rfl, ⟨nd, rfl⟩⟩; refine ⟨_, rfl, ?_⟩) | (go_at_call 31; (with_reducible refine (triremeref32_kind.calls kj1 a0_1 t229 _ A8.out).mono ?_); rintro e w' ⟨rfl, ⟨nd, rfl⟩⟩))) | ((first | ((with_reducible refine gate_callee (f := 32) rfl ?_); refine goesL_ (some 18) rfl rfl Try.func32 (by kernel_rfl) rfl #[.string a0_2] rfl (by (try simp only [List.map_toArray, List.map_cons, List.map_nil]); first | done | rfl | (simp only [List.length_drop, List.length_take]; rfl)) ?_; (with_reducible refine (triremeref01_Word.calls kj1 a0_2 false _ A10.out).mono ?_); rintro e w' ⟨rfl, ⟨nd, rfl⟩⟩; refine ⟨_, rfl, ?_⟩) | (go_at_call 32; (with_reducible refine (triremeref01_Word.calls kj1 a0_2 false _ A10.out).mono ?_); rintro e w' ⟨rfl, ⟨nd, rfl⟩⟩))))
            go_ret
            exact ⟨by first | rfl | (simp [errW_none, errW_some] <;> rfl) | (simp [*, errW_none, errW_some] <;> rfl), by repeat (first | (with_reducible first | exact HB.out | apply below_alloc | apply pw_below_drewN | apply below_drew1 | refine below_set ?_ GE228.out) | exact HB.out)⟩
        · rw [if_neg c9] at H
          have c9b0 : (t229 == 1) = false := beq_eq_false_iff_ne.mpr c9
          have c9b1 : (t229 != 1) = true := bne_iff_ne.mpr c9
          by_cases c16 : t229 = 2
          · rw [if_pos c16] at H
            have c16b0 : (t229 == 2) = true := beq_iff_eq.mpr c16
            have c16b1 : (t229 != 2) = false := bne_eq_false_iff_eq.mpr c16
            clear c16
            replace H := Option.bind_eq_some_iff.mp H
            obtain ⟨t231, A170, H⟩ := H
            replace H : (if t231 = true then (some (a0_3 == 0)) else (some false)) = some r := H
            have A17 := Aside0.mk A170
            clear A170
            by_cases c18 : t231 = true
            · subst c18
              have H1 : (some (a0_3 == 0)) = some r := by rw [if_pos rfl] at H; exact H
              clear H
              have H := H1
              clear H1
              obtain rfl := Option.some.inj H
              have hcz19_0 : wc.cell? ⟨gb228, 0, none⟩ = some (.int .i64 a0_0) := (blk_cell BK228.out 0).trans rfl
              have hcz19_1 : wc.cell? ⟨gb228, 1, none⟩ = some (.string a0_1) := (blk_cell BK228.out 1).trans rfl
              have hcz19_2 : wc.cell? ⟨gb228, 2, none⟩ = some (.string a0_2) := (blk_cell BK228.out 2).trans rfl
              have hcz19_3 : wc.cell? ⟨gb228, 3, none⟩ = some (.int .i64 a0_3) := (blk_cell BK228.out 3).trans rfl
              have hfz19_0 := blk_frozen BK228.out 0
              have hfz19_1 := blk_frozen BK228.out 1
              have hfz19_2 := blk_frozen BK228.out 2
              have hfz19_3 := blk_frozen BK228.out 3
              go_wp2_with (first | ((first | ((with_reducible refine gate_callee (f := 31) rfl ?_); refine goesL_ (some 13) rfl rfl Try.func31 (by kernel_rfl) rfl #[.string a0_1] rfl (by (try simp only [List.map_toArray, List.map_cons, List.map_nil]); first | done | rfl | (simp only [List.length_drop, List.length_take]; rfl)) ?_; (with_reducible refine (triremeref32_kind.calls kj1 a0_1 t229 _ A8.out).mono ?_); rintro e w' ⟨rfl, ⟨nd, rfl⟩⟩; refine ⟨_, rfl, ?_⟩) | (go_at_call 31; (with_reducible refine (triremeref32_kind.calls kj1 a0_1 t229 _ A8.out).mono ?_); rintro e w' ⟨rfl, ⟨nd, rfl⟩⟩))) | ((first | ((with_reducible refine gate_callee (f := 32) rfl ?_); refine goesL_ (some 33) rfl rfl Try.func32 (by kernel_rfl) rfl #[.string a0_2] rfl (by (try simp only [List.map_toArray, List.map_cons, List.map_nil]); first | done | rfl | (simp only [List.length_drop, List.length_take]; rfl)) ?_; (with_reducible refine (triremeref01_Word.calls kj1 a0_2 true _ A17.out).mono ?_); rintro e w' ⟨rfl, ⟨nd, rfl⟩⟩; refine ⟨_, rfl, ?_⟩) | (go_at_call 32; (with_reducible refine (triremeref01_Word.calls kj1 a0_2 true _ A17.out).mono ?_); rintro e w' ⟨rfl, ⟨nd, rfl⟩⟩))))
              go_ret
              exact ⟨by first | rfl | (simp [errW_none, errW_some] <;> rfl) | (simp [*, errW_none, errW_some] <;> rfl), by repeat (first | (with_reducible first | exact HB.out | apply below_alloc | apply pw_below_drewN | apply below_drew1 | refine below_set ?_ GE228.out) | exact HB.out)⟩
            · replace c18 := Bool.eq_false_iff.mpr c18
              subst c18
              have H1 : (some false) = some r := by rw [if_neg (show ¬ (false = true) by decide)] at H; exact H
              clear H
              have H := H1
              clear H1
              obtain rfl := Option.some.inj H
              have hcz20_0 : wc.cell? ⟨gb228, 0, none⟩ = some (.int .i64 a0_0) := (blk_cell BK228.out 0).trans rfl
              have hcz20_1 : wc.cell? ⟨gb228, 1, none⟩ = some (.string a0_1) := (blk_cell BK228.out 1).trans rfl
              have hcz20_2 : wc.cell? ⟨gb228, 2, none⟩ = some (.string a0_2) := (blk_cell BK228.out 2).trans rfl
              have hcz20_3 : wc.cell? ⟨gb228, 3, none⟩ = some (.int .i64 a0_3) := (blk_cell BK228.out 3).trans rfl
              have hfz20_0 := blk_frozen BK228.out 0
              have hfz20_1 := blk_frozen BK228.out 1
              have hfz20_2 := blk_frozen BK228.out 2
              have hfz20_3 := blk_frozen BK228.out 3
              go_wp2_with (first | ((first | ((with_reducible refine gate_callee (f := 31) rfl ?_); refine goesL_ (some 13) rfl rfl Try.func31 (by kernel_rfl) rfl #[.string a0_1] rfl (by (try simp only [List.map_toArray, List.map_cons, List.map_nil]); first | done | rfl | (simp only [List.length_drop, List.length_take]; rfl)) ?_; (with_reducible refine (triremeref32_kind.calls kj1 a0_1 t229 _ A8.out).mono ?_); rintro e w' ⟨rfl, ⟨nd, rfl⟩⟩; refine ⟨_, rfl, ?_⟩) | (go_at_call 31; (with_reducible refine (triremeref32_kind.calls kj1 a0_1 t229 _ A8.out).mono ?_); rintro e w' ⟨rfl, ⟨nd, rfl⟩⟩))) | ((first | ((with_reducible refine gate_callee (f := 32) rfl ?_); refine goesL_ (some 33) rfl rfl Try.func32 (by kernel_rfl) rfl #[.string a0_2] rfl (by (try simp only [List.map_toArray, List.map_cons, List.map_nil]); first | done | rfl | (simp only [List.length_drop, List.length_take]; rfl)) ?_; (with_reducible refine (triremeref01_Word.calls kj1 a0_2 false _ A17.out).mono ?_); rintro e w' ⟨rfl, ⟨nd, rfl⟩⟩; refine ⟨_, rfl, ?_⟩) | (go_at_call 32; (with_reducible refine (triremeref01_Word.calls kj1 a0_2 false _ A17.out).mono ?_); rintro e w' ⟨rfl, ⟨nd, rfl⟩⟩))))
              go_ret
              exact ⟨by first | rfl | (simp [errW_none, errW_some] <;> rfl) | (simp [*, errW_none, errW_some] <;> rfl), by repeat (first | (with_reducible first | exact HB.out | apply below_alloc | apply pw_below_drewN | apply below_drew1 | refine below_set ?_ GE228.out) | exact HB.out)⟩
          · rw [if_neg c16] at H
            have c16b0 : (t229 == 2) = false := beq_eq_false_iff_ne.mpr c16
            have c16b1 : (t229 != 2) = true := bne_iff_ne.mpr c16
            by_cases c21 : t229 = 3
            · rw [if_pos c21] at H
              have c21b0 : (t229 == 3) = true := beq_iff_eq.mpr c21
              have c21b1 : (t229 != 3) = false := bne_eq_false_iff_eq.mpr c21
              clear c21
              by_cases c22 : a0_2.toList = ([] : List UInt8)
              · rw [if_pos c22] at H
                have c22b0 : (a0_2.toList == ([] : List UInt8)) = true := beq_iff_eq.mpr c22
                have c22b1 : (a0_2.toList != ([] : List UInt8)) = false := bne_eq_false_iff_eq.mpr c22
                clear c22
                obtain rfl := Option.some.inj H
                have hcz23_0 : wc.cell? ⟨gb228, 0, none⟩ = some (.int .i64 a0_0) := (blk_cell BK228.out 0).trans rfl
                have hcz23_1 : wc.cell? ⟨gb228, 1, none⟩ = some (.string a0_1) := (blk_cell BK228.out 1).trans rfl
                have hcz23_2 : wc.cell? ⟨gb228, 2, none⟩ = some (.string a0_2) := (blk_cell BK228.out 2).trans rfl
                have hcz23_3 : wc.cell? ⟨gb228, 3, none⟩ = some (.int .i64 a0_3) := (blk_cell BK228.out 3).trans rfl
                have hfz23_0 := blk_frozen BK228.out 0
                have hfz23_1 := blk_frozen BK228.out 1
                have hfz23_2 := blk_frozen BK228.out 2
                have hfz23_3 := blk_frozen BK228.out 3
                go_wp2_with (first | ((first | ((with_reducible refine gate_callee (f := 31) rfl ?_); refine goesL_ (some 13) rfl rfl Try.func31 (by kernel_rfl) rfl #[.string a0_1] rfl (by (try simp only [List.map_toArray, List.map_cons, List.map_nil]); first | done | rfl | (simp only [List.length_drop, List.length_take]; rfl)) ?_; (with_reducible refine (triremeref32_kind.calls kj1 a0_1 t229 _ A8.out).mono ?_); rintro e w' ⟨rfl, ⟨nd, rfl⟩⟩; refine ⟨_, rfl, ?_⟩) | (go_at_call 31; (with_reducible refine (triremeref32_kind.calls kj1 a0_1 t229 _ A8.out).mono ?_); rintro e w' ⟨rfl, ⟨nd, rfl⟩⟩))))
                go_ret
                exact ⟨by first | rfl | (simp [errW_none, errW_some] <;> rfl) | (simp [*, errW_none, errW_some] <;> rfl), by repeat (first | (with_reducible first | exact HB.out | apply below_alloc | apply pw_below_drewN | apply below_drew1 | refine below_set ?_ GE228.out) | exact HB.out)⟩
              · rw [if_neg c22] at H
                have c22b0 : (a0_2.toList == ([] : List UInt8)) = false := beq_eq_false_iff_ne.mpr c22
                have c22b1 : (a0_2.toList != ([] : List UInt8)) = true := bne_iff_ne.mpr c22
                obtain rfl := Option.some.inj H
                have hcz24_0 : wc.cell? ⟨gb228, 0, none⟩ = some (.int .i64 a0_0) := (blk_cell BK228.out 0).trans rfl
                have hcz24_1 : wc.cell? ⟨gb228, 1, none⟩ = some (.string a0_1) := (blk_cell BK228.out 1).trans rfl
                have hcz24_2 : wc.cell? ⟨gb228, 2, none⟩ = some (.string a0_2) := (blk_cell BK228.out 2).trans rfl
                have hcz24_3 : wc.cell? ⟨gb228, 3, none⟩ = some (.int .i64 a0_3) := (blk_cell BK228.out 3).trans rfl
                have hfz24_0 := blk_frozen BK228.out 0
                have hfz24_1 := blk_frozen BK228.out 1
                have hfz24_2 := blk_frozen BK228.out 2
                have hfz24_3 := blk_frozen BK228.out 3
                go_wp2_with (first | ((first | ((with_reducible refine gate_callee (f := 31) rfl ?_); refine goesL_ (some 13) rfl rfl Try.func31 (by kernel_rfl) rfl #[.string a0_1] rfl (by (try simp only [List.map_toArray, List.map_cons, List.map_nil]); first | done | rfl | (simp only [List.length_drop, List.length_take]; rfl)) ?_; (with_reducible refine (triremeref32_kind.calls kj1 a0_1 t229 _ A8.out).mono ?_); rintro e w' ⟨rfl, ⟨nd, rfl⟩⟩; refine ⟨_, rfl, ?_⟩) | (go_at_call 31; (with_reducible refine (triremeref32_kind.calls kj1 a0_1 t229 _ A8.out).mono ?_); rintro e w' ⟨rfl, ⟨nd, rfl⟩⟩))))
                go_ret
                exact ⟨by first | rfl | (simp [errW_none, errW_some] <;> rfl) | (simp [*, errW_none, errW_some] <;> rfl), by repeat (first | (with_reducible first | exact HB.out | apply below_alloc | apply pw_below_drewN | apply below_drew1 | refine below_set ?_ GE228.out) | exact HB.out)⟩
            · rw [if_neg c21] at H
              have c21b0 : (t229 == 3) = false := beq_eq_false_iff_ne.mpr c21
              have c21b1 : (t229 != 3) = true := bne_iff_ne.mpr c21
              obtain rfl := Option.some.inj H
              have hcz25_0 : wc.cell? ⟨gb228, 0, none⟩ = some (.int .i64 a0_0) := (blk_cell BK228.out 0).trans rfl
              have hcz25_1 : wc.cell? ⟨gb228, 1, none⟩ = some (.string a0_1) := (blk_cell BK228.out 1).trans rfl
              have hcz25_2 : wc.cell? ⟨gb228, 2, none⟩ = some (.string a0_2) := (blk_cell BK228.out 2).trans rfl
              have hcz25_3 : wc.cell? ⟨gb228, 3, none⟩ = some (.int .i64 a0_3) := (blk_cell BK228.out 3).trans rfl
              have hfz25_0 := blk_frozen BK228.out 0
              have hfz25_1 := blk_frozen BK228.out 1
              have hfz25_2 := blk_frozen BK228.out 2
              have hfz25_3 := blk_frozen BK228.out 3
              go_wp2_with (first | ((first | ((with_reducible refine gate_callee (f := 31) rfl ?_); refine goesL_ (some 13) rfl rfl Try.func31 (by kernel_rfl) rfl #[.string a0_1] rfl (by (try simp only [List.map_toArray, List.map_cons, List.map_nil]); first | done | rfl | (simp only [List.length_drop, List.length_take]; rfl)) ?_; (with_reducible refine (triremeref32_kind.calls kj1 a0_1 t229 _ A8.out).mono ?_); rintro e w' ⟨rfl, ⟨nd, rfl⟩⟩; refine ⟨_, rfl, ?_⟩) | (go_at_call 31; (with_reducible refine (triremeref32_kind.calls kj1 a0_1 t229 _ A8.out).mono ?_); rintro e w' ⟨rfl, ⟨nd, rfl⟩⟩))))
              go_ret
              exact ⟨by first | rfl | (simp [errW_none, errW_some] <;> rfl) | (simp [*, errW_none, errW_some] <;> rfl), by repeat (first | (with_reducible first | exact HB.out | apply below_alloc | apply pw_below_drewN | apply below_drew1 | refine below_set ?_ GE228.out) | exact HB.out)⟩
end Go.Proofs.Ytngmcigkihfnkaa.H
end
