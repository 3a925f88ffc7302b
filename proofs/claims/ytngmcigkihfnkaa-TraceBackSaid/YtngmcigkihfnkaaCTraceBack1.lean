/- What is shown of events is read as those of them that are right. -/
import Derived.Test.YtngmcigkihfnkaaProg
import Derived.Below
import Derived.Deep.Draws
import Derived.Deep.AppendLies
import Derived.Maps.AppendAt
import Derived.OwnWalk
import Derived.Laws.BytesArg
import Derived.Laws.MakeOwn
import Derived.Laws.OwnMore
import Derived.Deep.OwnRows
import Derived.Tactics
import Derived.Lib.ConvBytes
import Derived.Laws.Slices
import Derived.WalkKit
import Derived.KernelRfl
import Derived.RowKit3
import Derived.Deep.LoopGhost
import Derived.Deep.QuietTactic
import Derived.BigQuiet
import Derived.WideLaws
import Derived.Deep.DeepCutAuto
import Derived.Deep.CutBlock
import Derived.Deep.RegionHeld3
import Derived.Laws.Rows
import Derived.Lib.AppendStr
import Derived.ArgAppend
import Derived.Laws.IdiomCopy
import Derived.OrdersHeld
import Derived.Laws.BitsLemmas
import Derived.RowKit
import Derived.Laws.RangeAny
import Derived.Laws.Cover1
import Derived.Deep.Slices
import Derived.SizedLaws
import Derived.Test.YtngmcigkihfnkaaRows
import Derived.ProofKit
import Derived.OpenShut
import Derived.ShutString
import Derived.ChangeOld
import Derived.Lib.OthersKept
import Derived.Maps.Own
import Derived.Maps.OwnOps
import Derived.Maps.OwnSet
import Derived.Test.YtngmcigkihfnkaaCTraceBase0
import Derived.Test.YtngmcigkihfnkaaCTraceBase1
import Derived.Test.YtngmcigkihfnkaaCTraceBase2
import Derived.Test.YtngmcigkihfnkaaCTraceBase3
import Derived.Test.YtngmcigkihfnkaaCTraceBack0
section
namespace Go.Proofs.Ytngmcigkihfnkaa.H
open Go.RowKit Go.Proofs.YtngmcigkihfnkaaW.PrintWords Go.Proofs.YtngmcigkihfnkaaW.PrintLast Go.Proofs.YtngmcigkihfnkaaW.PrintMore
attribute [local go_sem] max2_int min2_int max_two min_two max_three min_three max_four min_four   -- for this text's walks alone
set_option linter.unusedVariables false
set_option linter.unusedSimpArgs false
theorem info39 : (Try.prog.info? 39).map (fun i => (i.zero, i.size, i.bytes)) = some (some (.agg #[(.int .i64 0), (.string ⟨#[]⟩), (.string ⟨#[]⟩), (.int .i64 0)]), 4, 48) := by kernel_rfl
theorem k39_mkM (w : World) (base : Nat) (ok : Nat → Prop) (x : S39)  : k39.M w base ok x [.int .i64 x.f0, .string x.f1, .string x.f2, .int .i64 x.f3] := ⟨[.int .i64 x.f0], [.string x.f1, .string x.f2, .int .i64 x.f3], rfl, rfl, ⟨[.string x.f1], [.string x.f2, .int .i64 x.f3], rfl, rfl, ⟨[.string x.f2], [.int .i64 x.f3], rfl, rfl, rfl⟩⟩⟩
end Go.Proofs.Ytngmcigkihfnkaa.H
end
section
namespace Go.Proofs.Ytngmcigkihfnkaa.H
open Go.RowKit Go.Proofs.YtngmcigkihfnkaaW.PrintWords Go.Proofs.YtngmcigkihfnkaaW.PrintLast Go.Proofs.YtngmcigkihfnkaaW.PrintMore
attribute [local go_sem] max2_int min2_int max_two min_two max_three min_three max_four min_four   -- for this text's walks alone
set_option linter.unusedVariables false
set_option linter.unusedSimpArgs false
def triremelaw32_light.l0 : Nat → List (S39) → Int → Option (Bool)
  | 0, _, _ => none
  | k + 1, x0, x3 => if x3 < (x0.length : Int) then (if 0 ≤ x3 then (if (((rd_T39 x0 x3).f1).size : Int) > 100 then (some false) else (if (((rd_T39 x0 x3).f2).size : Int) > 300 then (some false) else (triremelaw32_light.l0 k x0 (wrap64 (x3 + 1))))) else (none)) else (some true)
def triremelaw32_light.f (k : Nat) (l0 : List (S39)) : Option (Bool) := if (l0.length : Int) > 60 then (some false) else (triremelaw32_light.l0 k l0 0)
set_option maxHeartbeats 8000000 in
set_option maxRecDepth 100000 in
theorem triremelaw32_light.calls (k : Nat) (A0 : Option Addr) (c0 : Nat) (l0 : List (S39)) (r : Bool) (w : World) (hr0 : Kd.C k39 w A0 l0.length l0) (hc0 : l0.length ≤ c0) (h : triremelaw32_light.f k l0 = some r) :
    Calls Try.prog 12 #[.slice A0 l0.length c0] w fun e w' => e = .returned (.bool r) ∧ Drawn0 w w' := by
  have HR0 := Aside0.mk hr0
  have HC0 := Aside0.mk hc0
  clear hr0 hc0
  have H : (if (l0.length : Int) > 60 then (some false) else (triremelaw32_light.l0 k l0 0)) = some r := h
  clear h
  by_cases c2 : (l0.length : Int) > 60
  · rw [if_pos c2] at H
    have c2b0 : decide (60 < (l0.length : Int)) = true := decide_eq_true c2
    have c2b1 : decide (60 < l0.length) = true := decide_eq_true (by omega)
    clear c2
    obtain rfl := Option.some.inj H
    go_enter Try.func12, Try.ntmps12
    go_wp2
    go_ret
    exact ⟨by first | rfl | (simp; done) | (simp [*]; done), by repeat (first | exact Drawn0.refl _ | apply Drawn0.step)⟩
  · rw [if_neg c2] at H
    have c2b0 : decide (60 < (l0.length : Int)) = false := decide_eq_false c2
    have c2b1 : decide (60 < l0.length) = false := decide_eq_false (by omega)
    clear c2
    have H' := Aside0.mk H
    clear H
    go_enter Try.func12, Try.ntmps12
    go_wp2
    go_loopg [3] k (fun kq v3 w' => ∃ (x3_1 : Int), v3 = .int .i64 x3_1 ∧ Aside0 (triremelaw32_light.l0 kq l0 x3_1 = some r) ∧ Aside0 (kq ≤ k) ∧ Drawn0 w w')
    case atStart => exact ⟨(0), (by first | rfl | (simp; done) | (simp [*]; done)), H', ⟨Nat.le_refl _⟩, by repeat (first | exact Drawn0.refl _ | apply Drawn0.step)⟩
    case round =>
      clear H'
      try clear c1
      try clear c2
      try clear c2b0
      try clear c2b1
      try clear p2
      obtain ⟨x3_1, rfl, HA, HK1, ⟨m1, rfl⟩⟩ := hrel
      cases gk with
      | zero => exact absurd HA.out (by simp [triremelaw32_light.l0])
      | succ k1 =>
        have H := HA.out
        clear HA
        simp only [triremelaw32_light.l0] at H
        by_cases c3 : x3_1 < (l0.length : Int)
        · rw [if_pos c3] at H
          have c3b0 : decide (x3_1 < (l0.length : Int)) = true := decide_eq_true c3
          clear c3
          by_cases c4 : 0 ≤ x3_1
          · rw [if_pos c4] at H
            have c4b0 : decide (0 ≤ x3_1) = true := decide_eq_true c4
            clear c4
            by_cases c5 : (((rd_T39 l0 x3_1).f1).size : Int) > 100
            · rw [if_pos c5] at H
              have c5b0 : decide (100 < (((rd_T39 l0 x3_1).f1).size : Int)) = true := decide_eq_true c5
              have c5b1 : decide (100 < ((rd_T39 l0 x3_1).f1).size) = true := decide_eq_true (by omega)
              clear c5
              obtain rfl := Option.some.inj H
              have p309 : 0 ≤ (x3_1 : Int) := of_decide_eq_true (by first | (with_reducible assumption) | assumption)
              have q309 : x3_1 < (l0.length : Int) := of_decide_eq_true (by first | (with_reducible assumption) | assumption)
              obtain ⟨ad309, e309, hx309_0, hx309_1, hx309_2, hx309_3⟩ := at_T39 HR0.out x3_1 p309 q309
              cases e309
              replace p309 := eq_true p309
              replace q309 := eq_true q309
              (try (have qz309 := q309; rw [ByteArray.size_extract, Nat.min_self] at qz309))
              go_wp2
              go_ret
              exact ⟨by first | rfl | (simp; done) | (simp [*]; done), by repeat (first | exact Drawn0.refl _ | apply Drawn0.step)⟩
            · rw [if_neg c5] at H
              have c5b0 : decide (100 < (((rd_T39 l0 x3_1).f1).size : Int)) = false := decide_eq_false c5
              have c5b1 : decide (100 < ((rd_T39 l0 x3_1).f1).size) = false := decide_eq_false (by omega)
              clear c5
              by_cases c6 : (((rd_T39 l0 x3_1).f2).size : Int) > 300
              · rw [if_pos c6] at H
                have c6b0 : decide (300 < (((rd_T39 l0 x3_1).f2).size : Int)) = true := decide_eq_true c6
                have c6b1 : decide (300 < ((rd_T39 l0 x3_1).f2).size) = true := decide_eq_true (by omega)
                clear c6
                obtain rfl := Option.some.inj H
                have p309 : 0 ≤ (x3_1 : Int) := of_decide_eq_true (by first | (with_reducible assumption) | assumption)
                have q309 : x3_1 < (l0.length : Int) := of_decide_eq_true (by first | (with_reducible assumption) | assumption)
                obtain ⟨ad309, e309, hx309_0, hx309_1, hx309_2, hx309_3⟩ := at_T39 HR0.out x3_1 p309 q309
                cases e309
                replace p309 := eq_true p309
                replace q309 := eq_true q309
                (try (have qz309 := q309; rw [ByteArray.size_extract, Nat.min_self] at qz309))
                have p310 : 0 ≤ (x3_1 : Int) := of_decide_eq_true (by first | (with_reducible assumption) | assumption)
                have q310 : x3_1 < (l0.length : Int) := of_decide_eq_true (by first | (with_reducible assumption) | assumption)
                obtain ⟨ad310, e310, hx310_0, hx310_1, hx310_2, hx310_3⟩ := at_T39 HR0.out x3_1 p310 q310
                obtain rfl : ad309 = ad310 := (by injection e310)
                replace p310 := eq_true p310
                replace q310 := eq_true q310
                (try (have qz310 := q310; rw [ByteArray.size_extract, Nat.min_self] at qz310))
                go_wp2
                go_ret
                exact ⟨by first | rfl | (simp; done) | (simp [*]; done), by repeat (first | exact Drawn0.refl _ | apply Drawn0.step)⟩
              · rw [if_neg c6] at H
                have c6b0 : decide (300 < (((rd_T39 l0 x3_1).f2).size : Int)) = false := decide_eq_false c6
                have c6b1 : decide (300 < ((rd_T39 l0 x3_1).f2).size) = false := decide_eq_false (by omega)
                clear c6
                have H' := Aside0.mk H
                clear H
                have p309 : 0 ≤ (x3_1 : Int) := of_decide_eq_true (by first | (with_reducible assumption) | assumption)
                have q309 : x3_1 < (l0.length : Int) := of_decide_eq_true (by first | (with_reducible assumption) | assumption)
                obtain ⟨ad309, e309, hx309_0, hx309_1, hx309_2, hx309_3⟩ := at_T39 HR0.out x3_1 p309 q309
                cases e309
                replace p309 := eq_true p309
                replace q309 := eq_true q309
                (try (have qz309 := q309; rw [ByteArray.size_extract, Nat.min_self] at qz309))
                have p310 : 0 ≤ (x3_1 : Int) := of_decide_eq_true (by first | (with_reducible assumption) | assumption)
                have q310 : x3_1 < (l0.length : Int) := of_decide_eq_true (by first | (with_reducible assumption) | assumption)
                obtain ⟨ad310, e310, hx310_0, hx310_1, hx310_2, hx310_3⟩ := at_T39 HR0.out x3_1 p310 q310
                obtain rfl : ad309 = ad310 := (by injection e310)
                replace p310 := eq_true p310
                replace q310 := eq_true q310
                (try (have qz310 := q310; rw [ByteArray.size_extract, Nat.min_self] at qz310))
                go_wp2
                go_roundg k1
                case measure => have := HK1.out; omega
                case rel => exact ⟨(wrap64 (x3_1 + 1)), (by first | rfl | (simp; done) | (simp [*]; done)), H', ⟨by have := HK1.out; omega⟩, by repeat (first | exact Drawn0.refl _ | apply Drawn0.step)⟩
          · rw [if_neg c4] at H
            exact absurd H (by simp)
        · rw [if_neg c3] at H
          have c3b0 : decide (x3_1 < (l0.length : Int)) = false := decide_eq_false c3
          clear c3
          obtain rfl := Option.some.inj H
          go_wp2
          go_ret
          exact ⟨by first | rfl | (simp; done) | (simp [*]; done), by repeat (first | exact Drawn0.refl _ | apply Drawn0.step)⟩
end Go.Proofs.Ytngmcigkihfnkaa.H
end
section
namespace Go.Proofs.Ytngmcigkihfnkaa.H
open Go.RowKit Go.Proofs.YtngmcigkihfnkaaW.PrintWords Go.Proofs.YtngmcigkihfnkaaW.PrintLast Go.Proofs.YtngmcigkihfnkaaW.PrintMore
attribute [local go_sem] max2_int min2_int max_two min_two max_three min_three max_four min_four   -- for this text's walks alone
set_option linter.unusedVariables false
set_option linter.unusedSimpArgs false
def triremelaw32_given.l0 : Nat → List (S39) → List (S37) → Int → Option ((List (S37)))
  | 0, _, _, _ => none
  | k + 1, x0, x3, x4 => if x4 < (x0.length : Int) then (if 0 ≤ x4 then (if x3.length < 2932031007402 then (triremelaw32_given.l0 k x0 (x3 ++ [(⟨(rd_T39 x0 x4).f0, (rd_T39 x0 x4).f1, (rd_T39 x0 x4).f2, (rd_T39 x0 x4).f3⟩ : S37)]) (wrap64 (x4 + 1))) else (none)) else (none)) else (some x3)
def triremelaw32_given.f (k : Nat) (l0 : List (S39)) : Option ((List (S37))) := triremelaw32_given.l0 k l0 ([] : List (S37)) 0
def triremelaw32_given.T5 : Bool × List (List Nat × List Nat) := (true, [([], []), ([], []), ([], []), ([1, 2], [1, 2]), ([3], [3]), ([4], [4]), ([], []), ([], []), ([6, 7], [6, 7]), ([8], [8]), ([9], [9]), ([], []), ([], []), ([11, 12], [11, 12]), ([13], [13]), ([14], [14]), ([], []), ([], []), ([16, 17], [16, 17]), ([18], [18]), ([19], [19]), ([5, 10, 15, 20], [5, 10, 15, 20]), ([21], [21]), ([0, 22], [0, 22]), ([23, 23, 0, 1, 2, 3, 4, 5, 6, 7, 8, 9, 10, 11, 12, 13, 14, 15, 16, 17, 18, 19, 20, 21, 22, 23], [0, 23])])
def triremelaw32_given.B5 : List Nat := [0, 0, 0, 6, 14, 30, 0, 0, 192, 448, 960, 0, 0, 6144, 14336, 30720, 0, 0, 196608, 458752, 983040, 2097150, 4194302, 8388607, 16777215]
theorem triremelaw32_given.tab5 : rtab .any (opsOf Try.f13 5) = triremelaw32_given.T5 := by kernel_rfl
theorem triremelaw32_given.bits5 : waitsOk triremelaw32_given.T5.2 triremelaw32_given.B5 = true := by kernel_rfl
set_option maxHeartbeats 8000000 in
set_option maxRecDepth 100000 in
theorem triremelaw32_given.calls (k : Nat) (A0 : Option Addr) (c0 : Nat) (l0 : List (S39)) (r : List (S37)) (w : World) (hr0 : Kd.C k39 w A0 l0.length l0) (hc0 : l0.length ≤ c0) (h : triremelaw32_given.f k l0 = some r) :
    Calls Try.prog 13 #[.slice A0 l0.length c0] w fun e w' => ∃ v0_ : Value, e = .returned (v0_) ∧ Kd.R k37 37 w' w.heap.size (fun _ => True) v0_ r ∧ Below w.heap.size w w' := by
  have hu37 := Try.underlying37
  have HR0 := Aside0.mk hr0
  have HC0 := Aside0.mk hc0
  clear hr0 hc0
  have HB := Aside0.mk (Below.refl w.heap.size w)
  have H : (triremelaw32_given.l0 k l0 ([] : List (S37)) 0) = some r := h
  clear h
  have H' := Aside0.mk H
  clear H
  go_enter Try.func13, Try.ntmps13
  go_wp2
  go_loopg [3, 4] k (fun kq v3 v4 w' => ∃ (x3_1 : List (S37)) (x4_1 : Int), v4 = .int .i64 x4_1 ∧ Aside0 (triremelaw32_given.l0 kq l0 x3_1 x4_1 = some r) ∧ Aside0 (kq ≤ k) ∧ Aside0 (Kd.R k37 37 w' w.heap.size (fun _ => True) v3 x3_1) ∧ Aside0 (Below w.heap.size w w'))
  case atStart => exact ⟨(([] : List (S37))), (0), (by first | rfl | (simp; done) | (simp [*]; done)), H', ⟨Nat.le_refl _⟩, ⟨by first | exact Kd.R_nil _ _ _ _ _ | exact Kd.N_nil _ _ _ _ _ | exact Kd.V_nil _ _ _ _ _ | exact Kd.Q_nil _ _ _ _ _ | exact Kd.S_nil _ _ _ _ _⟩, ⟨by repeat (first | (with_reducible first | exact HB.out | apply below_alloc | apply pw_below_drewN | apply below_drew1) | exact HB.out)⟩⟩
  case round =>
    clear H'
    try clear c1
    obtain ⟨x3_1, x4_1, rfl, HA, HK1, HO_3, HB⟩ := hrel
    cases gk with
    | zero => exact absurd HA.out (by simp [triremelaw32_given.l0])
    | succ k1 =>
      have H := HA.out
      clear HA
      simp only [triremelaw32_given.l0] at H
      by_cases c2 : x4_1 < (l0.length : Int)
      · rw [if_pos c2] at H
        have c2b0 : decide (x4_1 < (l0.length : Int)) = true := decide_eq_true c2
        clear c2
        by_cases c3 : 0 ≤ x4_1
        · rw [if_pos c3] at H
          have c3b0 : decide (0 ≤ x4_1) = true := decide_eq_true c3
          clear c3
          by_cases c4 : x3_1.length < 2932031007402
          · rw [if_pos c4] at H
            have LMc4 := Aside0.mk c4
            clear c4
            obtain ⟨y315, hy315⟩ : ∃ y_ : List (S37), y_ = (x3_1 ++ [(⟨(rd_T39 l0 x4_1).f0, (rd_T39 l0 x4_1).f1, (rd_T39 l0 x4_1).f2, (rd_T39 l0 x4_1).f3⟩ : S37)]) := ⟨_, rfl⟩
            replace H : (triremelaw32_given.l0 k1 l0 y315 (wrap64 (x4_1 + 1))) = some r := by first | (rw [hy315]; with_reducible exact H) | (have H2_ := (Option.bind_some _ _).symm.trans H; rw [hy315]; with_reducible exact H2_) | (have H2_ := (Option.bind_some _ _).symm.trans H; with_reducible exact H2_) | with_reducible exact H | (rw [hy315]; exact H) | exact H
            have Ny315 := Aside0.mk hy315
            clear hy315
            have H' := Aside0.mk H
            clear H
            try go_wp2
            have n0_ := Aside0.mk (Kd.R_drew HO_3.out)
            have n1_ := Aside0.mk (below_drew1 HB.out)
            clear HO_3
            clear HB
            have HO_3 := n0_
            have HB := n1_
            clear n0_ n1_
            have p311 : 0 ≤ (x4_1 : Int) := of_decide_eq_true (by first | (with_reducible assumption) | assumption)
            have q311 : x4_1 < (l0.length : Int) := of_decide_eq_true (by first | (with_reducible assumption) | assumption)
            obtain ⟨ad311, e311, hx311_0, hx311_1, hx311_2, hx311_3⟩ := at_T39 HR0.out x4_1 p311 q311
            have hw311_3 := hx311_3
            have hw311_2 := hx311_2
            have hw311_1 := hx311_1
            have hw311_0 := hx311_0
            cases e311
            replace hx311_0 := (HB.out.cell (World.block_lt_of_cell? w _ hx311_0)).trans hx311_0
            replace hx311_1 := (HB.out.cell (World.block_lt_of_cell? w _ hx311_1)).trans hx311_1
            replace hx311_2 := (HB.out.cell (World.block_lt_of_cell? w _ hx311_2)).trans hx311_2
            replace hx311_3 := (HB.out.cell (World.block_lt_of_cell? w _ hx311_3)).trans hx311_3
            replace p311 := eq_true p311
            replace q311 := eq_true q311
            (try (have qz311 := q311; rw [ByteArray.size_extract, Nat.min_self] at qz311))
            have p312 : 0 ≤ (x4_1 : Int) := of_decide_eq_true (by first | (with_reducible assumption) | assumption)
            have q312 : x4_1 < (l0.length : Int) := of_decide_eq_true (by first | (with_reducible assumption) | assumption)
            obtain ⟨ad312, e312, hx312_0, hx312_1, hx312_2, hx312_3⟩ := at_T39 HR0.out x4_1 p312 q312
            have hw312_3 := hx312_3
            have hw312_2 := hx312_2
            have hw312_1 := hx312_1
            have hw312_0 := hx312_0
            obtain rfl : ad311 = ad312 := (by injection e312)
            replace hx312_0 := (HB.out.cell (World.block_lt_of_cell? w _ hx312_0)).trans hx312_0
            replace hx312_1 := (HB.out.cell (World.block_lt_of_cell? w _ hx312_1)).trans hx312_1
            replace hx312_2 := (HB.out.cell (World.block_lt_of_cell? w _ hx312_2)).trans hx312_2
            replace hx312_3 := (HB.out.cell (World.block_lt_of_cell? w _ hx312_3)).trans hx312_3
            replace p312 := eq_true p312
            replace q312 := eq_true q312
            (try (have qz312 := q312; rw [ByteArray.size_extract, Nat.min_self] at qz312))
            have p313 : 0 ≤ (x4_1 : Int) := of_decide_eq_true (by first | (with_reducible assumption) | assumption)
            have q313 : x4_1 < (l0.length : Int) := of_decide_eq_true (by first | (with_reducible assumption) | assumption)
            obtain ⟨ad313, e313, hx313_0, hx313_1, hx313_2, hx313_3⟩ := at_T39 HR0.out x4_1 p313 q313
            have hw313_3 := hx313_3
            have hw313_2 := hx313_2
            have hw313_1 := hx313_1
            have hw313_0 := hx313_0
            obtain rfl : ad311 = ad313 := (by injection e313)
            replace hx313_0 := (HB.out.cell (World.block_lt_of_cell? w _ hx313_0)).trans hx313_0
            replace hx313_1 := (HB.out.cell (World.block_lt_of_cell? w _ hx313_1)).trans hx313_1
            replace hx313_2 := (HB.out.cell (World.block_lt_of_cell? w _ hx313_2)).trans hx313_2
            replace hx313_3 := (HB.out.cell (World.block_lt_of_cell? w _ hx313_3)).trans hx313_3
            replace p313 := eq_true p313
            replace q313 := eq_true q313
            (try (have qz313 := q313; rw [ByteArray.size_extract, Nat.min_self] at qz313))
            have p314 : 0 ≤ (x4_1 : Int) := of_decide_eq_true (by first | (with_reducible assumption) | assumption)
            have q314 : x4_1 < (l0.length : Int) := of_decide_eq_true (by first | (with_reducible assumption) | assumption)
            obtain ⟨ad314, e314, hx314_0, hx314_1, hx314_2, hx314_3⟩ := at_T39 HR0.out x4_1 p314 q314
            have hw314_3 := hx314_3
            have hw314_2 := hx314_2
            have hw314_1 := hx314_1
            have hw314_0 := hx314_0
            obtain rfl : ad311 = ad314 := (by injection e314)
            replace hx314_0 := (HB.out.cell (World.block_lt_of_cell? w _ hx314_0)).trans hx314_0
            replace hx314_1 := (HB.out.cell (World.block_lt_of_cell? w _ hx314_1)).trans hx314_1
            replace hx314_2 := (HB.out.cell (World.block_lt_of_cell? w _ hx314_2)).trans hx314_2
            replace hx314_3 := (HB.out.cell (World.block_lt_of_cell? w _ hx314_3)).trans hx314_3
            replace p314 := eq_true p314
            replace q314 := eq_true q314
            (try (have qz314 := q314; rw [ByteArray.size_extract, Nat.min_self] at qz314))
            refine start_ (n := 25) (S := fun w' => w'.cell? (ad311.add ((x4_1).toNat * 4)) = some (.int .i64 ((rd_T39 l0 x4_1).f0)) ∧ w'.cell? ⟨(ad311.add ((x4_1).toNat * 4)).block, (ad311.add ((x4_1).toNat * 4)).off + 1, none⟩ = some (.string ((rd_T39 l0 x4_1).f1)) ∧ w'.cell? ⟨(ad311.add ((x4_1).toNat * 4)).block, (ad311.add ((x4_1).toNat * 4)).off + 2, none⟩ = some (.string ((rd_T39 l0 x4_1).f2)) ∧ w'.cell? ⟨(ad311.add ((x4_1).toNat * 4)).block, (ad311.add ((x4_1).toNat * 4)).off + 3, none⟩ = some (.int .i64 ((rd_T39 l0 x4_1).f3)) ∧ w'.cell? (ad311.add ((x4_1).toNat * 4)) = some (.int .i64 ((rd_T39 l0 x4_1).f0)) ∧ w'.cell? ⟨(ad311.add ((x4_1).toNat * 4)).block, (ad311.add ((x4_1).toNat * 4)).off + 1, none⟩ = some (.string ((rd_T39 l0 x4_1).f1)) ∧ w'.cell? ⟨(ad311.add ((x4_1).toNat * 4)).block, (ad311.add ((x4_1).toNat * 4)).off + 2, none⟩ = some (.string ((rd_T39 l0 x4_1).f2)) ∧ w'.cell? ⟨(ad311.add ((x4_1).toNat * 4)).block, (ad311.add ((x4_1).toNat * 4)).off + 3, none⟩ = some (.int .i64 ((rd_T39 l0 x4_1).f3)) ∧ w'.cell? (ad311.add ((x4_1).toNat * 4)) = some (.int .i64 ((rd_T39 l0 x4_1).f0)) ∧ w'.cell? ⟨(ad311.add ((x4_1).toNat * 4)).block, (ad311.add ((x4_1).toNat * 4)).off + 1, none⟩ = some (.string ((rd_T39 l0 x4_1).f1)) ∧ w'.cell? ⟨(ad311.add ((x4_1).toNat * 4)).block, (ad311.add ((x4_1).toNat * 4)).off + 2, none⟩ = some (.string ((rd_T39 l0 x4_1).f2)) ∧ w'.cell? ⟨(ad311.add ((x4_1).toNat * 4)).block, (ad311.add ((x4_1).toNat * 4)).off + 3, none⟩ = some (.int .i64 ((rd_T39 l0 x4_1).f3)) ∧ w'.cell? (ad311.add ((x4_1).toNat * 4)) = some (.int .i64 ((rd_T39 l0 x4_1).f0)) ∧ w'.cell? ⟨(ad311.add ((x4_1).toNat * 4)).block, (ad311.add ((x4_1).toNat * 4)).off + 1, none⟩ = some (.string ((rd_T39 l0 x4_1).f1)) ∧ w'.cell? ⟨(ad311.add ((x4_1).toNat * 4)).block, (ad311.add ((x4_1).toNat * 4)).off + 2, none⟩ = some (.string ((rd_T39 l0 x4_1).f2)) ∧ w'.cell? ⟨(ad311.add ((x4_1).toNat * 4)).block, (ad311.add ((x4_1).toNat * 4)).off + 3, none⟩ = some (.int .i64 ((rd_T39 l0 x4_1).f3))) (ds := []) #[false, false, false, false, false, false, false, false, false, false, false, false, false, false, false, false, false, false, false, false, false, false, false, false, false] (by kernel_rfl) rfl rfl ⟨((HB.out.cell (World.block_lt_of_cell? w _ hw311_0)).trans hw311_0), ((HB.out.cell (World.block_lt_of_cell? w _ hw311_1)).trans hw311_1), ((HB.out.cell (World.block_lt_of_cell? w _ hw311_2)).trans hw311_2), ((HB.out.cell (World.block_lt_of_cell? w _ hw311_3)).trans hw311_3), ((HB.out.cell (World.block_lt_of_cell? w _ hw312_0)).trans hw312_0), ((HB.out.cell (World.block_lt_of_cell? w _ hw312_1)).trans hw312_1), ((HB.out.cell (World.block_lt_of_cell? w _ hw312_2)).trans hw312_2), ((HB.out.cell (World.block_lt_of_cell? w _ hw312_3)).trans hw312_3), ((HB.out.cell (World.block_lt_of_cell? w _ hw313_0)).trans hw313_0), ((HB.out.cell (World.block_lt_of_cell? w _ hw313_1)).trans hw313_1), ((HB.out.cell (World.block_lt_of_cell? w _ hw313_2)).trans hw313_2), ((HB.out.cell (World.block_lt_of_cell? w _ hw313_3)).trans hw313_3), ((HB.out.cell (World.block_lt_of_cell? w _ hw314_0)).trans hw314_0), ((HB.out.cell (World.block_lt_of_cell? w _ hw314_1)).trans hw314_1), ((HB.out.cell (World.block_lt_of_cell? w _ hw314_2)).trans hw314_2), ((HB.out.cell (World.block_lt_of_cell? w _ hw314_3)).trans hw314_3)⟩ (fun hHeld => ?_); refine with_tabW triremelaw32_given.tab5 triremelaw32_given.bits5 (fun HT_ HW_ => ?_)
            generalize wr.drew = w5 at HO_3 HB hx311_0 hx311_1 hx311_2 hx311_3 hx312_0 hx312_1 hx312_2 hx312_3 hx313_0 hx313_1 hx313_2 hx313_3 hx314_0 hx314_1 hx314_2 hx314_3 hHeld ⊢
            refine pure_ (i := 0) (N := some 11) (v := ?_) (a' := ?_) #[true, false, false, false, false, false, false, false, false, false, false, false, false, false, false, false, false, false, false, false, false, false, false, false, false] rfl rfl (any_of HT_.out (by kernel_rfl)) (fun _ _ _ h => h) (Or.inl ⟨by rfl, ?_⟩) ?_ ?_
            rotate_left
            · intro w'; go_simp; with_reducible rfl
            rotate_left
            · simp only [Act.put, List.setIfInBounds_toArray, List.set_cons_zero, List.set_cons_succ, i64_w, i32_w]; rfl
            refine pure_ (i := 1) (N := some 12) (v := ?_) (a' := ?_) #[true, true, false, false, false, false, false, false, false, false, false, false, false, false, false, false, false, false, false, false, false, false, false, false, false] rfl rfl (any_of HT_.out (by kernel_rfl)) (fun _ _ _ h => h) (Or.inl ⟨by rfl, ?_⟩) ?_ ?_
            rotate_left
            · intro w'; go_simp; with_reducible rfl
            rotate_left
            · simp only [Act.put, List.setIfInBounds_toArray, List.set_cons_zero, List.set_cons_succ, i64_w, i32_w]; rfl
            refine pure_ (i := 2) (N := some 13) (v := ?_) (a' := ?_) #[true, true, true, false, false, false, false, false, false, false, false, false, false, false, false, false, false, false, false, false, false, false, false, false, false] rfl rfl (any_of HT_.out (by kernel_rfl)) (fun _ _ _ h => h) (Or.inl ⟨by rfl, ?_⟩) ?_ ?_
            rotate_left
            · intro w'; go_simp; with_reducible rfl
            rotate_left
            · simp only [Act.put, List.setIfInBounds_toArray, List.set_cons_zero, List.set_cons_succ, i64_w, i32_w]; rfl
            refine pure_ (i := 3) (N := some 14) (v := ?_) (a' := ?_) #[true, true, true, true, false, false, false, false, false, false, false, false, false, false, false, false, false, false, false, false, false, false, false, false, false] rfl rfl (any_of HT_.out (by kernel_rfl)) (fun _ _ _ h => h) (Or.inl ⟨by rfl, ?_⟩) ?_ ?_
            rotate_left
            · intro w'; go_simp; with_reducible rfl
            rotate_left
            · simp only [Act.put, List.setIfInBounds_toArray, List.set_cons_zero, List.set_cons_succ, i64_w, i32_w]; rfl
            refine pure_ (i := 4) (N := some 15) (v := ?_) (a' := ?_) #[true, true, true, true, true, false, false, false, false, false, false, false, false, false, false, false, false, false, false, false, false, false, false, false, false] rfl rfl (any_of HT_.out (by kernel_rfl)) (fun _ _ _ h => h) (Or.inl ⟨by rfl, ?_⟩) ?_ ?_
            rotate_left
            · intro w'; go_simp; with_reducible rfl
            rotate_left
            · simp only [Act.put, List.setIfInBounds_toArray, List.set_cons_zero, List.set_cons_succ, i64_w, i32_w]; rfl
            refine pure_ (i := 6) (N := some 17) (v := ?_) (a' := ?_) #[true, true, true, true, true, false, true, false, false, false, false, false, false, false, false, false, false, false, false, false, false, false, false, false, false] rfl rfl (any_of HT_.out (by kernel_rfl)) (fun _ _ _ h => h) (Or.inl ⟨by rfl, ?_⟩) ?_ ?_
            rotate_left
            · intro w'; go_simp; with_reducible rfl
            rotate_left
            · simp only [Act.put, List.setIfInBounds_toArray, List.set_cons_zero, List.set_cons_succ, i64_w, i32_w]; rfl
            refine pure_ (i := 7) (N := some 18) (v := ?_) (a' := ?_) #[true, true, true, true, true, false, true, true, false, false, false, false, false, false, false, false, false, false, false, false, false, false, false, false, false] rfl rfl (any_of HT_.out (by kernel_rfl)) (fun _ _ _ h => h) (Or.inl ⟨by rfl, ?_⟩) ?_ ?_
            rotate_left
            · intro w'; go_simp; with_reducible rfl
            rotate_left
            · simp only [Act.put, List.setIfInBounds_toArray, List.set_cons_zero, List.set_cons_succ, i64_w, i32_w]; rfl
            refine pure_ (i := 8) (N := some 19) (v := ?_) (a' := ?_) #[true, true, true, true, true, false, true, true, true, false, false, false, false, false, false, false, false, false, false, false, false, false, false, false, false] rfl rfl (any_of HT_.out (by kernel_rfl)) (fun _ _ _ h => h) (Or.inl ⟨by rfl, ?_⟩) ?_ ?_
            rotate_left
            · intro w'; go_simp; with_reducible rfl
            rotate_left
            · simp only [Act.put, List.setIfInBounds_toArray, List.set_cons_zero, List.set_cons_succ, i64_w, i32_w]; rfl
            refine pure_ (i := 9) (N := some 20) (v := ?_) (a' := ?_) #[true, true, true, true, true, false, true, true, true, true, false, false, false, false, false, false, false, false, false, false, false, false, false, false, false] rfl rfl (any_of HT_.out (by kernel_rfl)) (fun _ _ _ h => h) (Or.inl ⟨by rfl, ?_⟩) ?_ ?_
            rotate_left
            · intro w'; go_simp; with_reducible rfl
            rotate_left
            · simp only [Act.put, List.setIfInBounds_toArray, List.set_cons_zero, List.set_cons_succ, i64_w, i32_w]; rfl
            refine pure_ (i := 11) (N := some 22) (v := ?_) (a' := ?_) #[true, true, true, true, true, false, true, true, true, true, false, true, false, false, false, false, false, false, false, false, false, false, false, false, false] rfl rfl (any_of HT_.out (by kernel_rfl)) (fun _ _ _ h => h) (Or.inl ⟨by rfl, ?_⟩) ?_ ?_
            rotate_left
            · intro w'; go_simp; with_reducible rfl
            rotate_left
            · simp only [Act.put, List.setIfInBounds_toArray, List.set_cons_zero, List.set_cons_succ, i64_w, i32_w]; rfl
            refine pure_ (i := 12) (N := some 23) (v := ?_) (a' := ?_) #[true, true, true, true, true, false, true, true, true, true, false, true, true, false, false, false, false, false, false, false, false, false, false, false, false] rfl rfl (any_of HT_.out (by kernel_rfl)) (fun _ _ _ h => h) (Or.inl ⟨by rfl, ?_⟩) ?_ ?_
            rotate_left
            · intro w'; go_simp; with_reducible rfl
            rotate_left
            · simp only [Act.put, List.setIfInBounds_toArray, List.set_cons_zero, List.set_cons_succ, i64_w, i32_w]; rfl
            refine pure_ (i := 13) (N := some 24) (v := ?_) (a' := ?_) #[true, true, true, true, true, false, true, true, true, true, false, true, true, true, false, false, false, false, false, false, false, false, false, false, false] rfl rfl (any_of HT_.out (by kernel_rfl)) (fun _ _ _ h => h) (Or.inl ⟨by rfl, ?_⟩) ?_ ?_
            rotate_left
            · intro w'; go_simp; with_reducible rfl
            rotate_left
            · simp only [Act.put, List.setIfInBounds_toArray, List.set_cons_zero, List.set_cons_succ, i64_w, i32_w]; rfl
            refine pure_ (i := 14) (N := some 25) (v := ?_) (a' := ?_) #[true, true, true, true, true, false, true, true, true, true, false, true, true, true, true, false, false, false, false, false, false, false, false, false, false] rfl rfl (any_of HT_.out (by kernel_rfl)) (fun _ _ _ h => h) (Or.inl ⟨by rfl, ?_⟩) ?_ ?_
            rotate_left
            · intro w'; go_simp; with_reducible rfl
            rotate_left
            · simp only [Act.put, List.setIfInBounds_toArray, List.set_cons_zero, List.set_cons_succ, i64_w, i32_w]; rfl
            refine pure_ (i := 16) (N := some 27) (v := ?_) (a' := ?_) #[true, true, true, true, true, false, true, true, true, true, false, true, true, true, true, false, true, false, false, false, false, false, false, false, false] rfl rfl (any_of HT_.out (by kernel_rfl)) (fun _ _ _ h => h) (Or.inl ⟨by rfl, ?_⟩) ?_ ?_
            rotate_left
            · intro w'; go_simp; with_reducible rfl
            rotate_left
            · simp only [Act.put, List.setIfInBounds_toArray, List.set_cons_zero, List.set_cons_succ, i64_w, i32_w]; rfl
            refine pure_ (i := 17) (N := some 28) (v := ?_) (a' := ?_) #[true, true, true, true, true, false, true, true, true, true, false, true, true, true, true, false, true, true, false, false, false, false, false, false, false] rfl rfl (any_of HT_.out (by kernel_rfl)) (fun _ _ _ h => h) (Or.inl ⟨by rfl, ?_⟩) ?_ ?_
            rotate_left
            · intro w'; go_simp; with_reducible rfl
            rotate_left
            · simp only [Act.put, List.setIfInBounds_toArray, List.set_cons_zero, List.set_cons_succ, i64_w, i32_w]; rfl
            refine pure_ (i := 18) (N := some 29) (v := ?_) (a' := ?_) #[true, true, true, true, true, false, true, true, true, true, false, true, true, true, true, false, true, true, true, false, false, false, false, false, false] rfl rfl (any_of HT_.out (by kernel_rfl)) (fun _ _ _ h => h) (Or.inl ⟨by rfl, ?_⟩) ?_ ?_
            rotate_left
            · intro w'; go_simp; with_reducible rfl
            rotate_left
            · simp only [Act.put, List.setIfInBounds_toArray, List.set_cons_zero, List.set_cons_succ, i64_w, i32_w]; rfl
            refine pure_ (i := 19) (N := some 30) (v := ?_) (a' := ?_) #[true, true, true, true, true, false, true, true, true, true, false, true, true, true, true, false, true, true, true, true, false, false, false, false, false] rfl rfl (any_of HT_.out (by kernel_rfl)) (fun _ _ _ h => h) (Or.inl ⟨by rfl, ?_⟩) ?_ ?_
            rotate_left
            · intro w'; go_simp; with_reducible rfl
            rotate_left
            · simp only [Act.put, List.setIfInBounds_toArray, List.set_cons_zero, List.set_cons_succ, i64_w, i32_w]; rfl
            refine take_ (i := 5) (N := some 16) (v := ?_) (a' := ?_) #[true, true, true, true, true, true, true, true, true, true, false, true, true, true, true, false, true, true, true, true, false, false, false, false, false] rfl rfl (take_ofW HT_.out HW_.out (by kernel_rfl)) (fun _ _ _ h => h) (Or.inl ⟨by rfl, ?_⟩) hHeld ?_ ?_
            rotate_left
            · rintro w' ⟨s0, s1, s2, s3, s4, s5, s6, s7, s8, s9, s10, s11, s12, s13, s14, s15⟩; go_simp; with_reducible rfl
            rotate_left
            · simp only [Act.put, List.setIfInBounds_toArray, List.set_cons_zero, List.set_cons_succ, i64_w, i32_w]; rfl
            refine take_ (i := 10) (N := some 21) (v := ?_) (a' := ?_) #[true, true, true, true, true, true, true, true, true, true, true, true, true, true, true, false, true, true, true, true, false, false, false, false, false] rfl rfl (take_ofW HT_.out HW_.out (by kernel_rfl)) (fun _ _ _ h => h) (Or.inl ⟨by rfl, ?_⟩) hHeld ?_ ?_
            rotate_left
            · rintro w' ⟨s0, s1, s2, s3, s4, s5, s6, s7, s8, s9, s10, s11, s12, s13, s14, s15⟩; go_simp; with_reducible rfl
            rotate_left
            · simp only [Act.put, List.setIfInBounds_toArray, List.set_cons_zero, List.set_cons_succ, i64_w, i32_w]; rfl
            refine take_ (i := 15) (N := some 26) (v := ?_) (a' := ?_) #[true, true, true, true, true, true, true, true, true, true, true, true, true, true, true, true, true, true, true, true, false, false, false, false, false] rfl rfl (take_ofW HT_.out HW_.out (by kernel_rfl)) (fun _ _ _ h => h) (Or.inl ⟨by rfl, ?_⟩) hHeld ?_ ?_
            rotate_left
            · rintro w' ⟨s0, s1, s2, s3, s4, s5, s6, s7, s8, s9, s10, s11, s12, s13, s14, s15⟩; go_simp; with_reducible rfl
            rotate_left
            · simp only [Act.put, List.setIfInBounds_toArray, List.set_cons_zero, List.set_cons_succ, i64_w, i32_w]; rfl
            refine take_ (i := 20) (N := some 31) (v := ?_) (a' := ?_) #[true, true, true, true, true, true, true, true, true, true, true, true, true, true, true, true, true, true, true, true, true, false, false, false, false] rfl rfl (take_ofW HT_.out HW_.out (by kernel_rfl)) (fun _ _ _ h => h) (Or.inl ⟨by rfl, ?_⟩) hHeld ?_ ?_
            rotate_left
            · rintro w' ⟨s0, s1, s2, s3, s4, s5, s6, s7, s8, s9, s10, s11, s12, s13, s14, s15⟩; go_simp; with_reducible rfl
            rotate_left
            · simp only [Act.put, List.setIfInBounds_toArray, List.set_cons_zero, List.set_cons_succ, i64_w, i32_w]; rfl
            refine pure_ (i := 21) (N := some 32) (v := ?_) (a' := ?_) #[true, true, true, true, true, true, true, true, true, true, true, true, true, true, true, true, true, true, true, true, true, true, false, false, false] rfl rfl (any_of HT_.out (by kernel_rfl)) (fun _ _ _ h => h) (Or.inl ⟨by rfl, ?_⟩) ?_ ?_
            rotate_left
            · intro w'; go_simp; with_reducible rfl
            rotate_left
            · simp only [Act.put, List.setIfInBounds_toArray, List.set_cons_zero, List.set_cons_succ, i64_w, i32_w]; rfl
            refine one_ (i := 22) (N := some 33) #[true, true, true, true, true, true, true, true, true, true, true, true, true, true, true, true, true, true, true, true, true, true, true, false, false] rfl rfl (one_of HT_.out (by kernel_rfl)) (by decide) (fun K hK => ?_)
            refine value_ (w1 := ?_) (v := ?_) (by rfl) rfl ?_ ?_
            rotate_left 2
            · go_simp
              constructor
              · rfl
              · rfl
            refine hK.out _ _ ⟨(World.cell?_alloc_lt _ _ _ (World.block_lt_of_cell? _ _ (((HB.out.cell (World.block_lt_of_cell? w _ hw311_0)).trans hw311_0)))).trans (((HB.out.cell (World.block_lt_of_cell? w _ hw311_0)).trans hw311_0)), (World.cell?_alloc_lt _ _ _ (World.block_lt_of_cell? _ _ (((HB.out.cell (World.block_lt_of_cell? w _ hw311_1)).trans hw311_1)))).trans (((HB.out.cell (World.block_lt_of_cell? w _ hw311_1)).trans hw311_1)), (World.cell?_alloc_lt _ _ _ (World.block_lt_of_cell? _ _ (((HB.out.cell (World.block_lt_of_cell? w _ hw311_2)).trans hw311_2)))).trans (((HB.out.cell (World.block_lt_of_cell? w _ hw311_2)).trans hw311_2)), (World.cell?_alloc_lt _ _ _ (World.block_lt_of_cell? _ _ (((HB.out.cell (World.block_lt_of_cell? w _ hw311_3)).trans hw311_3)))).trans (((HB.out.cell (World.block_lt_of_cell? w _ hw311_3)).trans hw311_3)), (World.cell?_alloc_lt _ _ _ (World.block_lt_of_cell? _ _ (((HB.out.cell (World.block_lt_of_cell? w _ hw312_0)).trans hw312_0)))).trans (((HB.out.cell (World.block_lt_of_cell? w _ hw312_0)).trans hw312_0)), (World.cell?_alloc_lt _ _ _ (World.block_lt_of_cell? _ _ (((HB.out.cell (World.block_lt_of_cell? w _ hw312_1)).trans hw312_1)))).trans (((HB.out.cell (World.block_lt_of_cell? w _ hw312_1)).trans hw312_1)), (World.cell?_alloc_lt _ _ _ (World.block_lt_of_cell? _ _ (((HB.out.cell (World.block_lt_of_cell? w _ hw312_2)).trans hw312_2)))).trans (((HB.out.cell (World.block_lt_of_cell? w _ hw312_2)).trans hw312_2)), (World.cell?_alloc_lt _ _ _ (World.block_lt_of_cell? _ _ (((HB.out.cell (World.block_lt_of_cell? w _ hw312_3)).trans hw312_3)))).trans (((HB.out.cell (World.block_lt_of_cell? w _ hw312_3)).trans hw312_3)), (World.cell?_alloc_lt _ _ _ (World.block_lt_of_cell? _ _ (((HB.out.cell (World.block_lt_of_cell? w _ hw313_0)).trans hw313_0)))).trans (((HB.out.cell (World.block_lt_of_cell? w _ hw313_0)).trans hw313_0)), (World.cell?_alloc_lt _ _ _ (World.block_lt_of_cell? _ _ (((HB.out.cell (World.block_lt_of_cell? w _ hw313_1)).trans hw313_1)))).trans (((HB.out.cell (World.block_lt_of_cell? w _ hw313_1)).trans hw313_1)), (World.cell?_alloc_lt _ _ _ (World.block_lt_of_cell? _ _ (((HB.out.cell (World.block_lt_of_cell? w _ hw313_2)).trans hw313_2)))).trans (((HB.out.cell (World.block_lt_of_cell? w _ hw313_2)).trans hw313_2)), (World.cell?_alloc_lt _ _ _ (World.block_lt_of_cell? _ _ (((HB.out.cell (World.block_lt_of_cell? w _ hw313_3)).trans hw313_3)))).trans (((HB.out.cell (World.block_lt_of_cell? w _ hw313_3)).trans hw313_3)), (World.cell?_alloc_lt _ _ _ (World.block_lt_of_cell? _ _ (((HB.out.cell (World.block_lt_of_cell? w _ hw314_0)).trans hw314_0)))).trans (((HB.out.cell (World.block_lt_of_cell? w _ hw314_0)).trans hw314_0)), (World.cell?_alloc_lt _ _ _ (World.block_lt_of_cell? _ _ (((HB.out.cell (World.block_lt_of_cell? w _ hw314_1)).trans hw314_1)))).trans (((HB.out.cell (World.block_lt_of_cell? w _ hw314_1)).trans hw314_1)), (World.cell?_alloc_lt _ _ _ (World.block_lt_of_cell? _ _ (((HB.out.cell (World.block_lt_of_cell? w _ hw314_2)).trans hw314_2)))).trans (((HB.out.cell (World.block_lt_of_cell? w _ hw314_2)).trans hw314_2)), (World.cell?_alloc_lt _ _ _ (World.block_lt_of_cell? _ _ (((HB.out.cell (World.block_lt_of_cell? w _ hw314_3)).trans hw314_3)))).trans (((HB.out.cell (World.block_lt_of_cell? w _ hw314_3)).trans hw314_3))⟩ (fun hHeld => ?_)
            clear hK K
            refine norm_ (a' := ?_) ?_ ?_
            rotate_left
            · show Act.put _ (some 33) _ = _
              simp only [Act.put, List.setIfInBounds_toArray, List.set_cons_zero, List.set_cons_succ, i64_w, i32_w]
              rfl
            refine one_ (i := 23) (N := some 34) #[true, true, true, true, true, true, true, true, true, true, true, true, true, true, true, true, true, true, true, true, true, true, true, true, false] rfl rfl (one_of HT_.out (by kernel_rfl)) (by decide) (fun K hK => ?_)
            refine Kd.R_append_step k37 (w0 := w) w.heap.size (by rfl) (.tmp 11) (.tmp 33) 23 37 (.agg #[(.int .i64 0), (.string ⟨#[]⟩), (.string ⟨#[]⟩), (.int .i64 0)]) 48 rfl Try.underlying23 info37 rfl (by decide) (by omega) u3 x3_1 (⟨(rd_T39 l0 x4_1).f0, (rd_T39 l0 x4_1).f1, (rd_T39 l0 x4_1).f2, (rd_T39 l0 x4_1).f3⟩ : S37) [.int .i64 ((rd_T39 l0 x4_1).f0), .string ((rd_T39 l0 x4_1).f1), .string ((rd_T39 l0 x4_1).f2), .int .i64 ((rd_T39 l0 x4_1).f3)] (fun _ => True) (fun _ => False) rfl rfl ?aP (fun _ hk => hk.elim) ?aF ?aO ?aB ?aS ?aL ?_
            (case aP => exact k37_mkM _ _ _ (⟨(rd_T39 l0 x4_1).f0, (rd_T39 l0 x4_1).f1, (rd_T39 l0 x4_1).f2, (rd_T39 l0 x4_1).f3⟩ : S37))
            (case aB => exact (by repeat (first | (with_reducible first | exact HB.out | apply below_alloc | apply pw_below_drewN | apply below_drew1) | exact HB.out)))
            (case aF => exact (fun _ _ => trivial))
            (case aO => exact (by (with_reducible repeat (first | apply Kd.R_alloc | apply Kd.R_drewN | apply Kd.R_drew)); exact HO_3.out))
            (case aS => exact (below_size (by repeat (first | (with_reducible first | exact HB.out | apply below_alloc | apply pw_below_drewN | apply below_drew1) | exact HB.out))))
            (case aL => have := LMc4.out; omega)
            intro v316 w6 ho hb hg hat
            rw [← Ny315.out] at ho
            have n0_ := Aside0.mk (hb)
            have n1_ := Aside0.mk (ho)
            clear HB
            clear HO_3
            have HB := n0_
            have HO317 := n1_
            clear n0_ n1_
            clear ho hb hg hat
            refine hK.out _ _ ⟨((HB.out.cell (World.block_lt_of_cell? w _ hw311_0)).trans hw311_0), ((HB.out.cell (World.block_lt_of_cell? w _ hw311_1)).trans hw311_1), ((HB.out.cell (World.block_lt_of_cell? w _ hw311_2)).trans hw311_2), ((HB.out.cell (World.block_lt_of_cell? w _ hw311_3)).trans hw311_3), ((HB.out.cell (World.block_lt_of_cell? w _ hw312_0)).trans hw312_0), ((HB.out.cell (World.block_lt_of_cell? w _ hw312_1)).trans hw312_1), ((HB.out.cell (World.block_lt_of_cell? w _ hw312_2)).trans hw312_2), ((HB.out.cell (World.block_lt_of_cell? w _ hw312_3)).trans hw312_3), ((HB.out.cell (World.block_lt_of_cell? w _ hw313_0)).trans hw313_0), ((HB.out.cell (World.block_lt_of_cell? w _ hw313_1)).trans hw313_1), ((HB.out.cell (World.block_lt_of_cell? w _ hw313_2)).trans hw313_2), ((HB.out.cell (World.block_lt_of_cell? w _ hw313_3)).trans hw313_3), ((HB.out.cell (World.block_lt_of_cell? w _ hw314_0)).trans hw314_0), ((HB.out.cell (World.block_lt_of_cell? w _ hw314_1)).trans hw314_1), ((HB.out.cell (World.block_lt_of_cell? w _ hw314_2)).trans hw314_2), ((HB.out.cell (World.block_lt_of_cell? w _ hw314_3)).trans hw314_3)⟩ (fun hHeld => ?_)
            clear hK K
            refine norm_ (a' := ?_) ?_ ?_
            rotate_left
            · show Act.put _ (some 34) _ = _
              simp only [Act.put, List.setIfInBounds_toArray, List.set_cons_zero, List.set_cons_succ, i64_w, i32_w]
              rfl
            refine pure_ (i := 24) (N := some 3) (v := ?_) (a' := ?_) #[true, true, true, true, true, true, true, true, true, true, true, true, true, true, true, true, true, true, true, true, true, true, true, true, true] rfl rfl (any_of HT_.out (by kernel_rfl)) (fun _ _ _ h => h) (Or.inl ⟨by rfl, ?_⟩) ?_ ?_
            rotate_left
            · intro w'; go_simp; with_reducible rfl
            rotate_left
            · simp only [Act.put, List.setIfInBounds_toArray, List.set_cons_zero, List.set_cons_succ, i64_w, i32_w]; rfl
            refine done_ (done_of HT_.out (by kernel_rfl)) ?_
            try go_wp2
            go_roundg k1
            case measure => have := HK1.out; omega
            case rel => exact ⟨(y315), (wrap64 (x4_1 + 1)), (by first | rfl | (simp; done) | (simp [*]; done)), H', ⟨by have := HK1.out; omega⟩, ⟨by (with_reducible repeat (first | apply Kd.R_alloc | apply Kd.R_drewN | apply Kd.R_drew)); exact HO317.out⟩, ⟨by repeat (first | (with_reducible first | exact HB.out | apply below_alloc | apply pw_below_drewN | apply below_drew1) | exact HB.out)⟩⟩
          · rw [if_neg c4] at H
            exact absurd H (by simp)
        · rw [if_neg c3] at H
          exact absurd H (by simp)
      · rw [if_neg c2] at H
        have c2b0 : decide (x4_1 < (l0.length : Int)) = false := decide_eq_false c2
        clear c2
        obtain rfl := Option.some.inj H
        go_wp2
        go_ret
        exact ⟨_, by first | rfl | (simp [errW_none, errW_some] <;> rfl) | (simp [*, errW_none, errW_some] <;> rfl), by (with_reducible repeat (first | apply Kd.R_alloc | apply Kd.R_drewN | apply Kd.R_drew)); exact HO_3.out, by repeat (first | (with_reducible first | exact HB.out | apply below_alloc | apply pw_below_drewN | apply below_drew1) | exact HB.out)⟩
end Go.Proofs.Ytngmcigkihfnkaa.H
end
section
namespace Go.Proofs.Ytngmcigkihfnkaa.H
open Go.RowKit Go.Proofs.YtngmcigkihfnkaaW.PrintWords Go.Proofs.YtngmcigkihfnkaaW.PrintLast Go.Proofs.YtngmcigkihfnkaaW.PrintMore
attribute [local go_sem] max2_int min2_int max_two min_two max_three min_three max_four min_four   -- for this text's walks alone
set_option linter.unusedVariables false
set_option linter.unusedSimpArgs false
def Opens (P : Program) (t : TypeId) {α : Type} (d : Kd α) (ok : α → Prop) : Prop :=
  ∀ {H : Type} (enc : TypeId × Value → H) (w : World) (base fuel : Nat) (held : Bool) (cs : List Value) (x : DataW H × List MemPlace), DataW.trod enc P w base (fun _ => true) held fuel t cs = some x → (∀ n ∈ x.1.weights P t, n ≤ reachBytes) → ∃ y : α, d.K w y cs ∧ ok y
section
open Go.ChangeShapes Go.WideShapes
variable {P : Program}
theorem opens_int {t : TypeId} {k : IntKind} (ht : P.underlying t = some (.int k)) : Opens P t (Kd.int k) (fun n => (Lit.int k n).wf = true) := by
  intro H enc w base fuel held cs x h _
  obtain ⟨n, rfl, _, hw⟩ := DataW.trod_int ht h
  exact ⟨n, rfl, hw⟩
theorem opens_string {t : TypeId} (ht : P.underlying t = some .string) : Opens P t Kd.string (fun s => s.size ≤ 140737488351232) := by
  intro H enc w base fuel held cs x h hw
  obtain ⟨s, rfl, rfl, _⟩ := DataW.trod_string ht h
  refine ⟨s, rfl, ?_⟩
  have := hw s.data.toList.length (by simp [DataW.weights])
  rw [Array.length_toList] at this
  exact this
theorem list_of_lt {α : Type} {p : Nat → α → Prop} : ∀ n : Nat, (∀ i, i < n → ∃ y, p i y) → ∃ ys : List α, ys.length = n ∧ ∀ i y, ys[i]? = some y → p i y
  | 0, _ => ⟨[], rfl, fun i y h => by simp at h⟩
  | n + 1, h => by
    obtain ⟨ys, hl, hp⟩ := list_of_lt n (fun i hi => h i (Nat.lt_succ_of_lt hi))
    obtain ⟨y, hy⟩ := h n (Nat.lt_succ_self n)
    refine ⟨ys ++ [y], by simp [hl], fun i z hz => ?_⟩
    rcases Nat.lt_or_ge i ys.length with hi | hi
    · rw [List.getElem?_append_left hi] at hz
      exact hp i z hz
    · have hlt := (List.getElem?_eq_some_iff.1 hz).1
      rw [List.length_append, List.length_singleton] at hlt
      have e : i = ys.length := by omega
      subst e
      rw [List.getElem?_append_right (Nat.le_refl _)] at hz
      simp at hz
      rw [← hz, hl]
      exact hy
theorem weightsAll_in {H : Type} {e : TypeId} {d : DataW H} : ∀ {l : List (DataW H)}, d ∈ l → ∀ n ∈ d.weights P e, n ∈ DataW.weightsAll P e l
  | [], h, _, _ => by cases h
  | x :: l, h, n, hn => by
    unfold DataW.weightsAll
    rcases List.mem_cons.1 h with rfl | h
    · exact List.mem_append_left _ hn
    · exact List.mem_append_right _ (weightsAll_in h n hn)
theorem opens_slice {α : Type} {d : Kd α} {ok : α → Prop} {t e : TypeId} {B : Nat} (ht : P.underlying t = some (.slice e)) (hc : P.cellsOf e = d.sz) (hB : P.bytesOf e = B) (he : Opens P e d ok) :
    Opens P t (Kd.slice e d) (fun l => l.length * B ≤ 140737488351232 ∧ ∀ y ∈ l, ok y) := by
  intro H enc w base fuel held cs x h hw
  rcases Go.Deep.open_slice ht h with ⟨rfl, rfl⟩ | ⟨a, len, cap, m, n, D, Pl, rfl, _, hl, hm, hmm, rfl, hx⟩
  · exact ⟨[], ⟨none, 0, rfl, Nat.zero_le _, Kd.C_nil _ _⟩, by simp, fun y hy => by cases hy⟩
  · have hmm' : m = cap := by rw [hmm]; rfl
    have hwt : (DataW.slice ((List.range len).map D) ((List.range (m - len)).map fun j => D (len + j))).weights P t = (((List.range len).map D).length + ((List.range (m - len)).map fun j => D (len + j)).length) * P.bytesOf e :: (DataW.weightsAll P e ((List.range len).map D) ++ DataW.weightsAll P e ((List.range (m - len)).map fun j => D (len + j))) := by
      simp [DataW.weights, ht]
    obtain ⟨ys, hyl, hy⟩ := list_of_lt (p := fun i (y : α) => (∃ cs' : List Value, w.cells? base (a.add (i * P.cellsOf e)) (P.cellsOf e) = some cs' ∧ d.K w y cs') ∧ ok y) len (fun i hi => by
      obtain ⟨cs', h1, h2⟩ := hx i (by omega)
      obtain ⟨y, h3, h4⟩ := he enc w base n held cs' _ h2 (fun q hq => hw q (by
        rw [hwt]
        exact List.mem_cons_of_mem _ (List.mem_append_left _ (weightsAll_in (List.mem_map.2 ⟨i, List.mem_range.2 hi, rfl⟩) q hq))))
      exact ⟨y, ⟨cs', h1, h3⟩, h4⟩)
    have hsz := hw ((((List.range len).map D).length + ((List.range (m - len)).map fun j => D (len + j)).length) * P.bytesOf e) (by rw [hwt]; exact List.mem_cons_self)
    rw [List.length_map, List.length_range, hB] at hsz
    have hsz2 : len * B ≤ 140737488351232 := Nat.le_trans (Nat.mul_le_mul_right _ (Nat.le_add_right _ _)) hsz
    refine ⟨ys, ⟨some a, cap, by rw [hyl], by rw [hyl]; exact hl, hyl ▸ rfl, by rw [hyl]; unfold maxLen at hm; omega, fun _ => ⟨a, rfl, fun j p hj => ?_⟩⟩, by rw [hyl]; exact hsz2, fun y hy' => ?_⟩
    · obtain ⟨⟨cs', h1, h2⟩, _⟩ := hy j p hj
      obtain ⟨_, hlen, hcell⟩ := World.cells?_some h1
      refine ⟨cs', hlen.trans hc, h2, fun i u hu => ?_⟩
      have hi : i < P.cellsOf e := by
        have := (List.getElem?_eq_some_iff.1 hu).1
        omega
      have h3 := hcell i hi
      rw [Go.Deep.add_add, hu, hc] at h3
      exact h3
    · obtain ⟨i, hi, hy'⟩ := List.mem_iff_getElem.1 hy'
      exact (hy i y (by rw [List.getElem?_eq_getElem hi, hy'])).2
theorem split_step (cs : List Value) (a s : Nat) : cs.drop a = (cs.drop a).take s ++ cs.drop (a + s) := by
  rw [← List.drop_drop]
  exact (List.take_append_drop s (cs.drop a)).symm
theorem split_last (cs : List Value) (a s : Nat) (h : cs.length ≤ a + s) : (cs.drop a).take s = cs.drop a := List.take_of_length_le (by rw [List.length_drop]; omega)
end
end Go.Proofs.Ytngmcigkihfnkaa.H
end
section
namespace Go.Proofs.Ytngmcigkihfnkaa.H
open Go.RowKit Go.Proofs.YtngmcigkihfnkaaW.PrintWords Go.Proofs.YtngmcigkihfnkaaW.PrintLast Go.Proofs.YtngmcigkihfnkaaW.PrintMore
set_option linter.unusedVariables false
set_option linter.unusedSimpArgs false
theorem decGo_len : ∀ f n acc, (decGo f n acc).length ≤ f + acc.length
  | 0, _, acc => by simp [decGo]
  | f + 1, n, acc => by
    unfold decGo
    split
    · simp; omega
    · have := decGo_len f (n / 10) ((48 + ((n % 10 : Nat) : Int)) :: acc)
      simp at this ⊢
      omega
theorem drop_bt (s : ByteArray) (i : Nat) (h : i < s.size) : s.toList.drop i = (s[i]'h) :: s.toList.drop (i + 1) := by
  rw [ByteArray.toList_eq]
  rw [List.drop_eq_getElem_cons (by simpa using h)]
  rfl
theorem bt_nat (s : ByteArray) (i : Nat) (h : i < s.size) : bt s (i : Int) = ((s[i]'h).toNat : Int) := by
  unfold bt
  simp only [Int.toNat_natCast]
  rw [dif_pos h]
def digB (c : UInt8) : Bool := decide (48 ≤ c.toNat) && decide (c.toNat ≤ 57)
def heads (l : List UInt8) : Nat := (l.takeWhile digB).length
theorem toList_len (s : ByteArray) : s.toList.length = s.size := by rw [ByteArray.toList_eq]; rfl
theorem head_l0 (s : ByteArray) (hs : s.size ≤ 1000000000) : ∀ d i : Nat, i + d = s.size → Ev (fun k => quant_head.l0 k s (i : Int)) ((i + heads (s.toList.drop i) : Nat) : Int) := by
  intro d
  induction d with
  | zero =>
    intro i h
    refine Ev.step (fun k => by rw [quant_head.l0]) ?_
    have h3 : ¬ ((i : Int) < (s.size : Int)) := by omega
    rw [List.drop_eq_nil_of_le (by rw [toList_len]; omega)]
    simp only [h3, if_false, heads, List.takeWhile_nil, List.length_nil, Nat.add_zero]
    exact Ev.now _
  | succ d ih =>
    intro i h
    refine Ev.step (fun k => by rw [quant_head.l0]) ?_
    have h3 : ((i : Int) < (s.size : Int)) := by omega
    have h4 : (0 : Int) ≤ (i : Int) := by omega
    have h5 : i < s.size := by omega
    simp only [h3, h4, if_true]
    rw [wrap_small (i := (i : Int) + 1) (by omega) (by omega), drop_bt s i h5, bt_nat s i h5]
    unfold heads
    rw [List.takeWhile_cons]
    refine ev_if (fun h6 => ev_if (fun h7 => ?_) (fun h7 => ?_)) (fun h6 => ?_)
    · have : digB s[i] = true := by simp [digB]; omega
      rw [this]
      have := ih (i + 1) (by omega)
      unfold heads at this
      rw [show i + 1 + (List.takeWhile digB (List.drop (i + 1) s.toList)).length = i + (s[i] :: List.takeWhile digB (List.drop (i + 1) s.toList)).length by simp; omega] at this
      exact this
    · have : digB s[i] = false := by simp [digB]; omega
      rw [this]
      exact Ev.now _
    · have : digB s[i] = false := by simp [digB]; omega
      rw [this]
      exact Ev.now _
theorem head_ev (s : ByteArray) (hs : s.size ≤ 1000000000) : Ev (fun k => quant_head.f k s) ((heads s.toList : Nat) : Int) := by
  have := head_l0 s hs s.size 0 (by omega)
  rw [List.drop_zero, Nat.zero_add] at this
  exact this
theorem heads_le (l : List UInt8) : heads l ≤ l.length := by
  have h := congrArg List.length (List.takeWhile_append_dropWhile (p := digB) (l := l))
  rw [List.length_append] at h
  unfold heads
  omega
theorem heads_all {l : List UInt8} (h : heads l = l.length) : ∀ c ∈ l, digB c = true := by
  unfold heads at h
  have e : l.takeWhile digB = l := by
    have h1 := List.takeWhile_append_dropWhile (p := digB) (l := l)
    have h2 := congrArg List.length h1
    rw [List.length_append] at h2
    have h3 : l.dropWhile digB = [] := List.eq_nil_of_length_eq_zero (by omega)
    rw [h3, List.append_nil] at h1
    exact h1
  intro c hc
  rw [← e] at hc
  exact List.all_eq_true.1 (List.all_takeWhile (p := digB) (l := l)) c hc
/-- The number that digits tell, behind n. -/
def dval : List UInt8 → Nat → Nat
  | [], n => n
  | c :: l, n => dval l (10 * n + (c.toNat - 48))
theorem dval_ge : ∀ (l : List UInt8) (n : Nat), n ≤ dval l n
  | [], n => Nat.le_refl _
  | c :: l, n => Nat.le_trans (by omega) (dval_ge l (10 * n + (c.toNat - 48)))
def valR (v most : Nat) : Int × Bool := if v ≤ most then ((v : Int), true) else (0, false)
theorem value_l0 (s : ByteArray) (most : Nat) (hm : 9 ≤ most) (hm2 : most ≤ 9000000000000000000) (hs : s.size ≤ 1000000000) (hd : ∀ c ∈ s.toList, digB c = true) : ∀ (d i n : Nat), i + d = s.size → n ≤ most →
    Ev (fun k => quant_value.l0 k s (most : Int) (n : Int) (s.size : Int) (i : Int)) (valR (dval (s.toList.drop i) n) most) := by
  intro d
  induction d with
  | zero =>
    intro i n h hn
    refine Ev.step (fun k => by rw [quant_value.l0]) ?_
    have h3 : ¬ ((i : Int) < (s.size : Int)) := by omega
    rw [List.drop_eq_nil_of_le (by rw [toList_len]; omega)]
    simp only [h3, if_false, dval, valR, hn, if_true]
    exact Ev.now _
  | succ d ih =>
    intro i n h hn
    refine Ev.step (fun k => by rw [quant_value.l0]) ?_
    have h3 : ((i : Int) < (s.size : Int)) := by omega
    have h4 : (0 : Int) ≤ (i : Int) := by omega
    have h5 : i < s.size := by omega
    simp only [h3, h4, if_true]
    have hg : digB s[i] = true := hd _ (by
      have := drop_bt s i h5
      have h6 : s[i] ∈ s.toList.drop i := by rw [this]; exact List.mem_cons_self
      exact List.mem_of_mem_drop h6)
    simp only [digB, Bool.and_eq_true, decide_eq_true_eq] at hg
    rw [drop_bt s i h5, bt_nat s i h5]
    simp only [dval]
    have e1 : (((s[i]'h5).toNat : Int) - 48) % 256 = (((s[i]'h5).toNat - 48 : Nat) : Int) := by omega
    rw [e1]
    have hq9 : ((s[i]'h5).toNat - 48) ≤ 9 := by omega
    rw [wrap_small (i := (most : Int) - ((((s[i]'h5).toNat - 48) : Nat) : Int)) (by omega) (by omega), wrap_small (i := (i : Int) + 1) (by omega) (by omega)]
    have e2 : Int.tdiv ((most : Int) - ((((s[i]'h5).toNat - 48) : Nat) : Int)) 10 = (((most - ((s[i]'h5).toNat - 48)) / 10 : Nat) : Int) := by
      rw [show (most : Int) - ((((s[i]'h5).toNat - 48) : Nat) : Int) = ((most - ((s[i]'h5).toNat - 48) : Nat) : Int) by omega]
      rfl
    rw [e2, wrap_small (i := (((most - ((s[i]'h5).toNat - 48)) / 10 : Nat) : Int)) (by omega) (by omega)]
    refine ev_if (fun h6 => ?_) (fun h6 => ?_)
    · have h7 : most < 10 * n + ((s[i]'h5).toNat - 48) := by omega
      have h8 := dval_ge (s.toList.drop (i + 1)) (10 * n + ((s[i]'h5).toNat - 48))
      have h9 : ¬ (dval (s.toList.drop (i + 1)) (10 * n + ((s[i]'h5).toNat - 48)) ≤ most) := by omega
      unfold valR
      rw [if_neg h9]
      exact Ev.now _
    · have h7 : 10 * n + ((s[i]'h5).toNat - 48) ≤ most := by omega
      rw [wrap_small (i := 10 * (n : Int)) (by omega) (by omega), wrap_small (i := 10 * (n : Int) + ((((s[i]'h5).toNat - 48) : Nat) : Int)) (by omega) (by omega)]
      have := ih (i + 1) (10 * n + ((s[i]'h5).toNat - 48)) (by omega) h7
      rw [show ((10 * n + ((s[i]'h5).toNat - 48) : Nat) : Int) = 10 * (n : Int) + ((((s[i]'h5).toNat - 48) : Nat) : Int) by push_cast; rfl] at this
      exact this
theorem value_ev (s : ByteArray) (most : Nat) (hm : 9 ≤ most) (hm2 : most ≤ 9000000000000000000) (hs : s.size ≤ 1000000000) (hd : ∀ c ∈ s.toList, digB c = true) :
    Ev (fun k => quant_value.f k s (most : Int)) (valR (dval s.toList 0) most) := by
  have := value_l0 s most hm hm2 hs hd s.size 0 0 (by omega) (by omega)
  rw [List.drop_zero] at this
  exact this
/-- A number's number, or what is wrong. -/
def numR (s : ByteArray) : Int × Int :=
  if s.size = 0 then (0, 8) else if heads s.toList < s.size then (0, 8) else if dval s.toList 0 ≤ 1125899906842624 then (((dval s.toList 0 : Nat) : Int), 0) else (0, 10)
theorem quantNumber_ev (s : ByteArray) (hs : s.size ≤ 1000000000) : Ev (fun k => quant_Number.f k s) (numR s) := by
  have hj : ∀ b : Bool, (b = true → (s.size = 0 ∨ heads s.toList < s.size)) → (b = false → s.size ≠ 0 ∧ heads s.toList = s.size) → Ev (fun k => quant_Number.j0 k s b) (numR s) := by
    intro b h1 h2
    refine Ev.step (fun k => by rw [quant_Number.j0]) ?_
    unfold numR
    cases b with
    | true =>
      simp only [if_true]
      have h3 := h1 rfl
      by_cases h4 : s.size = 0
      · rw [if_pos h4]; exact Ev.now _
      · rw [if_neg h4, if_pos (by omega)]; exact Ev.now _
    | false =>
      simp only [Bool.false_eq_true, if_false]
      have h3 := h2 rfl
      rw [if_neg h3.1, if_neg (by omega)]
      refine Ev.bind (value_ev s 1125899906842624 (by omega) (by omega) hs (heads_all (by rw [toList_len]; exact h3.2))) ?_
      by_cases h4 : dval s.toList 0 ≤ 1125899906842624
      · simp only [valR, h4, if_true]; exact Ev.now _
      · simp only [valR, h4, if_false, Bool.false_eq_true]; exact Ev.now _
  unfold quant_Number.f
  refine ev_if (fun h => ?_) (fun h => ?_)
  · exact hj true (fun _ => Or.inl (by have := toList_len s; rw [h] at this; exact this.symm)) (fun e => by cases e)
  · refine Ev.bind (head_ev s hs) ?_
    have hl := heads_le s.toList
    rw [toList_len] at hl
    have hne : s.size ≠ 0 := fun e => h (List.eq_nil_of_length_eq_zero (by rw [toList_len]; exact e))
    refine hj _ (fun e => Or.inr ?_) (fun e => ⟨hne, ?_⟩)
    · simp at e; omega
    · simp at e; omega
theorem extract_toList (s : ByteArray) (i j : Nat) : (s.extract i j).toList = (s.toList.take j).drop i := by
  rw [ByteArray.toList_eq, ByteArray.toList_eq]
  rw [ByteArray.data_extract, Array.toList_extract, List.extract_eq_take_drop, List.drop_take]
theorem toList_nil {s : ByteArray} (h : s.size = 0) : s.toList = [] := List.eq_nil_of_length_eq_zero (by rw [toList_len]; exact h)
theorem append_toList (a b : ByteArray) : (a ++ b).toList = a.toList ++ b.toList := by
  rw [ByteArray.toList_eq, ByteArray.toList_eq, ByteArray.toList_eq, ByteArray.data_append, Array.toList_append]
theorem dval_app : ∀ (a b : List UInt8) (n : Nat), dval (a ++ b) n = dval b (dval a n)
  | [], b, n => rfl
  | c :: a, b, n => dval_app a b _
def DigS (t : ByteArray) : Prop := ∀ c ∈ t.toList, digB c = true
theorem one_toList (d : Nat) : (strOfNums [((48 + d : Nat) : Int)]).toList = [UInt8.ofNat (48 + d)] := by
  rw [ByteArray.toList_eq]
  rfl
theorem ofNat_toNat (d : Nat) (h : d < 10) : (UInt8.ofNat (48 + d)).toNat = 48 + d := by
  rw [UInt8.toNat_ofNat']; omega
theorem digS_app {a b : ByteArray} (ha : DigS a) (hb : DigS b) : DigS (a ++ b) := by
  intro c hc
  rw [append_toList] at hc
  rcases List.mem_append.1 hc with h | h
  · exact ha c h
  · exact hb c h
theorem decGo_app : ∀ (f n : Nat) (acc : List Int), decGo f n acc = decGo f n [] ++ acc
  | 0, _, acc => rfl
  | f + 1, n, acc => by
    simp only [decGo]
    by_cases h : n < 10
    · rw [if_pos h, if_pos h]; rfl
    · rw [if_neg h, if_neg h, decGo_app f _ (_ :: acc), decGo_app f _ [_], List.append_assoc]; rfl
theorem strOfNums_app (a b : List Int) : strOfNums (a ++ b) = strOfNums a ++ strOfNums b := by
  apply toList_inj
  rw [append_toList, ByteArray.toList_eq, ByteArray.toList_eq, ByteArray.toList_eq]
  simp [strOfNums]
theorem strOfNums_size (a : List Int) : (strOfNums a).size = a.length := by simp [strOfNums, ByteArray.size]
theorem heads_cons (c : UInt8) (l : List UInt8) (h : digB c = true) : heads (c :: l) = heads l + 1 := by
  unfold heads; rw [List.takeWhile_cons, if_pos h]; rfl
theorem one_cast (d : Nat) : (48 + (d : Int)) = ((48 + d : Nat) : Int) := by omega
theorem one_dig (d : Nat) (h : d < 10) : DigS (strOfNums [((48 + d : Nat) : Int)]) := by
  intro c hc
  rw [one_toList] at hc
  rcases List.mem_singleton.1 hc with rfl
  simp only [digB, ofNat_toNat d h]; simp; omega
theorem decGo_val : ∀ (e n : Nat), n < 10 ^ (e + 1) → DigS (strOfNums (decGo (e + 1) n [])) ∧ dval (strOfNums (decGo (e + 1) n [])).toList 0 = n ∧ 1 ≤ (strOfNums (decGo (e + 1) n [])).size := by
  intro e
  induction e with
  | zero =>
    intro n h
    have h1 : n < 10 := by simpa using h
    simp only [decGo, h1, if_true]
    rw [one_cast]
    refine ⟨one_dig n h1, ?_, Nat.le_refl 1⟩
    rw [one_toList]; simp only [dval, ofNat_toNat n h1]; omega
  | succ e ih =>
    intro n h
    rw [decGo]
    by_cases h1 : n < 10
    · simp only [h1, if_true]
      rw [one_cast]
      refine ⟨one_dig n h1, ?_, Nat.le_refl 1⟩
      rw [one_toList]; simp only [dval, ofNat_toNat n h1]; omega
    · simp only [h1, if_false]
      have hq : n / 10 < 10 ^ (e + 1) := by rw [Nat.pow_succ] at h; omega
      have hm : n % 10 < 10 := by omega
      obtain ⟨a1, a2, a3⟩ := ih (n / 10) hq
      rw [decGo_app _ _ [48 + ((n % 10 : Nat) : Int)], strOfNums_app, one_cast]
      refine ⟨digS_app a1 (one_dig _ hm), ?_, ?_⟩
      · rw [append_toList, dval_app, a2, one_toList]; simp only [dval, ofNat_toNat _ hm]; omega
      · rw [ByteArray.size_append]; omega
theorem decB_val (n : Nat) (hn : n ≤ 9000000000000000000) : DigS (decB (n : Int)) ∧ dval (decB (n : Int)).toList 0 = n ∧ 1 ≤ (decB (n : Int)).size := by
  have h := decGo_val 19 n (Nat.lt_of_le_of_lt hn (by decide))
  exact h
theorem heads_app : ∀ (l r : List UInt8), (∀ c ∈ l, digB c = true) → heads r = 0 → heads (l ++ r) = l.length
  | [], r, _, h => h
  | c :: l, r, h, h2 => by
    rw [List.cons_append, heads_cons _ _ (h c List.mem_cons_self), heads_app l r (fun c hc => h c (List.mem_cons_of_mem _ hc)) h2]; rfl
end Go.Proofs.Ytngmcigkihfnkaa.H
end
section
namespace Go.Proofs.Ytngmcigkihfnkaa.H
open Go.RowKit Go.Proofs.YtngmcigkihfnkaaW.PrintWords Go.Proofs.YtngmcigkihfnkaaW.PrintLast Go.Proofs.YtngmcigkihfnkaaW.PrintMore
attribute [local go_sem] max2_int min2_int max_two min_two max_three min_three max_four min_four   -- for this text's walks alone
set_option linter.unusedVariables false
set_option linter.unusedSimpArgs false
def triremeref01_plain.f (a0 : Int) : Option (Bool) := if a0 > 32 then (if a0 = 127 then (some false) else (if a0 = 40 then (some false) else (if a0 = 41 then (some false) else (if a0 = 34 then (some false) else (some (a0 != 59)))))) else (some false)
end Go.Proofs.Ytngmcigkihfnkaa.H
end
section
namespace Go.Proofs.Ytngmcigkihfnkaa.H
open Go.RowKit Go.Proofs.YtngmcigkihfnkaaW.PrintWords Go.Proofs.YtngmcigkihfnkaaW.PrintLast Go.Proofs.YtngmcigkihfnkaaW.PrintMore
set_option linter.unusedVariables false
set_option linter.unusedSimpArgs false
theorem get_bt (s : ByteArray) (i k : Nat) (h : i + k < s.size) : ((s.get! (i + k)).toNat : Int) = bt s ((i : Int) + (k : Int)) := by
  have e : ((i : Int) + (k : Int)).toNat = i + k := by omega
  have e2 : s.get! (i + k) = s[i + k]'h := by
    show s.get! (i + k) = _
    simp [ByteArray.get!, getElem!_pos, h]
    rfl
  rw [e2]
  unfold bt
  simp only [e]
  rw [dif_pos h]
def moreB (s : ByteArray) (i : Int) : Bool := decide (i < s.size) && (decide (bt s i ≥ 128) && decide (bt s i < 192))
/-- What the reference's Rune tells. -/
def runeR (s : ByteArray) (i : Int) : Int × Int :=
  let c := bt s i
  if c < 128 then (c, 1)
  else if 192 ≤ c ∧ c < 224 ∧ moreB s (i + 1) = true then
    (if (c - 192) * 64 + bt s (i + 1) - 128 ≥ 128 then ((c - 192) * 64 + bt s (i + 1) - 128, 2) else (0, 0))
  else if 224 ≤ c ∧ c < 240 ∧ moreB s (i + 1) = true ∧ moreB s (i + 2) = true then
    (if (c - 224) * 4096 + (bt s (i + 1) - 128) * 64 + bt s (i + 2) - 128 ≥ 2048 ∧ ((c - 224) * 4096 + (bt s (i + 1) - 128) * 64 + bt s (i + 2) - 128 < 55296 ∨ (c - 224) * 4096 + (bt s (i + 1) - 128) * 64 + bt s (i + 2) - 128 > 57343)
      then ((c - 224) * 4096 + (bt s (i + 1) - 128) * 64 + bt s (i + 2) - 128, 3) else (0, 0))
  else if 240 ≤ c ∧ c < 248 ∧ moreB s (i + 1) = true ∧ moreB s (i + 2) = true ∧ moreB s (i + 3) = true then
    (if (c - 240) * 262144 + (bt s (i + 1) - 128) * 4096 + (bt s (i + 2) - 128) * 64 + bt s (i + 3) - 128 ≥ 65536 ∧ (c - 240) * 262144 + (bt s (i + 1) - 128) * 4096 + (bt s (i + 2) - 128) * 64 + bt s (i + 3) - 128 ≤ 1114111
      then ((c - 240) * 262144 + (bt s (i + 1) - 128) * 4096 + (bt s (i + 2) - 128) * 64 + bt s (i + 3) - 128, 4) else (0, 0))
  else (0, 0)
theorem moreB_lt {s : ByteArray} {i : Int} (h : moreB s i = true) : i < (s.size : Int) ∧ 128 ≤ bt s i ∧ bt s i < 192 := by
  unfold moreB at h
  simp at h
  omega
def nb (s : ByteArray) (i : Nat) : Nat := (bt s (i : Int)).toNat
theorem nb_cast (s : ByteArray) (i : Nat) : (nb s i : Int) = bt s i := by unfold nb; have := bt_range s i; omega
theorem nb_lt (s : ByteArray) (i : Nat) : nb s i < 256 := by unfold nb; have := bt_range s i; omega
theorem get_nb (s : ByteArray) (i k : Nat) (h : i + k < s.size) : (s.get! (i + k)).toNat = nb s (i + k) := by
  have := get_bt s i k h
  have h2 := nb_cast s (i + k)
  push_cast at h2
  omega
theorem moreB_nb (s : ByteArray) (i : Nat) : moreB s (i : Int) = (decide (i < s.size) && (nb s i / 64 == 2)) := by
  have h := nb_cast s i
  unfold moreB
  rw [← h]
  by_cases h1 : i < s.size
  · have h2 : ((i : Int) < (s.size : Int)) := by omega
    simp only [h1, h2, decide_true, Bool.true_and]
    rw [Bool.eq_iff_iff]
    simp
    omega
  · have h2 : ¬ ((i : Int) < (s.size : Int)) := by omega
    simp [h1, h2]
theorem cont_nb (s : ByteArray) (i k : Nat) : (decide (i + k < s.size) && ((s.get! (i + k)).toNat / 64 == 2)) = moreB s ((i + k : Nat) : Int) := by
  rw [moreB_nb]
  by_cases h : i + k < s.size
  · rw [get_nb s i k h]
  · simp [h]
/-- The model's own decoder, by the bytes. -/
theorem decode_nb (s : ByteArray) (i : Nat) (hi : i < s.size) : Utf8.decode s i =
    (if nb s i < 128 then (nb s i, 1)
    else if (nb s i / 32 == 6 && moreB s ((i + 1 : Nat) : Int)) = true then
      (if (nb s i % 32) * 64 + nb s (i + 1) % 64 ≥ 128 then ((nb s i % 32) * 64 + nb s (i + 1) % 64, 2) else (65533, 1))
    else if (nb s i / 16 == 14 && moreB s ((i + 1 : Nat) : Int) && moreB s ((i + 2 : Nat) : Int)) = true then
      (if (decide ((nb s i % 16) * 4096 + (nb s (i + 1) % 64) * 64 + nb s (i + 2) % 64 ≥ 2048) && Utf8.valid (((nb s i % 16) * 4096 + (nb s (i + 1) % 64) * 64 + nb s (i + 2) % 64 : Nat) : Int)) = true then ((nb s i % 16) * 4096 + (nb s (i + 1) % 64) * 64 + nb s (i + 2) % 64, 3) else (65533, 1))
    else if (nb s i / 8 == 30 && moreB s ((i + 1 : Nat) : Int) && moreB s ((i + 2 : Nat) : Int) && moreB s ((i + 3 : Nat) : Int)) = true then
      (if (decide ((nb s i % 8) * 262144 + (nb s (i + 1) % 64) * 4096 + (nb s (i + 2) % 64) * 64 + nb s (i + 3) % 64 ≥ 65536) && Utf8.valid (((nb s i % 8) * 262144 + (nb s (i + 1) % 64) * 4096 + (nb s (i + 2) % 64) * 64 + nb s (i + 3) % 64 : Nat) : Int)) = true then ((nb s i % 8) * 262144 + (nb s (i + 1) % 64) * 4096 + (nb s (i + 2) % 64) * 64 + nb s (i + 3) % 64, 4) else (65533, 1))
    else (65533, 1)) := by
  have g0 := get_nb s i 0 hi
  simp only [Nat.add_zero] at g0
  unfold Utf8.decode
  simp only [cont_nb, g0, Nat.add_zero, Utf8.runeError]
  by_cases h1 : i + 1 < s.size
  · have g1 := get_nb s i 1 h1
    by_cases h2 : i + 2 < s.size
    · have g2 := get_nb s i 2 h2
      by_cases h3 : i + 3 < s.size
      · have g3 := get_nb s i 3 h3
        simp only [g1, g2, g3]
      · have m3 : moreB s ((i + 3 : Nat) : Int) = false := by rw [moreB_nb]; simp [h3]
        simp only [g1, g2, m3, Bool.and_false, Bool.false_eq_true, if_false]
    · have m2 : moreB s ((i + 2 : Nat) : Int) = false := by rw [moreB_nb]; simp [h2]
      simp only [g1, m2, Bool.and_false, Bool.false_and, Bool.false_eq_true, if_false]
  · have m1 : moreB s ((i + 1 : Nat) : Int) = false := by rw [moreB_nb]; simp [h1]
    simp only [m1, Bool.and_false, Bool.false_and, Bool.false_eq_true, if_false]
theorem valid_iff (c : Nat) : Utf8.valid (c : Int) = (decide (c < 55296) || (decide (57344 ≤ c) && decide (c ≤ 1114111))) := by
  unfold Utf8.valid
  rw [Bool.eq_iff_iff]
  simp
  omega
/-- Arithmetic alone: the model's decoder, and the reference's. -/
theorem rune_arith (b0 b1 b2 b3 : Nat) (m1 m2 m3 in2 : Bool) (h0 : b0 < 256) (h1 : m1 = true → 128 ≤ b1 ∧ b1 < 192) (h2 : m2 = true → 128 ≤ b2 ∧ b2 < 192) (h3 : m3 = true → 128 ≤ b3 ∧ b3 < 192)
    (hin : in2 = true → b1 = 191 → m1 = true) (hin2 : in2 = true → b2 = 189 → m2 = true) (hin3 : m2 = true → in2 = true)
    (d : Nat × Nat) (hd : d = (if b0 < 128 then (b0, 1)
    else if (b0 / 32 == 6 && m1) = true then (if (b0 % 32) * 64 + b1 % 64 ≥ 128 then ((b0 % 32) * 64 + b1 % 64, 2) else (65533, 1))
    else if (b0 / 16 == 14 && m1 && m2) = true then
      (if (decide ((b0 % 16) * 4096 + (b1 % 64) * 64 + b2 % 64 ≥ 2048) && Utf8.valid (((b0 % 16) * 4096 + (b1 % 64) * 64 + b2 % 64 : Nat) : Int)) = true then ((b0 % 16) * 4096 + (b1 % 64) * 64 + b2 % 64, 3) else (65533, 1))
    else if (b0 / 8 == 30 && m1 && m2 && m3) = true then
      (if (decide ((b0 % 8) * 262144 + (b1 % 64) * 4096 + (b2 % 64) * 64 + b3 % 64 ≥ 65536) && Utf8.valid (((b0 % 8) * 262144 + (b1 % 64) * 4096 + (b2 % 64) * 64 + b3 % 64 : Nat) : Int)) = true then ((b0 % 8) * 262144 + (b1 % 64) * 4096 + (b2 % 64) * 64 + b3 % 64, 4) else (65533, 1))
    else (65533, 1)))
    (q : Int × Int) (hq : q = (if (b0 : Int) < 128 then ((b0 : Int), 1)
  else if 192 ≤ (b0 : Int) ∧ (b0 : Int) < 224 ∧ m1 = true then (if ((b0 : Int) - 192) * 64 + (b1 : Int) - 128 ≥ 128 then (((b0 : Int) - 192) * 64 + (b1 : Int) - 128, 2) else (0, 0))
  else if 224 ≤ (b0 : Int) ∧ (b0 : Int) < 240 ∧ m1 = true ∧ m2 = true then
    (if ((b0 : Int) - 224) * 4096 + ((b1 : Int) - 128) * 64 + (b2 : Int) - 128 ≥ 2048 ∧ (((b0 : Int) - 224) * 4096 + ((b1 : Int) - 128) * 64 + (b2 : Int) - 128 < 55296 ∨ ((b0 : Int) - 224) * 4096 + ((b1 : Int) - 128) * 64 + (b2 : Int) - 128 > 57343)
      then (((b0 : Int) - 224) * 4096 + ((b1 : Int) - 128) * 64 + (b2 : Int) - 128, 3) else (0, 0))
  else if 240 ≤ (b0 : Int) ∧ (b0 : Int) < 248 ∧ m1 = true ∧ m2 = true ∧ m3 = true then
    (if ((b0 : Int) - 240) * 262144 + ((b1 : Int) - 128) * 4096 + ((b2 : Int) - 128) * 64 + (b3 : Int) - 128 ≥ 65536 ∧ ((b0 : Int) - 240) * 262144 + ((b1 : Int) - 128) * 4096 + ((b2 : Int) - 128) * 64 + (b3 : Int) - 128 ≤ 1114111
      then (((b0 : Int) - 240) * 262144 + ((b1 : Int) - 128) * 4096 + ((b2 : Int) - 128) * 64 + (b3 : Int) - 128, 4) else (0, 0))
  else (0, 0))) (rt : Prop) (hrt : rt ↔ (d.1 ≠ 65533 ∨ in2 = true ∧ b0 = 239 ∧ b1 = 191 ∧ b2 = 189)) :
    (rt → q = ((d.1 : Int), (d.2 : Int))) ∧ (¬ rt → q.2 = 0) := by
  by_cases c0 : b0 < 128
  · rw [if_pos c0] at hd
    rw [if_pos (by omega)] at hq
    subst hd hq
    exact ⟨fun _ => rfl, fun h => absurd (hrt.2 (Or.inl (by simp; omega))) h⟩
  rw [if_neg c0] at hd
  rw [if_neg (by omega)] at hq
  by_cases c1 : 192 ≤ b0 ∧ b0 < 224 ∧ m1 = true
  · have e1 : (b0 / 32 == 6 && m1) = true := by simp [c1.2.2]; omega
    rw [if_pos e1] at hd
    rw [if_pos (by exact ⟨by omega, by omega, c1.2.2⟩)] at hq
    have g1 := h1 c1.2.2
    by_cases k1 : (b0 % 32) * 64 + b1 % 64 ≥ 128
    · rw [if_pos k1] at hd
      rw [if_pos (by omega)] at hq
      subst hd hq
      exact ⟨fun _ => by simp; omega, fun h => absurd (hrt.2 (Or.inl (by simp; omega))) h⟩
    · rw [if_neg k1] at hd
      rw [if_neg (by omega)] at hq
      subst hd hq
      exact ⟨fun h => by have := hrt.1 h; simp at this; omega, fun _ => rfl⟩
  have e1 : ¬ (b0 / 32 == 6 && m1) = true := by simp; intro h; cases m1 <;> simp_all; omega
  rw [if_neg e1] at hd
  rw [if_neg (by intro h; exact c1 ⟨by omega, by omega, h.2.2⟩)] at hq
  by_cases c2 : 224 ≤ b0 ∧ b0 < 240 ∧ m1 = true ∧ m2 = true
  · have e2 : (b0 / 16 == 14 && m1 && m2) = true := by simp [c2.2.2]; omega
    rw [if_pos e2] at hd
    rw [if_pos (by exact ⟨by omega, by omega, c2.2.2⟩)] at hq
    have g1 := h1 c2.2.2.1
    have g2 := h2 c2.2.2.2
    have g3 := hin3 c2.2.2.2
    rw [valid_iff] at hd
    by_cases k1 : (b0 % 16) * 4096 + (b1 % 64) * 64 + b2 % 64 ≥ 2048 ∧ ((b0 % 16) * 4096 + (b1 % 64) * 64 + b2 % 64 < 55296 ∨ 57344 ≤ (b0 % 16) * 4096 + (b1 % 64) * 64 + b2 % 64)
    · rw [if_pos (by simp; omega)] at hd
      rw [if_pos (by omega)] at hq
      subst hd hq
      refine ⟨fun _ => by simp; omega, fun h => absurd (hrt.2 ?_) h⟩
      by_cases k2 : (b0 % 16) * 4096 + (b1 % 64) * 64 + b2 % 64 = 65533
      · exact Or.inr ⟨g3, by omega, by omega, by omega⟩
      · exact Or.inl k2
    · rw [if_neg (by simp; omega)] at hd
      rw [if_neg (by omega)] at hq
      subst hd hq
      exact ⟨fun h => by have := hrt.1 h; simp at this; omega, fun _ => rfl⟩
  have e2 : ¬ (b0 / 16 == 14 && m1 && m2) = true := by simp; intro h; cases m1 <;> cases m2 <;> simp_all; omega
  rw [if_neg e2] at hd
  rw [if_neg (by intro h; exact c2 ⟨by omega, by omega, h.2.2⟩)] at hq
  by_cases c3 : 240 ≤ b0 ∧ b0 < 248 ∧ m1 = true ∧ m2 = true ∧ m3 = true
  · have e3 : (b0 / 8 == 30 && m1 && m2 && m3) = true := by simp [c3.2.2]; omega
    rw [if_pos e3] at hd
    rw [if_pos (by exact ⟨by omega, by omega, c3.2.2⟩)] at hq
    have g1 := h1 c3.2.2.1
    have g2 := h2 c3.2.2.2.1
    have g3 := h3 c3.2.2.2.2
    rw [valid_iff] at hd
    by_cases k1 : (b0 % 8) * 262144 + (b1 % 64) * 4096 + (b2 % 64) * 64 + b3 % 64 ≥ 65536 ∧ (b0 % 8) * 262144 + (b1 % 64) * 4096 + (b2 % 64) * 64 + b3 % 64 ≤ 1114111
    · rw [if_pos (by simp; omega)] at hd
      rw [if_pos (by omega)] at hq
      subst hd hq
      exact ⟨fun _ => by simp; omega, fun h => absurd (hrt.2 (Or.inl (by simp; omega))) h⟩
    · rw [if_neg (by simp; omega)] at hd
      rw [if_neg (by omega)] at hq
      subst hd hq
      exact ⟨fun h => by have := hrt.1 h; simp at this; omega, fun _ => rfl⟩
  have e3 : ¬ (b0 / 8 == 30 && m1 && m2 && m3) = true := by simp; intro h; cases m1 <;> cases m2 <;> cases m3 <;> simp_all; omega
  rw [if_neg e3] at hd
  rw [if_neg (by intro h; exact c3 ⟨by omega, by omega, h.2.2⟩)] at hq
  subst hd hq
  refine ⟨fun h => ?_, fun _ => rfl⟩
  rcases hrt.1 h with h | ⟨g1, g2, g3, g4⟩
  · simp at h
  · exact absurd ⟨by omega, by omega, hin g1 g3, hin2 g1 g4⟩ c2
theorem runeR_decode (s : ByteArray) (i : Nat) (hi : i < s.size) :
    (lexRightB s i = true → runeR s i = (((Utf8.decode s i).1 : Int), ((Utf8.decode s i).2 : Int))) ∧ (lexRightB s i = false → (runeR s i).2 = 0) := by
  have e0 := nb_cast s i
  have e1 := nb_cast s (i + 1)
  have e2 := nb_cast s (i + 2)
  have e3 := nb_cast s (i + 3)
  have p1 : ((i + 1 : Nat) : Int) = (i : Int) + 1 := by omega
  have p2 : ((i + 2 : Nat) : Int) = (i : Int) + 2 := by omega
  have p3 : ((i + 3 : Nat) : Int) = (i : Int) + 3 := by omega
  have m1 := @moreB_lt s ((i + 1 : Nat) : Int)
  have m2 := @moreB_lt s ((i + 2 : Nat) : Int)
  have m3 := @moreB_lt s ((i + 3 : Nat) : Int)
  have b1 := moreB_nb s (i + 1)
  have b2 := moreB_nb s (i + 2)
  have hd := decode_nb s i hi
  have key := rune_arith (nb s i) (nb s (i + 1)) (nb s (i + 2)) (nb s (i + 3)) (moreB s ((i + 1 : Nat) : Int)) (moreB s ((i + 2 : Nat) : Int)) (moreB s ((i + 3 : Nat) : Int)) (decide (i + 2 < s.size))
    (nb_lt s i) (fun h => by have := m1 h; omega) (fun h => by have := m2 h; omega) (fun h => by have := m3 h; omega)
    (fun h1 h2 => by simp at h1; rw [b1, h2]; simp; omega) (fun h1 h2 => by simp at h1; rw [b2, h2]; simp; omega) (fun h => by have := m2 h; simp; omega)
    (Utf8.decode s i) hd (runeR s i) (by unfold runeR; simp only [← p1, ← p2, ← p3, ← e0, ← e1, ← e2, ← e3]) (lexRightB s i = true) (by
      unfold lexRightB
      rw [← p1, ← p2, ← e0, ← e1, ← e2]
      simp
      omega)
  refine ⟨key.1, fun h => key.2 (by rw [h]; simp)⟩
theorem plain_f (c : Int) : triremeref01_plain.f c = some (lexPlainB c) := by
  unfold lexPlainB triremeref01_plain.f lex_plain.f
  by_cases h0 : c > 32 <;> by_cases h1 : c = 40 <;> by_cases h2 : c = 41 <;> by_cases h3 : c = 34 <;> by_cases h4 : c = 59 <;> by_cases h5 : c = 127 <;> simp [h0, h1, h2, h3, h4, h5]
  all_goals omega
end Go.Proofs.Ytngmcigkihfnkaa.H
end
section
namespace Go.Proofs.Ytngmcigkihfnkaa.H
open Go.RowKit Go.Proofs.YtngmcigkihfnkaaW.PrintWords Go.Proofs.YtngmcigkihfnkaaW.PrintLast Go.Proofs.YtngmcigkihfnkaaW.PrintMore
set_option linter.unusedVariables false
set_option linter.unusedSimpArgs false
theorem plain_gt (c : Int) (h : lexPlainB c = true) : 32 < c := by
  have h1 := plain_f c
  rw [h] at h1
  unfold triremeref01_plain.f at h1
  by_cases h0 : c > 32
  · exact h0
  · simp [h0] at h1
theorem rune_bytes (s : ByteArray) (i : Nat) (c w : Int) (h : runeR s i = (c, w)) (hc : 32 < c) (j : Nat) (h1 : i ≤ j) (h2 : (j : Int) < i + w) : 32 < bt s j := by
  have m1 := @moreB_lt s ((i : Int) + 1)
  have m2 := @moreB_lt s ((i : Int) + 2)
  have m3 := @moreB_lt s ((i : Int) + 3)
  have hj : (j : Int) = i ∨ (j : Int) = (i : Int) + 1 ∨ (j : Int) = (i : Int) + 2 ∨ (j : Int) = (i : Int) + 3 ∨ (i : Int) + 4 ≤ j := by omega
  unfold runeR at h
  simp only at h
  repeat' split at h
  all_goals (simp only [Prod.mk.injEq] at h; obtain ⟨g1, g2⟩ := h)
  all_goals (rcases hj with hj | hj | hj | hj | hj)
  all_goals first | (rw [hj]; omega) | omega | (exfalso; omega) | (rw [hj]; simp_all; omega)
theorem head_bytes (s : ByteArray) : ∀ (b i : Nat), (lexHead s b i).2 = true → (lexHead s b i).1 = (s.size : Int) → s.size ≤ i + b → ∀ j : Nat, i ≤ j → j < s.size → 32 < bt s j
  | 0, i, _, _, hb, j, h1, h2 => by omega
  | b + 1, i, h1, h2, hb, j, hj1, hj2 => by
    unfold lexHead at h1 h2
    have hi : i < s.size := by omega
    rw [if_pos hi] at h1 h2
    obtain ⟨d1, d2⟩ := runeR_decode s i hi
    cases hr : lexRightB s i with
    | false => rw [hr] at h1; simp at h1
    | true =>
      rw [hr] at h1 h2
      simp only [if_true] at h1 h2
      have hw := lex_width s i hi
      cases hp : lexPlainB ((Utf8.decode s i).1 : Int) with
      | false => rw [hp] at h2; simp at h2; omega
      | true =>
        rw [hp] at h1 h2
        simp only [if_true] at h1 h2
        by_cases hjw : j < i + (Utf8.decode s i).2
        · exact rune_bytes s i _ _ (d1 hr) (plain_gt _ hp) j hj1 (by omega)
        · exact head_bytes s b _ h1 h2 (by omega) j (by omega) hj2
theorem word_bytes (s : ByteArray) (h : lexWordB s = true) : (∀ c ∈ s.toList, 32 < c.toNat) ∧ s ≠ ⟨#[]⟩ := by
  unfold lexWordB at h
  simp only [Bool.and_eq_true, decide_eq_true_eq, beq_iff_eq] at h
  obtain ⟨h1, h2, h3, h4⟩ := h
  refine ⟨fun c hc => ?_, ?_⟩
  · obtain ⟨j, hj, he⟩ := List.getElem_of_mem hc
    have hj2 : j < s.size := by rw [toList_len] at hj; exact hj
    have h5 := head_bytes s s.size 0 h1 h2 (by omega) j (by omega) hj2
    rw [bt_nat s j hj2] at h5
    have h6 := drop_bt s j hj2
    rw [List.drop_eq_getElem_cons hj] at h6
    have h7 := (List.cons.inj h6).1
    rw [he] at h7
    rw [h7]
    omega
  · rintro rfl
    rw [h2] at h3
    exact absurd h3 (by decide)
end Go.Proofs.Ytngmcigkihfnkaa.H
end
section
namespace Go.Proofs.Ytngmcigkihfnkaa.H
open Go.RowKit Go.Proofs.YtngmcigkihfnkaaW.PrintWords Go.Proofs.YtngmcigkihfnkaaW.PrintLast Go.Proofs.YtngmcigkihfnkaaW.PrintMore
set_option linter.unusedVariables false
set_option linter.unusedSimpArgs false
def splitF (b : UInt8) : List UInt8 → List UInt8 → List (List UInt8)
  | cur, [] => [cur]
  | cur, c :: l => if c = b then cur :: splitF b [] l else splitF b (cur ++ [c]) l
theorem splitF_ne (b : UInt8) : ∀ (l cur : List UInt8), splitF b cur l ≠ []
  | [], cur => by simp [splitF]
  | c :: l, cur => by
    unfold splitF
    split
    · simp
    · exact splitF_ne b l _
theorem splitF_none (b : UInt8) : ∀ (x cur : List UInt8), (∀ c ∈ x, c ≠ b) → splitF b cur x = [cur ++ x]
  | [], cur, _ => by simp [splitF]
  | c :: x, cur, h => by
    rw [splitF, if_neg (h c List.mem_cons_self), splitF_none b x _ (fun c hc => h c (List.mem_cons_of_mem _ hc)), List.append_assoc]; rfl
theorem splitF_app (b : UInt8) (l : List UInt8) : ∀ (x cur : List UInt8), (∀ c ∈ x, c ≠ b) → splitF b cur (x ++ b :: l) = (cur ++ x) :: splitF b [] l
  | [], cur, _ => by simp [splitF]
  | c :: x, cur, h => by
    rw [List.cons_append, splitF, if_neg (h c List.mem_cons_self), splitF_app b l x _ (fun c hc => h c (List.mem_cons_of_mem _ hc)), List.append_assoc]; rfl
/-- The lines of a text: a last one that is empty is none. -/
def dropLE : List (List UInt8) → List (List UInt8)
  | [] => []
  | [x] => if x = [] then [] else [x]
  | x :: y :: r => x :: dropLE (y :: r)
def linesR (l : List UInt8) : List (List UInt8) := dropLE (splitF 10 [] l)
theorem dropLE_cons (x : List UInt8) : ∀ r : List (List UInt8), r ≠ [] → dropLE (x :: r) = x :: dropLE r
  | [], h => absurd rfl h
  | y :: r, _ => rfl
theorem linesR_app (x l : List UInt8) (h : ∀ c ∈ x, c ≠ 10) : linesR (x ++ 10 :: l) = x :: linesR l := by
  unfold linesR
  rw [splitF_app 10 l x [] h, List.nil_append, dropLE_cons _ _ (splitF_ne _ _ _)]
def lineR (e : EvT) : ByteArray :=
  let s := decB e.now ++ (⟨#[58, 32]⟩ : ByteArray) ++ e.what
  let s := if e.name = ⟨#[]⟩ then s else s ++ ((⟨#[32]⟩ : ByteArray) ++ e.name)
  if 0 < e.n then s ++ ((⟨#[32]⟩ : ByteArray) ++ decB e.n) else s
def CleanB (s : ByteArray) : Prop := ∀ c ∈ s.toList, c ≠ 32 ∧ c ≠ 10
theorem clean_dig {s : ByteArray} (h : DigS s) : CleanB s := by
  intro c hc
  have := h c hc
  simp only [digB, Bool.and_eq_true, decide_eq_true_eq] at this
  constructor
  · intro e; subst e; exact absurd this.1 (by decide)
  · intro e; subst e; exact absurd this.1 (by decide)
theorem lit_clean (l : List UInt8) (h : l.all (fun c => decide (c ≠ 32) && decide (c ≠ 10)) = true) : CleanB ⟨l.toArray⟩ := by
  intro c hc
  rw [ByteArray.toList_eq] at hc
  have := List.all_eq_true.1 h c hc
  simpa using this
theorem mem_clean : ∀ (l : List ByteArray) (s : ByteArray), (∀ x ∈ l, CleanB x ∧ x ≠ ⟨#[]⟩) → memB s l = true → CleanB s ∧ s ≠ ⟨#[]⟩ := by
  intro l s h hm
  obtain ⟨x, hx, he⟩ := List.any_eq_true.1 hm
  have : x = s := of_decide_eq_true he
  subst this
  exact h x hx
theorem k1_clean : ∀ x ∈ k1L, CleanB x ∧ x ≠ ⟨#[]⟩ := by
  intro x hx
  simp only [k1L, List.mem_cons, List.not_mem_nil, or_false] at hx
  rcases hx with rfl | rfl | rfl <;> exact ⟨lit_clean _ (by decide), by decide⟩
theorem k2_clean : ∀ x ∈ k2L, CleanB x ∧ x ≠ ⟨#[]⟩ := by
  intro x hx
  simp only [k2L, List.mem_cons, List.not_mem_nil, or_false] at hx
  rcases hx with rfl | rfl | rfl | rfl | rfl | rfl | rfl | rfl | rfl <;> exact ⟨lit_clean _ (by decide), by decide⟩
theorem k3_clean : ∀ x ∈ k3L, CleanB x ∧ x ≠ ⟨#[]⟩ := by
  intro x hx
  simp only [k3L, List.mem_cons, List.not_mem_nil, or_false] at hx
  rcases hx with rfl <;> exact ⟨lit_clean _ (by decide), by decide⟩
/-- What is right of an event: a kind's name, a number. -/
theorem right_parts (e : EvT) (h : rightR e = true) : (0 ≤ e.now ∧ e.now ≤ 1099511627776) ∧ (CleanB e.what ∧ e.what ≠ ⟨#[]⟩) ∧
    (e.name = ⟨#[]⟩ ∧ e.n = 0 ∨ lexWordB e.name = true ∧ 0 ≤ e.n ∧ e.n ≤ 200) := by
  unfold rightR at h
  by_cases h0 : e.now < 0 ∨ 1099511627776 < e.now
  · rw [if_pos h0] at h; cases h
  · rw [if_neg h0] at h
    refine ⟨by omega, ?_⟩
    by_cases h1 : memB e.what k1L = true
    · rw [if_pos h1] at h
      simp only [Bool.and_eq_true, decide_eq_true_eq] at h
      exact ⟨mem_clean _ _ k1_clean h1, .inr ⟨h.1, by omega, by omega⟩⟩
    · rw [if_neg h1] at h
      by_cases h2 : memB e.what k2L = true
      · rw [if_pos h2] at h
        simp only [Bool.and_eq_true, decide_eq_true_eq] at h
        exact ⟨mem_clean _ _ k2_clean h2, .inr ⟨h.1, by omega, by omega⟩⟩
      · rw [if_neg h2] at h
        simp only [Bool.and_eq_true, decide_eq_true_eq] at h
        exact ⟨mem_clean _ _ k3_clean h.1, .inl h.2⟩
def mkB (l : List UInt8) : ByteArray := ⟨l.toArray⟩
theorem mkB_toList (l : List UInt8) : (mkB l).toList = l := by rw [ByteArray.toList_eq]; rfl
theorem mkB_of (s : ByteArray) : mkB s.toList = s := by apply toList_inj; rw [mkB_toList]
def numS (s : ByteArray) : Int × Bool := ((numR s).1, decide ((numR s).2 = 0) && decide (decB (numR s).1 = s))
/-- A line's event, as the program reads it. -/
def readR (s : ByteArray) : EvT × Bool :=
  match splitF 32 [] s.toList with
  | [p0, p1] => if p0.getLast? = some 58 then (let a := numS (mkB p0.dropLast); (⟨a.1, mkB p1, ⟨#[]⟩, 0⟩, a.2 && rightR ⟨a.1, mkB p1, ⟨#[]⟩, 0⟩)) else (⟨0, ⟨#[]⟩, ⟨#[]⟩, 0⟩, false)
  | [p0, p1, p2] => if p0.getLast? = some 58 then (let a := numS (mkB p0.dropLast); (⟨a.1, mkB p1, mkB p2, 0⟩, a.2 && (decide (p2 ≠ []) && rightR ⟨a.1, mkB p1, mkB p2, 0⟩))) else (⟨0, ⟨#[]⟩, ⟨#[]⟩, 0⟩, false)
  | [p0, p1, p2, p3] => if p0.getLast? = some 58 then (let a := numS (mkB p0.dropLast); let b := numS (mkB p3); (⟨a.1, mkB p1, mkB p2, b.1⟩, a.2 && (decide (p2 ≠ []) && ((b.2 && decide (0 < b.1)) && rightR ⟨a.1, mkB p1, mkB p2, b.1⟩)))) else (⟨0, ⟨#[]⟩, ⟨#[]⟩, 0⟩, false)
  | _ => (⟨0, ⟨#[]⟩, ⟨#[]⟩, 0⟩, false)
theorem lineR_toList (e : EvT) : (lineR e).toList = (decB e.now).toList ++ [58] ++ 32 :: (e.what.toList ++ ((if e.name = ⟨#[]⟩ then [] else 32 :: e.name.toList) ++ (if 0 < e.n then 32 :: (decB e.n).toList else []))) := by
  unfold lineR
  have e1 : (⟨#[58, 32]⟩ : ByteArray).toList = [58, 32] := by rw [ByteArray.toList_eq]
  have e2 : (⟨#[32]⟩ : ByteArray).toList = [32] := by rw [ByteArray.toList_eq]
  by_cases h1 : e.name = ⟨#[]⟩ <;> by_cases h2 : 0 < e.n <;> simp [h1, h2, append_toList, e1, e2]
theorem numS_dec (n : Int) (h0 : 0 ≤ n) (h1 : n ≤ 1125899906842624) : numS (decB n) = (n, true) := by
  obtain ⟨m, rfl⟩ : ∃ m : Nat, n = m := ⟨n.toNat, by omega⟩
  obtain ⟨d1, d2, d3⟩ := decB_val m (by omega)
  have hh : heads (decB (m : Int)).toList = (decB (m : Int)).size := by
    have := heads_app (decB (m : Int)).toList [] d1 rfl
    rw [List.append_nil, toList_len] at this
    exact this
  have hN : numR (decB (m : Int)) = ((m : Int), 0) := by
    unfold numR
    rw [if_neg (by omega), hh, if_neg (by omega), d2, if_pos (by omega)]
  unfold numS
  rw [hN]
  simp
theorem read_line (e : EvT) (hw : ∀ s, lexWordB s = true → CleanB s ∧ s ≠ ⟨#[]⟩) (h : rightR e = true) : readR (lineR e) = (e, true) := by
  obtain ⟨⟨a1, a2⟩, ⟨b1, b2⟩, h3⟩ := right_parts e h
  have hnow := numS_dec e.now a1 (by omega)
  have hdn : ∀ c ∈ (decB e.now).toList ++ [58], c ≠ 32 := by
    intro c hc
    rcases List.mem_append.1 hc with hc | hc
    · obtain ⟨m, hm⟩ : ∃ m : Nat, e.now = m := ⟨e.now.toNat, by omega⟩
      rw [hm] at hc
      exact (clean_dig (decB_val m (by omega)).1 c hc).1
    · rcases List.mem_singleton.1 hc with rfl; decide
  have hlast : ((decB e.now).toList ++ [58]).getLast? = some 58 := by simp
  have hdrop : mkB (((decB e.now).toList ++ [58]).dropLast) = decB e.now := by rw [List.dropLast_concat, mkB_of]
  unfold readR
  rw [lineR_toList, splitF_app 32 _ _ [] hdn, List.nil_append]
  rcases h3 with ⟨c1, c2⟩ | ⟨c1, c2, c3⟩
  · rw [if_pos c1, c2, if_neg (by decide), List.append_nil, List.append_nil, splitF_none 32 _ [] (fun c hc => (b1 c hc).1), List.nil_append]
    simp only [hlast, if_true, hdrop, hnow, mkB_of, Bool.true_and]
    have : (⟨e.now, e.what, ⟨#[]⟩, 0⟩ : EvT) = e := by cases e; simp_all
    rw [this, h]
  · obtain ⟨d1, d2⟩ := hw _ c1
    rw [if_neg d2, List.cons_append, splitF_app 32 _ _ [] (fun c hc => (b1 c hc).1), List.nil_append]
    have hne : e.name.toList ≠ [] := fun he => d2 (by apply toList_inj; rw [he, toList_nil (s := ⟨#[]⟩) rfl])
    by_cases hn : 0 < e.n
    · rw [if_pos hn, splitF_app 32 _ _ [] (fun c hc => (d1 c hc).1), List.nil_append]
      have hdd : ∀ c ∈ (decB e.n).toList, c ≠ 32 := by
        intro c hc
        obtain ⟨m, hm⟩ : ∃ m : Nat, e.n = m := ⟨e.n.toNat, by omega⟩
        rw [hm] at hc
        exact (clean_dig (decB_val m (by omega)).1 c hc).1
      rw [splitF_none 32 _ [] hdd, List.nil_append]
      simp only [hlast, if_true, hdrop, hnow, mkB_of, Bool.true_and, numS_dec e.n c2 (by omega), ne_eq, hne, not_false_eq_true, decide_true, hn, h]
    · rw [if_neg hn, List.append_nil, splitF_none 32 _ [] (fun c hc => (d1 c hc).1), List.nil_append]
      have h0 : e.n = 0 := by omega
      simp only [hlast, if_true, hdrop, hnow, mkB_of, Bool.true_and, ne_eq, hne, not_false_eq_true, decide_true]
      have : (⟨e.now, e.what, e.name, 0⟩ : EvT) = e := by cases e; simp_all
      rw [this, h]
end Go.Proofs.Ytngmcigkihfnkaa.H
end
section
namespace Go.Proofs.Ytngmcigkihfnkaa.H
open Go.RowKit Go.Proofs.YtngmcigkihfnkaaW.PrintWords Go.Proofs.YtngmcigkihfnkaaW.PrintLast Go.Proofs.YtngmcigkihfnkaaW.PrintMore
set_option linter.unusedVariables false
set_option linter.unusedSimpArgs false
theorem decB_size (n : Int) : (decB n).size ≤ 20 := by
  unfold decB
  rw [strOfNums_size]
  have := decGo_len 20 n.toNat []
  simpa using this
theorem digits_some (n : Int) (h0 : 0 ≤ n) (h : n ≤ 9000000000000000000) : trace_digits.f n = some (decB n) := by
  unfold trace_digits.f; rw [if_pos (by omega)]
theorem line_f (e : EvT) (h0 : 0 ≤ e.now) (h1 : e.now ≤ 1099511627776) (h2 : e.n ≤ 1099511627776) (hw : e.what.size ≤ 1000000000) (hn : e.name.size ≤ 1000000000) : trace_Event_line.f e.now e.what e.name e.n = some (lineR e) := by
  obtain ⟨now, what, name, n⟩ := e
  simp only at *
  unfold trace_Event_line.f lineR
  have s1 := decB_size now
  have s2 := decB_size n
  have e1 : (⟨#[58, 32]⟩ : ByteArray).size = 2 := rfl
  have e2 : (⟨#[32]⟩ : ByteArray).size = 1 := rfl
  rw [digits_some now h0 (by omega)]
  simp only [Option.bind_some, toList_iff]
  rw [if_pos (by omega), if_pos (by rw [ByteArray.size_append]; omega)]
  by_cases c1 : name = ⟨#[]⟩
  · rw [if_pos c1, if_pos c1]
    by_cases c2 : 0 < n
    · rw [if_pos c2, if_pos c2, digits_some n (by omega) (by omega)]
      simp only [Option.bind_some]
      rw [if_pos (by omega), if_pos (by simp only [ByteArray.size_append]; omega)]
    · rw [if_neg c2, if_neg c2]
  · rw [if_neg c1, if_neg c1, if_pos (by omega), if_pos (by simp only [ByteArray.size_append]; omega)]
    by_cases c2 : 0 < n
    · rw [if_pos c2, if_pos c2, digits_some n (by omega) (by omega)]
      simp only [Option.bind_some]
      rw [if_pos (by omega), if_pos (by simp only [ByteArray.size_append]; omega)]
    · rw [if_neg c2, if_neg c2]
end Go.Proofs.Ytngmcigkihfnkaa.H
end
section
namespace Go.Proofs.Ytngmcigkihfnkaa.H
open Go.RowKit Go.Proofs.YtngmcigkihfnkaaW.PrintWords Go.Proofs.YtngmcigkihfnkaaW.PrintLast Go.Proofs.YtngmcigkihfnkaaW.PrintMore
attribute [local go_sem] max2_int min2_int max_two min_two max_three min_three max_four min_four   -- for this text's walks alone
set_option linter.unusedVariables false
set_option linter.unusedSimpArgs false
attribute [local go_sem high] eqA39
def triremeref32_Same.l0 : Nat → List (S39) → List (S39) → Int → Option (Bool)
  | 0, _, _, _ => none
  | k + 1, x0, x1, x5 => if x5 < (x0.length : Int) then (if 0 ≤ x5 then (if x5 < (x1.length : Int) then (if (!(((rd_T39 x0 x5).f0) == ((rd_T39 x1 x5).f0)) || (!((((rd_T39 x0 x5).f1).toList) == (((rd_T39 x1 x5).f1).toList)) || (!((((rd_T39 x0 x5).f2).toList) == (((rd_T39 x1 x5).f2).toList)) || (!(((rd_T39 x0 x5).f3) == ((rd_T39 x1 x5).f3)))))) = true then (some false) else (triremeref32_Same.l0 k x0 x1 (wrap64 (x5 + 1)))) else (none)) else (none)) else (some true)
def triremeref32_Same.f (k : Nat) (l0 : List (S39)) (l1 : List (S39)) : Option (Bool) := if (l0.length : Int) = (l1.length : Int) then (triremeref32_Same.l0 k l0 l1 0) else (some false)
set_option maxHeartbeats 8000000 in
set_option maxRecDepth 100000 in
theorem triremeref32_Same.calls (k : Nat) (A0 : Option Addr) (c0 : Nat) (l0 : List (S39)) (A1 : Option Addr) (c1 : Nat) (l1 : List (S39)) (r : Bool) (w : World) (hr0 : Kd.C k39 w A0 l0.length l0) (hc0 : l0.length ≤ c0) (hr1 : Kd.C k39 w A1 l1.length l1) (hc1 : l1.length ≤ c1) (h : triremeref32_Same.f k l0 l1 = some r) :
    Calls Try.prog 10 #[.slice A0 l0.length c0, .slice A1 l1.length c1] w fun e w' => e = .returned (.bool r) ∧ Drawn0 w w' := by
  have hu39 := Try.underlying39
  have HR0 := Aside0.mk hr0
  have HC0 := Aside0.mk hc0
  clear hr0 hc0
  have HR1 := Aside0.mk hr1
  have HC1 := Aside0.mk hc1
  clear hr1 hc1
  have H : (if (l0.length : Int) = (l1.length : Int) then (triremeref32_Same.l0 k l0 l1 0) else (some false)) = some r := h
  clear h
  by_cases c3 : (l0.length : Int) = (l1.length : Int)
  · rw [if_pos c3] at H
    have c3b0 : ((l0.length : Int) == (l1.length : Int)) = true := beq_iff_eq.mpr c3
    have c3b1 : ((l0.length : Int) != (l1.length : Int)) = false := bne_eq_false_iff_eq.mpr c3
    have c3b2 : (l0.length == l1.length) = true := by first | simpa using c3 | (simp at c3 ⊢; omega)
    clear c3
    have H' := Aside0.mk H
    clear H
    go_enter Try.func10, Try.ntmps10
    go_wp2
    repeat (go_quiet (fail); try go_wp2)
    go_loopg [5] k (fun kq v5 w' => ∃ (x5_1 : Int), v5 = .int .i64 x5_1 ∧ Aside0 (triremeref32_Same.l0 kq l0 l1 x5_1 = some r) ∧ Aside0 (kq ≤ k) ∧ Drawn0 w w')
    case atStart => exact ⟨(0), (by first | rfl | (simp; done) | (simp [*]; done)), H', ⟨Nat.le_refl _⟩, by repeat (first | exact Drawn0.refl _ | apply Drawn0.step)⟩
    case round =>
      clear H'
      try clear c1
      try clear p2
      try clear c3
      try clear c3b0
      try clear c3b1
      try clear c3b2
      obtain ⟨x5_1, rfl, HA, HK1, ⟨m1, rfl⟩⟩ := hrel
      cases gk with
      | zero => exact absurd HA.out (by simp [triremeref32_Same.l0])
      | succ k1 =>
        have H := HA.out
        clear HA
        simp only [triremeref32_Same.l0] at H
        by_cases c4 : x5_1 < (l0.length : Int)
        · rw [if_pos c4] at H
          have c4b0 : decide (x5_1 < (l0.length : Int)) = true := decide_eq_true c4
          clear c4
          by_cases c5 : 0 ≤ x5_1
          · rw [if_pos c5] at H
            have c5b0 : decide (0 ≤ x5_1) = true := decide_eq_true c5
            clear c5
            by_cases c6 : x5_1 < (l1.length : Int)
            · rw [if_pos c6] at H
              have c6b0 : decide (x5_1 < (l1.length : Int)) = true := decide_eq_true c6
              clear c6
              by_cases c7 : (!(((rd_T39 l0 x5_1).f0) == ((rd_T39 l1 x5_1).f0)) || (!((((rd_T39 l0 x5_1).f1).toList) == (((rd_T39 l1 x5_1).f1).toList)) || (!((((rd_T39 l0 x5_1).f2).toList) == (((rd_T39 l1 x5_1).f2).toList)) || (!(((rd_T39 l0 x5_1).f3) == ((rd_T39 l1 x5_1).f3)))))) = true
              · rw [if_pos c7] at H
                have c7b0 : (!(((rd_T39 l0 x5_1).f0) == ((rd_T39 l1 x5_1).f0)) || (!((((rd_T39 l0 x5_1).f1).toList) == (((rd_T39 l1 x5_1).f1).toList)) || (!((((rd_T39 l0 x5_1).f2).toList) == (((rd_T39 l1 x5_1).f2).toList)) || (!(((rd_T39 l0 x5_1).f3) == ((rd_T39 l1 x5_1).f3)))))) = true := c7
                clear c7
                obtain rfl := Option.some.inj H
                have p284 : 0 ≤ (x5_1 : Int) := of_decide_eq_true (by first | (with_reducible assumption) | assumption)
                have q284 : x5_1 < (l0.length : Int) := of_decide_eq_true (by first | (with_reducible assumption) | assumption)
                obtain ⟨ad284, e284, hx284_0, hx284_1, hx284_2, hx284_3⟩ := at_T39 HR0.out x5_1 p284 q284
                cases e284
                replace p284 := eq_true p284
                replace q284 := eq_true q284
                (try (have qz284 := q284; rw [ByteArray.size_extract, Nat.min_self] at qz284))
                have p285 : 0 ≤ (x5_1 : Int) := of_decide_eq_true (by first | (with_reducible assumption) | assumption)
                have q285 : x5_1 < (l1.length : Int) := of_decide_eq_true (by first | (with_reducible assumption) | assumption)
                obtain ⟨ad285, e285, hx285_0, hx285_1, hx285_2, hx285_3⟩ := at_T39 HR1.out x5_1 p285 q285
                cases e285
                replace p285 := eq_true p285
                replace q285 := eq_true q285
                (try (have qz285 := q285; rw [ByteArray.size_extract, Nat.min_self] at qz285))
                go_wp2
                repeat (go_quiet (fail); try go_wp2)
                go_ret
                exact ⟨by first | rfl | (simp; done) | (simp [*]; done), by repeat (first | exact Drawn0.refl _ | apply Drawn0.step)⟩
              · rw [if_neg c7] at H
                have c7b0 : (!(((rd_T39 l0 x5_1).f0) == ((rd_T39 l1 x5_1).f0)) || (!((((rd_T39 l0 x5_1).f1).toList) == (((rd_T39 l1 x5_1).f1).toList)) || (!((((rd_T39 l0 x5_1).f2).toList) == (((rd_T39 l1 x5_1).f2).toList)) || (!(((rd_T39 l0 x5_1).f3) == ((rd_T39 l1 x5_1).f3)))))) = false := by simpa using c7
                clear c7
                have H' := Aside0.mk H
                clear H
                have p284 : 0 ≤ (x5_1 : Int) := of_decide_eq_true (by first | (with_reducible assumption) | assumption)
                have q284 : x5_1 < (l0.length : Int) := of_decide_eq_true (by first | (with_reducible assumption) | assumption)
                obtain ⟨ad284, e284, hx284_0, hx284_1, hx284_2, hx284_3⟩ := at_T39 HR0.out x5_1 p284 q284
                cases e284
                replace p284 := eq_true p284
                replace q284 := eq_true q284
                (try (have qz284 := q284; rw [ByteArray.size_extract, Nat.min_self] at qz284))
                have p285 : 0 ≤ (x5_1 : Int) := of_decide_eq_true (by first | (with_reducible assumption) | assumption)
                have q285 : x5_1 < (l1.length : Int) := of_decide_eq_true (by first | (with_reducible assumption) | assumption)
                obtain ⟨ad285, e285, hx285_0, hx285_1, hx285_2, hx285_3⟩ := at_T39 HR1.out x5_1 p285 q285
                cases e285
                replace p285 := eq_true p285
                replace q285 := eq_true q285
                (try (have qz285 := q285; rw [ByteArray.size_extract, Nat.min_self] at qz285))
                go_wp2
                repeat (go_quiet (fail); try go_wp2)
                go_roundg k1
                case measure => have := HK1.out; omega
                case rel => exact ⟨(wrap64 (x5_1 + 1)), (by first | rfl | (simp; done) | (simp [*]; done)), H', ⟨by have := HK1.out; omega⟩, by repeat (first | exact Drawn0.refl _ | apply Drawn0.step)⟩
            · rw [if_neg c6] at H
              exact absurd H (by simp)
          · rw [if_neg c5] at H
            exact absurd H (by simp)
        · rw [if_neg c4] at H
          have c4b0 : decide (x5_1 < (l0.length : Int)) = false := decide_eq_false c4
          clear c4
          obtain rfl := Option.some.inj H
          go_wp2
          repeat (go_quiet (fail); try go_wp2)
          go_ret
          exact ⟨by first | rfl | (simp; done) | (simp [*]; done), by repeat (first | exact Drawn0.refl _ | apply Drawn0.step)⟩
  · rw [if_neg c3] at H
    have c3b0 : ((l0.length : Int) == (l1.length : Int)) = false := beq_eq_false_iff_ne.mpr c3
    have c3b1 : ((l0.length : Int) != (l1.length : Int)) = true := bne_iff_ne.mpr c3
    have c3b2 : (l0.length == l1.length) = false := by first | simpa using c3 | (simp at c3 ⊢; omega)
    obtain rfl := Option.some.inj H
    go_enter Try.func10, Try.ntmps10
    go_wp2
    repeat (go_quiet (fail); try go_wp2)
    go_ret
    exact ⟨by first | rfl | (simp; done) | (simp [*]; done), by repeat (first | exact Drawn0.refl _ | apply Drawn0.step)⟩
end Go.Proofs.Ytngmcigkihfnkaa.H
end
section
namespace Go.Proofs.Ytngmcigkihfnkaa.H
open Go.RowKit Go.Proofs.YtngmcigkihfnkaaW.PrintWords Go.Proofs.YtngmcigkihfnkaaW.PrintLast Go.Proofs.YtngmcigkihfnkaaW.PrintMore
attribute [local go_sem] max2_int min2_int max_two min_two max_three min_three max_four min_four   -- for this text's walks alone
set_option linter.unusedVariables false
set_option linter.unusedSimpArgs false
def triremelaw32_taken.l0 : Nat → List (S37) → List (S39) → Int → Option ((List (S39)))
  | 0, _, _, _ => none
  | k + 1, x0, x3, x4 => if x4 < (x0.length : Int) then (if 0 ≤ x4 then (if x3.length < 2932031007402 then (triremelaw32_taken.l0 k x0 (x3 ++ [(⟨(rd_T37 x0 x4).f0, (rd_T37 x0 x4).f1, (rd_T37 x0 x4).f2, (rd_T37 x0 x4).f3⟩ : S39)]) (wrap64 (x4 + 1))) else (none)) else (none)) else (some x3)
def triremelaw32_taken.f (k : Nat) (l0 : List (S37)) : Option ((List (S39))) := triremelaw32_taken.l0 k l0 ([] : List (S39)) 0
def triremelaw32_taken.T5 : Bool × List (List Nat × List Nat) := (true, [([], []), ([], []), ([], []), ([1, 2], [1, 2]), ([3], [3]), ([4], [4]), ([], []), ([], []), ([6, 7], [6, 7]), ([8], [8]), ([9], [9]), ([], []), ([], []), ([11, 12], [11, 12]), ([13], [13]), ([14], [14]), ([], []), ([], []), ([16, 17], [16, 17]), ([18], [18]), ([19], [19]), ([5, 10, 15, 20], [5, 10, 15, 20]), ([21], [21]), ([0, 22], [0, 22]), ([23, 23, 0, 1, 2, 3, 4, 5, 6, 7, 8, 9, 10, 11, 12, 13, 14, 15, 16, 17, 18, 19, 20, 21, 22, 23], [0, 23])])
def triremelaw32_taken.B5 : List Nat := [0, 0, 0, 6, 14, 30, 0, 0, 192, 448, 960, 0, 0, 6144, 14336, 30720, 0, 0, 196608, 458752, 983040, 2097150, 4194302, 8388607, 16777215]
theorem triremelaw32_taken.tab5 : rtab .any (opsOf Try.f11 5) = triremelaw32_taken.T5 := by kernel_rfl
theorem triremelaw32_taken.bits5 : waitsOk triremelaw32_taken.T5.2 triremelaw32_taken.B5 = true := by kernel_rfl
set_option maxHeartbeats 8000000 in
set_option maxRecDepth 100000 in
theorem triremelaw32_taken.calls (k : Nat) (A0 : Option Addr) (c0 : Nat) (l0 : List (S37)) (r : List (S39)) (w : World) (hr0 : Kd.C k37 w A0 l0.length l0) (hc0 : l0.length ≤ c0) (h : triremelaw32_taken.f k l0 = some r) :
    Calls Try.prog 11 #[.slice A0 l0.length c0] w fun e w' => ∃ v0_ : Value, e = .returned (v0_) ∧ Kd.R k39 39 w' w.heap.size (fun _ => True) v0_ r ∧ Below w.heap.size w w' := by
  have hu39 := Try.underlying39
  have HR0 := Aside0.mk hr0
  have HC0 := Aside0.mk hc0
  clear hr0 hc0
  have HB := Aside0.mk (Below.refl w.heap.size w)
  have H : (triremelaw32_taken.l0 k l0 ([] : List (S39)) 0) = some r := h
  clear h
  have H' := Aside0.mk H
  clear H
  go_enter Try.func11, Try.ntmps11
  go_wp2
  go_loopg [3, 4] k (fun kq v3 v4 w' => ∃ (x3_1 : List (S39)) (x4_1 : Int), v4 = .int .i64 x4_1 ∧ Aside0 (triremelaw32_taken.l0 kq l0 x3_1 x4_1 = some r) ∧ Aside0 (kq ≤ k) ∧ Aside0 (Kd.R k39 39 w' w.heap.size (fun _ => True) v3 x3_1) ∧ Aside0 (Below w.heap.size w w'))
  case atStart => exact ⟨(([] : List (S39))), (0), (by first | rfl | (simp; done) | (simp [*]; done)), H', ⟨Nat.le_refl _⟩, ⟨by first | exact Kd.R_nil _ _ _ _ _ | exact Kd.N_nil _ _ _ _ _ | exact Kd.V_nil _ _ _ _ _ | exact Kd.Q_nil _ _ _ _ _ | exact Kd.S_nil _ _ _ _ _⟩, ⟨by repeat (first | (with_reducible first | exact HB.out | apply below_alloc | apply pw_below_drewN | apply below_drew1) | exact HB.out)⟩⟩
  case round =>
    clear H'
    try clear c1
    obtain ⟨x3_1, x4_1, rfl, HA, HK1, HO_3, HB⟩ := hrel
    cases gk with
    | zero => exact absurd HA.out (by simp [triremelaw32_taken.l0])
    | succ k1 =>
      have H := HA.out
      clear HA
      simp only [triremelaw32_taken.l0] at H
      by_cases c2 : x4_1 < (l0.length : Int)
      · rw [if_pos c2] at H
        have c2b0 : decide (x4_1 < (l0.length : Int)) = true := decide_eq_true c2
        clear c2
        by_cases c3 : 0 ≤ x4_1
        · rw [if_pos c3] at H
          have c3b0 : decide (0 ≤ x4_1) = true := decide_eq_true c3
          clear c3
          by_cases c4 : x3_1.length < 2932031007402
          · rw [if_pos c4] at H
            have LMc4 := Aside0.mk c4
            clear c4
            obtain ⟨y290, hy290⟩ : ∃ y_ : List (S39), y_ = (x3_1 ++ [(⟨(rd_T37 l0 x4_1).f0, (rd_T37 l0 x4_1).f1, (rd_T37 l0 x4_1).f2, (rd_T37 l0 x4_1).f3⟩ : S39)]) := ⟨_, rfl⟩
            replace H : (triremelaw32_taken.l0 k1 l0 y290 (wrap64 (x4_1 + 1))) = some r := by first | (rw [hy290]; with_reducible exact H) | (have H2_ := (Option.bind_some _ _).symm.trans H; rw [hy290]; with_reducible exact H2_) | (have H2_ := (Option.bind_some _ _).symm.trans H; with_reducible exact H2_) | with_reducible exact H | (rw [hy290]; exact H) | exact H
            have Ny290 := Aside0.mk hy290
            clear hy290
            have H' := Aside0.mk H
            clear H
            try go_wp2
            have n0_ := Aside0.mk (Kd.R_drew HO_3.out)
            have n1_ := Aside0.mk (below_drew1 HB.out)
            clear HO_3
            clear HB
            have HO_3 := n0_
            have HB := n1_
            clear n0_ n1_
            have p286 : 0 ≤ (x4_1 : Int) := of_decide_eq_true (by first | (with_reducible assumption) | assumption)
            have q286 : x4_1 < (l0.length : Int) := of_decide_eq_true (by first | (with_reducible assumption) | assumption)
            obtain ⟨ad286, e286, hx286_0, hx286_1, hx286_2, hx286_3⟩ := at_T37 HR0.out x4_1 p286 q286
            have hw286_3 := hx286_3
            have hw286_2 := hx286_2
            have hw286_1 := hx286_1
            have hw286_0 := hx286_0
            cases e286
            replace hx286_0 := (HB.out.cell (World.block_lt_of_cell? w _ hx286_0)).trans hx286_0
            replace hx286_1 := (HB.out.cell (World.block_lt_of_cell? w _ hx286_1)).trans hx286_1
            replace hx286_2 := (HB.out.cell (World.block_lt_of_cell? w _ hx286_2)).trans hx286_2
            replace hx286_3 := (HB.out.cell (World.block_lt_of_cell? w _ hx286_3)).trans hx286_3
            replace p286 := eq_true p286
            replace q286 := eq_true q286
            (try (have qz286 := q286; rw [ByteArray.size_extract, Nat.min_self] at qz286))
            have p287 : 0 ≤ (x4_1 : Int) := of_decide_eq_true (by first | (with_reducible assumption) | assumption)
            have q287 : x4_1 < (l0.length : Int) := of_decide_eq_true (by first | (with_reducible assumption) | assumption)
            obtain ⟨ad287, e287, hx287_0, hx287_1, hx287_2, hx287_3⟩ := at_T37 HR0.out x4_1 p287 q287
            have hw287_3 := hx287_3
            have hw287_2 := hx287_2
            have hw287_1 := hx287_1
            have hw287_0 := hx287_0
            obtain rfl : ad286 = ad287 := (by injection e287)
            replace hx287_0 := (HB.out.cell (World.block_lt_of_cell? w _ hx287_0)).trans hx287_0
            replace hx287_1 := (HB.out.cell (World.block_lt_of_cell? w _ hx287_1)).trans hx287_1
            replace hx287_2 := (HB.out.cell (World.block_lt_of_cell? w _ hx287_2)).trans hx287_2
            replace hx287_3 := (HB.out.cell (World.block_lt_of_cell? w _ hx287_3)).trans hx287_3
            replace p287 := eq_true p287
            replace q287 := eq_true q287
            (try (have qz287 := q287; rw [ByteArray.size_extract, Nat.min_self] at qz287))
            have p288 : 0 ≤ (x4_1 : Int) := of_decide_eq_true (by first | (with_reducible assumption) | assumption)
            have q288 : x4_1 < (l0.length : Int) := of_decide_eq_true (by first | (with_reducible assumption) | assumption)
            obtain ⟨ad288, e288, hx288_0, hx288_1, hx288_2, hx288_3⟩ := at_T37 HR0.out x4_1 p288 q288
            have hw288_3 := hx288_3
            have hw288_2 := hx288_2
            have hw288_1 := hx288_1
            have hw288_0 := hx288_0
            obtain rfl : ad286 = ad288 := (by injection e288)
            replace hx288_0 := (HB.out.cell (World.block_lt_of_cell? w _ hx288_0)).trans hx288_0
            replace hx288_1 := (HB.out.cell (World.block_lt_of_cell? w _ hx288_1)).trans hx288_1
            replace hx288_2 := (HB.out.cell (World.block_lt_of_cell? w _ hx288_2)).trans hx288_2
            replace hx288_3 := (HB.out.cell (World.block_lt_of_cell? w _ hx288_3)).trans hx288_3
            replace p288 := eq_true p288
            replace q288 := eq_true q288
            (try (have qz288 := q288; rw [ByteArray.size_extract, Nat.min_self] at qz288))
            have p289 : 0 ≤ (x4_1 : Int) := of_decide_eq_true (by first | (with_reducible assumption) | assumption)
            have q289 : x4_1 < (l0.length : Int) := of_decide_eq_true (by first | (with_reducible assumption) | assumption)
            obtain ⟨ad289, e289, hx289_0, hx289_1, hx289_2, hx289_3⟩ := at_T37 HR0.out x4_1 p289 q289
            have hw289_3 := hx289_3
            have hw289_2 := hx289_2
            have hw289_1 := hx289_1
            have hw289_0 := hx289_0
            obtain rfl : ad286 = ad289 := (by injection e289)
            replace hx289_0 := (HB.out.cell (World.block_lt_of_cell? w _ hx289_0)).trans hx289_0
            replace hx289_1 := (HB.out.cell (World.block_lt_of_cell? w _ hx289_1)).trans hx289_1
            replace hx289_2 := (HB.out.cell (World.block_lt_of_cell? w _ hx289_2)).trans hx289_2
            replace hx289_3 := (HB.out.cell (World.block_lt_of_cell? w _ hx289_3)).trans hx289_3
            replace p289 := eq_true p289
            replace q289 := eq_true q289
            (try (have qz289 := q289; rw [ByteArray.size_extract, Nat.min_self] at qz289))
            refine start_ (n := 25) (S := fun w' => w'.cell? (ad286.add ((x4_1).toNat * 4)) = some (.int .i64 ((rd_T37 l0 x4_1).f0)) ∧ w'.cell? ⟨(ad286.add ((x4_1).toNat * 4)).block, (ad286.add ((x4_1).toNat * 4)).off + 1, none⟩ = some (.string ((rd_T37 l0 x4_1).f1)) ∧ w'.cell? ⟨(ad286.add ((x4_1).toNat * 4)).block, (ad286.add ((x4_1).toNat * 4)).off + 2, none⟩ = some (.string ((rd_T37 l0 x4_1).f2)) ∧ w'.cell? ⟨(ad286.add ((x4_1).toNat * 4)).block, (ad286.add ((x4_1).toNat * 4)).off + 3, none⟩ = some (.int .i64 ((rd_T37 l0 x4_1).f3)) ∧ w'.cell? (ad286.add ((x4_1).toNat * 4)) = some (.int .i64 ((rd_T37 l0 x4_1).f0)) ∧ w'.cell? ⟨(ad286.add ((x4_1).toNat * 4)).block, (ad286.add ((x4_1).toNat * 4)).off + 1, none⟩ = some (.string ((rd_T37 l0 x4_1).f1)) ∧ w'.cell? ⟨(ad286.add ((x4_1).toNat * 4)).block, (ad286.add ((x4_1).toNat * 4)).off + 2, none⟩ = some (.string ((rd_T37 l0 x4_1).f2)) ∧ w'.cell? ⟨(ad286.add ((x4_1).toNat * 4)).block, (ad286.add ((x4_1).toNat * 4)).off + 3, none⟩ = some (.int .i64 ((rd_T37 l0 x4_1).f3)) ∧ w'.cell? (ad286.add ((x4_1).toNat * 4)) = some (.int .i64 ((rd_T37 l0 x4_1).f0)) ∧ w'.cell? ⟨(ad286.add ((x4_1).toNat * 4)).block, (ad286.add ((x4_1).toNat * 4)).off + 1, none⟩ = some (.string ((rd_T37 l0 x4_1).f1)) ∧ w'.cell? ⟨(ad286.add ((x4_1).toNat * 4)).block, (ad286.add ((x4_1).toNat * 4)).off + 2, none⟩ = some (.string ((rd_T37 l0 x4_1).f2)) ∧ w'.cell? ⟨(ad286.add ((x4_1).toNat * 4)).block, (ad286.add ((x4_1).toNat * 4)).off + 3, none⟩ = some (.int .i64 ((rd_T37 l0 x4_1).f3)) ∧ w'.cell? (ad286.add ((x4_1).toNat * 4)) = some (.int .i64 ((rd_T37 l0 x4_1).f0)) ∧ w'.cell? ⟨(ad286.add ((x4_1).toNat * 4)).block, (ad286.add ((x4_1).toNat * 4)).off + 1, none⟩ = some (.string ((rd_T37 l0 x4_1).f1)) ∧ w'.cell? ⟨(ad286.add ((x4_1).toNat * 4)).block, (ad286.add ((x4_1).toNat * 4)).off + 2, none⟩ = some (.string ((rd_T37 l0 x4_1).f2)) ∧ w'.cell? ⟨(ad286.add ((x4_1).toNat * 4)).block, (ad286.add ((x4_1).toNat * 4)).off + 3, none⟩ = some (.int .i64 ((rd_T37 l0 x4_1).f3))) (ds := []) #[false, false, false, false, false, false, false, false, false, false, false, false, false, false, false, false, false, false, false, false, false, false, false, false, false] (by kernel_rfl) rfl rfl ⟨((HB.out.cell (World.block_lt_of_cell? w _ hw286_0)).trans hw286_0), ((HB.out.cell (World.block_lt_of_cell? w _ hw286_1)).trans hw286_1), ((HB.out.cell (World.block_lt_of_cell? w _ hw286_2)).trans hw286_2), ((HB.out.cell (World.block_lt_of_cell? w _ hw286_3)).trans hw286_3), ((HB.out.cell (World.block_lt_of_cell? w _ hw287_0)).trans hw287_0), ((HB.out.cell (World.block_lt_of_cell? w _ hw287_1)).trans hw287_1), ((HB.out.cell (World.block_lt_of_cell? w _ hw287_2)).trans hw287_2), ((HB.out.cell (World.block_lt_of_cell? w _ hw287_3)).trans hw287_3), ((HB.out.cell (World.block_lt_of_cell? w _ hw288_0)).trans hw288_0), ((HB.out.cell (World.block_lt_of_cell? w _ hw288_1)).trans hw288_1), ((HB.out.cell (World.block_lt_of_cell? w _ hw288_2)).trans hw288_2), ((HB.out.cell (World.block_lt_of_cell? w _ hw288_3)).trans hw288_3), ((HB.out.cell (World.block_lt_of_cell? w _ hw289_0)).trans hw289_0), ((HB.out.cell (World.block_lt_of_cell? w _ hw289_1)).trans hw289_1), ((HB.out.cell (World.block_lt_of_cell? w _ hw289_2)).trans hw289_2), ((HB.out.cell (World.block_lt_of_cell? w _ hw289_3)).trans hw289_3)⟩ (fun hHeld => ?_); refine with_tabW triremelaw32_taken.tab5 triremelaw32_taken.bits5 (fun HT_ HW_ => ?_)
            generalize wr.drew = w5 at HO_3 HB hx286_0 hx286_1 hx286_2 hx286_3 hx287_0 hx287_1 hx287_2 hx287_3 hx288_0 hx288_1 hx288_2 hx288_3 hx289_0 hx289_1 hx289_2 hx289_3 hHeld ⊢
            refine pure_ (i := 0) (N := some 11) (v := ?_) (a' := ?_) #[true, false, false, false, false, false, false, false, false, false, false, false, false, false, false, false, false, false, false, false, false, false, false, false, false] rfl rfl (any_of HT_.out (by kernel_rfl)) (fun _ _ _ h => h) (Or.inl ⟨by rfl, ?_⟩) ?_ ?_
            rotate_left
            · intro w'; go_simp; with_reducible rfl
            rotate_left
            · simp only [Act.put, List.setIfInBounds_toArray, List.set_cons_zero, List.set_cons_succ, i64_w, i32_w]; rfl
            refine pure_ (i := 1) (N := some 12) (v := ?_) (a' := ?_) #[true, true, false, false, false, false, false, false, false, false, false, false, false, false, false, false, false, false, false, false, false, false, false, false, false] rfl rfl (any_of HT_.out (by kernel_rfl)) (fun _ _ _ h => h) (Or.inl ⟨by rfl, ?_⟩) ?_ ?_
            rotate_left
            · intro w'; go_simp; with_reducible rfl
            rotate_left
            · simp only [Act.put, List.setIfInBounds_toArray, List.set_cons_zero, List.set_cons_succ, i64_w, i32_w]; rfl
            refine pure_ (i := 2) (N := some 13) (v := ?_) (a' := ?_) #[true, true, true, false, false, false, false, false, false, false, false, false, false, false, false, false, false, false, false, false, false, false, false, false, false] rfl rfl (any_of HT_.out (by kernel_rfl)) (fun _ _ _ h => h) (Or.inl ⟨by rfl, ?_⟩) ?_ ?_
            rotate_left
            · intro w'; go_simp; with_reducible rfl
            rotate_left
            · simp only [Act.put, List.setIfInBounds_toArray, List.set_cons_zero, List.set_cons_succ, i64_w, i32_w]; rfl
            refine pure_ (i := 3) (N := some 14) (v := ?_) (a' := ?_) #[true, true, true, true, false, false, false, false, false, false, false, false, false, false, false, false, false, false, false, false, false, false, false, false, false] rfl rfl (any_of HT_.out (by kernel_rfl)) (fun _ _ _ h => h) (Or.inl ⟨by rfl, ?_⟩) ?_ ?_
            rotate_left
            · intro w'; go_simp; with_reducible rfl
            rotate_left
            · simp only [Act.put, List.setIfInBounds_toArray, List.set_cons_zero, List.set_cons_succ, i64_w, i32_w]; rfl
            refine pure_ (i := 4) (N := some 15) (v := ?_) (a' := ?_) #[true, true, true, true, true, false, false, false, false, false, false, false, false, false, false, false, false, false, false, false, false, false, false, false, false] rfl rfl (any_of HT_.out (by kernel_rfl)) (fun _ _ _ h => h) (Or.inl ⟨by rfl, ?_⟩) ?_ ?_
            rotate_left
            · intro w'; go_simp; with_reducible rfl
            rotate_left
            · simp only [Act.put, List.setIfInBounds_toArray, List.set_cons_zero, List.set_cons_succ, i64_w, i32_w]; rfl
            refine pure_ (i := 6) (N := some 17) (v := ?_) (a' := ?_) #[true, true, true, true, true, false, true, false, false, false, false, false, false, false, false, false, false, false, false, false, false, false, false, false, false] rfl rfl (any_of HT_.out (by kernel_rfl)) (fun _ _ _ h => h) (Or.inl ⟨by rfl, ?_⟩) ?_ ?_
            rotate_left
            · intro w'; go_simp; with_reducible rfl
            rotate_left
            · simp only [Act.put, List.setIfInBounds_toArray, List.set_cons_zero, List.set_cons_succ, i64_w, i32_w]; rfl
            refine pure_ (i := 7) (N := some 18) (v := ?_) (a' := ?_) #[true, true, true, true, true, false, true, true, false, false, false, false, false, false, false, false, false, false, false, false, false, false, false, false, false] rfl rfl (any_of HT_.out (by kernel_rfl)) (fun _ _ _ h => h) (Or.inl ⟨by rfl, ?_⟩) ?_ ?_
            rotate_left
            · intro w'; go_simp; with_reducible rfl
            rotate_left
            · simp only [Act.put, List.setIfInBounds_toArray, List.set_cons_zero, List.set_cons_succ, i64_w, i32_w]; rfl
            refine pure_ (i := 8) (N := some 19) (v := ?_) (a' := ?_) #[true, true, true, true, true, false, true, true, true, false, false, false, false, false, false, false, false, false, false, false, false, false, false, false, false] rfl rfl (any_of HT_.out (by kernel_rfl)) (fun _ _ _ h => h) (Or.inl ⟨by rfl, ?_⟩) ?_ ?_
            rotate_left
            · intro w'; go_simp; with_reducible rfl
            rotate_left
            · simp only [Act.put, List.setIfInBounds_toArray, List.set_cons_zero, List.set_cons_succ, i64_w, i32_w]; rfl
            refine pure_ (i := 9) (N := some 20) (v := ?_) (a' := ?_) #[true, true, true, true, true, false, true, true, true, true, false, false, false, false, false, false, false, false, false, false, false, false, false, false, false] rfl rfl (any_of HT_.out (by kernel_rfl)) (fun _ _ _ h => h) (Or.inl ⟨by rfl, ?_⟩) ?_ ?_
            rotate_left
            · intro w'; go_simp; with_reducible rfl
            rotate_left
            · simp only [Act.put, List.setIfInBounds_toArray, List.set_cons_zero, List.set_cons_succ, i64_w, i32_w]; rfl
            refine pure_ (i := 11) (N := some 22) (v := ?_) (a' := ?_) #[true, true, true, true, true, false, true, true, true, true, false, true, false, false, false, false, false, false, false, false, false, false, false, false, false] rfl rfl (any_of HT_.out (by kernel_rfl)) (fun _ _ _ h => h) (Or.inl ⟨by rfl, ?_⟩) ?_ ?_
            rotate_left
            · intro w'; go_simp; with_reducible rfl
            rotate_left
            · simp only [Act.put, List.setIfInBounds_toArray, List.set_cons_zero, List.set_cons_succ, i64_w, i32_w]; rfl
            refine pure_ (i := 12) (N := some 23) (v := ?_) (a' := ?_) #[true, true, true, true, true, false, true, true, true, true, false, true, true, false, false, false, false, false, false, false, false, false, false, false, false] rfl rfl (any_of HT_.out (by kernel_rfl)) (fun _ _ _ h => h) (Or.inl ⟨by rfl, ?_⟩) ?_ ?_
            rotate_left
            · intro w'; go_simp; with_reducible rfl
            rotate_left
            · simp only [Act.put, List.setIfInBounds_toArray, List.set_cons_zero, List.set_cons_succ, i64_w, i32_w]; rfl
            refine pure_ (i := 13) (N := some 24) (v := ?_) (a' := ?_) #[true, true, true, true, true, false, true, true, true, true, false, true, true, true, false, false, false, false, false, false, false, false, false, false, false] rfl rfl (any_of HT_.out (by kernel_rfl)) (fun _ _ _ h => h) (Or.inl ⟨by rfl, ?_⟩) ?_ ?_
            rotate_left
            · intro w'; go_simp; with_reducible rfl
            rotate_left
            · simp only [Act.put, List.setIfInBounds_toArray, List.set_cons_zero, List.set_cons_succ, i64_w, i32_w]; rfl
            refine pure_ (i := 14) (N := some 25) (v := ?_) (a' := ?_) #[true, true, true, true, true, false, true, true, true, true, false, true, true, true, true, false, false, false, false, false, false, false, false, false, false] rfl rfl (any_of HT_.out (by kernel_rfl)) (fun _ _ _ h => h) (Or.inl ⟨by rfl, ?_⟩) ?_ ?_
            rotate_left
            · intro w'; go_simp; with_reducible rfl
            rotate_left
            · simp only [Act.put, List.setIfInBounds_toArray, List.set_cons_zero, List.set_cons_succ, i64_w, i32_w]; rfl
            refine pure_ (i := 16) (N := some 27) (v := ?_) (a' := ?_) #[true, true, true, true, true, false, true, true, true, true, false, true, true, true, true, false, true, false, false, false, false, false, false, false, false] rfl rfl (any_of HT_.out (by kernel_rfl)) (fun _ _ _ h => h) (Or.inl ⟨by rfl, ?_⟩) ?_ ?_
            rotate_left
            · intro w'; go_simp; with_reducible rfl
            rotate_left
            · simp only [Act.put, List.setIfInBounds_toArray, List.set_cons_zero, List.set_cons_succ, i64_w, i32_w]; rfl
            refine pure_ (i := 17) (N := some 28) (v := ?_) (a' := ?_) #[true, true, true, true, true, false, true, true, true, true, false, true, true, true, true, false, true, true, false, false, false, false, false, false, false] rfl rfl (any_of HT_.out (by kernel_rfl)) (fun _ _ _ h => h) (Or.inl ⟨by rfl, ?_⟩) ?_ ?_
            rotate_left
            · intro w'; go_simp; with_reducible rfl
            rotate_left
            · simp only [Act.put, List.setIfInBounds_toArray, List.set_cons_zero, List.set_cons_succ, i64_w, i32_w]; rfl
            refine pure_ (i := 18) (N := some 29) (v := ?_) (a' := ?_) #[true, true, true, true, true, false, true, true, true, true, false, true, true, true, true, false, true, true, true, false, false, false, false, false, false] rfl rfl (any_of HT_.out (by kernel_rfl)) (fun _ _ _ h => h) (Or.inl ⟨by rfl, ?_⟩) ?_ ?_
            rotate_left
            · intro w'; go_simp; with_reducible rfl
            rotate_left
            · simp only [Act.put, List.setIfInBounds_toArray, List.set_cons_zero, List.set_cons_succ, i64_w, i32_w]; rfl
            refine pure_ (i := 19) (N := some 30) (v := ?_) (a' := ?_) #[true, true, true, true, true, false, true, true, true, true, false, true, true, true, true, false, true, true, true, true, false, false, false, false, false] rfl rfl (any_of HT_.out (by kernel_rfl)) (fun _ _ _ h => h) (Or.inl ⟨by rfl, ?_⟩) ?_ ?_
            rotate_left
            · intro w'; go_simp; with_reducible rfl
            rotate_left
            · simp only [Act.put, List.setIfInBounds_toArray, List.set_cons_zero, List.set_cons_succ, i64_w, i32_w]; rfl
            refine take_ (i := 5) (N := some 16) (v := ?_) (a' := ?_) #[true, true, true, true, true, true, true, true, true, true, false, true, true, true, true, false, true, true, true, true, false, false, false, false, false] rfl rfl (take_ofW HT_.out HW_.out (by kernel_rfl)) (fun _ _ _ h => h) (Or.inl ⟨by rfl, ?_⟩) hHeld ?_ ?_
            rotate_left
            · rintro w' ⟨s0, s1, s2, s3, s4, s5, s6, s7, s8, s9, s10, s11, s12, s13, s14, s15⟩; go_simp; with_reducible rfl
            rotate_left
            · simp only [Act.put, List.setIfInBounds_toArray, List.set_cons_zero, List.set_cons_succ, i64_w, i32_w]; rfl
            refine take_ (i := 10) (N := some 21) (v := ?_) (a' := ?_) #[true, true, true, true, true, true, true, true, true, true, true, true, true, true, true, false, true, true, true, true, false, false, false, false, false] rfl rfl (take_ofW HT_.out HW_.out (by kernel_rfl)) (fun _ _ _ h => h) (Or.inl ⟨by rfl, ?_⟩) hHeld ?_ ?_
            rotate_left
            · rintro w' ⟨s0, s1, s2, s3, s4, s5, s6, s7, s8, s9, s10, s11, s12, s13, s14, s15⟩; go_simp; with_reducible rfl
            rotate_left
            · simp only [Act.put, List.setIfInBounds_toArray, List.set_cons_zero, List.set_cons_succ, i64_w, i32_w]; rfl
            refine take_ (i := 15) (N := some 26) (v := ?_) (a' := ?_) #[true, true, true, true, true, true, true, true, true, true, true, true, true, true, true, true, true, true, true, true, false, false, false, false, false] rfl rfl (take_ofW HT_.out HW_.out (by kernel_rfl)) (fun _ _ _ h => h) (Or.inl ⟨by rfl, ?_⟩) hHeld ?_ ?_
            rotate_left
            · rintro w' ⟨s0, s1, s2, s3, s4, s5, s6, s7, s8, s9, s10, s11, s12, s13, s14, s15⟩; go_simp; with_reducible rfl
            rotate_left
            · simp only [Act.put, List.setIfInBounds_toArray, List.set_cons_zero, List.set_cons_succ, i64_w, i32_w]; rfl
            refine take_ (i := 20) (N := some 31) (v := ?_) (a' := ?_) #[true, true, true, true, true, true, true, true, true, true, true, true, true, true, true, true, true, true, true, true, true, false, false, false, false] rfl rfl (take_ofW HT_.out HW_.out (by kernel_rfl)) (fun _ _ _ h => h) (Or.inl ⟨by rfl, ?_⟩) hHeld ?_ ?_
            rotate_left
            · rintro w' ⟨s0, s1, s2, s3, s4, s5, s6, s7, s8, s9, s10, s11, s12, s13, s14, s15⟩; go_simp; with_reducible rfl
            rotate_left
            · simp only [Act.put, List.setIfInBounds_toArray, List.set_cons_zero, List.set_cons_succ, i64_w, i32_w]; rfl
            refine pure_ (i := 21) (N := some 32) (v := ?_) (a' := ?_) #[true, true, true, true, true, true, true, true, true, true, true, true, true, true, true, true, true, true, true, true, true, true, false, false, false] rfl rfl (any_of HT_.out (by kernel_rfl)) (fun _ _ _ h => h) (Or.inl ⟨by rfl, ?_⟩) ?_ ?_
            rotate_left
            · intro w'; go_simp; with_reducible rfl
            rotate_left
            · simp only [Act.put, List.setIfInBounds_toArray, List.set_cons_zero, List.set_cons_succ, i64_w, i32_w]; rfl
            refine one_ (i := 22) (N := some 33) #[true, true, true, true, true, true, true, true, true, true, true, true, true, true, true, true, true, true, true, true, true, true, true, false, false] rfl rfl (one_of HT_.out (by kernel_rfl)) (by decide) (fun K hK => ?_)
            refine value_ (w1 := ?_) (v := ?_) (by rfl) rfl ?_ ?_
            rotate_left 2
            · go_simp
              constructor
              · rfl
              · rfl
            refine hK.out _ _ ⟨(World.cell?_alloc_lt _ _ _ (World.block_lt_of_cell? _ _ (((HB.out.cell (World.block_lt_of_cell? w _ hw286_0)).trans hw286_0)))).trans (((HB.out.cell (World.block_lt_of_cell? w _ hw286_0)).trans hw286_0)), (World.cell?_alloc_lt _ _ _ (World.block_lt_of_cell? _ _ (((HB.out.cell (World.block_lt_of_cell? w _ hw286_1)).trans hw286_1)))).trans (((HB.out.cell (World.block_lt_of_cell? w _ hw286_1)).trans hw286_1)), (World.cell?_alloc_lt _ _ _ (World.block_lt_of_cell? _ _ (((HB.out.cell (World.block_lt_of_cell? w _ hw286_2)).trans hw286_2)))).trans (((HB.out.cell (World.block_lt_of_cell? w _ hw286_2)).trans hw286_2)), (World.cell?_alloc_lt _ _ _ (World.block_lt_of_cell? _ _ (((HB.out.cell (World.block_lt_of_cell? w _ hw286_3)).trans hw286_3)))).trans (((HB.out.cell (World.block_lt_of_cell? w _ hw286_3)).trans hw286_3)), (World.cell?_alloc_lt _ _ _ (World.block_lt_of_cell? _ _ (((HB.out.cell (World.block_lt_of_cell? w _ hw287_0)).trans hw287_0)))).trans (((HB.out.cell (World.block_lt_of_cell? w _ hw287_0)).trans hw287_0)), (World.cell?_alloc_lt _ _ _ (World.block_lt_of_cell? _ _ (((HB.out.cell (World.block_lt_of_cell? w _ hw287_1)).trans hw287_1)))).trans (((HB.out.cell (World.block_lt_of_cell? w _ hw287_1)).trans hw287_1)), (World.cell?_alloc_lt _ _ _ (World.block_lt_of_cell? _ _ (((HB.out.cell (World.block_lt_of_cell? w _ hw287_2)).trans hw287_2)))).trans (((HB.out.cell (World.block_lt_of_cell? w _ hw287_2)).trans hw287_2)), (World.cell?_alloc_lt _ _ _ (World.block_lt_of_cell? _ _ (((HB.out.cell (World.block_lt_of_cell? w _ hw287_3)).trans hw287_3)))).trans (((HB.out.cell (World.block_lt_of_cell? w _ hw287_3)).trans hw287_3)), (World.cell?_alloc_lt _ _ _ (World.block_lt_of_cell? _ _ (((HB.out.cell (World.block_lt_of_cell? w _ hw288_0)).trans hw288_0)))).trans (((HB.out.cell (World.block_lt_of_cell? w _ hw288_0)).trans hw288_0)), (World.cell?_alloc_lt _ _ _ (World.block_lt_of_cell? _ _ (((HB.out.cell (World.block_lt_of_cell? w _ hw288_1)).trans hw288_1)))).trans (((HB.out.cell (World.block_lt_of_cell? w _ hw288_1)).trans hw288_1)), (World.cell?_alloc_lt _ _ _ (World.block_lt_of_cell? _ _ (((HB.out.cell (World.block_lt_of_cell? w _ hw288_2)).trans hw288_2)))).trans (((HB.out.cell (World.block_lt_of_cell? w _ hw288_2)).trans hw288_2)), (World.cell?_alloc_lt _ _ _ (World.block_lt_of_cell? _ _ (((HB.out.cell (World.block_lt_of_cell? w _ hw288_3)).trans hw288_3)))).trans (((HB.out.cell (World.block_lt_of_cell? w _ hw288_3)).trans hw288_3)), (World.cell?_alloc_lt _ _ _ (World.block_lt_of_cell? _ _ (((HB.out.cell (World.block_lt_of_cell? w _ hw289_0)).trans hw289_0)))).trans (((HB.out.cell (World.block_lt_of_cell? w _ hw289_0)).trans hw289_0)), (World.cell?_alloc_lt _ _ _ (World.block_lt_of_cell? _ _ (((HB.out.cell (World.block_lt_of_cell? w _ hw289_1)).trans hw289_1)))).trans (((HB.out.cell (World.block_lt_of_cell? w _ hw289_1)).trans hw289_1)), (World.cell?_alloc_lt _ _ _ (World.block_lt_of_cell? _ _ (((HB.out.cell (World.block_lt_of_cell? w _ hw289_2)).trans hw289_2)))).trans (((HB.out.cell (World.block_lt_of_cell? w _ hw289_2)).trans hw289_2)), (World.cell?_alloc_lt _ _ _ (World.block_lt_of_cell? _ _ (((HB.out.cell (World.block_lt_of_cell? w _ hw289_3)).trans hw289_3)))).trans (((HB.out.cell (World.block_lt_of_cell? w _ hw289_3)).trans hw289_3))⟩ (fun hHeld => ?_)
            clear hK K
            refine norm_ (a' := ?_) ?_ ?_
            rotate_left
            · show Act.put _ (some 33) _ = _
              simp only [Act.put, List.setIfInBounds_toArray, List.set_cons_zero, List.set_cons_succ, i64_w, i32_w]
              rfl
            refine one_ (i := 23) (N := some 34) #[true, true, true, true, true, true, true, true, true, true, true, true, true, true, true, true, true, true, true, true, true, true, true, true, false] rfl rfl (one_of HT_.out (by kernel_rfl)) (by decide) (fun K hK => ?_)
            refine Kd.R_append_step k39 (w0 := w) w.heap.size (by rfl) (.tmp 11) (.tmp 33) 27 39 (.agg #[(.int .i64 0), (.string ⟨#[]⟩), (.string ⟨#[]⟩), (.int .i64 0)]) 48 rfl Try.underlying27 info39 rfl (by decide) (by omega) u3 x3_1 (⟨(rd_T37 l0 x4_1).f0, (rd_T37 l0 x4_1).f1, (rd_T37 l0 x4_1).f2, (rd_T37 l0 x4_1).f3⟩ : S39) [.int .i64 ((rd_T37 l0 x4_1).f0), .string ((rd_T37 l0 x4_1).f1), .string ((rd_T37 l0 x4_1).f2), .int .i64 ((rd_T37 l0 x4_1).f3)] (fun _ => True) (fun _ => False) rfl rfl ?aP (fun _ hk => hk.elim) ?aF ?aO ?aB ?aS ?aL ?_
            (case aP => exact k39_mkM _ _ _ (⟨(rd_T37 l0 x4_1).f0, (rd_T37 l0 x4_1).f1, (rd_T37 l0 x4_1).f2, (rd_T37 l0 x4_1).f3⟩ : S39))
            (case aB => exact (by repeat (first | (with_reducible first | exact HB.out | apply below_alloc | apply pw_below_drewN | apply below_drew1) | exact HB.out)))
            (case aF => exact (fun _ _ => trivial))
            (case aO => exact (by (with_reducible repeat (first | apply Kd.R_alloc | apply Kd.R_drewN | apply Kd.R_drew)); exact HO_3.out))
            (case aS => exact (below_size (by repeat (first | (with_reducible first | exact HB.out | apply below_alloc | apply pw_below_drewN | apply below_drew1) | exact HB.out))))
            (case aL => have := LMc4.out; omega)
            intro v291 w6 ho hb hg hat
            rw [← Ny290.out] at ho
            have n0_ := Aside0.mk (hb)
            have n1_ := Aside0.mk (ho)
            clear HB
            clear HO_3
            have HB := n0_
            have HO292 := n1_
            clear n0_ n1_
            clear ho hb hg hat
            refine hK.out _ _ ⟨((HB.out.cell (World.block_lt_of_cell? w _ hw286_0)).trans hw286_0), ((HB.out.cell (World.block_lt_of_cell? w _ hw286_1)).trans hw286_1), ((HB.out.cell (World.block_lt_of_cell? w _ hw286_2)).trans hw286_2), ((HB.out.cell (World.block_lt_of_cell? w _ hw286_3)).trans hw286_3), ((HB.out.cell (World.block_lt_of_cell? w _ hw287_0)).trans hw287_0), ((HB.out.cell (World.block_lt_of_cell? w _ hw287_1)).trans hw287_1), ((HB.out.cell (World.block_lt_of_cell? w _ hw287_2)).trans hw287_2), ((HB.out.cell (World.block_lt_of_cell? w _ hw287_3)).trans hw287_3), ((HB.out.cell (World.block_lt_of_cell? w _ hw288_0)).trans hw288_0), ((HB.out.cell (World.block_lt_of_cell? w _ hw288_1)).trans hw288_1), ((HB.out.cell (World.block_lt_of_cell? w _ hw288_2)).trans hw288_2), ((HB.out.cell (World.block_lt_of_cell? w _ hw288_3)).trans hw288_3), ((HB.out.cell (World.block_lt_of_cell? w _ hw289_0)).trans hw289_0), ((HB.out.cell (World.block_lt_of_cell? w _ hw289_1)).trans hw289_1), ((HB.out.cell (World.block_lt_of_cell? w _ hw289_2)).trans hw289_2), ((HB.out.cell (World.block_lt_of_cell? w _ hw289_3)).trans hw289_3)⟩ (fun hHeld => ?_)
            clear hK K
            refine norm_ (a' := ?_) ?_ ?_
            rotate_left
            · show Act.put _ (some 34) _ = _
              simp only [Act.put, List.setIfInBounds_toArray, List.set_cons_zero, List.set_cons_succ, i64_w, i32_w]
              rfl
            refine pure_ (i := 24) (N := some 3) (v := ?_) (a' := ?_) #[true, true, true, true, true, true, true, true, true, true, true, true, true, true, true, true, true, true, true, true, true, true, true, true, true] rfl rfl (any_of HT_.out (by kernel_rfl)) (fun _ _ _ h => h) (Or.inl ⟨by rfl, ?_⟩) ?_ ?_
            rotate_left
            · intro w'; go_simp; with_reducible rfl
            rotate_left
            · simp only [Act.put, List.setIfInBounds_toArray, List.set_cons_zero, List.set_cons_succ, i64_w, i32_w]; rfl
            refine done_ (done_of HT_.out (by kernel_rfl)) ?_
            try go_wp2
            go_roundg k1
            case measure => have := HK1.out; omega
            case rel => exact ⟨(y290), (wrap64 (x4_1 + 1)), (by first | rfl | (simp; done) | (simp [*]; done)), H', ⟨by have := HK1.out; omega⟩, ⟨by (with_reducible repeat (first | apply Kd.R_alloc | apply Kd.R_drewN | apply Kd.R_drew)); exact HO292.out⟩, ⟨by repeat (first | (with_reducible first | exact HB.out | apply below_alloc | apply pw_below_drewN | apply below_drew1) | exact HB.out)⟩⟩
          · rw [if_neg c4] at H
            exact absurd H (by simp)
        · rw [if_neg c3] at H
          exact absurd H (by simp)
      · rw [if_neg c2] at H
        have c2b0 : decide (x4_1 < (l0.length : Int)) = false := decide_eq_false c2
        clear c2
        obtain rfl := Option.some.inj H
        go_wp2
        go_ret
        exact ⟨_, by first | rfl | (simp [errW_none, errW_some] <;> rfl) | (simp [*, errW_none, errW_some] <;> rfl), by (with_reducible repeat (first | apply Kd.R_alloc | apply Kd.R_drewN | apply Kd.R_drew)); exact HO_3.out, by repeat (first | (with_reducible first | exact HB.out | apply below_alloc | apply pw_below_drewN | apply below_drew1) | exact HB.out)⟩
end Go.Proofs.Ytngmcigkihfnkaa.H
end
section
namespace Go.Proofs.Ytngmcigkihfnkaa.H
open Go.RowKit Go.Proofs.YtngmcigkihfnkaaW.PrintWords Go.Proofs.YtngmcigkihfnkaaW.PrintLast Go.Proofs.YtngmcigkihfnkaaW.PrintMore
set_option linter.unusedVariables false
set_option linter.unusedSimpArgs false
def e37 (x : S37) : EvT := ⟨x.f0, x.f1, x.f2, x.f3⟩
def e39 (x : S39) : EvT := ⟨x.f0, x.f1, x.f2, x.f3⟩
def s39 (e : EvT) : S39 := ⟨e.now, e.what, e.name, e.n⟩
theorem rd37_at {l : List S37} (i : Nat) (h : i < l.length) : rd_T37 l (i : Int) = l[i] := by
  unfold rd_T37; simp [List.getD_eq_getElem?_getD, h]
theorem rd39_at {l : List S39} (i : Nat) (h : i < l.length) : rd_T39 l (i : Int) = l[i] := by
  unfold rd_T39; simp [List.getD_eq_getElem?_getD, h]
theorem given_l0 (l : List S39) (hl : l.length ≤ 1000000) : ∀ (d i : Nat) (acc : List S37), i + d = l.length → acc.length = i → Ev (fun k => triremelaw32_given.l0 k l acc (i : Int)) (acc ++ (l.drop i).map (fun x => s37 (e39 x))) := by
  intro d
  induction d with
  | zero =>
    intro i acc h ha
    refine Ev.step (fun k => by rw [triremelaw32_given.l0]) ?_
    rw [List.drop_eq_nil_of_le (by omega), List.map_nil, List.append_nil]
    simp only [show ¬ ((i : Int) < (l.length : Int)) by omega, if_false]
    exact Ev.now _
  | succ d ih =>
    intro i acc h ha
    have h5 : i < l.length := by omega
    refine Ev.step (fun k => by rw [triremelaw32_given.l0]) ?_
    rw [List.drop_eq_getElem_cons h5, rd39_at i h5, wrap_small (i := (i : Int) + 1) (by omega) (by omega)]
    simp only [show (i : Int) < (l.length : Int) by omega, show (0 : Int) ≤ (i : Int) by omega, show acc.length < 2932031007402 by omega, if_true]
    have := ih (i + 1) (acc ++ [s37 (e39 l[i])]) (by omega) (by simp [ha])
    rw [List.append_assoc] at this
    exact this
theorem given_ev (l : List S39) (hl : l.length ≤ 1000000) : Ev (fun k => triremelaw32_given.f k l) ((l.map e39).map s37) := by
  have := given_l0 l hl l.length 0 [] (by omega) rfl
  rw [List.drop_zero, List.nil_append] at this
  rw [List.map_map]
  exact this
theorem taken_l0 (l : List S37) (hl : l.length ≤ 1000000) : ∀ (d i : Nat) (acc : List S39), i + d = l.length → acc.length = i → Ev (fun k => triremelaw32_taken.l0 k l acc (i : Int)) (acc ++ (l.drop i).map (fun x => s39 (e37 x))) := by
  intro d
  induction d with
  | zero =>
    intro i acc h ha
    refine Ev.step (fun k => by rw [triremelaw32_taken.l0]) ?_
    rw [List.drop_eq_nil_of_le (by omega), List.map_nil, List.append_nil]
    simp only [show ¬ ((i : Int) < (l.length : Int)) by omega, if_false]
    exact Ev.now _
  | succ d ih =>
    intro i acc h ha
    have h5 : i < l.length := by omega
    refine Ev.step (fun k => by rw [triremelaw32_taken.l0]) ?_
    rw [List.drop_eq_getElem_cons h5, rd37_at i h5, wrap_small (i := (i : Int) + 1) (by omega) (by omega)]
    simp only [show (i : Int) < (l.length : Int) by omega, show (0 : Int) ≤ (i : Int) by omega, show acc.length < 2932031007402 by omega, if_true]
    have := ih (i + 1) (acc ++ [s39 (e37 l[i])]) (by omega) (by simp [ha])
    rw [List.append_assoc] at this
    exact this
theorem taken_ev (l : List EvT) (hl : l.length ≤ 1000000) : Ev (fun k => triremelaw32_taken.f k (l.map s37)) (l.map s39) := by
  have := taken_l0 (l.map s37) (by simpa using hl) (l.map s37).length 0 [] (by omega) rfl
  rw [List.drop_zero, List.nil_append, List.map_map] at this
  exact this
theorem same_l0 (l : List S39) (hl : l.length ≤ 1000000) : ∀ (d i : Nat), i + d = l.length → Ev (fun k => triremeref32_Same.l0 k l l (i : Int)) true := by
  intro d
  induction d with
  | zero =>
    intro i h
    refine Ev.step (fun k => by rw [triremeref32_Same.l0]) ?_
    simp only [show ¬ ((i : Int) < (l.length : Int)) by omega, if_false]
    exact Ev.now _
  | succ d ih =>
    intro i h
    refine Ev.step (fun k => by rw [triremeref32_Same.l0]) ?_
    rw [wrap_small (i := (i : Int) + 1) (by omega) (by omega)]
    simp only [show (i : Int) < (l.length : Int) by omega, show (0 : Int) ≤ (i : Int) by omega, if_true, beq_self_eq_true, Bool.not_true, Bool.or_false, Bool.false_eq_true, if_false]
    exact ih (i + 1) (by omega)
theorem same_ev (l : List S39) (hl : l.length ≤ 1000000) : Ev (fun k => triremeref32_Same.f k l l) true := by
  unfold triremeref32_Same.f
  simp only [if_true]
  exact same_l0 l hl l.length 0 (by omega)
def lightR (l : List EvT) : Bool := decide (l.length ≤ 60) && l.all (fun e => decide (e.what.size ≤ 100) && decide (e.name.size ≤ 300))
theorem light_l0 (l : List S39) (hl : l.length ≤ 60) : ∀ (d i : Nat), i + d = l.length → Ev (fun k => triremelaw32_light.l0 k l (i : Int)) (((l.drop i).map e39).all (fun e => decide (e.what.size ≤ 100) && decide (e.name.size ≤ 300))) := by
  intro d
  induction d with
  | zero =>
    intro i h
    refine Ev.step (fun k => by rw [triremelaw32_light.l0]) ?_
    rw [List.drop_eq_nil_of_le (by omega)]
    simp only [show ¬ ((i : Int) < (l.length : Int)) by omega, if_false, List.map_nil, List.all_nil]
    exact Ev.now _
  | succ d ih =>
    intro i h
    have h5 : i < l.length := by omega
    refine Ev.step (fun k => by rw [triremelaw32_light.l0]) ?_
    rw [List.drop_eq_getElem_cons h5, rd39_at i h5, wrap_small (i := (i : Int) + 1) (by omega) (by omega), List.map_cons, List.all_cons]
    simp only [show (i : Int) < (l.length : Int) by omega, show (0 : Int) ≤ (i : Int) by omega, if_true]
    refine ev_if (fun h6 => ?_) (fun h6 => ?_)
    · rw [show decide ((e39 l[i]).what.size ≤ 100) = false from decide_eq_false (by show ¬ l[i].f1.size ≤ 100; omega), Bool.false_and, Bool.false_and]; exact Ev.now _
    · rw [show decide ((e39 l[i]).what.size ≤ 100) = true from decide_eq_true (by show l[i].f1.size ≤ 100; omega), Bool.true_and]
      refine ev_if (fun h7 => ?_) (fun h7 => ?_)
      · rw [show decide ((e39 l[i]).name.size ≤ 300) = false from decide_eq_false (by show ¬ l[i].f2.size ≤ 300; omega), Bool.false_and]; exact Ev.now _
      · rw [show decide ((e39 l[i]).name.size ≤ 300) = true from decide_eq_true (by show l[i].f2.size ≤ 300; omega), Bool.true_and]
        exact ih (i + 1) (by omega)
theorem light_ev (l : List S39) : Ev (fun k => triremelaw32_light.f k l) (lightR (l.map e39)) := by
  unfold triremelaw32_light.f lightR
  rw [List.length_map]
  refine ev_if (fun h => ?_) (fun h => ?_)
  · rw [decide_eq_false (by omega), Bool.false_and]; exact Ev.now _
  · rw [decide_eq_true (by omega), Bool.true_and]
    have := light_l0 l (by omega) l.length 0 (by omega)
    rw [List.drop_zero] at this
    exact this
theorem light_use {l : List EvT} (h : lightR l = true) : l.length ≤ 60 ∧ ∀ e ∈ l, e.what.size ≤ 100 ∧ e.name.size ≤ 300 := by
  unfold lightR at h
  simp only [Bool.and_eq_true, decide_eq_true_eq, List.all_eq_true] at h
  exact h
def showA : ByteArray → List EvT → ByteArray
  | acc, [] => acc
  | acc, e :: l => if rightR e = true then showA (acc ++ (lineR e ++ (⟨#[10]⟩ : ByteArray))) l else showA acc l
theorem line_size (e : EvT) (hw : e.what.size ≤ 100) (hn : e.name.size ≤ 300) : (lineR e).size ≤ 500 := by
  have s1 := decB_size e.now
  have s2 := decB_size e.n
  have e1 : (⟨#[58, 32]⟩ : ByteArray).size = 2 := rfl
  have e2 : (⟨#[32]⟩ : ByteArray).size = 1 := rfl
  unfold lineR
  simp only
  by_cases c1 : e.name = ⟨#[]⟩ <;> by_cases c2 : 0 < e.n <;> simp only [c1, c2, if_true, if_false, ByteArray.size_append] <;> omega
theorem show_l0 (l : List EvT) (hl : l.length ≤ 60) (hle : ∀ e ∈ l, e.what.size ≤ 100 ∧ e.name.size ≤ 300 ∧ (rightR e = true → 0 ≤ e.n)) : ∀ (d i : Nat) (acc : ByteArray), i + d = l.length → acc.size ≤ 1000 * i →
    Ev (fun k => trace_Show.l0 k acc (l.map s37) (l.length : Int) (i : Int)) (showA acc (l.drop i)) := by
  intro d
  induction d with
  | zero =>
    intro i acc h ha
    refine Ev.step (fun k => by rw [trace_Show.l0]) ?_
    rw [List.drop_eq_nil_of_le (by omega)]
    simp only [show ¬ ((i : Int) < (l.length : Int)) by omega, if_false, showA]
    exact Ev.now _
  | succ d ih =>
    intro i acc h ha
    have h5 : i < l.length := by omega
    have h6 : i < (l.map s37).length := by simpa using h5
    refine Ev.step (fun k => by rw [trace_Show.l0]) ?_
    have hm := hle l[i] (List.getElem_mem h5)
    have hz := line_size l[i] hm.1 hm.2.1
    rw [List.drop_eq_getElem_cons h5, rd37_at i h6, wrap_small (i := (i : Int) + 1) (by omega) (by omega), List.getElem_map]
    simp only [show (i : Int) < (l.length : Int) by omega, show (0 : Int) ≤ (i : Int) by omega, List.length_map, if_true, showA]
    have hr := right_ev (s37 l[i]).f0 (s37 l[i]).f1 (s37 l[i]).f2 (s37 l[i]).f3 (by show l[i].name.size ≤ _; omega)
    refine Ev.bind hr ?_
    have he : (⟨(s37 l[i]).f0, (s37 l[i]).f1, (s37 l[i]).f2, (s37 l[i]).f3⟩ : EvT) = l[i] := rfl
    rw [he]
    cases hb : rightR l[i] with
    | false =>
      simp only [Bool.false_eq_true, if_false]
      exact ih (i + 1) acc (by omega) (by omega)
    | true =>
      obtain ⟨⟨a1, a2⟩, _, a3⟩ := right_parts _ hb
      have hn2 : l[i].n ≤ 1099511627776 := by omega
      have hf := line_f l[i] a1 a2 hn2 (by omega) (by omega)
      rw [show trace_Event_line.f (s37 l[i]).f0 (s37 l[i]).f1 (s37 l[i]).f2 (s37 l[i]).f3 = some (lineR l[i]) from hf]
      simp only [if_true, Option.bind_some]
      have e1 : (⟨#[10]⟩ : ByteArray).size = 1 := rfl
      refine ev_if (fun _ => ?_) (fun h => absurd (by omega) h)
      refine ev_if (fun _ => ?_) (fun h => absurd (by rw [ByteArray.size_append]; omega) h)
      exact ih (i + 1) _ (by omega) (by simp only [ByteArray.size_append]; omega)
theorem show_ev (l : List EvT) (h : lightR l = true) : Ev (fun k => trace_Show.f k (l.map s37)) (showA ⟨#[]⟩ l) := by
  obtain ⟨h1, h2⟩ := light_use h
  have := show_l0 l h1 (fun e he => ⟨(h2 e he).1, (h2 e he).2, fun hr => by obtain ⟨_, _, a3⟩ := right_parts _ hr; omega⟩) l.length 0 ⟨#[]⟩ (by omega) (by decide)
  rw [List.drop_zero] at this
  unfold trace_Show.f
  rw [List.length_map]
  exact this
end Go.Proofs.Ytngmcigkihfnkaa.H
end
section
namespace Go.Proofs.Ytngmcigkihfnkaa.H
open Go.RowKit Go.Proofs.YtngmcigkihfnkaaW.PrintWords Go.Proofs.YtngmcigkihfnkaaW.PrintLast Go.Proofs.YtngmcigkihfnkaaW.PrintMore
set_option linter.unusedVariables false
set_option linter.unusedSimpArgs false
theorem mk_sub (s : ByteArray) (i j : Nat) : s.extract i j = mkB ((s.toList.take j).drop i) := by
  apply toList_inj; rw [extract_toList, mkB_toList]
theorem sub_snoc (s : ByteArray) (a i : Nat) (h : a ≤ i) (hi : i < s.size) : (s.toList.take (i + 1)).drop a = (s.toList.take i).drop a ++ [s[i]] := by
  have hl : i < s.toList.length := by rw [toList_len]; exact hi
  rw [List.take_succ_eq_append_getElem hl, List.drop_append_of_le_length (by rw [List.length_take]; omega)]
  congr 2
  have := drop_bt s i hi
  rw [List.drop_eq_getElem_cons hl] at this
  exact (List.cons.inj this).1
theorem byte_eq (c : UInt8) (b : Nat) (hb : b < 256) : ((c.toNat : Int) = (b : Int)) ↔ c = UInt8.ofNat b := by
  constructor
  · intro h
    apply UInt8.toNat_inj.1
    rw [UInt8.toNat_ofNat']; omega
  · intro h
    subst h
    rw [UInt8.toNat_ofNat']; omega
theorem parts_l0 (s : ByteArray) (hs : s.size ≤ 1000000) (b : Nat) (hb : b < 256) : ∀ (d i a : Nat) (acc : List ByteArray), i + d = s.size → a ≤ i → acc.length ≤ i →
    Ev (fun k => trace_parts.l0 k s (b : Int) acc (a : Int) (s.size : Int) (i : Int)) (acc ++ (splitF (UInt8.ofNat b) ((s.toList.take i).drop a) (s.toList.drop i)).map mkB) := by
  intro d
  induction d with
  | zero =>
    intro i a acc h ha hc
    refine Ev.step (fun k => by rw [trace_parts.l0]) ?_
    rw [show s.toList.drop i = [] from List.drop_eq_nil_of_le (by rw [toList_len]; omega)]
    simp only [show ¬ ((i : Int) < (s.size : Int)) by omega, show (0 : Int) ≤ (a : Int) by omega, show (a : Int) ≤ (s.size : Int) by omega, show acc.length < 8796093022208 by omega, if_true, if_false, splitF, List.map_cons, List.map_nil, Int.toNat_natCast]
    rw [mk_sub, show s.size = i by omega]
    exact Ev.now _
  | succ d ih =>
    intro i a acc h ha hc
    have h5 : i < s.size := by omega
    refine Ev.step (fun k => by rw [trace_parts.l0]) ?_
    rw [drop_bt s i h5, bt_nat s i h5, wrap_small (i := (i : Int) + 1) (by omega) (by omega)]
    simp only [show (i : Int) < (s.size : Int) by omega, show (0 : Int) ≤ (i : Int) by omega, show (0 : Int) ≤ (a : Int) by omega, show (a : Int) ≤ (i : Int) by omega, show (i : Int) ≤ (s.size : Int) by omega, show acc.length < 8796093022208 by omega, if_true, splitF, Int.toNat_natCast, byte_eq _ b hb]
    refine ev_if (fun h6 => ?_) (fun h6 => ?_)
    · rw [if_pos h6, mk_sub, List.map_cons]
      have := ih (i + 1) (i + 1) (acc ++ [mkB ((s.toList.take i).drop a)]) (by omega) (by omega) (by simp; omega)
      rw [List.append_assoc, show (s.toList.take (i + 1)).drop (i + 1) = [] from List.drop_eq_nil_of_le (by rw [List.length_take]; omega)] at this
      exact this
    · rw [if_neg h6, ← sub_snoc s a i ha h5]
      exact ih (i + 1) a acc (by omega) (by omega) (by omega)
theorem parts_ev (s : ByteArray) (hs : s.size ≤ 1000000) (b : Nat) (hb : b < 256) : Ev (fun k => trace_parts.f k s (b : Int)) ((splitF (UInt8.ofNat b) [] s.toList).map mkB) := by
  have := parts_l0 s hs b hb s.size 0 0 [] (by omega) (by omega) (by simp)
  simp only [List.take_zero, List.drop_zero, List.drop_nil, List.nil_append] at this
  exact this
theorem number_ev (s : ByteArray) (hs : s.size ≤ 1000000) : Ev (fun k => trace_number.f k s) (numS s) := by
  unfold trace_number.f numS
  refine Ev.bind (quantNumber_ev s (by omega)) ?_
  have hr : 0 ≤ (numR s).1 ∧ (numR s).1 ≤ 1125899906842624 := by
    unfold numR
    repeat' split
    all_goals simp
    omega
  refine ev_if (fun h => ?_) (fun h => ?_)
  · rw [digits_some _ hr.1 (by omega)]
    simp only [Option.bind_some]
    rw [decide_eq_true h, Bool.true_and]
    have e : ((decB (numR s).1).toList == s.toList) = decide (decB (numR s).1 = s) := by
      by_cases h2 : decB (numR s).1 = s
      · rw [decide_eq_true h2, h2]; exact beq_self_eq_true _
      · rw [decide_eq_false h2]; exact beq_eq_false_iff_ne.2 (fun e => h2 (toList_inj e))
    rw [e]
    exact Ev.now _
  · rw [decide_eq_false h, Bool.false_and]; exact Ev.now _
/-- An event and whether it was read, as the program lays them. -/
def flat (p : EvT × Bool) : Int × ByteArray × ByteArray × Int × Bool := (p.1.now, p.1.what, p.1.name, p.1.n, p.2)
theorem last_bt (p : List UInt8) (hne : p ≠ []) : bt (mkB p) ((p.length : Int) - 1) = 58 ↔ p.getLast? = some 58 := by
  obtain ⟨ys, c, rfl⟩ : ∃ ys c, p = ys ++ [c] := ⟨p.dropLast, p.getLast hne, (List.dropLast_concat_getLast hne).symm⟩
  have hz : (mkB (ys ++ [c])).size = ys.length + 1 := by rw [← toList_len, mkB_toList]; simp
  have hi : ys.length < (mkB (ys ++ [c])).size := by omega
  have e1 : ((ys ++ [c]).length : Int) - 1 = (ys.length : Int) := by simp
  rw [e1, bt_nat _ ys.length hi]
  have h2 := drop_bt (mkB (ys ++ [c])) ys.length hi
  rw [mkB_toList, List.drop_left] at h2
  rw [← (List.cons.inj h2).1, List.getLast?_concat, Option.some.injEq]
  exact byte_eq c 58 (by decide)
theorem mk_dropLast (p : List UInt8) (hne : p ≠ []) : (mkB p).extract 0 (p.length - 1) = mkB p.dropLast := by
  rw [mk_sub, mkB_toList, List.drop_zero, List.dropLast_eq_take]
theorem mk_size (p : List UInt8) : (mkB p).size = p.length := by rw [← toList_len, mkB_toList]
theorem split_len (b : UInt8) : ∀ (l cur : List UInt8), ∀ p ∈ splitF b cur l, p.length ≤ cur.length + l.length
  | [], cur, p, h => by simp only [splitF, List.mem_singleton] at h; subst h; simp
  | c :: l, cur, p, h => by
    unfold splitF at h
    by_cases hc : c = b
    · rw [if_pos hc] at h
      rcases List.mem_cons.1 h with rfl | h
      · simp
      · have := split_len b l [] p h; simp at this ⊢; omega
    · rw [if_neg hc] at h
      have := split_len b l _ p h; simp at this ⊢; omega
end Go.Proofs.Ytngmcigkihfnkaa.H
end
section
namespace Go.Proofs.Ytngmcigkihfnkaa.H
open Go.RowKit Go.Proofs.YtngmcigkihfnkaaW.PrintWords Go.Proofs.YtngmcigkihfnkaaW.PrintLast Go.Proofs.YtngmcigkihfnkaaW.PrintMore
set_option linter.unusedVariables false
set_option linter.unusedSimpArgs false
theorem j1_short (L : List ByteArray) (hL : (L.length : Int) ≤ 3) (ok : Bool) (now : Int) (what name : ByteArray) (n : Int) (hn : name.size ≤ 1000000) :
    Ev (fun k => trace_read.j1 k L ok now what name n) (flat (⟨now, what, name, n⟩, ok && rightR ⟨now, what, name, n⟩)) := by
  refine Ev.step (fun k => by rw [trace_read.j1]) ?_
  simp only [show ¬ (L.length : Int) > 3 by omega, if_false]
  cases ok with
  | false => simp only [Bool.false_eq_true, if_false, Bool.false_and]; exact Ev.now _
  | true =>
    simp only [if_true, Bool.true_and]
    exact Ev.bind (right_ev now what name n (by omega)) (Ev.now _)
theorem j1_long (p0 p1 p2 p3 : ByteArray) (ok : Bool) (now : Int) (what name : ByteArray) (n : Int) (hn : name.size ≤ 1000000) (h3 : p3.size ≤ 1000000) :
    Ev (fun k => trace_read.j1 k [p0, p1, p2, p3] ok now what name n) (flat (⟨now, what, name, (numS p3).1⟩, ok && (((numS p3).2 && decide (0 < (numS p3).1)) && rightR ⟨now, what, name, (numS p3).1⟩))) := by
  refine Ev.step (fun k => by rw [trace_read.j1]) ?_
  simp only [show (([p0, p1, p2, p3] : List ByteArray).length : Int) > 3 by simp, show (3 : Int) < (([p0, p1, p2, p3] : List ByteArray).length : Int) by simp, show rdOf ByteArray.empty [p0, p1, p2, p3] 3 = p3 from rfl, if_true]
  refine Ev.bind (number_ev p3 h3) ?_
  cases ok with
  | false => simp only [Bool.false_eq_true, if_false, Bool.false_and]; exact Ev.now _
  | true =>
    simp only [if_true, Bool.true_and]
    cases hb : (numS p3).2 with
    | false => simp only [Bool.false_eq_true, if_false, Bool.false_and]; exact Ev.now _
    | true =>
      simp only [if_true, Bool.true_and]
      refine ev_if (fun h => ?_) (fun h => ?_)
      · rw [decide_eq_true (show 0 < (numS p3).1 by omega), Bool.true_and]
        exact Ev.bind (right_ev now what name _ (by omega)) (Ev.now _)
      · rw [decide_eq_false (show ¬ 0 < (numS p3).1 by omega), Bool.false_and]; exact Ev.now _
def noE : EvT × Bool := (⟨0, ⟨#[]⟩, ⟨#[]⟩, 0⟩, false)
theorem read_no (L : List ByteArray) : Ev (fun k => trace_read.j0 k L true) (flat noE) := by
  refine Ev.step (fun k => by rw [trace_read.j0]) ?_
  simp only [if_true]; exact Ev.now _
theorem read_head (p0 : List UInt8) (L : List ByteArray) (hL : rdOf ByteArray.empty L 0 = mkB p0) (h2 : ¬ (L.length : Int) < 2) (h4 : ¬ (L.length : Int) > 4) (hz : p0.length ≤ 1000000) (r : EvT × Bool)
    (hbad : p0.getLast? ≠ some 58 → r = noE) (hgood : p0 ≠ [] → p0.getLast? = some 58 → Ev (fun k => trace_read.j0 k L false) (flat r)) :
    Ev (fun k => if (L.length : Int) < 2 then (trace_read.j0 k L true) else (if (L.length : Int) > 4 then (trace_read.j0 k L true) else (if 0 < (L.length : Int) then (if (rdOf ByteArray.empty L 0).toList = ([] : List UInt8) then (trace_read.j0 k L true) else (if 0 ≤ (wrap64 (((rdOf ByteArray.empty L 0).size : Int) - 1)) then (if (wrap64 (((rdOf ByteArray.empty L 0).size : Int) - 1)) < ((rdOf ByteArray.empty L 0).size : Int) then (trace_read.j0 k L ((bt (rdOf ByteArray.empty L 0) (wrap64 (((rdOf ByteArray.empty L 0).size : Int) - 1))) != 58)) else (none)) else (none))) else (none)))) (flat r) := by
  simp only [h2, h4, if_false, show (0 : Int) < (L.length : Int) by omega, if_true, hL, mkB_toList, mk_size]
  refine ev_if (fun h => ?_) (fun h => ?_)
  · rw [hbad (by rw [h]; simp)]; exact read_no L
  · have hp : 0 < p0.length := List.length_pos_iff.2 h
    rw [wrap_small (i := (p0.length : Int) - 1) (by omega) (by omega)]
    simp only [show (0 : Int) ≤ (p0.length : Int) - 1 by omega, show (p0.length : Int) - 1 < (p0.length : Int) by omega, if_true]
    by_cases hl : p0.getLast? = some 58
    · rw [show (bt (mkB p0) ((p0.length : Int) - 1) != 58) = false by rw [(last_bt p0 h).2 hl]; rfl]
      exact hgood h hl
    · rw [show (bt (mkB p0) ((p0.length : Int) - 1) != 58) = true from bne_iff_ne.2 (fun e => hl ((last_bt p0 h).1 e)), hbad hl]
      exact read_no L
theorem read_ev (s : ByteArray) (hs : s.size ≤ 1000000) : Ev (fun k => trace_read.f k s) (flat (readR s)) := by
  unfold trace_read.f
  refine Ev.bind (parts_ev s hs 32 (by decide)) ?_
  have hlen := split_len 32 s.toList []
  rw [toList_len, List.length_nil, Nat.zero_add] at hlen
  unfold readR
  rw [show UInt8.ofNat 32 = 32 from rfl]
  generalize splitF 32 [] s.toList = ps at *
  match ps, hlen with
  | [], _ => simp only [List.map_nil, show (([] : List ByteArray).length : Int) < 2 by decide, if_true]; exact read_no _
  | [p0], _ => simp only [List.map_cons, List.map_nil, show ∀ a : ByteArray, (([a] : List ByteArray).length : Int) < 2 from fun a => by simp, if_true]; exact read_no _
  | p0 :: p1 :: p2 :: p3 :: p4 :: r, _ =>
    simp only [List.map_cons]
    have h2 : ¬ ((mkB p0 :: mkB p1 :: mkB p2 :: mkB p3 :: mkB p4 :: r.map mkB).length : Int) < 2 := by simp; omega
    have h4 : ((mkB p0 :: mkB p1 :: mkB p2 :: mkB p3 :: mkB p4 :: r.map mkB).length : Int) > 4 := by simp; omega
    simp only [h2, h4, if_true, if_false]
    exact read_no _
  | [p0, p1], hlen =>
    have l0 := hlen p0 (by simp)
    refine read_head p0 [mkB p0, mkB p1] rfl (by simp) (by simp) (by omega) _ (fun h => ?_) (fun hne h => ?_)
    · simp only [h, if_false]; rfl
    · simp only [h, if_true]
      refine Ev.step (fun k => by rw [trace_read.j0]) ?_
      simp only [Bool.false_eq_true, if_false, show (0 : Int) < (([mkB p0, mkB p1] : List ByteArray).length : Int) by simp, show rdOf ByteArray.empty [mkB p0, mkB p1] 0 = mkB p0 from rfl, show rdOf ByteArray.empty [mkB p0, mkB p1] 1 = mkB p1 from rfl, mk_size, if_true]
      have hp : 0 < p0.length := List.length_pos_iff.2 hne
      rw [wrap_small (i := (p0.length : Int) - 1) (by omega) (by omega), show ((p0.length : Int) - 1).toNat = p0.length - 1 by omega, mk_dropLast p0 hne]
      simp only [show (0 : Int) ≤ (p0.length : Int) - 1 by omega, show (p0.length : Int) - 1 ≤ (p0.length : Int) by omega, if_true]
      refine Ev.bind (number_ev _ (by rw [mk_size]; simp; omega)) ?_
      simp only [show (1 : Int) < (([mkB p0, mkB p1] : List ByteArray).length : Int) by simp, show ¬ (([mkB p0, mkB p1] : List ByteArray).length : Int) > 2 by simp, if_true, if_false]
      exact j1_short _ (by simp) _ _ _ _ _ (by decide)
  | [p0, p1, p2], hlen =>
    have l0 := hlen p0 (by simp)
    have l2 := hlen p2 (by simp)
    refine read_head p0 [mkB p0, mkB p1, mkB p2] rfl (by simp) (by simp) (by omega) _ (fun h => ?_) (fun hne h => ?_)
    · simp only [h, if_false]; rfl
    · simp only [h, if_true]
      refine Ev.step (fun k => by rw [trace_read.j0]) ?_
      simp only [Bool.false_eq_true, if_false, show (0 : Int) < (([mkB p0, mkB p1, mkB p2] : List ByteArray).length : Int) by simp, show rdOf ByteArray.empty [mkB p0, mkB p1, mkB p2] 0 = mkB p0 from rfl, show rdOf ByteArray.empty [mkB p0, mkB p1, mkB p2] 1 = mkB p1 from rfl, show rdOf ByteArray.empty [mkB p0, mkB p1, mkB p2] 2 = mkB p2 from rfl, mk_size, if_true]
      have hp : 0 < p0.length := List.length_pos_iff.2 hne
      rw [wrap_small (i := (p0.length : Int) - 1) (by omega) (by omega), show ((p0.length : Int) - 1).toNat = p0.length - 1 by omega, mk_dropLast p0 hne]
      simp only [show (0 : Int) ≤ (p0.length : Int) - 1 by omega, show (p0.length : Int) - 1 ≤ (p0.length : Int) by omega, if_true]
      refine Ev.bind (number_ev _ (by rw [mk_size]; simp; omega)) ?_
      simp only [show (1 : Int) < (([mkB p0, mkB p1, mkB p2] : List ByteArray).length : Int) by simp, show (([mkB p0, mkB p1, mkB p2] : List ByteArray).length : Int) > 2 by simp, show (2 : Int) < (([mkB p0, mkB p1, mkB p2] : List ByteArray).length : Int) by simp, if_true, mkB_toList]
      have hb : (p2 != ([] : List UInt8)) = decide (p2 ≠ []) := by cases p2 <;> rfl
      refine ev_if (fun ha => ?_) (fun ha => ?_)
      · rw [ha, hb, Bool.true_and]
        exact j1_short _ (by simp) _ _ _ _ _ (by rw [mk_size]; omega)
      · rw [Bool.eq_false_iff.2 ha, Bool.false_and]
        exact j1_short _ (by simp) false _ _ _ _ (by rw [mk_size]; omega)
  | [p0, p1, p2, p3], hlen =>
    have l0 := hlen p0 (by simp)
    have l2 := hlen p2 (by simp)
    have l3 := hlen p3 (by simp)
    refine read_head p0 [mkB p0, mkB p1, mkB p2, mkB p3] rfl (by simp) (by simp) (by omega) _ (fun h => ?_) (fun hne h => ?_)
    · simp only [h, if_false]; rfl
    · simp only [h, if_true]
      refine Ev.step (fun k => by rw [trace_read.j0]) ?_
      simp only [Bool.false_eq_true, if_false, show (0 : Int) < (([mkB p0, mkB p1, mkB p2, mkB p3] : List ByteArray).length : Int) by simp, show rdOf ByteArray.empty [mkB p0, mkB p1, mkB p2, mkB p3] 0 = mkB p0 from rfl, show rdOf ByteArray.empty [mkB p0, mkB p1, mkB p2, mkB p3] 1 = mkB p1 from rfl, show rdOf ByteArray.empty [mkB p0, mkB p1, mkB p2, mkB p3] 2 = mkB p2 from rfl, mk_size, if_true]
      have hp : 0 < p0.length := List.length_pos_iff.2 hne
      rw [wrap_small (i := (p0.length : Int) - 1) (by omega) (by omega), show ((p0.length : Int) - 1).toNat = p0.length - 1 by omega, mk_dropLast p0 hne]
      simp only [show (0 : Int) ≤ (p0.length : Int) - 1 by omega, show (p0.length : Int) - 1 ≤ (p0.length : Int) by omega, if_true]
      refine Ev.bind (number_ev _ (by rw [mk_size]; simp; omega)) ?_
      simp only [show (1 : Int) < (([mkB p0, mkB p1, mkB p2, mkB p3] : List ByteArray).length : Int) by simp, show (([mkB p0, mkB p1, mkB p2, mkB p3] : List ByteArray).length : Int) > 2 by simp, show (2 : Int) < (([mkB p0, mkB p1, mkB p2, mkB p3] : List ByteArray).length : Int) by simp, if_true, mkB_toList]
      have hb : (p2 != ([] : List UInt8)) = decide (p2 ≠ []) := by cases p2 <;> rfl
      refine ev_if (fun ha => ?_) (fun ha => ?_)
      · rw [ha, hb, Bool.true_and]
        exact j1_long _ _ _ _ _ _ _ _ _ (by rw [mk_size]; omega) (by rw [mk_size]; omega)
      · rw [Bool.eq_false_iff.2 ha, Bool.false_and]
        exact j1_long _ _ _ _ false _ _ _ _ (by rw [mk_size]; omega) (by rw [mk_size]; omega)
theorem word_clean (s : ByteArray) (h : lexWordB s = true) : CleanB s ∧ s ≠ ⟨#[]⟩ := by
  obtain ⟨h1, h2⟩ := word_bytes s h
  refine ⟨fun c hc => ?_, h2⟩
  have := h1 c hc
  constructor
  · rintro rfl; exact absurd this (by decide)
  · rintro rfl; exact absurd this (by decide)
end Go.Proofs.Ytngmcigkihfnkaa.H
end
section
namespace Go.Proofs.Ytngmcigkihfnkaa.H
open Go.RowKit Go.Proofs.YtngmcigkihfnkaaW.PrintWords Go.Proofs.YtngmcigkihfnkaaW.PrintLast Go.Proofs.YtngmcigkihfnkaaW.PrintMore
set_option linter.unusedVariables false
set_option linter.unusedSimpArgs false
def parseR : List ByteArray → List EvT → Int → (List EvT × Int × Int)
  | [], acc, _ => (acc, 0, 0)
  | x :: xs, acc, i => if (readR x).2 = true then parseR xs (acc ++ [(readR x).1]) (i + 1) else ([], 12, i + 1)
def lay37 (p : List EvT × Int × Int) : List S37 × Int × Int := (p.1.map s37, p.2.1, p.2.2)
theorem parse_l0 (L : List ByteArray) (hL : L.length ≤ 1000001) (hz : ∀ x ∈ L, x.size ≤ 1000000) : ∀ (d i : Nat) (acc : List EvT), i + d = L.length → acc.length ≤ i →
    Ev (fun k => trace_Parse.l0 k (acc.map s37) L (L.length : Int) (i : Int)) (lay37 (parseR (L.drop i) acc (i : Int))) := by
  intro d
  induction d with
  | zero =>
    intro i acc h ha
    refine Ev.step (fun k => by rw [trace_Parse.l0]) ?_
    rw [List.drop_eq_nil_of_le (by omega)]
    simp only [show ¬ ((i : Int) < (L.length : Int)) by omega, if_false]
    exact Ev.now _
  | succ d ih =>
    intro i acc h ha
    have h5 : i < L.length := by omega
    refine Ev.step (fun k => by rw [trace_Parse.l0]) ?_
    rw [List.drop_eq_getElem_cons h5, rdOf_at i h5, wrap_small (i := (i : Int) + 1) (by omega) (by omega)]
    simp only [show (i : Int) < (L.length : Int) by omega, show (0 : Int) ≤ (i : Int) by omega, if_true, List.length_map, show acc.length < 2932031007402 by omega, parseR]
    refine Ev.bind (read_ev L[i] (hz _ (List.getElem_mem h5))) ?_
    show Ev (fun k => if (readR L[i]).2 = true then trace_Parse.l0 k (acc.map s37 ++ [s37 (readR L[i]).1]) L (L.length : Int) ((i : Int) + 1) else some (([] : List S37), 12, (i : Int) + 1)) _
    refine ev_if (fun hb => ?_) (fun hb => ?_)
    · rw [if_pos hb]
      have := ih (i + 1) (acc ++ [(readR L[i]).1]) (by omega) (by simp; omega)
      rw [List.map_append] at this
      exact this
    · rw [if_neg hb]; exact Ev.now _
theorem dropLE_eq : ∀ l : List (List UInt8), dropLE l = if l.getLast? = some [] then l.dropLast else l
  | [] => rfl
  | [x] => by by_cases h : x = [] <;> simp [dropLE, h]
  | x :: y :: r => by
    simp only [dropLE]
    rw [dropLE_eq (y :: r), List.getLast?_cons_cons]
    by_cases h : (y :: r).getLast? = some []
    · rw [if_pos h, if_pos h]; rfl
    · rw [if_neg h, if_neg h]
theorem split_count (b : UInt8) : ∀ (l cur : List UInt8), (splitF b cur l).length ≤ l.length + 1
  | [], cur => by simp [splitF]
  | c :: l, cur => by
    unfold splitF
    by_cases hc : c = b
    · rw [if_pos hc]; have := split_count b l []; simp; omega
    · rw [if_neg hc]; have := split_count b l (cur ++ [c]); simp; omega
theorem parse_ev (s : ByteArray) (hs : s.size ≤ 1000000) : Ev (fun k => trace_Parse.f k s) (lay37 (parseR ((linesR s.toList).map mkB) [] 0)) := by
  unfold trace_Parse.f
  refine Ev.bind (parts_ev s hs 10 (by decide)) ?_
  have hne := splitF_ne 10 s.toList []
  have hcnt := split_count 10 s.toList []
  have hlen := split_len 10 s.toList []
  rw [toList_len] at hcnt
  rw [toList_len, List.length_nil, Nat.zero_add] at hlen
  unfold linesR
  rw [show UInt8.ofNat 10 = 10 from rfl, dropLE_eq]
  generalize splitF 10 [] s.toList = ps at *
  have hp : 0 < ps.length := List.length_pos_iff.2 hne
  have hj : ∀ L : List (List UInt8), L.length ≤ 1000001 → (∀ x ∈ L, x.length ≤ 1000000) → Ev (fun k => trace_Parse.j0 k (L.map mkB)) (lay37 (parseR (L.map mkB) [] 0)) := by
    intro L hL hx
    refine Ev.step (fun k => by rw [trace_Parse.j0]) ?_
    have := parse_l0 (L.map mkB) (by simpa using hL) (by intro x hxm; obtain ⟨y, hy, rfl⟩ := List.mem_map.1 hxm; rw [mk_size]; exact hx y hy) (L.map mkB).length 0 [] (by omega) (by simp)
    rw [List.drop_zero] at this
    exact this
  rw [List.length_map, wrap_small (i := (ps.length : Int) - 1) (by omega) (by omega), show (ps.length : Int) - 1 = ((ps.length - 1 : Nat) : Int) by omega]
  have h6 : ps.length - 1 < (ps.map mkB).length := by simp; omega
  rw [rdOf_at (ps.length - 1) h6, List.getElem_map, mkB_toList]
  simp only [show (0 : Int) ≤ ((ps.length - 1 : Nat) : Int) by omega, show ((ps.length - 1 : Nat) : Int) < (ps.length : Int) by omega, show ((ps.length - 1 : Nat) : Int) ≤ (ps.length : Int) by omega, if_true, Int.toNat_natCast]
  have hlast : ps.getLast? = some (ps[ps.length - 1]'(by omega)) := by
    rw [List.getLast?_eq_getElem?, List.getElem?_eq_getElem]
  refine ev_if (fun h => ?_) (fun h => ?_)
  · rw [if_pos (by rw [hlast, h]), ← List.map_take, ← List.dropLast_eq_take]
    exact hj _ (by simp; omega) (fun x hx => Nat.le_trans (hlen x (List.dropLast_subset _ hx)) hs)
  · rw [if_neg (by rw [hlast]; intro e; exact h (Option.some.inj e))]
    exact hj _ (by omega) (fun x hx => Nat.le_trans (hlen x hx) hs)
end Go.Proofs.Ytngmcigkihfnkaa.H
end
section
namespace Go.Proofs.Ytngmcigkihfnkaa.H
open Go.RowKit Go.Proofs.YtngmcigkihfnkaaW.PrintWords Go.Proofs.YtngmcigkihfnkaaW.PrintLast Go.Proofs.YtngmcigkihfnkaaW.PrintMore
attribute [local go_sem] max2_int min2_int max_two min_two max_three min_three max_four min_four   -- for this text's walks alone
set_option linter.unusedVariables false
set_option linter.unusedSimpArgs false
def triremelaw32_TraceBack.l0 : Nat → List (S39) → List (S39) → Int → Option (Bool)
  | 0, _, _, _ => none
  | k + 1, x0, x3, x4 => if x4 < (x0.length : Int) then (if 0 ≤ x4 then (if x4 ≤ (wrap64 (x4 + 1)) then (if (wrap64 (x4 + 1)) ≤ (x0.length : Int) then ((triremelaw32_given.f k ((x0.take ((wrap64 (x4 + 1)) : Int).toNat).drop (x4 : Int).toNat)).bind fun t365 => (if 0 < (t365.length : Int) then ((trace_Right.f k ((rd_T37 t365 0).f0) ((rd_T37 t365 0).f1) ((rd_T37 t365 0).f2) ((rd_T37 t365 0).f3)).bind fun t369 => (if t369 = true then (if x3.length < 2932031007402 then (triremelaw32_TraceBack.l0 k x0 (x3 ++ [(⟨(rd_T39 x0 x4).f0, (rd_T39 x0 x4).f1, (rd_T39 x0 x4).f2, (rd_T39 x0 x4).f3⟩ : S39)]) (wrap64 (x4 + 1))) else (none)) else (triremelaw32_TraceBack.l0 k x0 x3 (wrap64 (x4 + 1))))) else (none))) else (none)) else (none)) else (none)) else ((triremelaw32_given.f k x0).bind fun t374 => ((trace_Show.f k t374).bind fun t377 => ((trace_Parse.f k t377).bind fun bt378 => (if bt378.2.1 = 0 then (if bt378.2.2 = 0 then ((triremelaw32_taken.f k bt378.1).bind fun t383 => ((triremeref32_Same.f k t383 x3).bind fun t386 => (if t386 = true then ((triremelaw32_known.f k).bind fun t387 => (some t387)) else (some false)))) else (some false)) else (some false)))))
def triremelaw32_TraceBack.f (k : Nat) (l0 : List (S39)) : Option (Bool) := (triremelaw32_light.f k l0).bind fun t359 => (if t359 = true then (triremelaw32_TraceBack.l0 k l0 ([] : List (S39)) 0) else ((triremelaw32_known.f k).bind fun t360 => (some t360)))
set_option maxHeartbeats 8000000 in
set_option maxRecDepth 100000 in
theorem triremelaw32_TraceBack.calls (k : Nat) (A0 : Option Addr) (c0 : Nat) (l0 : List (S39)) (r : Bool) (w : World) (hr0 : Kd.C k39 w A0 l0.length l0) (hc0 : l0.length ≤ c0) (h : triremelaw32_TraceBack.f k l0 = some r) :
    Calls Try.prog 5 #[.slice A0 l0.length c0] w fun e w' => e = .returned (.bool r) ∧ Below w.heap.size w w' := by
  have hu37 := Try.underlying37
  have hu39 := Try.underlying39
  have HR0 := Aside0.mk hr0
  have HC0 := Aside0.mk hc0
  clear hr0 hc0
  have HB := Aside0.mk (Below.refl w.heap.size w)
  have H : ((triremelaw32_light.f k l0).bind fun t359 => (if t359 = true then (triremelaw32_TraceBack.l0 k l0 ([] : List (S39)) 0) else ((triremelaw32_known.f k).bind fun t360 => (some t360)))) = some r := h
  clear h
  replace H := Option.bind_eq_some_iff.mp H
  obtain ⟨t359, A20, H⟩ := H
  replace H : (if t359 = true then (triremelaw32_TraceBack.l0 k l0 ([] : List (S39)) 0) else ((triremelaw32_known.f k).bind fun t360 => (some t360))) = some r := H
  have A2 := Aside0.mk A20
  clear A20
  by_cases c3 : t359 = true
  · subst c3
    have H1 : (triremelaw32_TraceBack.l0 k l0 ([] : List (S39)) 0) = some r := by rw [if_pos rfl] at H; exact H
    clear H
    have H := H1
    clear H1
    have H' := Aside0.mk H
    clear H
    go_enter Try.func5, Try.ntmps5
    go_wp2_with (first | ((first | ((with_reducible refine gate_callee (f := 12) rfl ?_); refine goesL_ (some 9) rfl rfl Try.func12 (by kernel_rfl) rfl #[.slice A0 l0.length c0] rfl (by (try simp only [List.map_toArray, List.map_cons, List.map_nil]); first | done | rfl | (simp only [List.length_drop, List.length_take]; rfl)) ?_; (with_reducible refine (triremelaw32_light.calls k _ _ l0 true _ ?side1 ?side2 A2.out).mono ?_); (case side1 => repeat (first | exact HR0.out | (with_reducible refine Kd.C_alloc ?_ _) | (with_reducible refine Kd.C_drewN ?_ _) | (with_reducible refine Kd.C_drew ?_))); (case side2 => exact HC0.out); rintro e w' ⟨rfl, ⟨nd, rfl⟩⟩; refine ⟨_, rfl, ?_⟩) | (go_at_call 12; (with_reducible refine (triremelaw32_light.calls k _ _ l0 true _ ?side1 ?side2 A2.out).mono ?_); (case side1 => repeat (first | exact HR0.out | (with_reducible refine Kd.C_alloc ?_ _) | (with_reducible refine Kd.C_drewN ?_ _) | (with_reducible refine Kd.C_drew ?_))); (case side2 => exact HC0.out); rintro e w' ⟨rfl, ⟨nd, rfl⟩⟩))))
    go_loopg [3, 4] k (fun kq v3 v4 w' => ∃ (x3_1 : List (S39)) (x4_1 : Int), v4 = .int .i64 x4_1 ∧ Aside0 (triremelaw32_TraceBack.l0 kq l0 x3_1 x4_1 = some r) ∧ Aside0 (kq ≤ k) ∧ Aside0 (Kd.R k39 39 w' w.heap.size (fun _ => True) v3 x3_1) ∧ Aside0 (Below w.heap.size w w'))
    case atStart => exact ⟨(([] : List (S39))), (0), (by first | rfl | (simp; done) | (simp [*]; done)), H', ⟨Nat.le_refl _⟩, ⟨by first | exact Kd.R_nil _ _ _ _ _ | exact Kd.N_nil _ _ _ _ _ | exact Kd.V_nil _ _ _ _ _ | exact Kd.Q_nil _ _ _ _ _ | exact Kd.S_nil _ _ _ _ _⟩, ⟨by repeat (first | (with_reducible first | exact HB.out | apply below_alloc | apply pw_below_drewN | apply below_drew1) | exact HB.out)⟩⟩
    case round =>
      clear H'
      try clear c1
      try clear p2
      try clear c3
      obtain ⟨x3_1, x4_1, rfl, HA, HK1, HO_3, HB⟩ := hrel
      cases gk with
      | zero => exact absurd HA.out (by simp [triremelaw32_TraceBack.l0])
      | succ k1 =>
        have H := HA.out
        clear HA
        simp only [triremelaw32_TraceBack.l0] at H
        by_cases c4 : x4_1 < (l0.length : Int)
        · rw [if_pos c4] at H
          have c4b0 : decide (x4_1 < (l0.length : Int)) = true := decide_eq_true c4
          clear c4
          by_cases c5 : 0 ≤ x4_1
          · rw [if_pos c5] at H
            have c5b0 := eq_true c5
            (try (have c5z := c5b0; rw [ByteArray.size_extract, Nat.min_self] at c5z))
            have c5b1 : decide (0 ≤ x4_1) = true := decide_eq_true c5
            clear c5
            by_cases c6 : x4_1 ≤ (wrap64 (x4_1 + 1))
            · rw [if_pos c6] at H
              have c6b0 := eq_true c6
              (try (have c6z := c6b0; rw [ByteArray.size_extract, Nat.min_self] at c6z))
              have c6b1 : decide (x4_1 ≤ (wrap64 (x4_1 + 1))) = true := decide_eq_true c6
              by_cases c7 : (wrap64 (x4_1 + 1)) ≤ (l0.length : Int)
              · rw [if_pos c7] at H
                have c7b0 := eq_true c7
                (try (have c7z := c7b0; rw [ByteArray.size_extract, Nat.min_self] at c7z))
                have c7b1 : decide ((wrap64 (x4_1 + 1)) ≤ (l0.length : Int)) = true := decide_eq_true c7
                obtain ⟨y361, hy361⟩ : ∃ y_ : List (S39), y_ = ((l0.take ((wrap64 (x4_1 + 1)) : Int).toNat).drop (x4_1 : Int).toNat) := ⟨_, rfl⟩
                replace H : ((triremelaw32_given.f k1 y361).bind fun t365 => (if 0 < (t365.length : Int) then ((trace_Right.f k1 ((rd_T37 t365 0).f0) ((rd_T37 t365 0).f1) ((rd_T37 t365 0).f2) ((rd_T37 t365 0).f3)).bind fun t369 => (if t369 = true then (if x3_1.length < 2932031007402 then (triremelaw32_TraceBack.l0 k1 l0 (x3_1 ++ [(⟨(rd_T39 l0 x4_1).f0, (rd_T39 l0 x4_1).f1, (rd_T39 l0 x4_1).f2, (rd_T39 l0 x4_1).f3⟩ : S39)]) (wrap64 (x4_1 + 1))) else (none)) else (triremelaw32_TraceBack.l0 k1 l0 x3_1 (wrap64 (x4_1 + 1))))) else (none))) = some r := by first | (rw [hy361]; with_reducible exact H) | (have H2_ := (Option.bind_some _ _).symm.trans H; rw [hy361]; with_reducible exact H2_) | (have H2_ := (Option.bind_some _ _).symm.trans H; with_reducible exact H2_) | with_reducible exact H | (rw [hy361]; exact H) | exact H
                have Ny361 := Aside0.mk hy361
                clear hy361
                replace H := Option.bind_eq_some_iff.mp H
                obtain ⟨t365, A80, H⟩ := H
                replace H : (if 0 < (t365.length : Int) then ((trace_Right.f k1 ((rd_T37 t365 0).f0) ((rd_T37 t365 0).f1) ((rd_T37 t365 0).f2) ((rd_T37 t365 0).f3)).bind fun t369 => (if t369 = true then (if x3_1.length < 2932031007402 then (triremelaw32_TraceBack.l0 k1 l0 (x3_1 ++ [(⟨(rd_T39 l0 x4_1).f0, (rd_T39 l0 x4_1).f1, (rd_T39 l0 x4_1).f2, (rd_T39 l0 x4_1).f3⟩ : S39)]) (wrap64 (x4_1 + 1))) else (none)) else (triremelaw32_TraceBack.l0 k1 l0 x3_1 (wrap64 (x4_1 + 1))))) else (none)) = some r := H
                have A8 := Aside0.mk A80
                clear A80
                by_cases c9 : 0 < (t365.length : Int)
                · rw [if_pos c9] at H
                  have c9b0 : decide (0 < (t365.length : Int)) = true := decide_eq_true c9
                  have c9b1 : decide (0 < t365.length) = true := decide_eq_true (by omega)
                  clear c9
                  replace H := Option.bind_eq_some_iff.mp H
                  obtain ⟨t369, A100, H⟩ := H
                  replace H : (if t369 = true then (if x3_1.length < 2932031007402 then (triremelaw32_TraceBack.l0 k1 l0 (x3_1 ++ [(⟨(rd_T39 l0 x4_1).f0, (rd_T39 l0 x4_1).f1, (rd_T39 l0 x4_1).f2, (rd_T39 l0 x4_1).f3⟩ : S39)]) (wrap64 (x4_1 + 1))) else (none)) else (triremelaw32_TraceBack.l0 k1 l0 x3_1 (wrap64 (x4_1 + 1)))) = some r := H
                  have A10 := Aside0.mk A100
                  clear A100
                  by_cases c11 : t369 = true
                  · subst c11
                    have H1 : (if x3_1.length < 2932031007402 then (triremelaw32_TraceBack.l0 k1 l0 (x3_1 ++ [(⟨(rd_T39 l0 x4_1).f0, (rd_T39 l0 x4_1).f1, (rd_T39 l0 x4_1).f2, (rd_T39 l0 x4_1).f3⟩ : S39)]) (wrap64 (x4_1 + 1))) else (none)) = some r := by rw [if_pos rfl] at H; exact H
                    clear H
                    have H := H1
                    clear H1
                    by_cases c12 : x3_1.length < 2932031007402
                    · rw [if_pos c12] at H
                      have LMc12 := Aside0.mk c12
                      clear c12
                      obtain ⟨y371, hy371⟩ : ∃ y_ : List (S39), y_ = (x3_1 ++ [(⟨(rd_T39 l0 x4_1).f0, (rd_T39 l0 x4_1).f1, (rd_T39 l0 x4_1).f2, (rd_T39 l0 x4_1).f3⟩ : S39)]) := ⟨_, rfl⟩
                      replace H : (triremelaw32_TraceBack.l0 k1 l0 y371 (wrap64 (x4_1 + 1))) = some r := by first | (rw [hy371]; with_reducible exact H) | (have H2_ := (Option.bind_some _ _).symm.trans H; rw [hy371]; with_reducible exact H2_) | (have H2_ := (Option.bind_some _ _).symm.trans H; with_reducible exact H2_) | with_reducible exact H | (rw [hy371]; exact H) | exact H
                      have Ny371 := Aside0.mk hy371
                      clear hy371
                      have H' := Aside0.mk H
                      clear H
                      have q13 : ((wrap64 (x4_1 + 1)) : Int) ≤ ((l0.length : Int) : Int) := of_decide_eq_true (by first | (with_reducible assumption) | assumption)
                      obtain ⟨i013, hi013, _, hsz13, _⟩ := info_parts info39
                      have hroom13 : l0.length ≤ c0 := HC0.out
                      have hC13 : Kd.C k39 _ A0 l0.length l0 := HR0.out
                      have ql13 : (x4_1 : Int) ≤ ((wrap64 (x4_1 + 1)) : Int) := of_decide_eq_true (by first | (with_reducible assumption) | assumption)
                      have q013 : (0 : Int) ≤ (x4_1 : Int) := of_decide_eq_true (by first | (with_reducible assumption) | assumption)
                      have hcut13 := cut_mid (P := Try.prog) 27 39 .i64 .i64 Try.underlying27 hi013 4 hsz13 A0 l0.length c0 x4_1 (wrap64 (x4_1 + 1)) q013 ql13 q13 hroom13
                      have hr13 := Kd.C_mid (lo := (x4_1 : Int).toNat) (hi := ((wrap64 (x4_1 + 1)) : Int).toNat) (c := c0) hC13 (by omega) (by omega) hroom13
                      obtain ⟨A13, hA13⟩ : ∃ A1, A1 = (if c0 = (x4_1 : Int).toNat then A0 else (A0 : Option Addr).map (·.add ((x4_1 : Int).toNat * 4))) := ⟨_, rfl⟩
                      obtain ⟨c13, hc13⟩ : ∃ c1, c1 = c0 - (x4_1 : Int).toNat := ⟨_, rfl⟩
                      have hy13 : y361.length = ((wrap64 (x4_1 + 1)) : Int).toNat - (x4_1 : Int).toNat := (by rw [Ny361.out, List.length_drop, List.length_take] <;> omega)
                      rw [show ((l0).take ((wrap64 (x4_1 + 1)) : Int).toNat).drop (x4_1 : Int).toNat = y361 from Ny361.out.symm] at hr13
                      replace hr13 : Kd.C k39 _ A13 y361.length y361 := (by rw [hA13]; exact hr13)
                      rw [← hy13, ← hA13, ← hc13] at hcut13
                      have HR364 := Aside0.mk hr13
                      have HC364 := Aside0.mk (show y361.length ≤ c13 from by rw [hy13, hc13]; exact Nat.sub_le_sub_right (Nat.le_trans (by omega) hroom13) _)
                      clear hr13 hC13 hroom13 hi013 hsz13 hc13
                      have KY13 := Aside0.mk hy13
                      have KA13 := Aside0.mk hA13
                      clear hy13 hA13
                      replace q13 := eq_true q13
                      (try (have qz13 := q13; rw [ByteArray.size_extract, Nat.min_self] at qz13))
                      go_wp2_with (first | ((first | ((with_reducible refine gate_callee (f := 13) rfl ?_); refine goesL_ (some 23) rfl rfl Try.func13 (by kernel_rfl) rfl #[.slice A13 y361.length c13] rfl (by (try simp only [List.map_toArray, List.map_cons, List.map_nil]); first | done | rfl | (simp only [List.length_drop, List.length_take]; rfl)) ?_; (with_reducible refine (triremelaw32_given.calls k1 _ _ y361 t365 _ ?side1 ?side2 A8.out).mono ?_); (case side1 => repeat (first | exact (Kd.C_below HR364.out HB.out) | (with_reducible refine Kd.C_alloc ?_ _) | (with_reducible refine Kd.C_drewN ?_ _) | (with_reducible refine Kd.C_drew ?_))); (case side2 => exact HC364.out); rintro e w14 ⟨v366, rfl, ho0, hb⟩; refine ⟨_, rfl, ?_⟩) | (go_at_call 13; (with_reducible refine (triremelaw32_given.calls k1 _ _ y361 t365 _ ?side1 ?side2 A8.out).mono ?_); (case side1 => repeat (first | exact (Kd.C_below HR364.out HB.out) | (with_reducible refine Kd.C_alloc ?_ _) | (with_reducible refine Kd.C_drewN ?_ _) | (with_reducible refine Kd.C_drew ?_))); (case side2 => exact HC364.out); rintro e w14 ⟨v366, rfl, ho0, hb⟩)); have n0_ := Aside0.mk (Kd.R_below (by (with_reducible repeat (first | apply Kd.R_alloc | apply Kd.R_drewN | apply Kd.R_drew)); exact HO_3.out) hb); have n1_ := Aside0.mk (Kd.R_lower ho0 (below_size (by repeat (first | (with_reducible first | exact HB.out | apply below_alloc | apply pw_below_drewN | apply below_drew1) | exact HB.out)))); have n2_ := Aside0.mk (below_step (by repeat (first | (with_reducible first | exact HB.out | apply below_alloc | apply pw_below_drewN | apply below_drew1) | exact HB.out)) hb); clear HO_3; clear HB; have HO_3 := n0_; have HO367 := n1_; have HB := n2_; clear n0_ n1_ n2_; (try clear hb); (try clear hb2); (try clear hk); (try clear hi); (try clear ho0); obtain ⟨Ao15, co15, eo15⟩ := Kd.R_slice HO367.out; subst eo15; have p368 : 0 ≤ (0 : Int) := (by omega); have q368 : 0 < (t365.length : Int) := of_decide_eq_true (by first | (with_reducible assumption) | assumption); obtain ⟨ad368, e368, hx368_0, hx368_1, hx368_2, hx368_3⟩ := at_T37 (Kd.R_reads' HO367.out).2.2 0 p368 q368; cases e368; have qi368 : (0 < t365.length) = True := eq_true (by omega); (try rw [show ((0 : Int)).toNat = 0 from rfl] at hx368_0); (try rw [show 0 * 4 = 0 from rfl] at hx368_0); (try rw [Addr.add_zero'] at hx368_0); (try rw [show ((0 : Int)).toNat = 0 from rfl] at hx368_1); (try rw [show 0 * 4 = 0 from rfl] at hx368_1); (try rw [Addr.add_zero'] at hx368_1); (try rw [show ((0 : Int)).toNat = 0 from rfl] at hx368_2); (try rw [show 0 * 4 = 0 from rfl] at hx368_2); (try rw [Addr.add_zero'] at hx368_2); (try rw [show ((0 : Int)).toNat = 0 from rfl] at hx368_3); (try rw [show 0 * 4 = 0 from rfl] at hx368_3); (try rw [Addr.add_zero'] at hx368_3); replace p368 := eq_true p368; replace q368 := eq_true q368) | ((first | ((with_reducible refine gate_callee (f := 14) rfl ?_); refine goesL_ (some 26) rfl rfl Try.func14 (by kernel_rfl) rfl #[.agg #[.int .i64 ((rd_T37 t365 0).f0), .string ((rd_T37 t365 0).f1), .string ((rd_T37 t365 0).f2), .int .i64 ((rd_T37 t365 0).f3)]] rfl (by (try simp only [List.map_toArray, List.map_cons, List.map_nil]); first | done | rfl | (simp only [List.length_drop, List.length_take]; rfl)) ?_; (with_reducible refine (trace_Right.calls k1 ((rd_T37 t365 0).f0) ((rd_T37 t365 0).f1) ((rd_T37 t365 0).f2) ((rd_T37 t365 0).f3) true _ A10.out).mono ?_); rintro e w16 ⟨rfl, hb⟩; refine ⟨_, rfl, ?_⟩) | (go_at_call 14; (with_reducible refine (trace_Right.calls k1 ((rd_T37 t365 0).f0) ((rd_T37 t365 0).f1) ((rd_T37 t365 0).f2) ((rd_T37 t365 0).f3) true _ A10.out).mono ?_); rintro e w16 ⟨rfl, hb⟩)); have n0_ := Aside0.mk (Kd.R_below (by (with_reducible repeat (first | apply Kd.R_alloc | apply Kd.R_drewN | apply Kd.R_drew)); exact HO_3.out) hb); have n1_ := Aside0.mk (Kd.R_below (by (with_reducible repeat (first | apply Kd.R_alloc | apply Kd.R_drewN | apply Kd.R_drew)); exact HO367.out) hb); have n2_ := Aside0.mk (below_step (by repeat (first | (with_reducible first | exact HB.out | apply below_alloc | apply pw_below_drewN | apply below_drew1) | exact HB.out)) hb); clear HO_3; clear HO367; clear HB; have HO_3 := n0_; have HO367 := n1_; have HB := n2_; clear n0_ n1_ n2_; (try clear hb); (try clear hb2); (try clear hk); (try clear hi); have p370 : 0 ≤ (x4_1 : Int) := of_decide_eq_true (by first | (with_reducible assumption) | assumption); have q370 : x4_1 < (l0.length : Int) := of_decide_eq_true (by first | (with_reducible assumption) | assumption); obtain ⟨ad370, e370, hx370_0, hx370_1, hx370_2, hx370_3⟩ := at_T39 HR0.out x4_1 p370 q370; cases e370; replace hx370_0 := (HB.out.cell (World.block_lt_of_cell? w _ hx370_0)).trans hx370_0; replace hx370_1 := (HB.out.cell (World.block_lt_of_cell? w _ hx370_1)).trans hx370_1; replace hx370_2 := (HB.out.cell (World.block_lt_of_cell? w _ hx370_2)).trans hx370_2; replace hx370_3 := (HB.out.cell (World.block_lt_of_cell? w _ hx370_3)).trans hx370_3; replace p370 := eq_true p370; replace q370 := eq_true q370) | ((with_reducible refine gate_builtin (b := .append) (xs := #[.tmp 27, .tmp 32]) rfl ?_); at_builtin; refine Kd.R_append k39 (w0 := w) w.heap.size rfl (.tmp 27) (.tmp 32) 27 39 (.agg #[(.int .i64 0), (.string ⟨#[]⟩), (.string ⟨#[]⟩), (.int .i64 0)]) 48 rfl Try.underlying27 info39 rfl (by decide) (by omega) u3 x3_1 (⟨(rd_T39 l0 x4_1).f0, (rd_T39 l0 x4_1).f1, (rd_T39 l0 x4_1).f2, (rd_T39 l0 x4_1).f3⟩ : S39) [.int .i64 ((rd_T39 l0 x4_1).f0), .string ((rd_T39 l0 x4_1).f1), .string ((rd_T39 l0 x4_1).f2), .int .i64 ((rd_T39 l0 x4_1).f3)] (fun _ => True) (fun _ => False) rfl rfl ?aP (fun _ hk => hk.elim) ?aF ?aO ?aB ?aS ?aL ?_; (case aP => exact k39_mkM _ _ _ (⟨(rd_T39 l0 x4_1).f0, (rd_T39 l0 x4_1).f1, (rd_T39 l0 x4_1).f2, (rd_T39 l0 x4_1).f3⟩ : S39)); (case aB => exact (by repeat (first | (with_reducible first | exact HB.out | apply below_alloc | apply pw_below_drewN | apply below_drew1) | exact HB.out))); (case aF => exact (fun _ _ => trivial)); (case aO => exact (by (with_reducible repeat (first | apply Kd.R_alloc | apply Kd.R_drewN | apply Kd.R_drew)); exact HO_3.out)); (case aS => exact (below_size (by repeat (first | (with_reducible first | exact HB.out | apply below_alloc | apply pw_below_drewN | apply below_drew1) | exact HB.out)))); (case aL => have := LMc12.out; omega); intro v372 w17 ho hb hg hat; rw [← Ny371.out] at ho; have n0_ := Aside0.mk (Kd.R_over' (by (with_reducible repeat (first | apply Kd.R_alloc | apply Kd.R_drewN | apply Kd.R_drew)); exact HO367.out) (Kd.R_typed (by (with_reducible repeat (first | apply Kd.R_alloc | apply Kd.R_drewN | apply Kd.R_drew)); exact HO_3.out)) (by decide) hg); have n1_ := Aside0.mk (hb); have n2_ := Aside0.mk (ho); clear HO367; clear HB; clear HO_3; have HO367 := n0_; have HB := n1_; have HO373 := n2_; clear n0_ n1_ n2_; clear ho hb hg hat))
                      go_roundg k1
                      case measure => have := HK1.out; omega
                      case rel => exact ⟨(y371), (wrap64 (x4_1 + 1)), (by first | rfl | (simp; done) | (simp [*]; done)), H', ⟨by have := HK1.out; omega⟩, ⟨by (with_reducible repeat (first | apply Kd.R_alloc | apply Kd.R_drewN | apply Kd.R_drew)); exact HO373.out⟩, ⟨by repeat (first | (with_reducible first | exact HB.out | apply below_alloc | apply pw_below_drewN | apply below_drew1) | exact HB.out)⟩⟩
                    · rw [if_neg c12] at H
                      exact absurd H (by simp)
                  · replace c11 := Bool.eq_false_iff.mpr c11
                    subst c11
                    have H1 : (triremelaw32_TraceBack.l0 k1 l0 x3_1 (wrap64 (x4_1 + 1))) = some r := by rw [if_neg (show ¬ (false = true) by decide)] at H; exact H
                    clear H
                    have H := H1
                    clear H1
                    have H' := Aside0.mk H
                    clear H
                    have q18 : ((wrap64 (x4_1 + 1)) : Int) ≤ ((l0.length : Int) : Int) := of_decide_eq_true (by first | (with_reducible assumption) | assumption)
                    obtain ⟨i018, hi018, _, hsz18, _⟩ := info_parts info39
                    have hroom18 : l0.length ≤ c0 := HC0.out
                    have hC18 : Kd.C k39 _ A0 l0.length l0 := HR0.out
                    have ql18 : (x4_1 : Int) ≤ ((wrap64 (x4_1 + 1)) : Int) := of_decide_eq_true (by first | (with_reducible assumption) | assumption)
                    have q018 : (0 : Int) ≤ (x4_1 : Int) := of_decide_eq_true (by first | (with_reducible assumption) | assumption)
                    have hcut18 := cut_mid (P := Try.prog) 27 39 .i64 .i64 Try.underlying27 hi018 4 hsz18 A0 l0.length c0 x4_1 (wrap64 (x4_1 + 1)) q018 ql18 q18 hroom18
                    have hr18 := Kd.C_mid (lo := (x4_1 : Int).toNat) (hi := ((wrap64 (x4_1 + 1)) : Int).toNat) (c := c0) hC18 (by omega) (by omega) hroom18
                    obtain ⟨A18, hA18⟩ : ∃ A1, A1 = (if c0 = (x4_1 : Int).toNat then A0 else (A0 : Option Addr).map (·.add ((x4_1 : Int).toNat * 4))) := ⟨_, rfl⟩
                    obtain ⟨c18, hc18⟩ : ∃ c1, c1 = c0 - (x4_1 : Int).toNat := ⟨_, rfl⟩
                    have hy18 : y361.length = ((wrap64 (x4_1 + 1)) : Int).toNat - (x4_1 : Int).toNat := (by rw [Ny361.out, List.length_drop, List.length_take] <;> omega)
                    rw [show ((l0).take ((wrap64 (x4_1 + 1)) : Int).toNat).drop (x4_1 : Int).toNat = y361 from Ny361.out.symm] at hr18
                    replace hr18 : Kd.C k39 _ A18 y361.length y361 := (by rw [hA18]; exact hr18)
                    rw [← hy18, ← hA18, ← hc18] at hcut18
                    have HR364 := Aside0.mk hr18
                    have HC364 := Aside0.mk (show y361.length ≤ c18 from by rw [hy18, hc18]; exact Nat.sub_le_sub_right (Nat.le_trans (by omega) hroom18) _)
                    clear hr18 hC18 hroom18 hi018 hsz18 hc18
                    have KY18 := Aside0.mk hy18
                    have KA18 := Aside0.mk hA18
                    clear hy18 hA18
                    replace q18 := eq_true q18
                    (try (have qz18 := q18; rw [ByteArray.size_extract, Nat.min_self] at qz18))
                    go_wp2_with (first | ((first | ((with_reducible refine gate_callee (f := 13) rfl ?_); refine goesL_ (some 23) rfl rfl Try.func13 (by kernel_rfl) rfl #[.slice A18 y361.length c18] rfl (by (try simp only [List.map_toArray, List.map_cons, List.map_nil]); first | done | rfl | (simp only [List.length_drop, List.length_take]; rfl)) ?_; (with_reducible refine (triremelaw32_given.calls k1 _ _ y361 t365 _ ?side1 ?side2 A8.out).mono ?_); (case side1 => repeat (first | exact (Kd.C_below HR364.out HB.out) | (with_reducible refine Kd.C_alloc ?_ _) | (with_reducible refine Kd.C_drewN ?_ _) | (with_reducible refine Kd.C_drew ?_))); (case side2 => exact HC364.out); rintro e w19 ⟨v366, rfl, ho0, hb⟩; refine ⟨_, rfl, ?_⟩) | (go_at_call 13; (with_reducible refine (triremelaw32_given.calls k1 _ _ y361 t365 _ ?side1 ?side2 A8.out).mono ?_); (case side1 => repeat (first | exact (Kd.C_below HR364.out HB.out) | (with_reducible refine Kd.C_alloc ?_ _) | (with_reducible refine Kd.C_drewN ?_ _) | (with_reducible refine Kd.C_drew ?_))); (case side2 => exact HC364.out); rintro e w19 ⟨v366, rfl, ho0, hb⟩)); have n0_ := Aside0.mk (Kd.R_below (by (with_reducible repeat (first | apply Kd.R_alloc | apply Kd.R_drewN | apply Kd.R_drew)); exact HO_3.out) hb); have n1_ := Aside0.mk (Kd.R_lower ho0 (below_size (by repeat (first | (with_reducible first | exact HB.out | apply below_alloc | apply pw_below_drewN | apply below_drew1) | exact HB.out)))); have n2_ := Aside0.mk (below_step (by repeat (first | (with_reducible first | exact HB.out | apply below_alloc | apply pw_below_drewN | apply below_drew1) | exact HB.out)) hb); clear HO_3; clear HB; have HO_3 := n0_; have HO367 := n1_; have HB := n2_; clear n0_ n1_ n2_; (try clear hb); (try clear hb2); (try clear hk); (try clear hi); (try clear ho0); obtain ⟨Ao20, co20, eo20⟩ := Kd.R_slice HO367.out; subst eo20; have p368 : 0 ≤ (0 : Int) := (by omega); have q368 : 0 < (t365.length : Int) := of_decide_eq_true (by first | (with_reducible assumption) | assumption); obtain ⟨ad368, e368, hx368_0, hx368_1, hx368_2, hx368_3⟩ := at_T37 (Kd.R_reads' HO367.out).2.2 0 p368 q368; cases e368; have qi368 : (0 < t365.length) = True := eq_true (by omega); (try rw [show ((0 : Int)).toNat = 0 from rfl] at hx368_0); (try rw [show 0 * 4 = 0 from rfl] at hx368_0); (try rw [Addr.add_zero'] at hx368_0); (try rw [show ((0 : Int)).toNat = 0 from rfl] at hx368_1); (try rw [show 0 * 4 = 0 from rfl] at hx368_1); (try rw [Addr.add_zero'] at hx368_1); (try rw [show ((0 : Int)).toNat = 0 from rfl] at hx368_2); (try rw [show 0 * 4 = 0 from rfl] at hx368_2); (try rw [Addr.add_zero'] at hx368_2); (try rw [show ((0 : Int)).toNat = 0 from rfl] at hx368_3); (try rw [show 0 * 4 = 0 from rfl] at hx368_3); (try rw [Addr.add_zero'] at hx368_3); replace p368 := eq_true p368; replace q368 := eq_true q368) | ((first | ((with_reducible refine gate_callee (f := 14) rfl ?_); refine goesL_ (some 26) rfl rfl Try.func14 (by kernel_rfl) rfl #[.agg #[.int .i64 ((rd_T37 t365 0).f0), .string ((rd_T37 t365 0).f1), .string ((rd_T37 t365 0).f2), .int .i64 ((rd_T37 t365 0).f3)]] rfl (by (try simp only [List.map_toArray, List.map_cons, List.map_nil]); first | done | rfl | (simp only [List.length_drop, List.length_take]; rfl)) ?_; (with_reducible refine (trace_Right.calls k1 ((rd_T37 t365 0).f0) ((rd_T37 t365 0).f1) ((rd_T37 t365 0).f2) ((rd_T37 t365 0).f3) false _ A10.out).mono ?_); rintro e w21 ⟨rfl, hb⟩; refine ⟨_, rfl, ?_⟩) | (go_at_call 14; (with_reducible refine (trace_Right.calls k1 ((rd_T37 t365 0).f0) ((rd_T37 t365 0).f1) ((rd_T37 t365 0).f2) ((rd_T37 t365 0).f3) false _ A10.out).mono ?_); rintro e w21 ⟨rfl, hb⟩)); have n0_ := Aside0.mk (Kd.R_below (by (with_reducible repeat (first | apply Kd.R_alloc | apply Kd.R_drewN | apply Kd.R_drew)); exact HO_3.out) hb); have n1_ := Aside0.mk (Kd.R_below (by (with_reducible repeat (first | apply Kd.R_alloc | apply Kd.R_drewN | apply Kd.R_drew)); exact HO367.out) hb); have n2_ := Aside0.mk (below_step (by repeat (first | (with_reducible first | exact HB.out | apply below_alloc | apply pw_below_drewN | apply below_drew1) | exact HB.out)) hb); clear HO_3; clear HO367; clear HB; have HO_3 := n0_; have HO367 := n1_; have HB := n2_; clear n0_ n1_ n2_; (try clear hb); (try clear hb2); (try clear hk); (try clear hi)))
                    go_roundg k1
                    case measure => have := HK1.out; omega
                    case rel => exact ⟨(x3_1), (wrap64 (x4_1 + 1)), (by first | rfl | (simp; done) | (simp [*]; done)), H', ⟨by have := HK1.out; omega⟩, ⟨by (with_reducible repeat (first | apply Kd.R_alloc | apply Kd.R_drewN | apply Kd.R_drew)); exact HO_3.out⟩, ⟨by repeat (first | (with_reducible first | exact HB.out | apply below_alloc | apply pw_below_drewN | apply below_drew1) | exact HB.out)⟩⟩
                · rw [if_neg c9] at H
                  exact absurd H (by simp)
              · rw [if_neg c7] at H
                exact absurd H (by simp)
            · rw [if_neg c6] at H
              exact absurd H (by simp)
          · rw [if_neg c5] at H
            exact absurd H (by simp)
        · rw [if_neg c4] at H
          have c4b0 : decide (x4_1 < (l0.length : Int)) = false := decide_eq_false c4
          clear c4
          replace H := Option.bind_eq_some_iff.mp H
          obtain ⟨t374, A220, H⟩ := H
          replace H : ((trace_Show.f k1 t374).bind fun t377 => ((trace_Parse.f k1 t377).bind fun bt378 => (if bt378.2.1 = 0 then (if bt378.2.2 = 0 then ((triremelaw32_taken.f k1 bt378.1).bind fun t383 => ((triremeref32_Same.f k1 t383 x3_1).bind fun t386 => (if t386 = true then ((triremelaw32_known.f k1).bind fun t387 => (some t387)) else (some false)))) else (some false)) else (some false)))) = some r := H
          have A22 := Aside0.mk A220
          clear A220
          replace H := Option.bind_eq_some_iff.mp H
          obtain ⟨t377, A230, H⟩ := H
          replace H : ((trace_Parse.f k1 t377).bind fun bt378 => (if bt378.2.1 = 0 then (if bt378.2.2 = 0 then ((triremelaw32_taken.f k1 bt378.1).bind fun t383 => ((triremeref32_Same.f k1 t383 x3_1).bind fun t386 => (if t386 = true then ((triremelaw32_known.f k1).bind fun t387 => (some t387)) else (some false)))) else (some false)) else (some false))) = some r := H
          have A23 := Aside0.mk A230
          clear A230
          replace H := Option.bind_eq_some_iff.mp H
          obtain ⟨⟨t378, t379, t380⟩, A240, H⟩ := H
          replace H : (if t379 = 0 then (if t380 = 0 then ((triremelaw32_taken.f k1 t378).bind fun t383 => ((triremeref32_Same.f k1 t383 x3_1).bind fun t386 => (if t386 = true then ((triremelaw32_known.f k1).bind fun t387 => (some t387)) else (some false)))) else (some false)) else (some false)) = some r := H
          have A24 := Aside0.mk A240
          clear A240
          by_cases c25 : t379 = 0
          · rw [if_pos c25] at H
            have c25b0 : (t379 == 0) = true := beq_iff_eq.mpr c25
            have c25b1 : (t379 != 0) = false := bne_eq_false_iff_eq.mpr c25
            clear c25
            by_cases c26 : t380 = 0
            · rw [if_pos c26] at H
              have c26b0 : (t380 == 0) = true := beq_iff_eq.mpr c26
              have c26b1 : (t380 != 0) = false := bne_eq_false_iff_eq.mpr c26
              clear c26
              replace H := Option.bind_eq_some_iff.mp H
              obtain ⟨t383, A270, H⟩ := H
              replace H : ((triremeref32_Same.f k1 t383 x3_1).bind fun t386 => (if t386 = true then ((triremelaw32_known.f k1).bind fun t387 => (some t387)) else (some false))) = some r := H
              have A27 := Aside0.mk A270
              clear A270
              replace H := Option.bind_eq_some_iff.mp H
              obtain ⟨t386, A280, H⟩ := H
              replace H : (if t386 = true then ((triremelaw32_known.f k1).bind fun t387 => (some t387)) else (some false)) = some r := H
              have A28 := Aside0.mk A280
              clear A280
              by_cases c29 : t386 = true
              · subst c29
                have H1 : ((triremelaw32_known.f k1).bind fun t387 => (some t387)) = some r := by rw [if_pos rfl] at H; exact H
                clear H
                have H := H1
                clear H1
                replace H := Option.bind_eq_some_iff.mp H
                obtain ⟨t387, A300, H⟩ := H
                replace H : (some t387) = some r := H
                have A30 := Aside0.mk A300
                clear A300
                obtain rfl := Option.some.inj H
                go_wp2_with (first | ((first | ((with_reducible refine gate_callee (f := 13) rfl ?_); refine goesL_ (some 36) rfl rfl Try.func13 (by kernel_rfl) rfl #[.slice A0 l0.length c0] rfl (by (try simp only [List.map_toArray, List.map_cons, List.map_nil]); first | done | rfl | (simp only [List.length_drop, List.length_take]; rfl)) ?_; (with_reducible refine (triremelaw32_given.calls k1 _ _ l0 t374 _ ?side1 ?side2 A22.out).mono ?_); (case side1 => repeat (first | exact (Kd.C_below HR0.out HB.out) | (with_reducible refine Kd.C_alloc ?_ _) | (with_reducible refine Kd.C_drewN ?_ _) | (with_reducible refine Kd.C_drew ?_))); (case side2 => exact HC0.out); rintro e w31 ⟨v375, rfl, ho0, hb⟩; refine ⟨_, rfl, ?_⟩) | (go_at_call 13; (with_reducible refine (triremelaw32_given.calls k1 _ _ l0 t374 _ ?side1 ?side2 A22.out).mono ?_); (case side1 => repeat (first | exact (Kd.C_below HR0.out HB.out) | (with_reducible refine Kd.C_alloc ?_ _) | (with_reducible refine Kd.C_drewN ?_ _) | (with_reducible refine Kd.C_drew ?_))); (case side2 => exact HC0.out); rintro e w31 ⟨v375, rfl, ho0, hb⟩)); have n0_ := Aside0.mk (Kd.R_below (by (with_reducible repeat (first | apply Kd.R_alloc | apply Kd.R_drewN | apply Kd.R_drew)); exact HO_3.out) hb); have n1_ := Aside0.mk (Kd.R_lower ho0 (below_size (by repeat (first | (with_reducible first | exact HB.out | apply below_alloc | apply pw_below_drewN | apply below_drew1) | exact HB.out)))); have n2_ := Aside0.mk (below_step (by repeat (first | (with_reducible first | exact HB.out | apply below_alloc | apply pw_below_drewN | apply below_drew1) | exact HB.out)) hb); clear HO_3; clear HB; have HO_3 := n0_; have HO376 := n1_; have HB := n2_; clear n0_ n1_ n2_; (try clear hb); (try clear hb2); (try clear hk); (try clear hi); (try clear ho0); obtain ⟨Ao32, co32, eo32⟩ := Kd.R_slice HO376.out; subst eo32) | ((first | ((with_reducible refine gate_callee (f := 16) rfl ?_); refine goesL_ (some 37) rfl rfl Try.func16 (by kernel_rfl) rfl #[.slice Ao32 t374.length co32] rfl (by (try simp only [List.map_toArray, List.map_cons, List.map_nil]); first | done | rfl | (simp only [List.length_drop, List.length_take]; rfl)) ?_; (with_reducible refine (trace_Show.calls k1 _ _ t374 t377 _ ?side1 ?side2 A23.out).mono ?_); (case side1 => repeat (first | exact (Kd.R_reads' HO376.out).2.2 | (with_reducible refine Kd.C_alloc ?_ _) | (with_reducible refine Kd.C_drewN ?_ _) | (with_reducible refine Kd.C_drew ?_))); (case side2 => exact (Kd.R_reads' HO376.out).2.1); rintro e w33 ⟨rfl, hb⟩; refine ⟨_, rfl, ?_⟩) | (go_at_call 16; (with_reducible refine (trace_Show.calls k1 _ _ t374 t377 _ ?side1 ?side2 A23.out).mono ?_); (case side1 => repeat (first | exact (Kd.R_reads' HO376.out).2.2 | (with_reducible refine Kd.C_alloc ?_ _) | (with_reducible refine Kd.C_drewN ?_ _) | (with_reducible refine Kd.C_drew ?_))); (case side2 => exact (Kd.R_reads' HO376.out).2.1); rintro e w33 ⟨rfl, hb⟩)); have n0_ := Aside0.mk (Kd.R_below (by (with_reducible repeat (first | apply Kd.R_alloc | apply Kd.R_drewN | apply Kd.R_drew)); exact HO_3.out) hb); have n1_ := Aside0.mk (Kd.R_below (by (with_reducible repeat (first | apply Kd.R_alloc | apply Kd.R_drewN | apply Kd.R_drew)); exact HO376.out) hb); have n2_ := Aside0.mk (below_step (by repeat (first | (with_reducible first | exact HB.out | apply below_alloc | apply pw_below_drewN | apply below_drew1) | exact HB.out)) hb); clear HO_3; clear HO376; clear HB; have HO_3 := n0_; have HO376 := n1_; have HB := n2_; clear n0_ n1_ n2_; (try clear hb); (try clear hb2); (try clear hk); (try clear hi)) | ((first | ((with_reducible refine gate_callee (f := 8) rfl ?_); refine goesL_ (some 38) rfl rfl Try.func8 (by kernel_rfl) rfl #[.string t377] rfl (by (try simp only [List.map_toArray, List.map_cons, List.map_nil]); first | done | rfl | (simp only [List.length_drop, List.length_take]; rfl)) ?_; (with_reducible refine (trace_Parse.calls k1 t377 t378 t379 t380 _ A24.out).mono ?_); rintro e w34 ⟨v381, rfl, ho0, hb⟩; refine ⟨_, rfl, ?_⟩) | (go_at_call 8; (with_reducible refine (trace_Parse.calls k1 t377 t378 t379 t380 _ A24.out).mono ?_); rintro e w34 ⟨v381, rfl, ho0, hb⟩)); have n0_ := Aside0.mk (Kd.R_below (by (with_reducible repeat (first | apply Kd.R_alloc | apply Kd.R_drewN | apply Kd.R_drew)); exact HO_3.out) hb); have n1_ := Aside0.mk (Kd.R_elder' (by (with_reducible repeat (first | apply Kd.R_alloc | apply Kd.R_drewN | apply Kd.R_drew)); exact HO376.out) (Kd.R_base ho0) hb); have n2_ := Aside0.mk (Kd.R_lower (Kd.R_new' ho0 (Kd.R_lt (by (with_reducible repeat (first | apply Kd.R_alloc | apply Kd.R_drewN | apply Kd.R_drew)); exact HO376.out))) (below_size (by repeat (first | (with_reducible first | exact HB.out | apply below_alloc | apply pw_below_drewN | apply below_drew1) | exact HB.out)))); have n3_ := Aside0.mk (below_step (by repeat (first | (with_reducible first | exact HB.out | apply below_alloc | apply pw_below_drewN | apply below_drew1) | exact HB.out)) hb); clear HO_3; clear HO376; clear HB; have HO_3 := n0_; have HO376 := n1_; have HO382 := n2_; have HB := n3_; clear n0_ n1_ n2_ n3_; (try clear hb); (try clear hb2); (try clear hk); (try clear hi); (try clear ho0); obtain ⟨Ao35, co35, eo35⟩ := Kd.R_slice HO382.out; subst eo35) | (go_at_call 11; (with_reducible refine (triremelaw32_taken.calls k1 _ _ t378 t383 _ ?side1 ?side2 A27.out).mono ?_); (case side1 => repeat (first | exact (Kd.R_reads' HO382.out).2.2 | (with_reducible refine Kd.C_alloc ?_ _) | (with_reducible refine Kd.C_drewN ?_ _) | (with_reducible refine Kd.C_drew ?_))); (case side2 => exact (Kd.R_reads' HO382.out).2.1); rintro e w36 ⟨v384, rfl, ho0, hb⟩; have n0_ := Aside0.mk (Kd.R_elder' (by (with_reducible repeat (first | apply Kd.R_alloc | apply Kd.R_drewN | apply Kd.R_drew)); exact HO_3.out) (Kd.R_base ho0) hb); have n1_ := Aside0.mk (Kd.R_below (by (with_reducible repeat (first | apply Kd.R_alloc | apply Kd.R_drewN | apply Kd.R_drew)); exact HO376.out) hb); have n2_ := Aside0.mk (Kd.R_below (by (with_reducible repeat (first | apply Kd.R_alloc | apply Kd.R_drewN | apply Kd.R_drew)); exact HO382.out) hb); have n3_ := Aside0.mk (Kd.R_lower (Kd.R_new' ho0 (Kd.R_lt (by (with_reducible repeat (first | apply Kd.R_alloc | apply Kd.R_drewN | apply Kd.R_drew)); exact HO_3.out))) (below_size (by repeat (first | (with_reducible first | exact HB.out | apply below_alloc | apply pw_below_drewN | apply below_drew1) | exact HB.out)))); have n4_ := Aside0.mk (below_step (by repeat (first | (with_reducible first | exact HB.out | apply below_alloc | apply pw_below_drewN | apply below_drew1) | exact HB.out)) hb); clear HO_3; clear HO376; clear HO382; clear HB; have HO_3 := n0_; have HO376 := n1_; have HO382 := n2_; have HO385 := n3_; have HB := n4_; clear n0_ n1_ n2_ n3_ n4_; (try clear hb); (try clear hb2); (try clear hk); (try clear hi); (try clear ho0); obtain ⟨Ao37, co37, eo37⟩ := Kd.R_slice HO385.out; subst eo37; obtain ⟨Ao38, co38, eo38⟩ := Kd.R_slice HO_3.out; subst eo38) | (go_at_call 10; (with_reducible refine (triremeref32_Same.calls k1 _ _ t383 _ _ x3_1 true _ ?side1 ?side2 ?side3 ?side4 A28.out).mono ?_); (case side1 => repeat (first | exact (Kd.R_reads' HO385.out).2.2 | (with_reducible refine Kd.C_alloc ?_ _) | (with_reducible refine Kd.C_drewN ?_ _) | (with_reducible refine Kd.C_drew ?_))); (case side2 => exact (Kd.R_reads' HO385.out).2.1); (case side3 => repeat (first | exact (Kd.R_reads' HO_3.out).2.2 | (with_reducible refine Kd.C_alloc ?_ _) | (with_reducible refine Kd.C_drewN ?_ _) | (with_reducible refine Kd.C_drew ?_))); (case side4 => exact (Kd.R_reads' HO_3.out).2.1); rintro e w' ⟨rfl, ⟨nd, rfl⟩⟩) | (go_at_call 7; (with_reducible refine (triremelaw32_known.calls k1  t387 _ A30.out).mono ?_); rintro e w39 ⟨rfl, hb⟩; have n0_ := Aside0.mk (Kd.R_below (by (with_reducible repeat (first | apply Kd.R_alloc | apply Kd.R_drewN | apply Kd.R_drew)); exact HO_3.out) hb); have n1_ := Aside0.mk (Kd.R_below (by (with_reducible repeat (first | apply Kd.R_alloc | apply Kd.R_drewN | apply Kd.R_drew)); exact HO376.out) hb); have n2_ := Aside0.mk (Kd.R_below (by (with_reducible repeat (first | apply Kd.R_alloc | apply Kd.R_drewN | apply Kd.R_drew)); exact HO382.out) hb); have n3_ := Aside0.mk (Kd.R_below (by (with_reducible repeat (first | apply Kd.R_alloc | apply Kd.R_drewN | apply Kd.R_drew)); exact HO385.out) hb); have n4_ := Aside0.mk (below_step (by repeat (first | (with_reducible first | exact HB.out | apply below_alloc | apply pw_below_drewN | apply below_drew1) | exact HB.out)) hb); clear HO_3; clear HO376; clear HO382; clear HO385; clear HB; have HO_3 := n0_; have HO376 := n1_; have HO382 := n2_; have HO385 := n3_; have HB := n4_; clear n0_ n1_ n2_ n3_ n4_; (try clear hb); (try clear hb2); (try clear hk); (try clear hi)))
                go_ret
                exact ⟨by first | rfl | (simp [errW_none, errW_some] <;> rfl) | (simp [*, errW_none, errW_some] <;> rfl), by repeat (first | (with_reducible first | exact HB.out | apply below_alloc | apply pw_below_drewN | apply below_drew1) | exact HB.out)⟩
              · replace c29 := Bool.eq_false_iff.mpr c29
                subst c29
                have H1 : (some false) = some r := by rw [if_neg (show ¬ (false = true) by decide)] at H; exact H
                clear H
                have H := H1
                clear H1
                obtain rfl := Option.some.inj H
                go_wp2_with (first | ((first | ((with_reducible refine gate_callee (f := 13) rfl ?_); refine goesL_ (some 36) rfl rfl Try.func13 (by kernel_rfl) rfl #[.slice A0 l0.length c0] rfl (by (try simp only [List.map_toArray, List.map_cons, List.map_nil]); first | done | rfl | (simp only [List.length_drop, List.length_take]; rfl)) ?_; (with_reducible refine (triremelaw32_given.calls k1 _ _ l0 t374 _ ?side1 ?side2 A22.out).mono ?_); (case side1 => repeat (first | exact (Kd.C_below HR0.out HB.out) | (with_reducible refine Kd.C_alloc ?_ _) | (with_reducible refine Kd.C_drewN ?_ _) | (with_reducible refine Kd.C_drew ?_))); (case side2 => exact HC0.out); rintro e w40 ⟨v375, rfl, ho0, hb⟩; refine ⟨_, rfl, ?_⟩) | (go_at_call 13; (with_reducible refine (triremelaw32_given.calls k1 _ _ l0 t374 _ ?side1 ?side2 A22.out).mono ?_); (case side1 => repeat (first | exact (Kd.C_below HR0.out HB.out) | (with_reducible refine Kd.C_alloc ?_ _) | (with_reducible refine Kd.C_drewN ?_ _) | (with_reducible refine Kd.C_drew ?_))); (case side2 => exact HC0.out); rintro e w40 ⟨v375, rfl, ho0, hb⟩)); have n0_ := Aside0.mk (Kd.R_below (by (with_reducible repeat (first | apply Kd.R_alloc | apply Kd.R_drewN | apply Kd.R_drew)); exact HO_3.out) hb); have n1_ := Aside0.mk (Kd.R_lower ho0 (below_size (by repeat (first | (with_reducible first | exact HB.out | apply below_alloc | apply pw_below_drewN | apply below_drew1) | exact HB.out)))); have n2_ := Aside0.mk (below_step (by repeat (first | (with_reducible first | exact HB.out | apply below_alloc | apply pw_below_drewN | apply below_drew1) | exact HB.out)) hb); clear HO_3; clear HB; have HO_3 := n0_; have HO376 := n1_; have HB := n2_; clear n0_ n1_ n2_; (try clear hb); (try clear hb2); (try clear hk); (try clear hi); (try clear ho0); obtain ⟨Ao41, co41, eo41⟩ := Kd.R_slice HO376.out; subst eo41) | ((first | ((with_reducible refine gate_callee (f := 16) rfl ?_); refine goesL_ (some 37) rfl rfl Try.func16 (by kernel_rfl) rfl #[.slice Ao41 t374.length co41] rfl (by (try simp only [List.map_toArray, List.map_cons, List.map_nil]); first | done | rfl | (simp only [List.length_drop, List.length_take]; rfl)) ?_; (with_reducible refine (trace_Show.calls k1 _ _ t374 t377 _ ?side1 ?side2 A23.out).mono ?_); (case side1 => repeat (first | exact (Kd.R_reads' HO376.out).2.2 | (with_reducible refine Kd.C_alloc ?_ _) | (with_reducible refine Kd.C_drewN ?_ _) | (with_reducible refine Kd.C_drew ?_))); (case side2 => exact (Kd.R_reads' HO376.out).2.1); rintro e w42 ⟨rfl, hb⟩; refine ⟨_, rfl, ?_⟩) | (go_at_call 16; (with_reducible refine (trace_Show.calls k1 _ _ t374 t377 _ ?side1 ?side2 A23.out).mono ?_); (case side1 => repeat (first | exact (Kd.R_reads' HO376.out).2.2 | (with_reducible refine Kd.C_alloc ?_ _) | (with_reducible refine Kd.C_drewN ?_ _) | (with_reducible refine Kd.C_drew ?_))); (case side2 => exact (Kd.R_reads' HO376.out).2.1); rintro e w42 ⟨rfl, hb⟩)); have n0_ := Aside0.mk (Kd.R_below (by (with_reducible repeat (first | apply Kd.R_alloc | apply Kd.R_drewN | apply Kd.R_drew)); exact HO_3.out) hb); have n1_ := Aside0.mk (Kd.R_below (by (with_reducible repeat (first | apply Kd.R_alloc | apply Kd.R_drewN | apply Kd.R_drew)); exact HO376.out) hb); have n2_ := Aside0.mk (below_step (by repeat (first | (with_reducible first | exact HB.out | apply below_alloc | apply pw_below_drewN | apply below_drew1) | exact HB.out)) hb); clear HO_3; clear HO376; clear HB; have HO_3 := n0_; have HO376 := n1_; have HB := n2_; clear n0_ n1_ n2_; (try clear hb); (try clear hb2); (try clear hk); (try clear hi)) | ((first | ((with_reducible refine gate_callee (f := 8) rfl ?_); refine goesL_ (some 38) rfl rfl Try.func8 (by kernel_rfl) rfl #[.string t377] rfl (by (try simp only [List.map_toArray, List.map_cons, List.map_nil]); first | done | rfl | (simp only [List.length_drop, List.length_take]; rfl)) ?_; (with_reducible refine (trace_Parse.calls k1 t377 t378 t379 t380 _ A24.out).mono ?_); rintro e w43 ⟨v381, rfl, ho0, hb⟩; refine ⟨_, rfl, ?_⟩) | (go_at_call 8; (with_reducible refine (trace_Parse.calls k1 t377 t378 t379 t380 _ A24.out).mono ?_); rintro e w43 ⟨v381, rfl, ho0, hb⟩)); have n0_ := Aside0.mk (Kd.R_below (by (with_reducible repeat (first | apply Kd.R_alloc | apply Kd.R_drewN | apply Kd.R_drew)); exact HO_3.out) hb); have n1_ := Aside0.mk (Kd.R_elder' (by (with_reducible repeat (first | apply Kd.R_alloc | apply Kd.R_drewN | apply Kd.R_drew)); exact HO376.out) (Kd.R_base ho0) hb); have n2_ := Aside0.mk (Kd.R_lower (Kd.R_new' ho0 (Kd.R_lt (by (with_reducible repeat (first | apply Kd.R_alloc | apply Kd.R_drewN | apply Kd.R_drew)); exact HO376.out))) (below_size (by repeat (first | (with_reducible first | exact HB.out | apply below_alloc | apply pw_below_drewN | apply below_drew1) | exact HB.out)))); have n3_ := Aside0.mk (below_step (by repeat (first | (with_reducible first | exact HB.out | apply below_alloc | apply pw_below_drewN | apply below_drew1) | exact HB.out)) hb); clear HO_3; clear HO376; clear HB; have HO_3 := n0_; have HO376 := n1_; have HO382 := n2_; have HB := n3_; clear n0_ n1_ n2_ n3_; (try clear hb); (try clear hb2); (try clear hk); (try clear hi); (try clear ho0); obtain ⟨Ao44, co44, eo44⟩ := Kd.R_slice HO382.out; subst eo44) | (go_at_call 11; (with_reducible refine (triremelaw32_taken.calls k1 _ _ t378 t383 _ ?side1 ?side2 A27.out).mono ?_); (case side1 => repeat (first | exact (Kd.R_reads' HO382.out).2.2 | (with_reducible refine Kd.C_alloc ?_ _) | (with_reducible refine Kd.C_drewN ?_ _) | (with_reducible refine Kd.C_drew ?_))); (case side2 => exact (Kd.R_reads' HO382.out).2.1); rintro e w45 ⟨v384, rfl, ho0, hb⟩; have n0_ := Aside0.mk (Kd.R_elder' (by (with_reducible repeat (first | apply Kd.R_alloc | apply Kd.R_drewN | apply Kd.R_drew)); exact HO_3.out) (Kd.R_base ho0) hb); have n1_ := Aside0.mk (Kd.R_below (by (with_reducible repeat (first | apply Kd.R_alloc | apply Kd.R_drewN | apply Kd.R_drew)); exact HO376.out) hb); have n2_ := Aside0.mk (Kd.R_below (by (with_reducible repeat (first | apply Kd.R_alloc | apply Kd.R_drewN | apply Kd.R_drew)); exact HO382.out) hb); have n3_ := Aside0.mk (Kd.R_lower (Kd.R_new' ho0 (Kd.R_lt (by (with_reducible repeat (first | apply Kd.R_alloc | apply Kd.R_drewN | apply Kd.R_drew)); exact HO_3.out))) (below_size (by repeat (first | (with_reducible first | exact HB.out | apply below_alloc | apply pw_below_drewN | apply below_drew1) | exact HB.out)))); have n4_ := Aside0.mk (below_step (by repeat (first | (with_reducible first | exact HB.out | apply below_alloc | apply pw_below_drewN | apply below_drew1) | exact HB.out)) hb); clear HO_3; clear HO376; clear HO382; clear HB; have HO_3 := n0_; have HO376 := n1_; have HO382 := n2_; have HO385 := n3_; have HB := n4_; clear n0_ n1_ n2_ n3_ n4_; (try clear hb); (try clear hb2); (try clear hk); (try clear hi); (try clear ho0); obtain ⟨Ao46, co46, eo46⟩ := Kd.R_slice HO385.out; subst eo46; obtain ⟨Ao47, co47, eo47⟩ := Kd.R_slice HO_3.out; subst eo47) | (go_at_call 10; (with_reducible refine (triremeref32_Same.calls k1 _ _ t383 _ _ x3_1 false _ ?side1 ?side2 ?side3 ?side4 A28.out).mono ?_); (case side1 => repeat (first | exact (Kd.R_reads' HO385.out).2.2 | (with_reducible refine Kd.C_alloc ?_ _) | (with_reducible refine Kd.C_drewN ?_ _) | (with_reducible refine Kd.C_drew ?_))); (case side2 => exact (Kd.R_reads' HO385.out).2.1); (case side3 => repeat (first | exact (Kd.R_reads' HO_3.out).2.2 | (with_reducible refine Kd.C_alloc ?_ _) | (with_reducible refine Kd.C_drewN ?_ _) | (with_reducible refine Kd.C_drew ?_))); (case side4 => exact (Kd.R_reads' HO_3.out).2.1); rintro e w' ⟨rfl, ⟨nd, rfl⟩⟩))
                go_ret
                exact ⟨by first | rfl | (simp [errW_none, errW_some] <;> rfl) | (simp [*, errW_none, errW_some] <;> rfl), by repeat (first | (with_reducible first | exact HB.out | apply below_alloc | apply pw_below_drewN | apply below_drew1) | exact HB.out)⟩
            · rw [if_neg c26] at H
              have c26b0 : (t380 == 0) = false := beq_eq_false_iff_ne.mpr c26
              have c26b1 : (t380 != 0) = true := bne_iff_ne.mpr c26
              obtain rfl := Option.some.inj H
              go_wp2_with (first | ((first | ((with_reducible refine gate_callee (f := 13) rfl ?_); refine goesL_ (some 36) rfl rfl Try.func13 (by kernel_rfl) rfl #[.slice A0 l0.length c0] rfl (by (try simp only [List.map_toArray, List.map_cons, List.map_nil]); first | done | rfl | (simp only [List.length_drop, List.length_take]; rfl)) ?_; (with_reducible refine (triremelaw32_given.calls k1 _ _ l0 t374 _ ?side1 ?side2 A22.out).mono ?_); (case side1 => repeat (first | exact (Kd.C_below HR0.out HB.out) | (with_reducible refine Kd.C_alloc ?_ _) | (with_reducible refine Kd.C_drewN ?_ _) | (with_reducible refine Kd.C_drew ?_))); (case side2 => exact HC0.out); rintro e w48 ⟨v375, rfl, ho0, hb⟩; refine ⟨_, rfl, ?_⟩) | (go_at_call 13; (with_reducible refine (triremelaw32_given.calls k1 _ _ l0 t374 _ ?side1 ?side2 A22.out).mono ?_); (case side1 => repeat (first | exact (Kd.C_below HR0.out HB.out) | (with_reducible refine Kd.C_alloc ?_ _) | (with_reducible refine Kd.C_drewN ?_ _) | (with_reducible refine Kd.C_drew ?_))); (case side2 => exact HC0.out); rintro e w48 ⟨v375, rfl, ho0, hb⟩)); have n0_ := Aside0.mk (Kd.R_below (by (with_reducible repeat (first | apply Kd.R_alloc | apply Kd.R_drewN | apply Kd.R_drew)); exact HO_3.out) hb); have n1_ := Aside0.mk (Kd.R_lower ho0 (below_size (by repeat (first | (with_reducible first | exact HB.out | apply below_alloc | apply pw_below_drewN | apply below_drew1) | exact HB.out)))); have n2_ := Aside0.mk (below_step (by repeat (first | (with_reducible first | exact HB.out | apply below_alloc | apply pw_below_drewN | apply below_drew1) | exact HB.out)) hb); clear HO_3; clear HB; have HO_3 := n0_; have HO376 := n1_; have HB := n2_; clear n0_ n1_ n2_; (try clear hb); (try clear hb2); (try clear hk); (try clear hi); (try clear ho0); obtain ⟨Ao49, co49, eo49⟩ := Kd.R_slice HO376.out; subst eo49) | ((first | ((with_reducible refine gate_callee (f := 16) rfl ?_); refine goesL_ (some 37) rfl rfl Try.func16 (by kernel_rfl) rfl #[.slice Ao49 t374.length co49] rfl (by (try simp only [List.map_toArray, List.map_cons, List.map_nil]); first | done | rfl | (simp only [List.length_drop, List.length_take]; rfl)) ?_; (with_reducible refine (trace_Show.calls k1 _ _ t374 t377 _ ?side1 ?side2 A23.out).mono ?_); (case side1 => repeat (first | exact (Kd.R_reads' HO376.out).2.2 | (with_reducible refine Kd.C_alloc ?_ _) | (with_reducible refine Kd.C_drewN ?_ _) | (with_reducible refine Kd.C_drew ?_))); (case side2 => exact (Kd.R_reads' HO376.out).2.1); rintro e w50 ⟨rfl, hb⟩; refine ⟨_, rfl, ?_⟩) | (go_at_call 16; (with_reducible refine (trace_Show.calls k1 _ _ t374 t377 _ ?side1 ?side2 A23.out).mono ?_); (case side1 => repeat (first | exact (Kd.R_reads' HO376.out).2.2 | (with_reducible refine Kd.C_alloc ?_ _) | (with_reducible refine Kd.C_drewN ?_ _) | (with_reducible refine Kd.C_drew ?_))); (case side2 => exact (Kd.R_reads' HO376.out).2.1); rintro e w50 ⟨rfl, hb⟩)); have n0_ := Aside0.mk (Kd.R_below (by (with_reducible repeat (first | apply Kd.R_alloc | apply Kd.R_drewN | apply Kd.R_drew)); exact HO_3.out) hb); have n1_ := Aside0.mk (Kd.R_below (by (with_reducible repeat (first | apply Kd.R_alloc | apply Kd.R_drewN | apply Kd.R_drew)); exact HO376.out) hb); have n2_ := Aside0.mk (below_step (by repeat (first | (with_reducible first | exact HB.out | apply below_alloc | apply pw_below_drewN | apply below_drew1) | exact HB.out)) hb); clear HO_3; clear HO376; clear HB; have HO_3 := n0_; have HO376 := n1_; have HB := n2_; clear n0_ n1_ n2_; (try clear hb); (try clear hb2); (try clear hk); (try clear hi)) | ((first | ((with_reducible refine gate_callee (f := 8) rfl ?_); refine goesL_ (some 38) rfl rfl Try.func8 (by kernel_rfl) rfl #[.string t377] rfl (by (try simp only [List.map_toArray, List.map_cons, List.map_nil]); first | done | rfl | (simp only [List.length_drop, List.length_take]; rfl)) ?_; (with_reducible refine (trace_Parse.calls k1 t377 t378 t379 t380 _ A24.out).mono ?_); rintro e w51 ⟨v381, rfl, ho0, hb⟩; refine ⟨_, rfl, ?_⟩) | (go_at_call 8; (with_reducible refine (trace_Parse.calls k1 t377 t378 t379 t380 _ A24.out).mono ?_); rintro e w51 ⟨v381, rfl, ho0, hb⟩)); have n0_ := Aside0.mk (Kd.R_below (by (with_reducible repeat (first | apply Kd.R_alloc | apply Kd.R_drewN | apply Kd.R_drew)); exact HO_3.out) hb); have n1_ := Aside0.mk (Kd.R_elder' (by (with_reducible repeat (first | apply Kd.R_alloc | apply Kd.R_drewN | apply Kd.R_drew)); exact HO376.out) (Kd.R_base ho0) hb); have n2_ := Aside0.mk (Kd.R_lower (Kd.R_new' ho0 (Kd.R_lt (by (with_reducible repeat (first | apply Kd.R_alloc | apply Kd.R_drewN | apply Kd.R_drew)); exact HO376.out))) (below_size (by repeat (first | (with_reducible first | exact HB.out | apply below_alloc | apply pw_below_drewN | apply below_drew1) | exact HB.out)))); have n3_ := Aside0.mk (below_step (by repeat (first | (with_reducible first | exact HB.out | apply below_alloc | apply pw_below_drewN | apply below_drew1) | exact HB.out)) hb); clear HO_3; clear HO376; clear HB; have HO_3 := n0_; have HO376 := n1_; have HO382 := n2_; have HB := n3_; clear n0_ n1_ n2_ n3_; (try clear hb); (try clear hb2); (try clear hk); (try clear hi); (try clear ho0)))
              go_ret
              exact ⟨by first | rfl | (simp [errW_none, errW_some] <;> rfl) | (simp [*, errW_none, errW_some] <;> rfl), by repeat (first | (with_reducible first | exact HB.out | apply below_alloc | apply pw_below_drewN | apply below_drew1) | exact HB.out)⟩
          · rw [if_neg c25] at H
            have c25b0 : (t379 == 0) = false := beq_eq_false_iff_ne.mpr c25
            have c25b1 : (t379 != 0) = true := bne_iff_ne.mpr c25
            obtain rfl := Option.some.inj H
            go_wp2_with (first | ((first | ((with_reducible refine gate_callee (f := 13) rfl ?_); refine goesL_ (some 36) rfl rfl Try.func13 (by kernel_rfl) rfl #[.slice A0 l0.length c0] rfl (by (try simp only [List.map_toArray, List.map_cons, List.map_nil]); first | done | rfl | (simp only [List.length_drop, List.length_take]; rfl)) ?_; (with_reducible refine (triremelaw32_given.calls k1 _ _ l0 t374 _ ?side1 ?side2 A22.out).mono ?_); (case side1 => repeat (first | exact (Kd.C_below HR0.out HB.out) | (with_reducible refine Kd.C_alloc ?_ _) | (with_reducible refine Kd.C_drewN ?_ _) | (with_reducible refine Kd.C_drew ?_))); (case side2 => exact HC0.out); rintro e w52 ⟨v375, rfl, ho0, hb⟩; refine ⟨_, rfl, ?_⟩) | (go_at_call 13; (with_reducible refine (triremelaw32_given.calls k1 _ _ l0 t374 _ ?side1 ?side2 A22.out).mono ?_); (case side1 => repeat (first | exact (Kd.C_below HR0.out HB.out) | (with_reducible refine Kd.C_alloc ?_ _) | (with_reducible refine Kd.C_drewN ?_ _) | (with_reducible refine Kd.C_drew ?_))); (case side2 => exact HC0.out); rintro e w52 ⟨v375, rfl, ho0, hb⟩)); have n0_ := Aside0.mk (Kd.R_below (by (with_reducible repeat (first | apply Kd.R_alloc | apply Kd.R_drewN | apply Kd.R_drew)); exact HO_3.out) hb); have n1_ := Aside0.mk (Kd.R_lower ho0 (below_size (by repeat (first | (with_reducible first | exact HB.out | apply below_alloc | apply pw_below_drewN | apply below_drew1) | exact HB.out)))); have n2_ := Aside0.mk (below_step (by repeat (first | (with_reducible first | exact HB.out | apply below_alloc | apply pw_below_drewN | apply below_drew1) | exact HB.out)) hb); clear HO_3; clear HB; have HO_3 := n0_; have HO376 := n1_; have HB := n2_; clear n0_ n1_ n2_; (try clear hb); (try clear hb2); (try clear hk); (try clear hi); (try clear ho0); obtain ⟨Ao53, co53, eo53⟩ := Kd.R_slice HO376.out; subst eo53) | ((first | ((with_reducible refine gate_callee (f := 16) rfl ?_); refine goesL_ (some 37) rfl rfl Try.func16 (by kernel_rfl) rfl #[.slice Ao53 t374.length co53] rfl (by (try simp only [List.map_toArray, List.map_cons, List.map_nil]); first | done | rfl | (simp only [List.length_drop, List.length_take]; rfl)) ?_; (with_reducible refine (trace_Show.calls k1 _ _ t374 t377 _ ?side1 ?side2 A23.out).mono ?_); (case side1 => repeat (first | exact (Kd.R_reads' HO376.out).2.2 | (with_reducible refine Kd.C_alloc ?_ _) | (with_reducible refine Kd.C_drewN ?_ _) | (with_reducible refine Kd.C_drew ?_))); (case side2 => exact (Kd.R_reads' HO376.out).2.1); rintro e w54 ⟨rfl, hb⟩; refine ⟨_, rfl, ?_⟩) | (go_at_call 16; (with_reducible refine (trace_Show.calls k1 _ _ t374 t377 _ ?side1 ?side2 A23.out).mono ?_); (case side1 => repeat (first | exact (Kd.R_reads' HO376.out).2.2 | (with_reducible refine Kd.C_alloc ?_ _) | (with_reducible refine Kd.C_drewN ?_ _) | (with_reducible refine Kd.C_drew ?_))); (case side2 => exact (Kd.R_reads' HO376.out).2.1); rintro e w54 ⟨rfl, hb⟩)); have n0_ := Aside0.mk (Kd.R_below (by (with_reducible repeat (first | apply Kd.R_alloc | apply Kd.R_drewN | apply Kd.R_drew)); exact HO_3.out) hb); have n1_ := Aside0.mk (Kd.R_below (by (with_reducible repeat (first | apply Kd.R_alloc | apply Kd.R_drewN | apply Kd.R_drew)); exact HO376.out) hb); have n2_ := Aside0.mk (below_step (by repeat (first | (with_reducible first | exact HB.out | apply below_alloc | apply pw_below_drewN | apply below_drew1) | exact HB.out)) hb); clear HO_3; clear HO376; clear HB; have HO_3 := n0_; have HO376 := n1_; have HB := n2_; clear n0_ n1_ n2_; (try clear hb); (try clear hb2); (try clear hk); (try clear hi)) | ((first | ((with_reducible refine gate_callee (f := 8) rfl ?_); refine goesL_ (some 38) rfl rfl Try.func8 (by kernel_rfl) rfl #[.string t377] rfl (by (try simp only [List.map_toArray, List.map_cons, List.map_nil]); first | done | rfl | (simp only [List.length_drop, List.length_take]; rfl)) ?_; (with_reducible refine (trace_Parse.calls k1 t377 t378 t379 t380 _ A24.out).mono ?_); rintro e w55 ⟨v381, rfl, ho0, hb⟩; refine ⟨_, rfl, ?_⟩) | (go_at_call 8; (with_reducible refine (trace_Parse.calls k1 t377 t378 t379 t380 _ A24.out).mono ?_); rintro e w55 ⟨v381, rfl, ho0, hb⟩)); have n0_ := Aside0.mk (Kd.R_below (by (with_reducible repeat (first | apply Kd.R_alloc | apply Kd.R_drewN | apply Kd.R_drew)); exact HO_3.out) hb); have n1_ := Aside0.mk (Kd.R_elder' (by (with_reducible repeat (first | apply Kd.R_alloc | apply Kd.R_drewN | apply Kd.R_drew)); exact HO376.out) (Kd.R_base ho0) hb); have n2_ := Aside0.mk (Kd.R_lower (Kd.R_new' ho0 (Kd.R_lt (by (with_reducible repeat (first | apply Kd.R_alloc | apply Kd.R_drewN | apply Kd.R_drew)); exact HO376.out))) (below_size (by repeat (first | (with_reducible first | exact HB.out | apply below_alloc | apply pw_below_drewN | apply below_drew1) | exact HB.out)))); have n3_ := Aside0.mk (below_step (by repeat (first | (with_reducible first | exact HB.out | apply below_alloc | apply pw_below_drewN | apply below_drew1) | exact HB.out)) hb); clear HO_3; clear HO376; clear HB; have HO_3 := n0_; have HO376 := n1_; have HO382 := n2_; have HB := n3_; clear n0_ n1_ n2_ n3_; (try clear hb); (try clear hb2); (try clear hk); (try clear hi); (try clear ho0)))
            go_ret
            exact ⟨by first | rfl | (simp [errW_none, errW_some] <;> rfl) | (simp [*, errW_none, errW_some] <;> rfl), by repeat (first | (with_reducible first | exact HB.out | apply below_alloc | apply pw_below_drewN | apply below_drew1) | exact HB.out)⟩
  · replace c3 := Bool.eq_false_iff.mpr c3
    subst c3
    have H1 : ((triremelaw32_known.f k).bind fun t360 => (some t360)) = some r := by rw [if_neg (show ¬ (false = true) by decide)] at H; exact H
    clear H
    have H := H1
    clear H1
    replace H := Option.bind_eq_some_iff.mp H
    obtain ⟨t360, A560, H⟩ := H
    replace H : (some t360) = some r := H
    have A56 := Aside0.mk A560
    clear A560
    obtain rfl := Option.some.inj H
    go_enter Try.func5, Try.ntmps5
    go_wp2_with (first | ((first | ((with_reducible refine gate_callee (f := 12) rfl ?_); refine goesL_ (some 9) rfl rfl Try.func12 (by kernel_rfl) rfl #[.slice A0 l0.length c0] rfl (by (try simp only [List.map_toArray, List.map_cons, List.map_nil]); first | done | rfl | (simp only [List.length_drop, List.length_take]; rfl)) ?_; (with_reducible refine (triremelaw32_light.calls k _ _ l0 false _ ?side1 ?side2 A2.out).mono ?_); (case side1 => repeat (first | exact HR0.out | (with_reducible refine Kd.C_alloc ?_ _) | (with_reducible refine Kd.C_drewN ?_ _) | (with_reducible refine Kd.C_drew ?_))); (case side2 => exact HC0.out); rintro e w' ⟨rfl, ⟨nd, rfl⟩⟩; refine ⟨_, rfl, ?_⟩) | (go_at_call 12; (with_reducible refine (triremelaw32_light.calls k _ _ l0 false _ ?side1 ?side2 A2.out).mono ?_); (case side1 => repeat (first | exact HR0.out | (with_reducible refine Kd.C_alloc ?_ _) | (with_reducible refine Kd.C_drewN ?_ _) | (with_reducible refine Kd.C_drew ?_))); (case side2 => exact HC0.out); rintro e w' ⟨rfl, ⟨nd, rfl⟩⟩))) | ((first | ((with_reducible refine gate_callee (f := 7) rfl ?_); refine goesL_ (some 11) rfl rfl Try.func7 (by kernel_rfl) rfl #[] rfl (by (try simp only [List.map_toArray, List.map_cons, List.map_nil]); first | done | rfl | (simp only [List.length_drop, List.length_take]; rfl)) ?_; (with_reducible refine (triremelaw32_known.calls k  t360 _ A56.out).mono ?_); rintro e w57 ⟨rfl, hb⟩; refine ⟨_, rfl, ?_⟩) | (go_at_call 7; (with_reducible refine (triremelaw32_known.calls k  t360 _ A56.out).mono ?_); rintro e w57 ⟨rfl, hb⟩)); have n0_ := Aside0.mk (below_step (by repeat (first | (with_reducible first | exact HB.out | apply below_alloc | apply pw_below_drewN | apply below_drew1) | exact HB.out)) hb); clear HB; have HB := n0_; clear n0_; (try clear hb); (try clear hb2); (try clear hk); (try clear hi)))
    go_ret
    exact ⟨by first | rfl | (simp [errW_none, errW_some] <;> rfl) | (simp [*, errW_none, errW_some] <;> rfl), by repeat (first | (with_reducible first | exact HB.out | apply below_alloc | apply pw_below_drewN | apply below_drew1) | exact HB.out)⟩
end Go.Proofs.Ytngmcigkihfnkaa.H
end
section
namespace Go.Proofs.Ytngmcigkihfnkaa.H
open Go.RowKit Go.Proofs.YtngmcigkihfnkaaW.PrintWords Go.Proofs.YtngmcigkihfnkaaW.PrintLast Go.Proofs.YtngmcigkihfnkaaW.PrintMore
set_option linter.unusedVariables false
set_option linter.unusedSimpArgs false
theorem light_sub {l : List EvT} (h : lightR l = true) : ∀ e ∈ l, e.name.size ≤ 1000000000 := fun e he => by have := (light_use h).2 e he; omega
def showS : List EvT → List UInt8
  | [] => []
  | e :: l => if rightR e = true then (lineR e).toList ++ 10 :: showS l else showS l
theorem showA_toList : ∀ (l : List EvT) (acc : ByteArray), (showA acc l).toList = acc.toList ++ showS l
  | [], acc => by simp [showA, showS]
  | e :: l, acc => by
    simp only [showA, showS]
    by_cases h : rightR e = true
    · rw [if_pos h, if_pos h, showA_toList l, append_toList, append_toList]
      have e1 : (⟨#[10]⟩ : ByteArray).toList = [10] := by rw [ByteArray.toList_eq]
      rw [e1]; simp
    · rw [if_neg h, if_neg h, showA_toList l]
theorem line_no10 (e : EvT) (h : rightR e = true) : ∀ c ∈ (lineR e).toList, c ≠ 10 := by
  obtain ⟨⟨a1, a2⟩, ⟨b1, b2⟩, h3⟩ := right_parts e h
  have hdig : ∀ n : Int, 0 ≤ n → n ≤ 1099511627776 → ∀ c ∈ (decB n).toList, c ≠ 10 := by
    intro n h0 h1 c hc
    obtain ⟨m, rfl⟩ : ∃ m : Nat, n = m := ⟨n.toNat, by omega⟩
    exact (clean_dig (decB_val m (by omega)).1 c hc).2
  have hn : 0 ≤ e.n ∧ e.n ≤ 200 := by rcases h3 with ⟨_, h⟩ | ⟨_, h, h'⟩ <;> omega
  have hnm : ∀ c ∈ e.name.toList, c ≠ 10 := by
    rcases h3 with ⟨h, _⟩ | ⟨h, _⟩
    · rw [h, toList_nil (s := ⟨#[]⟩) rfl]; intro c hc; cases hc
    · exact fun c hc => ((word_clean _ h).1 c hc).2
  intro c hc
  rw [lineR_toList] at hc
  rcases List.mem_append.1 hc with hc | hc
  · rcases List.mem_append.1 hc with hc | hc
    · exact hdig _ a1 a2 c hc
    · rcases List.mem_singleton.1 hc with rfl; decide
  · rcases List.mem_cons.1 hc with rfl | hc
    · decide
    · rcases List.mem_append.1 hc with hc | hc
      · exact (b1 c hc).2
      · rcases List.mem_append.1 hc with hc | hc
        · by_cases hx : e.name = ⟨#[]⟩
          · rw [if_pos hx] at hc; cases hc
          · rw [if_neg hx] at hc
            rcases List.mem_cons.1 hc with rfl | hc
            · decide
            · exact hnm c hc
        · by_cases hx : 0 < e.n
          · rw [if_pos hx] at hc
            rcases List.mem_cons.1 hc with rfl | hc
            · decide
            · exact hdig _ hn.1 (by omega) c hc
          · rw [if_neg hx] at hc; cases hc
theorem lines_show : ∀ l : List EvT, linesR (showS l) = (l.filter rightR).map (fun e => (lineR e).toList)
  | [] => rfl
  | e :: l => by
    simp only [showS]
    by_cases h : rightR e = true
    · rw [if_pos h, linesR_app _ _ (line_no10 e h), lines_show l, List.filter_cons_of_pos h]; rfl
    · rw [if_neg h, lines_show l, List.filter_cons_of_neg h]
theorem parse_lines : ∀ (l acc : List EvT) (i : Int), (∀ e ∈ l, rightR e = true) → parseR (l.map lineR) acc i = (acc ++ l, 0, 0)
  | [], acc, i, _ => by simp [parseR]
  | e :: l, acc, i, h => by
    rw [List.map_cons]
    simp only [parseR, read_line e word_clean (h e List.mem_cons_self), if_true]
    rw [parse_lines l _ _ (fun x hx => h x (List.mem_cons_of_mem _ hx)), List.append_assoc]; rfl
theorem parse_show (l : List EvT) : parseR ((linesR (showA ⟨#[]⟩ l).toList).map mkB) [] 0 = (l.filter rightR, 0, 0) := by
  rw [showA_toList, toList_nil (s := ⟨#[]⟩) rfl, List.nil_append, lines_show, List.map_map]
  have : (l.filter rightR).map (mkB ∘ fun e => (lineR e).toList) = (l.filter rightR).map lineR := by
    apply List.map_congr_left; intro e _; exact mkB_of _
  rw [this, parse_lines _ _ _ (fun e he => (List.mem_filter.1 he).2), List.nil_append]
theorem showA_size : ∀ (l : List EvT) (acc : ByteArray), (∀ e ∈ l, e.what.size ≤ 100 ∧ e.name.size ≤ 300) → (showA acc l).size ≤ acc.size + 1000 * l.length
  | [], acc, _ => by simp [showA]
  | e :: l, acc, h => by
    have hz := line_size e (h e List.mem_cons_self).1 (h e List.mem_cons_self).2
    have e1 : (⟨#[10]⟩ : ByteArray).size = 1 := rfl
    simp only [showA, List.length_cons]
    by_cases hr : rightR e = true
    · rw [if_pos hr]
      have := showA_size l (acc ++ (lineR e ++ (⟨#[10]⟩ : ByteArray))) (fun x hx => h x (List.mem_cons_of_mem _ hx))
      simp only [ByteArray.size_append] at this
      omega
    · rw [if_neg hr]
      have := showA_size l acc (fun x hx => h x (List.mem_cons_of_mem _ hx))
      omega
theorem back_l0 (l : List S39) (h : lightR (l.map e39) = true) : ∀ (d i : Nat), i + d = l.length →
    Ev (fun k => triremelaw32_TraceBack.l0 k l ((l.take i).filter (fun x => rightR (e39 x))) (i : Int)) true := by
  have hlen : l.length ≤ 60 := by have := (light_use h).1; rwa [List.length_map] at this
  intro d
  induction d with
  | zero =>
    intro i hi
    refine Ev.step (fun k => by rw [triremelaw32_TraceBack.l0]) ?_
    simp only [show ¬ ((i : Int) < (l.length : Int)) by omega, if_false]
    rw [List.take_of_length_le (by omega)]
    refine Ev.bind (given_ev l (by omega)) ?_
    refine Ev.bind (show_ev _ h) ?_
    have hsz := showA_size (l.map e39) ⟨#[]⟩ (light_use h).2
    rw [List.length_map] at hsz
    have hp := parse_ev (showA ⟨#[]⟩ (l.map e39)) (by have : (⟨#[]⟩ : ByteArray).size = 0 := rfl
                                                      omega)
    rw [parse_show] at hp
    refine Ev.bind hp ?_
    simp only [lay37, if_true]
    have hfl : ((l.map e39).filter rightR).length ≤ 60 := Nat.le_trans (List.length_filter_le _ _) (by rw [List.length_map]; exact hlen)
    refine Ev.bind (taken_ev _ (by omega)) ?_
    have he : ((l.map e39).filter rightR).map s39 = l.filter (fun x => rightR (e39 x)) := by
      rw [List.filter_map, List.map_map]
      have : (l.filter (rightR ∘ e39)).map (s39 ∘ e39) = (l.filter (rightR ∘ e39)).map id := by
        apply List.map_congr_left; intro x _; rfl
      rw [this, List.map_id]; rfl
    rw [he]
    refine Ev.bind (same_ev _ (by rw [← he, List.length_map]; omega)) ?_
    simp only [if_true]
    exact Ev.bind known_ev (Ev.now _)
  | succ d ih =>
    intro i hi
    have h5 : i < l.length := by omega
    have hm := light_sub h (e39 l[i]) (List.mem_map.2 ⟨_, List.getElem_mem h5, rfl⟩)
    refine Ev.step (fun k => by rw [triremelaw32_TraceBack.l0]) ?_
    rw [rd39_at i h5, wrap_small (i := (i : Int) + 1) (by omega) (by omega), show ((i : Int) + 1).toNat = i + 1 by omega, Int.toNat_natCast]
    simp only [show (i : Int) < (l.length : Int) by omega, show (0 : Int) ≤ (i : Int) by omega, show (i : Int) ≤ (i : Int) + 1 by omega, show (i : Int) + 1 ≤ (l.length : Int) by omega, if_true]
    have hsub : (l.take (i + 1)).drop i = [l[i]] := by
      rw [List.take_succ_eq_append_getElem h5, List.drop_append_of_le_length (by rw [List.length_take]; omega), List.drop_eq_nil_of_le (by rw [List.length_take]; omega), List.nil_append]
    have hg := given_ev ((l.take (i + 1)).drop i) (by rw [hsub]; simp)
    refine Ev.bind hg ?_
    rw [hsub]
    simp only [List.map_cons, List.map_nil, show (0 : Int) < (([s37 (e39 l[i])] : List S37).length : Int) by simp, if_true, show rd_T37 [s37 (e39 l[i])] 0 = s37 (e39 l[i]) from rfl]
    refine Ev.bind (right_ev l[i].f0 l[i].f1 l[i].f2 l[i].f3 hm) ?_
    have htk := List.take_succ_eq_append_getElem h5
    have hacc : ((l.take i).filter (fun x => rightR (e39 x))).length ≤ 60 := Nat.le_trans (List.length_filter_le _ _) (by rw [List.length_take]; omega)
    have := ih (i + 1) (by omega)
    rw [htk, List.filter_append] at this
    refine ev_if (fun hb => ?_) (fun hb => ?_)
    · refine ev_if (fun _ => ?_) (fun h => absurd (by omega) h)
      rw [List.filter_cons_of_pos (by exact hb)] at this
      exact this
    · rw [List.filter_cons_of_neg (by exact hb)] at this
      simp only [List.filter_nil, List.append_nil] at this
      exact this
theorem back_pure (l : List S39) : ∃ k, triremelaw32_TraceBack.f k l = some true := by
  apply Ev.rounds
  unfold triremelaw32_TraceBack.f
  refine Ev.bind (light_ev l) ?_
  refine ev_if (fun h => ?_) (fun _ => Ev.bind known_ev (Ev.now _))
  exact back_l0 l h l.length 0 (by omega)
end Go.Proofs.Ytngmcigkihfnkaa.H
end
section
namespace Go.Proofs.Ytngmcigkihfnkaa.traceBack
open Go.ChangeShapes Go.WideShapes Go.ChangeAt Go.RowKit Go.Proofs.YtngmcigkihfnkaaW.PrintWords Go.Proofs.YtngmcigkihfnkaaW.PrintLast Go.Proofs.Ytngmcigkihfnkaa.H
open Go.ChangeMaps (open_string shut_string)
set_option linter.unusedVariables false
set_option maxRecDepth 100000
def ok3 (n : Int) : Prop := (Lit.int .i64 n).wf = true
theorem opens3 : Opens Try.prog 3 (Kd.int .i64) ok3 := opens_int Try.underlying3
def ok9 (s : ByteArray) : Prop := s.size ≤ 140737488351232
theorem opens9 : Opens Try.prog 9 Kd.string ok9 := opens_string Try.underlying9
def ok39 (y : S39) : Prop := ok3 y.f0 ∧ ok9 y.f1 ∧ ok9 y.f2 ∧ ok3 y.f3
theorem opens39 : Opens Try.prog 39 k39 ok39 := by
  intro H enc w base fuel held cs x h hw
  obtain ⟨xs, n, _, rfl, hl, hxl, hf⟩ := DataW.trod_struct Try.underlying39 h
  have hl' : cs.length = 4 := hl.trans (by kernel_rfl)
  have g0 := hf 0 _ rfl
  obtain ⟨x0, e0⟩ : ∃ z, xs[0]? = some z := ⟨_, List.getElem?_eq_getElem (by rw [hxl]; decide)⟩
  rw [e0] at g0
  obtain ⟨y0, q0, o0⟩ := opens3 enc w base n held ((cs.drop 0).take 1) x0 (by rw [← g0]; rfl) (fun m hm => hw m (DataW.weights_mem_each (j := 0) rfl (by rw [List.getElem?_map, e0]; rfl) m hm))
  have g1 := hf 1 _ rfl
  obtain ⟨x1, e1⟩ : ∃ z, xs[1]? = some z := ⟨_, List.getElem?_eq_getElem (by rw [hxl]; decide)⟩
  rw [e1] at g1
  obtain ⟨y1, q1, o1⟩ := opens9 enc w base n held ((cs.drop 1).take 1) x1 (by rw [← g1]; rfl) (fun m hm => hw m (DataW.weights_mem_each (j := 1) rfl (by rw [List.getElem?_map, e1]; rfl) m hm))
  have g2 := hf 2 _ rfl
  obtain ⟨x2, e2⟩ : ∃ z, xs[2]? = some z := ⟨_, List.getElem?_eq_getElem (by rw [hxl]; decide)⟩
  rw [e2] at g2
  obtain ⟨y2, q2, o2⟩ := opens9 enc w base n held ((cs.drop 2).take 1) x2 (by rw [← g2]; rfl) (fun m hm => hw m (DataW.weights_mem_each (j := 2) rfl (by rw [List.getElem?_map, e2]; rfl) m hm))
  have g3 := hf 3 _ rfl
  obtain ⟨x3, e3⟩ : ∃ z, xs[3]? = some z := ⟨_, List.getElem?_eq_getElem (by rw [hxl]; decide)⟩
  rw [e3] at g3
  obtain ⟨y3, q3, o3⟩ := opens3 enc w base n held ((cs.drop 3).take 1) x3 (by rw [← g3]; rfl) (fun m hm => hw m (DataW.weights_mem_each (j := 3) rfl (by rw [List.getElem?_map, e3]; rfl) m hm))
  rw [split_last cs 3 1 (by omega)] at q3
  exact ⟨⟨y0, y1, y2, y3⟩, ⟨_, _, split_step cs 0 1, q0, ⟨_, _, split_step cs 1 1, q1, ⟨_, _, split_step cs 2 1, q2, q3⟩⟩⟩, o0, o1, o2, o3⟩
theorem bytes27 : Try.prog.bytesOf 39 = 48 := by kernel_rfl
def ok27 (l : List S39) : Prop := l.length * 48 ≤ 140737488351232 ∧ ∀ y ∈ l, ok39 y
theorem opens27 : Opens Try.prog 27 (Kd.slice 39 k39) ok27 := opens_slice Try.underlying27 (by kernel_rfl) bytes27 opens39
theorem own : ownKnob Try.prog.godebug = none := by kernel_rfl
theorem laidOut : laidOutB Try.prog = true := by kernel_rfl
set_option maxRecDepth 100000 in
theorem lifted (os : Os) (started : os.Started) (H : Type) (enc : TypeId × Value → H) :
    ReturnsInHanded {} Try.checked os 5 .any (Rows.traceBackSpec.pre6 enc Try.prog Try.f5 Rows.traceBackRow.domain false) (Rows.traceBackSpec.post enc Try.prog Try.f5 false true false false) := by
  refine returnsInHanded_of_change_sized (C := Try.checked) own started (by kernel_rfl) Try.func5
    (ChangeSpec.witness6 (enc := enc) (C := Try.checked) false ⟨#[], #[.slice none 0 0], []⟩ 8 (by kernel_rfl) (by kernel_rfl) (by kernel_rfl) (by kernel_rfl)) ?_
  intro W base args ds gs before hval0 hW hcnd hsz0 _
  have hsz : (DataW.weightsEach Try.prog (Try.f5.params.toList ++ Rows.traceBackSpec.plain.varTypes Try.prog) (ds ++ gs)).all (· ≤ reachBytes) = true := hsz0
  have hval : ∀ (j : Nat) t v, Try.f5.params[j]? = some t → args[j]? = some v → Value.okWide Try.prog W .any base t v := hval0
  have hW' := hW
  obtain ⟨p, q, hA0, hV, rfl, hfz, hnd⟩ := hW
  have hA : DataW.TrodAll enc Try.prog W 0 (fun _ => true) true Try.f5.params.toList args.toList ds p := hA0
  rw [Try.params5] at hA hval hsz
  obtain ⟨v0, vs0, d0, ds0, p0, q0, hargs, rfl, rfl, h0, r0⟩ := trodAll_cons hA
  obtain ⟨rfl, rfl, rfl⟩ := trodAll_nil r0
  obtain rfl : args = #[v0] := by cases args; simp_all
  obtain ⟨rfl, rfl⟩ := trodVars_none hV
  have tr0 := h0
  have lt0 : ∀ x ∈ p0, x.block < W.heap.size := by obtain ⟨m, hm⟩ := tr0; exact DataW.trod_lt m _ _ _ hm
  obtain ⟨a0, len0, cap0, rfl⟩ := okWide_slice Try.underlying27 (hval 0 27 v0 rfl rfl)
  obtain ⟨m0, hm0⟩ := h0
  obtain ⟨l0, kk0, okk0⟩ := opens27 enc W 0 m0 true _ _ hm0 (fun m hm => of_decide_eq_true (List.all_eq_true.1 hsz m (DataW.weights_mem_each (j := 0) rfl rfl m hm)))
  obtain ⟨A0, c0, e0, hc0, hr0⟩ := kk0
  simp only [Value.cells, List.cons.injEq, and_true, Value.slice.injEq] at e0
  obtain ⟨rfl, rfl, rfl⟩ := e0
  clear hA0 hval0 hsz0 hsz
  obtain ⟨k, hp⟩ := back_pure l0
  refine (triremelaw32_TraceBack.calls k _ _ l0 true W hr0 hc0 hp).mono fun e W' ⟨he, bel⟩ => ?_
  subst he
  exact ⟨_, rfl, _, _, _, [], _, [], hW', trodAll_mk1 (shut_bool Try.underlying4 _), (trodAll_cons_mk (Below.trod laidOut (by kernel_rfl) (of_decide_eq_true (by kernel_rfl)) tr0 bel lt0) trodAll_mk0), rfl, bel.frame _, fun h => by cases h⟩
theorem over : Rows.traceBackRow.holds Try.pinned (OpenSpec.ofChange Rows.traceBackSpec) :=
  OpenClaim.holds_of_wide 5 Try.f5 rfl rfl rfl rfl rfl rfl rfl ⟨rfl, rfl, rfl, rfl, rfl⟩ rfl rfl rfl rfl rfl (by kernel_rfl) Try.func5 (by kernel_rfl)
    (of_decide_eq_true (by kernel_rfl)) (by unfold Func.isWrapper; first | (rw [if_pos (by decide +kernel)]; kernel_rfl) | (rw [if_neg (by decide +kernel)]; exact ⟨rfl, rfl⟩))
    (fun os started H enc _ => lifted os started H enc)
theorem proved : Rows.TraceBackSaid := over
end Go.Proofs.Ytngmcigkihfnkaa.traceBack
namespace Go.Proofs.Ytngmcigkihfnkaa
/-- TraceBack, as the given rows state it. -/
theorem traceBack_holds : Rows.TraceBackSaid := traceBack.proved
end Go.Proofs.Ytngmcigkihfnkaa
end
