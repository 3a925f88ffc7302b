/- Whether events are right and what is shown of them and how many calls and machines they tell and which one can not be so is as the reference says. -/
import Derived.Test.YtngmcigkihfnkaaRows
import Derived.WalkKit
import Derived.ProofKit
import Derived.OpenShut
import Derived.ShutString
import Derived.ChangeOld
import Derived.Below
import Derived.SizedLaws
import Derived.Deep.Slices
import Derived.Test.YtngmcigkihfnkaaProg
import Derived.Deep.Draws
import Derived.Deep.AppendLies
import Derived.Maps.AppendAt
import Derived.OwnWalk
import Derived.Laws.BytesArg
import Derived.Laws.MakeOwn
import Derived.Laws.OwnMore
import Derived.Deep.OwnRows
import Derived.Tactics
import Derived.Lib.ConvBytes
import Derived.Laws.Slices
import Derived.KernelRfl
import Derived.RowKit3
import Derived.Deep.LoopGhost
import Derived.Deep.QuietTactic
import Derived.BigQuiet
import Derived.WideLaws
import Derived.Deep.DeepCutAuto
import Derived.Deep.CutBlock
import Derived.Deep.RegionHeld3
import Derived.Laws.Rows
import Derived.Lib.AppendStr
import Derived.ArgAppend
import Derived.Laws.IdiomCopy
import Derived.OrdersHeld
import Derived.Laws.BitsLemmas
import Derived.RowKit
import Derived.Laws.RangeAny
import Derived.Laws.Cover1
import Derived.Lib.OthersKept
import Derived.Maps.Own
import Derived.Maps.OwnOps
import Derived.Maps.OwnSet
import Derived.Test.YtngmcigkihfnkaaCTraceBase0
import Derived.Test.YtngmcigkihfnkaaCTraceBase1
import Derived.Test.YtngmcigkihfnkaaCTraceBase2
import Derived.Test.YtngmcigkihfnkaaCTraceBase3
import Derived.Test.YtngmcigkihfnkaaCTraceTells0
import Derived.Test.YtngmcigkihfnkaaCTraceTells1
import Derived.Test.YtngmcigkihfnkaaCTraceTells2
section
namespace Go.Proofs.Ytngmcigkihfnkaa.H
open Go.RowKit Go.Proofs.YtngmcigkihfnkaaW.PrintWords Go.Proofs.YtngmcigkihfnkaaW.PrintLast Go.Proofs.YtngmcigkihfnkaaW.PrintMore
attribute [local go_sem] max2_int min2_int max_two min_two max_three min_three max_four min_four   -- for this text's walks alone
set_option linter.unusedVariables false
set_option linter.unusedSimpArgs false
mutual
def triremelaw32_TraceTells.j0 : Nat → List (S39) → ByteArray → Bool → Option (Bool)
  | 0, _, _, _ => none
  | k + 1, x0, x1, x14 => if x14 = true then ((triremelaw32_known.f k).bind fun t335 => (some t335)) else ((triremelaw32_given.f k x0).bind fun t336 => (triremelaw32_TraceTells.l0 k x0 x1 t336 0))
def triremelaw32_TraceTells.l0 : Nat → List (S39) → ByteArray → List (S37) → Int → Option (Bool)
  | 0, _, _, _, _ => none
  | k + 1, x0, x1, x5, x6 => if x6 < (x0.length : Int) then (if 0 ≤ x6 then (if x6 < (x5.length : Int) then ((trace_Right.f k ((rd_T37 x5 x6).f0) ((rd_T37 x5 x6).f1) ((rd_T37 x5 x6).f2) ((rd_T37 x5 x6).f3)).bind fun t340 => ((triremeref32_Right.f k ((rd_T39 x0 x6).f0) ((rd_T39 x0 x6).f1) ((rd_T39 x0 x6).f2) ((rd_T39 x0 x6).f3)).bind fun t342 => (if (t340 != t342) = true then (triremelaw32_TraceTells.j2 k x0 x1 x5 x6 true) else (if ((rd_T39 x0 x6).f3) > 1099511627776 then (triremelaw32_TraceTells.j2 k x0 x1 x5 x6 true) else (triremelaw32_TraceTells.j2 k x0 x1 x5 x6 (decide (((rd_T39 x0 x6).f3) < 0))))))) else (none)) else (none)) else ((trace_Show.f k x5).bind fun t350 => ((triremeref32_Show.f k x0).bind fun t351 => (if t350.toList = t351.toList then ((trace_Calls.f k x5).bind fun t352 => ((triremeref32_Calls.f k x0).bind fun t353 => (if t352 = t353 then ((trace_Check.f k x5).bind fun t354 => ((triremeref32_Check.f k x0).bind fun t355 => (if t354 = t355 then ((trace_Added.f k x5 x1).bind fun t356 => ((triremeref32_Added.f k x0 x1).bind fun t357 => (if t356 = t357 then ((triremelaw32_known.f k).bind fun t358 => (some t358)) else (some false)))) else (some false)))) else (some false)))) else (some false))))
def triremelaw32_TraceTells.j2 : Nat → List (S39) → ByteArray → List (S37) → Int → Bool → Option (Bool)
  | 0, _, _, _, _, _ => none
  | k + 1, x0, x1, x5, x6, x50 => if x50 = true then (if 0 ≤ x6 then (if x6 < (x5.length : Int) then ((trace_Right.f k ((rd_T37 x5 x6).f0) ((rd_T37 x5 x6).f1) ((rd_T37 x5 x6).f2) ((rd_T37 x5 x6).f3)).bind fun t346 => (if x6 < (x0.length : Int) then ((triremeref32_Right.f k ((rd_T39 x0 x6).f0) ((rd_T39 x0 x6).f1) ((rd_T39 x0 x6).f2) ((rd_T39 x0 x6).f3)).bind fun t348 => (if (t346 == t348) = true then ((triremelaw32_known.f k).bind fun t349 => (some t349)) else (some false))) else (none))) else (none)) else (none)) else (triremelaw32_TraceTells.l0 k x0 x1 x5 (wrap64 (x6 + 1)))
end
def triremelaw32_TraceTells.f (k : Nat) (l0 : List (S39)) (a1 : ByteArray) : Option (Bool) := (triremelaw32_light.f k l0).bind fun t334 => (if t334 = true then (triremelaw32_TraceTells.j0 k l0 a1 (decide ((a1.size : Int) > 300))) else (triremelaw32_TraceTells.j0 k l0 a1 true))
def triremelaw32_TraceTells.T7 : Bool × List (List Nat × List Nat) := (true, [([], []), ([], []), ([0, 1], [0, 1]), ([2], [2]), ([3], [3]), ([], []), ([], []), ([5, 6], [5, 6]), ([7], [7]), ([8, 4], [8]), ([4, 9], [4, 9]), ([10, 9], [10]), ([11], [11]), ([11], [11]), ([12, 13, 11], [11, 12, 13]), ([14, 11], [11, 14]), ([15, 11], [11, 15]), ([16, 11], [11, 16]), ([11, 17], [11, 17]), ([18, 11], [18]), ([19], [19]), ([19], [19]), ([20, 21, 19], [19, 20, 21]), ([22, 19], [19, 22]), ([23, 19], [19, 23]), ([24, 19], [19, 24]), ([19, 25], [19, 25])])
def triremelaw32_TraceTells.B7 : List Nat := [0, 0, 3, 7, 15, 0, 0, 96, 224, 511, 1023, 2047, 4095, 4095, 16383, 32767, 65535, 131071, 262143, 524287, 1048575, 1048575, 4194303, 8388607, 16777215, 33554431, 67108863]
theorem triremelaw32_TraceTells.tab7 : rtab .any (opsOf Try.f4 7) = triremelaw32_TraceTells.T7 := by kernel_rfl
theorem triremelaw32_TraceTells.bits7 : waitsOk triremelaw32_TraceTells.T7.2 triremelaw32_TraceTells.B7 = true := by kernel_rfl
def triremelaw32_TraceTells.T8 : Bool × List (List Nat × List Nat) := (true, [([], []), ([], []), ([0, 1], [0, 1]), ([2], [2]), ([3], [3]), ([], []), ([], []), ([5, 6], [5, 6]), ([7], [7]), ([8, 4], [8]), ([4, 9], [4, 9]), ([10, 9], [10]), ([11, 11], [11]), ([11, 12], [11, 12]), ([13, 12, 0, 1, 2, 3, 4, 5, 6, 7, 8, 9, 10, 11, 12, 13], [13])])
def triremelaw32_TraceTells.B8 : List Nat := [0, 0, 3, 7, 15, 0, 0, 96, 224, 511, 1023, 2047, 4095, 8191, 16383]
theorem triremelaw32_TraceTells.tab8 : rtab .any (opsOf Try.f4 8) = triremelaw32_TraceTells.T8 := by kernel_rfl
theorem triremelaw32_TraceTells.bits8 : waitsOk triremelaw32_TraceTells.T8.2 triremelaw32_TraceTells.B8 = true := by kernel_rfl
set_option maxHeartbeats 8000000 in
set_option maxRecDepth 100000 in
theorem triremelaw32_TraceTells.calls (k : Nat) (A0 : Option Addr) (c0 : Nat) (l0 : List (S39)) (a1 : ByteArray) (r : Bool) (w : World) (hr0 : Kd.C k39 w A0 l0.length l0) (hc0 : l0.length ≤ c0) (h : triremelaw32_TraceTells.f k l0 a1 = some r) :
    Calls Try.prog 4 #[.slice A0 l0.length c0, .string a1] w fun e w' => e = .returned (.bool r) ∧ Below w.heap.size w w' := by
  have hu37 := Try.underlying37
  have hu39 := Try.underlying39
  have HR0 := Aside0.mk hr0
  have HC0 := Aside0.mk hc0
  clear hr0 hc0
  have HB := Aside0.mk (Below.refl w.heap.size w)
  have H : ((triremelaw32_light.f k l0).bind fun t334 => (if t334 = true then (triremelaw32_TraceTells.j0 k l0 a1 (decide ((a1.size : Int) > 300))) else (triremelaw32_TraceTells.j0 k l0 a1 true))) = some r := h
  clear h
  have HC3 := Aside0.mk H
  clear H
  go_enter Try.func4, Try.ntmps4
  go_upto_region 1 with (fail)
  go_cut [14] (fun v14 wc => ∃ (kq : Nat) (x14_2 : Bool), v14 = .bool x14_2 ∧ Aside0 (triremelaw32_TraceTells.j0 kq l0 a1 x14_2 = some r) ∧ Aside0 (kq ≤ k) ∧ Aside0 (Below w.heap.size w wc))
  case first =>
    have H := HC3.out
    clear HC3
    replace H := Option.bind_eq_some_iff.mp H
    obtain ⟨t334, A40, H⟩ := H
    replace H : (if t334 = true then (triremelaw32_TraceTells.j0 k l0 a1 (decide ((a1.size : Int) > 300))) else (triremelaw32_TraceTells.j0 k l0 a1 true)) = some r := H
    have A4 := Aside0.mk A40
    clear A40
    by_cases c5 : t334 = true
    · subst c5
      have H1 : (triremelaw32_TraceTells.j0 k l0 a1 (decide ((a1.size : Int) > 300))) = some r := by rw [if_pos rfl] at H; exact H
      clear H
      have H := H1
      clear H1
      have H' := Aside0.mk H
      clear H
      go_wp2_with (first | ((first | ((with_reducible refine gate_callee (f := 12) rfl ?_); refine goesL_ (some 8) rfl rfl Try.func12 (by kernel_rfl) rfl #[.slice A0 l0.length c0] rfl (by (try simp only [List.map_toArray, List.map_cons, List.map_nil]); first | done | rfl | (simp only [List.length_drop, List.length_take]; rfl)) ?_; (with_reducible refine (triremelaw32_light.calls k _ _ l0 true _ ?side1 ?side2 A4.out).mono ?_); (case side1 => repeat (first | exact (Kd.C_below HR0.out HB.out) | (with_reducible refine Kd.C_alloc ?_ _) | (with_reducible refine Kd.C_drewN ?_ _) | (with_reducible refine Kd.C_drew ?_))); (case side2 => exact HC0.out); rintro e w' ⟨rfl, ⟨nd, rfl⟩⟩; refine ⟨_, rfl, ?_⟩) | (go_at_call 12; (with_reducible refine (triremelaw32_light.calls k _ _ l0 true _ ?side1 ?side2 A4.out).mono ?_); (case side1 => repeat (first | exact (Kd.C_below HR0.out HB.out) | (with_reducible refine Kd.C_alloc ?_ _) | (with_reducible refine Kd.C_drewN ?_ _) | (with_reducible refine Kd.C_drew ?_))); (case side2 => exact HC0.out); rintro e w' ⟨rfl, ⟨nd, rfl⟩⟩))))
      go_meet
      case rel => exact ⟨_, (decide ((a1.size : Int) > 300)), (by first | rfl | (simp; done) | (simp [*]; done)), H', ⟨by first | omega | exact Nat.le_refl _⟩, ⟨by repeat (first | (with_reducible first | exact HB.out | apply below_alloc | apply pw_below_drewN | apply below_drew1) | exact HB.out)⟩⟩
    · replace c5 := Bool.eq_false_iff.mpr c5
      subst c5
      have H1 : (triremelaw32_TraceTells.j0 k l0 a1 true) = some r := by rw [if_neg (show ¬ (false = true) by decide)] at H; exact H
      clear H
      have H := H1
      clear H1
      have H' := Aside0.mk H
      clear H
      go_wp2_with (first | ((first | ((with_reducible refine gate_callee (f := 12) rfl ?_); refine goesL_ (some 8) rfl rfl Try.func12 (by kernel_rfl) rfl #[.slice A0 l0.length c0] rfl (by (try simp only [List.map_toArray, List.map_cons, List.map_nil]); first | done | rfl | (simp only [List.length_drop, List.length_take]; rfl)) ?_; (with_reducible refine (triremelaw32_light.calls k _ _ l0 false _ ?side1 ?side2 A4.out).mono ?_); (case side1 => repeat (first | exact (Kd.C_below HR0.out HB.out) | (with_reducible refine Kd.C_alloc ?_ _) | (with_reducible refine Kd.C_drewN ?_ _) | (with_reducible refine Kd.C_drew ?_))); (case side2 => exact HC0.out); rintro e w' ⟨rfl, ⟨nd, rfl⟩⟩; refine ⟨_, rfl, ?_⟩) | (go_at_call 12; (with_reducible refine (triremelaw32_light.calls k _ _ l0 false _ ?side1 ?side2 A4.out).mono ?_); (case side1 => repeat (first | exact (Kd.C_below HR0.out HB.out) | (with_reducible refine Kd.C_alloc ?_ _) | (with_reducible refine Kd.C_drewN ?_ _) | (with_reducible refine Kd.C_drew ?_))); (case side2 => exact HC0.out); rintro e w' ⟨rfl, ⟨nd, rfl⟩⟩))))
      go_meet
      case rel => exact ⟨_, (true), (by first | rfl | (simp; done) | (simp [*]; done)), H', ⟨by first | omega | exact Nat.le_refl _⟩, ⟨by repeat (first | (with_reducible first | exact HB.out | apply below_alloc | apply pw_below_drewN | apply below_drew1) | exact HB.out)⟩⟩
  case rest =>
    clear HC3
    try clear c1
    try clear p2
    try clear c4
    try clear c5
    obtain ⟨kq, x14_2, rfl, HA, HJ2, HB⟩ := hcut
    cases kq with
    | zero => exact absurd HA.out (by simp [triremelaw32_TraceTells.j0])
    | succ kj2 =>
      have H := HA.out
      clear HA
      simp only [triremelaw32_TraceTells.j0] at H
      by_cases c6 : x14_2 = true
      · subst c6
        have H1 : ((triremelaw32_known.f kj2).bind fun t335 => (some t335)) = some r := by rw [if_pos rfl] at H; exact H
        clear H
        have H := H1
        clear H1
        replace H := Option.bind_eq_some_iff.mp H
        obtain ⟨t335, A70, H⟩ := H
        replace H : (some t335) = some r := H
        have A7 := Aside0.mk A70
        clear A70
        obtain rfl := Option.some.inj H
        go_wp2_with (first | ((first | ((with_reducible refine gate_callee (f := 7) rfl ?_); refine goesL_ (some 15) rfl rfl Try.func7 (by kernel_rfl) rfl #[] rfl (by (try simp only [List.map_toArray, List.map_cons, List.map_nil]); first | done | rfl | (simp only [List.length_drop, List.length_take]; rfl)) ?_; (with_reducible refine (triremelaw32_known.calls kj2  t335 _ A7.out).mono ?_); rintro e w8 ⟨rfl, hb⟩; refine ⟨_, rfl, ?_⟩) | (go_at_call 7; (with_reducible refine (triremelaw32_known.calls kj2  t335 _ A7.out).mono ?_); rintro e w8 ⟨rfl, hb⟩)); have n0_ := Aside0.mk (below_step (by repeat (first | (with_reducible first | exact HB.out | apply below_alloc | apply pw_below_drewN | apply below_drew1) | exact HB.out)) hb); clear HB; have HB := n0_; clear n0_; (try clear hb); (try clear hb2); (try clear hk); (try clear hi)))
        go_ret
        exact ⟨by first | rfl | (simp [errW_none, errW_some] <;> rfl) | (simp [*, errW_none, errW_some] <;> rfl), by repeat (first | (with_reducible first | exact HB.out | apply below_alloc | apply pw_below_drewN | apply below_drew1) | exact HB.out)⟩
      · replace c6 := Bool.eq_false_iff.mpr c6
        subst c6
        have H1 : ((triremelaw32_given.f kj2 l0).bind fun t336 => (triremelaw32_TraceTells.l0 kj2 l0 a1 t336 0)) = some r := by rw [if_neg (show ¬ (false = true) by decide)] at H; exact H
        clear H
        have H := H1
        clear H1
        replace H := Option.bind_eq_some_iff.mp H
        obtain ⟨t336, A90, H⟩ := H
        replace H : (triremelaw32_TraceTells.l0 kj2 l0 a1 t336 0) = some r := H
        have A9 := Aside0.mk A90
        clear A90
        have H' := Aside0.mk H
        clear H
        go_wp2_with (first | ((first | ((with_reducible refine gate_callee (f := 13) rfl ?_); refine goesL_ (some 17) rfl rfl Try.func13 (by kernel_rfl) rfl #[.slice A0 l0.length c0] rfl (by (try simp only [List.map_toArray, List.map_cons, List.map_nil]); first | done | rfl | (simp only [List.length_drop, List.length_take]; rfl)) ?_; (with_reducible refine (triremelaw32_given.calls kj2 _ _ l0 t336 _ ?side1 ?side2 A9.out).mono ?_); (case side1 => repeat (first | exact (Kd.C_below HR0.out HB.out) | (with_reducible refine Kd.C_alloc ?_ _) | (with_reducible refine Kd.C_drewN ?_ _) | (with_reducible refine Kd.C_drew ?_))); (case side2 => exact HC0.out); rintro e w10 ⟨v337, rfl, ho0, hb⟩; refine ⟨_, rfl, ?_⟩) | (go_at_call 13; (with_reducible refine (triremelaw32_given.calls kj2 _ _ l0 t336 _ ?side1 ?side2 A9.out).mono ?_); (case side1 => repeat (first | exact (Kd.C_below HR0.out HB.out) | (with_reducible refine Kd.C_alloc ?_ _) | (with_reducible refine Kd.C_drewN ?_ _) | (with_reducible refine Kd.C_drew ?_))); (case side2 => exact HC0.out); rintro e w10 ⟨v337, rfl, ho0, hb⟩)); have n0_ := Aside0.mk (Kd.R_lower ho0 (below_size (by repeat (first | (with_reducible first | exact HB.out | apply below_alloc | apply pw_below_drewN | apply below_drew1) | exact HB.out)))); have n1_ := Aside0.mk (below_step (by repeat (first | (with_reducible first | exact HB.out | apply below_alloc | apply pw_below_drewN | apply below_drew1) | exact HB.out)) hb); clear HB; have HO338 := n0_; have HB := n1_; clear n0_ n1_; (try clear hb); (try clear hb2); (try clear hk); (try clear hi); (try clear ho0)))
        go_loopg [6] kj2 (fun kq v6 w' => ∃ (x6_2 : Int), v6 = .int .i64 x6_2 ∧ Aside0 (triremelaw32_TraceTells.l0 kq l0 a1 t336 x6_2 = some r) ∧ Aside0 (kq ≤ kj2) ∧ Aside0 (Kd.R k37 37 w' w.heap.size (fun _ => True) v337 t336) ∧ Aside0 (Below w.heap.size w w'))
        case atStart => exact ⟨(0), (by first | rfl | (simp; done) | (simp [*]; done)), H', ⟨Nat.le_refl _⟩, ⟨by (with_reducible repeat (first | apply Kd.R_alloc | apply Kd.R_drewN | apply Kd.R_drew)); exact HO338.out⟩, ⟨by repeat (first | (with_reducible first | exact HB.out | apply below_alloc | apply pw_below_drewN | apply below_drew1) | exact HB.out)⟩⟩
        case round =>
          clear H'
          try clear c1
          try clear p2
          try clear c4
          try clear c5
          try clear c6
          try clear c7
          try clear p2
          obtain ⟨x6_2, rfl, HA, HK2, HO_5, HB⟩ := hrel
          cases gk with
          | zero => exact absurd HA.out (by simp [triremelaw32_TraceTells.l0])
          | succ k2 =>
            have H := HA.out
            clear HA
            simp only [triremelaw32_TraceTells.l0] at H
            by_cases c11 : x6_2 < (l0.length : Int)
            · rw [if_pos c11] at H
              have c11b0 : decide (x6_2 < (l0.length : Int)) = true := decide_eq_true c11
              clear c11
              have HC12 := Aside0.mk H
              clear H
              go_upto_region 7 with (fail)
              go_cut [50] (fun v50 wc => ∃ (kq : Nat) (x50_11 : Bool), v50 = .bool x50_11 ∧ Aside0 (triremelaw32_TraceTells.j2 kq l0 a1 t336 x6_2 x50_11 = some r) ∧ Aside0 (kq ≤ k2) ∧ Aside0 (Kd.R k37 37 wc w.heap.size (fun _ => True) v337 t336) ∧ Aside0 (Below w.heap.size w wc))
              case first =>
                have H := HC12.out
                clear HC12
                by_cases c13 : 0 ≤ x6_2
                · rw [if_pos c13] at H
                  have c13b0 : decide (0 ≤ x6_2) = true := decide_eq_true c13
                  clear c13
                  (first | rw [c13b0] | (simp only [i64_w, i32_w]; rw [c13b0]) | skip)
                  by_cases c14 : x6_2 < (t336.length : Int)
                  · rw [if_pos c14] at H
                    have c14b0 : decide (x6_2 < (t336.length : Int)) = true := decide_eq_true c14
                    clear c14
                    replace H := Option.bind_eq_some_iff.mp H
                    obtain ⟨t340, A150, H⟩ := H
                    replace H : ((triremeref32_Right.f k2 ((rd_T39 l0 x6_2).f0) ((rd_T39 l0 x6_2).f1) ((rd_T39 l0 x6_2).f2) ((rd_T39 l0 x6_2).f3)).bind fun t342 => (if (t340 != t342) = true then (triremelaw32_TraceTells.j2 k2 l0 a1 t336 x6_2 true) else (if ((rd_T39 l0 x6_2).f3) > 1099511627776 then (triremelaw32_TraceTells.j2 k2 l0 a1 t336 x6_2 true) else (triremelaw32_TraceTells.j2 k2 l0 a1 t336 x6_2 (decide (((rd_T39 l0 x6_2).f3) < 0)))))) = some r := H
                    have A15 := Aside0.mk A150
                    clear A150
                    replace H := Option.bind_eq_some_iff.mp H
                    obtain ⟨t342, A160, H⟩ := H
                    replace H : (if (t340 != t342) = true then (triremelaw32_TraceTells.j2 k2 l0 a1 t336 x6_2 true) else (if ((rd_T39 l0 x6_2).f3) > 1099511627776 then (triremelaw32_TraceTells.j2 k2 l0 a1 t336 x6_2 true) else (triremelaw32_TraceTells.j2 k2 l0 a1 t336 x6_2 (decide (((rd_T39 l0 x6_2).f3) < 0))))) = some r := H
                    have A16 := Aside0.mk A160
                    clear A160
                    by_cases c17 : (t340 != t342) = true
                    · rw [if_pos c17] at H
                      have c17b0 : (t340 != t342) = true := c17
                      (try (have c17b1 : decide (t340 = t342) = false := by simpa using c17))
                      (try (have c17b2 : (t340 == t342) = false := by simpa using c17))
                      (try (have c17b3 : ¬ (t340 = t342) := by simpa using c17))
                      clear c17
                      have H' := Aside0.mk H
                      clear H
                      try go_wp2
                      have n0_ := Aside0.mk (Kd.R_drew HO_5.out)
                      have n1_ := Aside0.mk (below_drew1 HB.out)
                      clear HO_5
                      clear HB
                      have HO_5 := n0_
                      have HB := n1_
                      clear n0_ n1_
                      obtain ⟨Ao19, co19, eo19⟩ := Kd.R_slice HO_5.out
                      (first | subst eo19 | (injection eo19 with f1_ f2_ f3_; have f4_ := f1_.symm; have f5_ := f3_.symm; clear f1_ f2_ f3_; subst f4_; subst f5_))
                      have p339 : 0 ≤ (x6_2 : Int) := of_decide_eq_true (by first | (with_reducible assumption) | assumption)
                      have q339 : x6_2 < (t336.length : Int) := of_decide_eq_true (by first | (with_reducible assumption) | assumption)
                      obtain ⟨ad339, e339, hx339_0, hx339_1, hx339_2, hx339_3⟩ := at_T37 (Kd.R_reads' HO_5.out).2.2 x6_2 p339 q339
                      cases e339
                      replace p339 := eq_true p339
                      replace q339 := eq_true q339
                      (try (have qz339 := q339; rw [ByteArray.size_extract, Nat.min_self] at qz339))
                      have p341 : 0 ≤ (x6_2 : Int) := of_decide_eq_true (by first | (with_reducible assumption) | assumption)
                      have q341 : x6_2 < (l0.length : Int) := of_decide_eq_true (by first | (with_reducible assumption) | assumption)
                      obtain ⟨ad341, e341, hx341_0, hx341_1, hx341_2, hx341_3⟩ := at_T39 HR0.out x6_2 p341 q341
                      have hw341_3 := hx341_3
                      have hw341_2 := hx341_2
                      have hw341_1 := hx341_1
                      have hw341_0 := hx341_0
                      cases e341
                      replace hx341_0 := (HB.out.cell (World.block_lt_of_cell? w _ hx341_0)).trans hx341_0
                      replace hx341_1 := (HB.out.cell (World.block_lt_of_cell? w _ hx341_1)).trans hx341_1
                      replace hx341_2 := (HB.out.cell (World.block_lt_of_cell? w _ hx341_2)).trans hx341_2
                      replace hx341_3 := (HB.out.cell (World.block_lt_of_cell? w _ hx341_3)).trans hx341_3
                      replace p341 := eq_true p341
                      replace q341 := eq_true q341
                      (try (have qz341 := q341; rw [ByteArray.size_extract, Nat.min_self] at qz341))
                      refine start_ (n := 27) (S := fun w' => w'.cell? (ad339.add ((x6_2).toNat * 4)) = some (.int .i64 ((rd_T37 t336 x6_2).f0)) ∧ w'.cell? ⟨(ad339.add ((x6_2).toNat * 4)).block, (ad339.add ((x6_2).toNat * 4)).off + 1, none⟩ = some (.string ((rd_T37 t336 x6_2).f1)) ∧ w'.cell? ⟨(ad339.add ((x6_2).toNat * 4)).block, (ad339.add ((x6_2).toNat * 4)).off + 2, none⟩ = some (.string ((rd_T37 t336 x6_2).f2)) ∧ w'.cell? ⟨(ad339.add ((x6_2).toNat * 4)).block, (ad339.add ((x6_2).toNat * 4)).off + 3, none⟩ = some (.int .i64 ((rd_T37 t336 x6_2).f3)) ∧ w'.cell? (ad341.add ((x6_2).toNat * 4)) = some (.int .i64 ((rd_T39 l0 x6_2).f0)) ∧ w'.cell? ⟨(ad341.add ((x6_2).toNat * 4)).block, (ad341.add ((x6_2).toNat * 4)).off + 1, none⟩ = some (.string ((rd_T39 l0 x6_2).f1)) ∧ w'.cell? ⟨(ad341.add ((x6_2).toNat * 4)).block, (ad341.add ((x6_2).toNat * 4)).off + 2, none⟩ = some (.string ((rd_T39 l0 x6_2).f2)) ∧ w'.cell? ⟨(ad341.add ((x6_2).toNat * 4)).block, (ad341.add ((x6_2).toNat * 4)).off + 3, none⟩ = some (.int .i64 ((rd_T39 l0 x6_2).f3))) (ds := []) #[false, false, false, false, false, false, false, false, false, false, false, false, false, false, false, false, false, false, false, false, false, false, false, false, false, false, false] (by kernel_rfl) rfl rfl ⟨hx339_0, hx339_1, hx339_2, hx339_3, ((HB.out.cell (World.block_lt_of_cell? w _ hw341_0)).trans hw341_0), ((HB.out.cell (World.block_lt_of_cell? w _ hw341_1)).trans hw341_1), ((HB.out.cell (World.block_lt_of_cell? w _ hw341_2)).trans hw341_2), ((HB.out.cell (World.block_lt_of_cell? w _ hw341_3)).trans hw341_3)⟩ (fun hHeld => ?_); refine with_tabW triremelaw32_TraceTells.tab7 triremelaw32_TraceTells.bits7 (fun HT_ HW_ => ?_)
                      generalize wr.drew = w18 at HO_5 HB hx339_0 hx339_1 hx339_2 hx339_3 hx341_0 hx341_1 hx341_2 hx341_3 hHeld ⊢
                      refine pure_ (i := 0) (N := some 24) (v := ?_) (a' := ?_) #[true, false, false, false, false, false, false, false, false, false, false, false, false, false, false, false, false, false, false, false, false, false, false, false, false, false, false] rfl rfl (any_of HT_.out (by kernel_rfl)) (fun _ _ _ h => h) (Or.inl ⟨by rfl, ?_⟩) ?_ ?_
                      rotate_left
                      · intro w'; go_simp; with_reducible rfl
                      rotate_left
                      · simp only [Act.put, List.setIfInBounds_toArray, List.set_cons_zero, List.set_cons_succ, i64_w, i32_w]; rfl
                      refine pure_ (i := 1) (N := some 25) (v := ?_) (a' := ?_) #[true, true, false, false, false, false, false, false, false, false, false, false, false, false, false, false, false, false, false, false, false, false, false, false, false, false, false] rfl rfl (any_of HT_.out (by kernel_rfl)) (fun _ _ _ h => h) (Or.inl ⟨by rfl, ?_⟩) ?_ ?_
                      rotate_left
                      · intro w'; go_simp; with_reducible rfl
                      rotate_left
                      · simp only [Act.put, List.setIfInBounds_toArray, List.set_cons_zero, List.set_cons_succ, i64_w, i32_w]; rfl
                      refine pure_ (i := 2) (N := some 26) (v := ?_) (a' := ?_) #[true, true, true, false, false, false, false, false, false, false, false, false, false, false, false, false, false, false, false, false, false, false, false, false, false, false, false] rfl rfl (any_of HT_.out (by kernel_rfl)) (fun _ _ _ h => h) (Or.inl ⟨by rfl, ?_⟩) ?_ ?_
                      rotate_left
                      · intro w'; go_simp; with_reducible rfl
                      rotate_left
                      · simp only [Act.put, List.setIfInBounds_toArray, List.set_cons_zero, List.set_cons_succ, i64_w, i32_w]; rfl
                      refine pure_ (i := 5) (N := some 29) (v := ?_) (a' := ?_) #[true, true, true, false, false, true, false, false, false, false, false, false, false, false, false, false, false, false, false, false, false, false, false, false, false, false, false] rfl rfl (any_of HT_.out (by kernel_rfl)) (fun _ _ _ h => h) (Or.inl ⟨by rfl, ?_⟩) ?_ ?_
                      rotate_left
                      · intro w'; go_simp; with_reducible rfl
                      rotate_left
                      · simp only [Act.put, List.setIfInBounds_toArray, List.set_cons_zero, List.set_cons_succ, i64_w, i32_w]; rfl
                      refine pure_ (i := 6) (N := some 30) (v := ?_) (a' := ?_) #[true, true, true, false, false, true, true, false, false, false, false, false, false, false, false, false, false, false, false, false, false, false, false, false, false, false, false] rfl rfl (any_of HT_.out (by kernel_rfl)) (fun _ _ _ h => h) (Or.inl ⟨by rfl, ?_⟩) ?_ ?_
                      rotate_left
                      · intro w'; go_simp; with_reducible rfl
                      rotate_left
                      · simp only [Act.put, List.setIfInBounds_toArray, List.set_cons_zero, List.set_cons_succ, i64_w, i32_w]; rfl
                      refine pure_ (i := 7) (N := some 31) (v := ?_) (a' := ?_) #[true, true, true, false, false, true, true, true, false, false, false, false, false, false, false, false, false, false, false, false, false, false, false, false, false, false, false] rfl rfl (any_of HT_.out (by kernel_rfl)) (fun _ _ _ h => h) (Or.inl ⟨by rfl, ?_⟩) ?_ ?_
                      rotate_left
                      · intro w'; go_simp; with_reducible rfl
                      rotate_left
                      · simp only [Act.put, List.setIfInBounds_toArray, List.set_cons_zero, List.set_cons_succ, i64_w, i32_w]; rfl
                      refine take_ (i := 3) (N := some 27) (v := ?_) (a' := ?_) #[true, true, true, true, false, true, true, true, false, false, false, false, false, false, false, false, false, false, false, false, false, false, false, false, false, false, false] rfl rfl (take_ofW HT_.out HW_.out (by kernel_rfl)) (fun _ _ _ h => h) (Or.inl ⟨by rfl, ?_⟩) hHeld ?_ ?_
                      rotate_left
                      · rintro w' ⟨s0, s1, s2, s3, s4, s5, s6, s7⟩; go_simp; with_reducible rfl
                      rotate_left
                      · simp only [Act.put, List.setIfInBounds_toArray, List.set_cons_zero, List.set_cons_succ, i64_w, i32_w]; rfl
                      refine take_ (i := 8) (N := some 32) (v := ?_) (a' := ?_) #[true, true, true, true, false, true, true, true, true, false, false, false, false, false, false, false, false, false, false, false, false, false, false, false, false, false, false] rfl rfl (take_ofW HT_.out HW_.out (by kernel_rfl)) (fun _ _ _ h => h) (Or.inl ⟨by rfl, ?_⟩) hHeld ?_ ?_
                      rotate_left
                      · rintro w' ⟨s0, s1, s2, s3, s4, s5, s6, s7⟩; go_simp; with_reducible rfl
                      rotate_left
                      · simp only [Act.put, List.setIfInBounds_toArray, List.set_cons_zero, List.set_cons_succ, i64_w, i32_w]; rfl
                      refine one_ (i := 4) (N := some 28) #[true, true, true, true, true, true, true, true, true, false, false, false, false, false, false, false, false, false, false, false, false, false, false, false, false, false, false] rfl rfl (one_of HT_.out (by kernel_rfl)) (by decide) (fun K hK => ?_)
                      refine goes_ Try.func14 (by kernel_rfl) rfl #[.agg #[.int .i64 ((rd_T37 t336 x6_2).f0), .string ((rd_T37 t336 x6_2).f1), .string ((rd_T37 t336 x6_2).f2), .int .i64 ((rd_T37 t336 x6_2).f3)]] (by rfl) rfl rfl (by (try simp only [List.map_toArray, List.map_cons, List.map_nil]); first | done | rfl | (simp only [List.length_drop, List.length_take]; rfl)) ?_
                      with_reducible refine (trace_Right.calls k2 ((rd_T37 t336 x6_2).f0) ((rd_T37 t336 x6_2).f1) ((rd_T37 t336 x6_2).f2) ((rd_T37 t336 x6_2).f3) t340 _ A15.out).mono ?_
                      rintro e w20 ⟨rfl, hb⟩
                      have HS0_ := (hb.cell (World.block_lt_of_cell? _ _ (hHeld.1))).trans (hHeld.1)
                      have HS1_ := (hb.cell (World.block_lt_of_cell? _ _ (hHeld.2.1))).trans (hHeld.2.1)
                      have HS2_ := (hb.cell (World.block_lt_of_cell? _ _ (hHeld.2.2.1))).trans (hHeld.2.2.1)
                      have HS3_ := (hb.cell (World.block_lt_of_cell? _ _ (hHeld.2.2.2.1))).trans (hHeld.2.2.2.1)
                      refine ⟨_, rfl, ?_⟩
                      have n0_ := Aside0.mk (Kd.R_below (by (with_reducible repeat (first | apply Kd.R_alloc | apply Kd.R_drewN | apply Kd.R_drew)); exact HO_5.out) hb)
                      have n1_ := Aside0.mk (below_step (by repeat (first | (with_reducible first | exact HB.out | apply below_alloc | apply pw_below_drewN | apply below_drew1) | exact HB.out)) hb)
                      clear HO_5
                      clear HB
                      have HO_5 := n0_
                      have HB := n1_
                      clear n0_ n1_
                      (try clear hb); (try clear hb2); (try clear hk); (try clear hi)
                      refine hK.out _ _ ⟨HS0_, HS1_, HS2_, HS3_, ((HB.out.cell (World.block_lt_of_cell? w _ hw341_0)).trans hw341_0), ((HB.out.cell (World.block_lt_of_cell? w _ hw341_1)).trans hw341_1), ((HB.out.cell (World.block_lt_of_cell? w _ hw341_2)).trans hw341_2), ((HB.out.cell (World.block_lt_of_cell? w _ hw341_3)).trans hw341_3)⟩ (fun hHeld => ?_)
                      clear hK K
                      refine norm_ (a' := ?_) ?_ ?_
                      rotate_left
                      · show Act.put _ (some 28) _ = _
                        simp only [Act.put, List.setIfInBounds_toArray, List.set_cons_zero, List.set_cons_succ, i64_w, i32_w]
                        rfl
                      refine one_ (i := 9) (N := some 33) #[true, true, true, true, true, true, true, true, true, true, false, false, false, false, false, false, false, false, false, false, false, false, false, false, false, false, false] rfl rfl (one_of HT_.out (by kernel_rfl)) (by decide) (fun K hK => ?_)
                      refine goes_ Try.func15 (by kernel_rfl) rfl #[.agg #[.int .i64 ((rd_T39 l0 x6_2).f0), .string ((rd_T39 l0 x6_2).f1), .string ((rd_T39 l0 x6_2).f2), .int .i64 ((rd_T39 l0 x6_2).f3)]] (by rfl) rfl rfl (by (try simp only [List.map_toArray, List.map_cons, List.map_nil]); first | done | rfl | (simp only [List.length_drop, List.length_take]; rfl)) ?_
                      with_reducible refine (triremeref32_Right.calls k2 ((rd_T39 l0 x6_2).f0) ((rd_T39 l0 x6_2).f1) ((rd_T39 l0 x6_2).f2) ((rd_T39 l0 x6_2).f3) t342 _ A16.out).mono ?_
                      rintro e w21 ⟨rfl, hb⟩
                      have HS0_ := (hb.cell (World.block_lt_of_cell? _ _ (hHeld.1))).trans (hHeld.1)
                      have HS1_ := (hb.cell (World.block_lt_of_cell? _ _ (hHeld.2.1))).trans (hHeld.2.1)
                      have HS2_ := (hb.cell (World.block_lt_of_cell? _ _ (hHeld.2.2.1))).trans (hHeld.2.2.1)
                      have HS3_ := (hb.cell (World.block_lt_of_cell? _ _ (hHeld.2.2.2.1))).trans (hHeld.2.2.2.1)
                      refine ⟨_, rfl, ?_⟩
                      have n0_ := Aside0.mk (Kd.R_below (by (with_reducible repeat (first | apply Kd.R_alloc | apply Kd.R_drewN | apply Kd.R_drew)); exact HO_5.out) hb)
                      have n1_ := Aside0.mk (below_step (by repeat (first | (with_reducible first | exact HB.out | apply below_alloc | apply pw_below_drewN | apply below_drew1) | exact HB.out)) hb)
                      clear HO_5
                      clear HB
                      have HO_5 := n0_
                      have HB := n1_
                      clear n0_ n1_
                      (try clear hb); (try clear hb2); (try clear hk); (try clear hi)
                      refine hK.out _ _ ⟨HS0_, HS1_, HS2_, HS3_, ((HB.out.cell (World.block_lt_of_cell? w _ hw341_0)).trans hw341_0), ((HB.out.cell (World.block_lt_of_cell? w _ hw341_1)).trans hw341_1), ((HB.out.cell (World.block_lt_of_cell? w _ hw341_2)).trans hw341_2), ((HB.out.cell (World.block_lt_of_cell? w _ hw341_3)).trans hw341_3)⟩ (fun hHeld => ?_)
                      clear hK K
                      refine norm_ (a' := ?_) ?_ ?_
                      rotate_left
                      · show Act.put _ (some 33) _ = _
                        simp only [Act.put, List.setIfInBounds_toArray, List.set_cons_zero, List.set_cons_succ, i64_w, i32_w]
                        rfl
                      refine pure_ (i := 10) (N := some 34) (v := ?_) (a' := ?_) #[true, true, true, true, true, true, true, true, true, true, true, false, false, false, false, false, false, false, false, false, false, false, false, false, false, false, false] rfl rfl (any_of HT_.out (by kernel_rfl)) (fun _ _ _ h => h) (Or.inl ⟨by rfl, ?_⟩) ?_ ?_
                      rotate_left
                      · intro w'; go_simp; with_reducible rfl
                      rotate_left
                      · simp only [Act.put, List.setIfInBounds_toArray, List.set_cons_zero, List.set_cons_succ, i64_w, i32_w]; rfl
                      refine pure_ (i := 11) (N := some 35) (v := ?_) (a' := ?_) #[true, true, true, true, true, true, true, true, true, true, true, true, false, false, false, false, false, false, false, false, false, false, false, false, false, false, false] rfl rfl (any_of HT_.out (by kernel_rfl)) (fun _ _ _ h => h) (Or.inl ⟨by rfl, ?_⟩) ?_ ?_
                      rotate_left
                      · intro w'; go_simp; with_reducible rfl
                      rotate_left
                      · simp only [Act.put, List.setIfInBounds_toArray, List.set_cons_zero, List.set_cons_succ, i64_w, i32_w]; rfl
                      refine pure_ (i := 12) (N := some 36) (v := undef) (a' := ?_) #[true, true, true, true, true, true, true, true, true, true, true, true, true, false, false, false, false, false, false, false, false, false, false, false, false, false, false] rfl rfl (any_of HT_.out (by kernel_rfl)) (fun _ _ _ h => h) (Or.inr ⟨by rfl, rfl⟩) ?_ ?_
                      rotate_left
                      · simp only [Act.put, List.setIfInBounds_toArray, List.set_cons_zero, List.set_cons_succ, i64_w, i32_w]; rfl
                      refine pure_ (i := 13) (N := some 37) (v := undef) (a' := ?_) #[true, true, true, true, true, true, true, true, true, true, true, true, true, true, false, false, false, false, false, false, false, false, false, false, false, false, false] rfl rfl (any_of HT_.out (by kernel_rfl)) (fun _ _ _ h => h) (Or.inr ⟨by rfl, rfl⟩) ?_ ?_
                      rotate_left
                      · simp only [Act.put, List.setIfInBounds_toArray, List.set_cons_zero, List.set_cons_succ, i64_w, i32_w]; rfl
                      refine pure_ (i := 14) (N := some 38) (v := undef) (a' := ?_) #[true, true, true, true, true, true, true, true, true, true, true, true, true, true, true, false, false, false, false, false, false, false, false, false, false, false, false] rfl rfl (any_of HT_.out (by kernel_rfl)) (fun _ _ _ h => h) (Or.inr ⟨by rfl, rfl⟩) ?_ ?_
                      rotate_left
                      · simp only [Act.put, List.setIfInBounds_toArray, List.set_cons_zero, List.set_cons_succ, i64_w, i32_w]; rfl
                      refine pure_ (i := 15) (N := some 39) (v := undef) (a' := ?_) #[true, true, true, true, true, true, true, true, true, true, true, true, true, true, true, true, false, false, false, false, false, false, false, false, false, false, false] rfl rfl (any_of HT_.out (by kernel_rfl)) (fun _ _ _ h => h) (Or.inr ⟨by rfl, rfl⟩) ?_ ?_
                      rotate_left
                      · simp only [Act.put, List.setIfInBounds_toArray, List.set_cons_zero, List.set_cons_succ, i64_w, i32_w]; rfl
                      refine pure_ (i := 16) (N := some 40) (v := undef) (a' := ?_) #[true, true, true, true, true, true, true, true, true, true, true, true, true, true, true, true, true, false, false, false, false, false, false, false, false, false, false] rfl rfl (any_of HT_.out (by kernel_rfl)) (fun _ _ _ h => h) (Or.inr ⟨by rfl, rfl⟩) ?_ ?_
                      rotate_left
                      · simp only [Act.put, List.setIfInBounds_toArray, List.set_cons_zero, List.set_cons_succ, i64_w, i32_w]; rfl
                      refine pure_ (i := 17) (N := some 41) (v := undef) (a' := ?_) #[true, true, true, true, true, true, true, true, true, true, true, true, true, true, true, true, true, true, false, false, false, false, false, false, false, false, false] rfl rfl (any_of HT_.out (by kernel_rfl)) (fun _ _ _ h => h) (Or.inr ⟨by rfl, rfl⟩) ?_ ?_
                      rotate_left
                      · simp only [Act.put, List.setIfInBounds_toArray, List.set_cons_zero, List.set_cons_succ, i64_w, i32_w]; rfl
                      refine pure_ (i := 18) (N := some 42) (v := ?_) (a' := ?_) #[true, true, true, true, true, true, true, true, true, true, true, true, true, true, true, true, true, true, true, false, false, false, false, false, false, false, false] rfl rfl (any_of HT_.out (by kernel_rfl)) (fun _ _ _ h => h) (Or.inl ⟨by rfl, ?_⟩) ?_ ?_
                      rotate_left
                      · intro w'; go_simp; with_reducible rfl
                      rotate_left
                      · simp only [Act.put, List.setIfInBounds_toArray, List.set_cons_zero, List.set_cons_succ, i64_w, i32_w]; rfl
                      refine pure_ (i := 19) (N := some 43) (v := ?_) (a' := ?_) #[true, true, true, true, true, true, true, true, true, true, true, true, true, true, true, true, true, true, true, true, false, false, false, false, false, false, false] rfl rfl (any_of HT_.out (by kernel_rfl)) (fun _ _ _ h => h) (Or.inl ⟨by rfl, ?_⟩) ?_ ?_
                      rotate_left
                      · intro w'; go_simp; with_reducible rfl
                      rotate_left
                      · simp only [Act.put, List.setIfInBounds_toArray, List.set_cons_zero, List.set_cons_succ, i64_w, i32_w]; rfl
                      refine pure_ (i := 20) (N := some 44) (v := undef) (a' := ?_) #[true, true, true, true, true, true, true, true, true, true, true, true, true, true, true, true, true, true, true, true, true, false, false, false, false, false, false] rfl rfl (any_of HT_.out (by kernel_rfl)) (fun _ _ _ h => h) (Or.inr ⟨by rfl, rfl⟩) ?_ ?_
                      rotate_left
                      · simp only [Act.put, List.setIfInBounds_toArray, List.set_cons_zero, List.set_cons_succ, i64_w, i32_w]; rfl
                      refine pure_ (i := 21) (N := some 45) (v := undef) (a' := ?_) #[true, true, true, true, true, true, true, true, true, true, true, true, true, true, true, true, true, true, true, true, true, true, false, false, false, false, false] rfl rfl (any_of HT_.out (by kernel_rfl)) (fun _ _ _ h => h) (Or.inr ⟨by rfl, rfl⟩) ?_ ?_
                      rotate_left
                      · simp only [Act.put, List.setIfInBounds_toArray, List.set_cons_zero, List.set_cons_succ, i64_w, i32_w]; rfl
                      refine pure_ (i := 22) (N := some 46) (v := undef) (a' := ?_) #[true, true, true, true, true, true, true, true, true, true, true, true, true, true, true, true, true, true, true, true, true, true, true, false, false, false, false] rfl rfl (any_of HT_.out (by kernel_rfl)) (fun _ _ _ h => h) (Or.inr ⟨by rfl, rfl⟩) ?_ ?_
                      rotate_left
                      · simp only [Act.put, List.setIfInBounds_toArray, List.set_cons_zero, List.set_cons_succ, i64_w, i32_w]; rfl
                      refine pure_ (i := 23) (N := some 47) (v := undef) (a' := ?_) #[true, true, true, true, true, true, true, true, true, true, true, true, true, true, true, true, true, true, true, true, true, true, true, true, false, false, false] rfl rfl (any_of HT_.out (by kernel_rfl)) (fun _ _ _ h => h) (Or.inr ⟨by rfl, rfl⟩) ?_ ?_
                      rotate_left
                      · simp only [Act.put, List.setIfInBounds_toArray, List.set_cons_zero, List.set_cons_succ, i64_w, i32_w]; rfl
                      refine pure_ (i := 24) (N := some 48) (v := undef) (a' := ?_) #[true, true, true, true, true, true, true, true, true, true, true, true, true, true, true, true, true, true, true, true, true, true, true, true, true, false, false] rfl rfl (any_of HT_.out (by kernel_rfl)) (fun _ _ _ h => h) (Or.inr ⟨by rfl, rfl⟩) ?_ ?_
                      rotate_left
                      · simp only [Act.put, List.setIfInBounds_toArray, List.set_cons_zero, List.set_cons_succ, i64_w, i32_w]; rfl
                      refine pure_ (i := 25) (N := some 49) (v := undef) (a' := ?_) #[true, true, true, true, true, true, true, true, true, true, true, true, true, true, true, true, true, true, true, true, true, true, true, true, true, true, false] rfl rfl (any_of HT_.out (by kernel_rfl)) (fun _ _ _ h => h) (Or.inr ⟨by rfl, rfl⟩) ?_ ?_
                      rotate_left
                      · simp only [Act.put, List.setIfInBounds_toArray, List.set_cons_zero, List.set_cons_succ, i64_w, i32_w]; rfl
                      refine pure_ (i := 26) (N := some 50) (v := ?_) (a' := ?_) #[true, true, true, true, true, true, true, true, true, true, true, true, true, true, true, true, true, true, true, true, true, true, true, true, true, true, true] rfl rfl (any_of HT_.out (by kernel_rfl)) (fun _ _ _ h => h) (Or.inl ⟨by rfl, ?_⟩) ?_ ?_
                      rotate_left
                      · intro w'; go_simp; with_reducible rfl
                      rotate_left
                      · simp only [Act.put, List.setIfInBounds_toArray, List.set_cons_zero, List.set_cons_succ, i64_w, i32_w]; rfl
                      refine done_ (done_of HT_.out (by kernel_rfl)) ?_
                      try go_wp2
                      go_meet
                      case rel => exact ⟨_, (true), (by first | rfl | (simp; done) | (simp [*]; done)), H', ⟨by have := HJ2.out; have := HK2.out; first | omega | exact Nat.le_refl _⟩, ⟨by (with_reducible repeat (first | apply Kd.R_alloc | apply Kd.R_drewN | apply Kd.R_drew)); exact HO_5.out⟩, ⟨by repeat (first | (with_reducible first | exact HB.out | apply below_alloc | apply pw_below_drewN | apply below_drew1) | exact HB.out)⟩⟩
                    · rw [if_neg c17] at H
                      have c17b0 : (t340 != t342) = false := by simpa using c17
                      (try (have c17b1 : decide (t340 = t342) = true := by simpa using c17))
                      (try (have c17b2 : (t340 == t342) = true := by simpa using c17))
                      clear c17
                      by_cases c22 : ((rd_T39 l0 x6_2).f3) > 1099511627776
                      · rw [if_pos c22] at H
                        have c22b0 : decide (1099511627776 < ((rd_T39 l0 x6_2).f3)) = true := decide_eq_true c22
                        clear c22
                        have H' := Aside0.mk H
                        clear H
                        try go_wp2
                        have n0_ := Aside0.mk (Kd.R_drew HO_5.out)
                        have n1_ := Aside0.mk (below_drew1 HB.out)
                        clear HO_5
                        clear HB
                        have HO_5 := n0_
                        have HB := n1_
                        clear n0_ n1_
                        obtain ⟨Ao24, co24, eo24⟩ := Kd.R_slice HO_5.out
                        (first | subst eo24 | (injection eo24 with f1_ f2_ f3_; have f4_ := f1_.symm; have f5_ := f3_.symm; clear f1_ f2_ f3_; subst f4_; subst f5_))
                        have p339 : 0 ≤ (x6_2 : Int) := of_decide_eq_true (by first | (with_reducible assumption) | assumption)
                        have q339 : x6_2 < (t336.length : Int) := of_decide_eq_true (by first | (with_reducible assumption) | assumption)
                        obtain ⟨ad339, e339, hx339_0, hx339_1, hx339_2, hx339_3⟩ := at_T37 (Kd.R_reads' HO_5.out).2.2 x6_2 p339 q339
                        cases e339
                        replace p339 := eq_true p339
                        replace q339 := eq_true q339
                        (try (have qz339 := q339; rw [ByteArray.size_extract, Nat.min_self] at qz339))
                        have p341 : 0 ≤ (x6_2 : Int) := of_decide_eq_true (by first | (with_reducible assumption) | assumption)
                        have q341 : x6_2 < (l0.length : Int) := of_decide_eq_true (by first | (with_reducible assumption) | assumption)
                        obtain ⟨ad341, e341, hx341_0, hx341_1, hx341_2, hx341_3⟩ := at_T39 HR0.out x6_2 p341 q341
                        have hw341_3 := hx341_3
                        have hw341_2 := hx341_2
                        have hw341_1 := hx341_1
                        have hw341_0 := hx341_0
                        cases e341
                        replace hx341_0 := (HB.out.cell (World.block_lt_of_cell? w _ hx341_0)).trans hx341_0
                        replace hx341_1 := (HB.out.cell (World.block_lt_of_cell? w _ hx341_1)).trans hx341_1
                        replace hx341_2 := (HB.out.cell (World.block_lt_of_cell? w _ hx341_2)).trans hx341_2
                        replace hx341_3 := (HB.out.cell (World.block_lt_of_cell? w _ hx341_3)).trans hx341_3
                        replace p341 := eq_true p341
                        replace q341 := eq_true q341
                        (try (have qz341 := q341; rw [ByteArray.size_extract, Nat.min_self] at qz341))
                        have p343 : 0 ≤ (x6_2 : Int) := of_decide_eq_true (by first | (with_reducible assumption) | assumption)
                        have q343 : x6_2 < (l0.length : Int) := of_decide_eq_true (by first | (with_reducible assumption) | assumption)
                        obtain ⟨ad343, e343, hx343_0, hx343_1, hx343_2, hx343_3⟩ := at_T39 HR0.out x6_2 p343 q343
                        have hw343_3 := hx343_3
                        have hw343_2 := hx343_2
                        have hw343_1 := hx343_1
                        have hw343_0 := hx343_0
                        obtain rfl : ad341 = ad343 := (by injection e343)
                        replace hx343_0 := (HB.out.cell (World.block_lt_of_cell? w _ hx343_0)).trans hx343_0
                        replace hx343_1 := (HB.out.cell (World.block_lt_of_cell? w _ hx343_1)).trans hx343_1
                        replace hx343_2 := (HB.out.cell (World.block_lt_of_cell? w _ hx343_2)).trans hx343_2
                        replace hx343_3 := (HB.out.cell (World.block_lt_of_cell? w _ hx343_3)).trans hx343_3
                        replace p343 := eq_true p343
                        replace q343 := eq_true q343
                        (try (have qz343 := q343; rw [ByteArray.size_extract, Nat.min_self] at qz343))
                        refine start_ (n := 27) (S := fun w' => w'.cell? (ad339.add ((x6_2).toNat * 4)) = some (.int .i64 ((rd_T37 t336 x6_2).f0)) ∧ w'.cell? ⟨(ad339.add ((x6_2).toNat * 4)).block, (ad339.add ((x6_2).toNat * 4)).off + 1, none⟩ = some (.string ((rd_T37 t336 x6_2).f1)) ∧ w'.cell? ⟨(ad339.add ((x6_2).toNat * 4)).block, (ad339.add ((x6_2).toNat * 4)).off + 2, none⟩ = some (.string ((rd_T37 t336 x6_2).f2)) ∧ w'.cell? ⟨(ad339.add ((x6_2).toNat * 4)).block, (ad339.add ((x6_2).toNat * 4)).off + 3, none⟩ = some (.int .i64 ((rd_T37 t336 x6_2).f3)) ∧ w'.cell? (ad341.add ((x6_2).toNat * 4)) = some (.int .i64 ((rd_T39 l0 x6_2).f0)) ∧ w'.cell? ⟨(ad341.add ((x6_2).toNat * 4)).block, (ad341.add ((x6_2).toNat * 4)).off + 1, none⟩ = some (.string ((rd_T39 l0 x6_2).f1)) ∧ w'.cell? ⟨(ad341.add ((x6_2).toNat * 4)).block, (ad341.add ((x6_2).toNat * 4)).off + 2, none⟩ = some (.string ((rd_T39 l0 x6_2).f2)) ∧ w'.cell? ⟨(ad341.add ((x6_2).toNat * 4)).block, (ad341.add ((x6_2).toNat * 4)).off + 3, none⟩ = some (.int .i64 ((rd_T39 l0 x6_2).f3)) ∧ w'.cell? (ad341.add ((x6_2).toNat * 4)) = some (.int .i64 ((rd_T39 l0 x6_2).f0)) ∧ w'.cell? ⟨(ad341.add ((x6_2).toNat * 4)).block, (ad341.add ((x6_2).toNat * 4)).off + 1, none⟩ = some (.string ((rd_T39 l0 x6_2).f1)) ∧ w'.cell? ⟨(ad341.add ((x6_2).toNat * 4)).block, (ad341.add ((x6_2).toNat * 4)).off + 2, none⟩ = some (.string ((rd_T39 l0 x6_2).f2)) ∧ w'.cell? ⟨(ad341.add ((x6_2).toNat * 4)).block, (ad341.add ((x6_2).toNat * 4)).off + 3, none⟩ = some (.int .i64 ((rd_T39 l0 x6_2).f3))) (ds := []) #[false, false, false, false, false, false, false, false, false, false, false, false, false, false, false, false, false, false, false, false, false, false, false, false, false, false, false] (by kernel_rfl) rfl rfl ⟨hx339_0, hx339_1, hx339_2, hx339_3, ((HB.out.cell (World.block_lt_of_cell? w _ hw341_0)).trans hw341_0), ((HB.out.cell (World.block_lt_of_cell? w _ hw341_1)).trans hw341_1), ((HB.out.cell (World.block_lt_of_cell? w _ hw341_2)).trans hw341_2), ((HB.out.cell (World.block_lt_of_cell? w _ hw341_3)).trans hw341_3), ((HB.out.cell (World.block_lt_of_cell? w _ hw343_0)).trans hw343_0), ((HB.out.cell (World.block_lt_of_cell? w _ hw343_1)).trans hw343_1), ((HB.out.cell (World.block_lt_of_cell? w _ hw343_2)).trans hw343_2), ((HB.out.cell (World.block_lt_of_cell? w _ hw343_3)).trans hw343_3)⟩ (fun hHeld => ?_); refine with_tabW triremelaw32_TraceTells.tab7 triremelaw32_TraceTells.bits7 (fun HT_ HW_ => ?_)
                        generalize wr.drew = w23 at HO_5 HB hx339_0 hx339_1 hx339_2 hx339_3 hx341_0 hx341_1 hx341_2 hx341_3 hx343_0 hx343_1 hx343_2 hx343_3 hHeld ⊢
                        refine pure_ (i := 0) (N := some 24) (v := ?_) (a' := ?_) #[true, false, false, false, false, false, false, false, false, false, false, false, false, false, false, false, false, false, false, false, false, false, false, false, false, false, false] rfl rfl (any_of HT_.out (by kernel_rfl)) (fun _ _ _ h => h) (Or.inl ⟨by rfl, ?_⟩) ?_ ?_
                        rotate_left
                        · intro w'; go_simp; with_reducible rfl
                        rotate_left
                        · simp only [Act.put, List.setIfInBounds_toArray, List.set_cons_zero, List.set_cons_succ, i64_w, i32_w]; rfl
                        refine pure_ (i := 1) (N := some 25) (v := ?_) (a' := ?_) #[true, true, false, false, false, false, false, false, false, false, false, false, false, false, false, false, false, false, false, false, false, false, false, false, false, false, false] rfl rfl (any_of HT_.out (by kernel_rfl)) (fun _ _ _ h => h) (Or.inl ⟨by rfl, ?_⟩) ?_ ?_
                        rotate_left
                        · intro w'; go_simp; with_reducible rfl
                        rotate_left
                        · simp only [Act.put, List.setIfInBounds_toArray, List.set_cons_zero, List.set_cons_succ, i64_w, i32_w]; rfl
                        refine pure_ (i := 2) (N := some 26) (v := ?_) (a' := ?_) #[true, true, true, false, false, false, false, false, false, false, false, false, false, false, false, false, false, false, false, false, false, false, false, false, false, false, false] rfl rfl (any_of HT_.out (by kernel_rfl)) (fun _ _ _ h => h) (Or.inl ⟨by rfl, ?_⟩) ?_ ?_
                        rotate_left
                        · intro w'; go_simp; with_reducible rfl
                        rotate_left
                        · simp only [Act.put, List.setIfInBounds_toArray, List.set_cons_zero, List.set_cons_succ, i64_w, i32_w]; rfl
                        refine pure_ (i := 5) (N := some 29) (v := ?_) (a' := ?_) #[true, true, true, false, false, true, false, false, false, false, false, false, false, false, false, false, false, false, false, false, false, false, false, false, false, false, false] rfl rfl (any_of HT_.out (by kernel_rfl)) (fun _ _ _ h => h) (Or.inl ⟨by rfl, ?_⟩) ?_ ?_
                        rotate_left
                        · intro w'; go_simp; with_reducible rfl
                        rotate_left
                        · simp only [Act.put, List.setIfInBounds_toArray, List.set_cons_zero, List.set_cons_succ, i64_w, i32_w]; rfl
                        refine pure_ (i := 6) (N := some 30) (v := ?_) (a' := ?_) #[true, true, true, false, false, true, true, false, false, false, false, false, false, false, false, false, false, false, false, false, false, false, false, false, false, false, false] rfl rfl (any_of HT_.out (by kernel_rfl)) (fun _ _ _ h => h) (Or.inl ⟨by rfl, ?_⟩) ?_ ?_
                        rotate_left
                        · intro w'; go_simp; with_reducible rfl
                        rotate_left
                        · simp only [Act.put, List.setIfInBounds_toArray, List.set_cons_zero, List.set_cons_succ, i64_w, i32_w]; rfl
                        refine pure_ (i := 7) (N := some 31) (v := ?_) (a' := ?_) #[true, true, true, false, false, true, true, true, false, false, false, false, false, false, false, false, false, false, false, false, false, false, false, false, false, false, false] rfl rfl (any_of HT_.out (by kernel_rfl)) (fun _ _ _ h => h) (Or.inl ⟨by rfl, ?_⟩) ?_ ?_
                        rotate_left
                        · intro w'; go_simp; with_reducible rfl
                        rotate_left
                        · simp only [Act.put, List.setIfInBounds_toArray, List.set_cons_zero, List.set_cons_succ, i64_w, i32_w]; rfl
                        refine take_ (i := 3) (N := some 27) (v := ?_) (a' := ?_) #[true, true, true, true, false, true, true, true, false, false, false, false, false, false, false, false, false, false, false, false, false, false, false, false, false, false, false] rfl rfl (take_ofW HT_.out HW_.out (by kernel_rfl)) (fun _ _ _ h => h) (Or.inl ⟨by rfl, ?_⟩) hHeld ?_ ?_
                        rotate_left
                        · rintro w' ⟨s0, s1, s2, s3, s4, s5, s6, s7, s8, s9, s10, s11⟩; go_simp; with_reducible rfl
                        rotate_left
                        · simp only [Act.put, List.setIfInBounds_toArray, List.set_cons_zero, List.set_cons_succ, i64_w, i32_w]; rfl
                        refine take_ (i := 8) (N := some 32) (v := ?_) (a' := ?_) #[true, true, true, true, false, true, true, true, true, false, false, false, false, false, false, false, false, false, false, false, false, false, false, false, false, false, false] rfl rfl (take_ofW HT_.out HW_.out (by kernel_rfl)) (fun _ _ _ h => h) (Or.inl ⟨by rfl, ?_⟩) hHeld ?_ ?_
                        rotate_left
                        · rintro w' ⟨s0, s1, s2, s3, s4, s5, s6, s7, s8, s9, s10, s11⟩; go_simp; with_reducible rfl
                        rotate_left
                        · simp only [Act.put, List.setIfInBounds_toArray, List.set_cons_zero, List.set_cons_succ, i64_w, i32_w]; rfl
                        refine one_ (i := 4) (N := some 28) #[true, true, true, true, true, true, true, true, true, false, false, false, false, false, false, false, false, false, false, false, false, false, false, false, false, false, false] rfl rfl (one_of HT_.out (by kernel_rfl)) (by decide) (fun K hK => ?_)
                        refine goes_ Try.func14 (by kernel_rfl) rfl #[.agg #[.int .i64 ((rd_T37 t336 x6_2).f0), .string ((rd_T37 t336 x6_2).f1), .string ((rd_T37 t336 x6_2).f2), .int .i64 ((rd_T37 t336 x6_2).f3)]] (by rfl) rfl rfl (by (try simp only [List.map_toArray, List.map_cons, List.map_nil]); first | done | rfl | (simp only [List.length_drop, List.length_take]; rfl)) ?_
                        with_reducible refine (trace_Right.calls k2 ((rd_T37 t336 x6_2).f0) ((rd_T37 t336 x6_2).f1) ((rd_T37 t336 x6_2).f2) ((rd_T37 t336 x6_2).f3) t340 _ A15.out).mono ?_
                        rintro e w25 ⟨rfl, hb⟩
                        have HS0_ := (hb.cell (World.block_lt_of_cell? _ _ (hHeld.1))).trans (hHeld.1)
                        have HS1_ := (hb.cell (World.block_lt_of_cell? _ _ (hHeld.2.1))).trans (hHeld.2.1)
                        have HS2_ := (hb.cell (World.block_lt_of_cell? _ _ (hHeld.2.2.1))).trans (hHeld.2.2.1)
                        have HS3_ := (hb.cell (World.block_lt_of_cell? _ _ (hHeld.2.2.2.1))).trans (hHeld.2.2.2.1)
                        refine ⟨_, rfl, ?_⟩
                        have n0_ := Aside0.mk (Kd.R_below (by (with_reducible repeat (first | apply Kd.R_alloc | apply Kd.R_drewN | apply Kd.R_drew)); exact HO_5.out) hb)
                        have n1_ := Aside0.mk (below_step (by repeat (first | (with_reducible first | exact HB.out | apply below_alloc | apply pw_below_drewN | apply below_drew1) | exact HB.out)) hb)
                        clear HO_5
                        clear HB
                        have HO_5 := n0_
                        have HB := n1_
                        clear n0_ n1_
                        (try clear hb); (try clear hb2); (try clear hk); (try clear hi)
                        refine hK.out _ _ ⟨HS0_, HS1_, HS2_, HS3_, ((HB.out.cell (World.block_lt_of_cell? w _ hw341_0)).trans hw341_0), ((HB.out.cell (World.block_lt_of_cell? w _ hw341_1)).trans hw341_1), ((HB.out.cell (World.block_lt_of_cell? w _ hw341_2)).trans hw341_2), ((HB.out.cell (World.block_lt_of_cell? w _ hw341_3)).trans hw341_3), ((HB.out.cell (World.block_lt_of_cell? w _ hw343_0)).trans hw343_0), ((HB.out.cell (World.block_lt_of_cell? w _ hw343_1)).trans hw343_1), ((HB.out.cell (World.block_lt_of_cell? w _ hw343_2)).trans hw343_2), ((HB.out.cell (World.block_lt_of_cell? w _ hw343_3)).trans hw343_3)⟩ (fun hHeld => ?_)
                        clear hK K
                        refine norm_ (a' := ?_) ?_ ?_
                        rotate_left
                        · show Act.put _ (some 28) _ = _
                          simp only [Act.put, List.setIfInBounds_toArray, List.set_cons_zero, List.set_cons_succ, i64_w, i32_w]
                          rfl
                        refine one_ (i := 9) (N := some 33) #[true, true, true, true, true, true, true, true, true, true, false, false, false, false, false, false, false, false, false, false, false, false, false, false, false, false, false] rfl rfl (one_of HT_.out (by kernel_rfl)) (by decide) (fun K hK => ?_)
                        refine goes_ Try.func15 (by kernel_rfl) rfl #[.agg #[.int .i64 ((rd_T39 l0 x6_2).f0), .string ((rd_T39 l0 x6_2).f1), .string ((rd_T39 l0 x6_2).f2), .int .i64 ((rd_T39 l0 x6_2).f3)]] (by rfl) rfl rfl (by (try simp only [List.map_toArray, List.map_cons, List.map_nil]); first | done | rfl | (simp only [List.length_drop, List.length_take]; rfl)) ?_
                        with_reducible refine (triremeref32_Right.calls k2 ((rd_T39 l0 x6_2).f0) ((rd_T39 l0 x6_2).f1) ((rd_T39 l0 x6_2).f2) ((rd_T39 l0 x6_2).f3) t342 _ A16.out).mono ?_
                        rintro e w26 ⟨rfl, hb⟩
                        have HS0_ := (hb.cell (World.block_lt_of_cell? _ _ (hHeld.1))).trans (hHeld.1)
                        have HS1_ := (hb.cell (World.block_lt_of_cell? _ _ (hHeld.2.1))).trans (hHeld.2.1)
                        have HS2_ := (hb.cell (World.block_lt_of_cell? _ _ (hHeld.2.2.1))).trans (hHeld.2.2.1)
                        have HS3_ := (hb.cell (World.block_lt_of_cell? _ _ (hHeld.2.2.2.1))).trans (hHeld.2.2.2.1)
                        refine ⟨_, rfl, ?_⟩
                        have n0_ := Aside0.mk (Kd.R_below (by (with_reducible repeat (first | apply Kd.R_alloc | apply Kd.R_drewN | apply Kd.R_drew)); exact HO_5.out) hb)
                        have n1_ := Aside0.mk (below_step (by repeat (first | (with_reducible first | exact HB.out | apply below_alloc | apply pw_below_drewN | apply below_drew1) | exact HB.out)) hb)
                        clear HO_5
                        clear HB
                        have HO_5 := n0_
                        have HB := n1_
                        clear n0_ n1_
                        (try clear hb); (try clear hb2); (try clear hk); (try clear hi)
                        refine hK.out _ _ ⟨HS0_, HS1_, HS2_, HS3_, ((HB.out.cell (World.block_lt_of_cell? w _ hw341_0)).trans hw341_0), ((HB.out.cell (World.block_lt_of_cell? w _ hw341_1)).trans hw341_1), ((HB.out.cell (World.block_lt_of_cell? w _ hw341_2)).trans hw341_2), ((HB.out.cell (World.block_lt_of_cell? w _ hw341_3)).trans hw341_3), ((HB.out.cell (World.block_lt_of_cell? w _ hw343_0)).trans hw343_0), ((HB.out.cell (World.block_lt_of_cell? w _ hw343_1)).trans hw343_1), ((HB.out.cell (World.block_lt_of_cell? w _ hw343_2)).trans hw343_2), ((HB.out.cell (World.block_lt_of_cell? w _ hw343_3)).trans hw343_3)⟩ (fun hHeld => ?_)
                        clear hK K
                        refine norm_ (a' := ?_) ?_ ?_
                        rotate_left
                        · show Act.put _ (some 33) _ = _
                          simp only [Act.put, List.setIfInBounds_toArray, List.set_cons_zero, List.set_cons_succ, i64_w, i32_w]
                          rfl
                        refine pure_ (i := 10) (N := some 34) (v := ?_) (a' := ?_) #[true, true, true, true, true, true, true, true, true, true, true, false, false, false, false, false, false, false, false, false, false, false, false, false, false, false, false] rfl rfl (any_of HT_.out (by kernel_rfl)) (fun _ _ _ h => h) (Or.inl ⟨by rfl, ?_⟩) ?_ ?_
                        rotate_left
                        · intro w'; go_simp; with_reducible rfl
                        rotate_left
                        · simp only [Act.put, List.setIfInBounds_toArray, List.set_cons_zero, List.set_cons_succ, i64_w, i32_w]; rfl
                        refine pure_ (i := 11) (N := some 35) (v := ?_) (a' := ?_) #[true, true, true, true, true, true, true, true, true, true, true, true, false, false, false, false, false, false, false, false, false, false, false, false, false, false, false] rfl rfl (any_of HT_.out (by kernel_rfl)) (fun _ _ _ h => h) (Or.inl ⟨by rfl, ?_⟩) ?_ ?_
                        rotate_left
                        · intro w'; go_simp; with_reducible rfl
                        rotate_left
                        · simp only [Act.put, List.setIfInBounds_toArray, List.set_cons_zero, List.set_cons_succ, i64_w, i32_w]; rfl
                        refine pure_ (i := 12) (N := some 36) (v := ?_) (a' := ?_) #[true, true, true, true, true, true, true, true, true, true, true, true, true, false, false, false, false, false, false, false, false, false, false, false, false, false, false] rfl rfl (any_of HT_.out (by kernel_rfl)) (fun _ _ _ h => h) (Or.inl ⟨by rfl, ?_⟩) ?_ ?_
                        rotate_left
                        · intro w'; go_simp; with_reducible rfl
                        rotate_left
                        · simp only [Act.put, List.setIfInBounds_toArray, List.set_cons_zero, List.set_cons_succ, i64_w, i32_w]; rfl
                        refine pure_ (i := 13) (N := some 37) (v := ?_) (a' := ?_) #[true, true, true, true, true, true, true, true, true, true, true, true, true, true, false, false, false, false, false, false, false, false, false, false, false, false, false] rfl rfl (any_of HT_.out (by kernel_rfl)) (fun _ _ _ h => h) (Or.inl ⟨by rfl, ?_⟩) ?_ ?_
                        rotate_left
                        · intro w'; go_simp; with_reducible rfl
                        rotate_left
                        · simp only [Act.put, List.setIfInBounds_toArray, List.set_cons_zero, List.set_cons_succ, i64_w, i32_w]; rfl
                        refine pure_ (i := 14) (N := some 38) (v := ?_) (a' := ?_) #[true, true, true, true, true, true, true, true, true, true, true, true, true, true, true, false, false, false, false, false, false, false, false, false, false, false, false] rfl rfl (any_of HT_.out (by kernel_rfl)) (fun _ _ _ h => h) (Or.inl ⟨by rfl, ?_⟩) ?_ ?_
                        rotate_left
                        · intro w'; go_simp; with_reducible rfl
                        rotate_left
                        · simp only [Act.put, List.setIfInBounds_toArray, List.set_cons_zero, List.set_cons_succ, i64_w, i32_w]; rfl
                        refine pure_ (i := 15) (N := some 39) (v := ?_) (a' := ?_) #[true, true, true, true, true, true, true, true, true, true, true, true, true, true, true, true, false, false, false, false, false, false, false, false, false, false, false] rfl rfl (any_of HT_.out (by kernel_rfl)) (fun _ _ _ h => h) (Or.inl ⟨by rfl, ?_⟩) ?_ ?_
                        rotate_left
                        · intro w'; go_simp; with_reducible rfl
                        rotate_left
                        · simp only [Act.put, List.setIfInBounds_toArray, List.set_cons_zero, List.set_cons_succ, i64_w, i32_w]; rfl
                        refine take_ (i := 16) (N := some 40) (v := ?_) (a' := ?_) #[true, true, true, true, true, true, true, true, true, true, true, true, true, true, true, true, true, false, false, false, false, false, false, false, false, false, false] rfl rfl (take_ofW HT_.out HW_.out (by kernel_rfl)) (fun _ _ _ h => h) (Or.inl ⟨by rfl, ?_⟩) hHeld ?_ ?_
                        rotate_left
                        · rintro w' ⟨s0, s1, s2, s3, s4, s5, s6, s7, s8, s9, s10, s11⟩; go_simp; with_reducible rfl
                        rotate_left
                        · simp only [Act.put, List.setIfInBounds_toArray, List.set_cons_zero, List.set_cons_succ, i64_w, i32_w]; rfl
                        refine pure_ (i := 17) (N := some 41) (v := ?_) (a' := ?_) #[true, true, true, true, true, true, true, true, true, true, true, true, true, true, true, true, true, true, false, false, false, false, false, false, false, false, false] rfl rfl (any_of HT_.out (by kernel_rfl)) (fun _ _ _ h => h) (Or.inl ⟨by rfl, ?_⟩) ?_ ?_
                        rotate_left
                        · intro w'; go_simp; with_reducible rfl
                        rotate_left
                        · simp only [Act.put, List.setIfInBounds_toArray, List.set_cons_zero, List.set_cons_succ, i64_w, i32_w]; rfl
                        refine pure_ (i := 18) (N := some 42) (v := ?_) (a' := ?_) #[true, true, true, true, true, true, true, true, true, true, true, true, true, true, true, true, true, true, true, false, false, false, false, false, false, false, false] rfl rfl (any_of HT_.out (by kernel_rfl)) (fun _ _ _ h => h) (Or.inl ⟨by rfl, ?_⟩) ?_ ?_
                        rotate_left
                        · intro w'; go_simp; with_reducible rfl
                        rotate_left
                        · simp only [Act.put, List.setIfInBounds_toArray, List.set_cons_zero, List.set_cons_succ, i64_w, i32_w]; rfl
                        refine pure_ (i := 19) (N := some 43) (v := ?_) (a' := ?_) #[true, true, true, true, true, true, true, true, true, true, true, true, true, true, true, true, true, true, true, true, false, false, false, false, false, false, false] rfl rfl (any_of HT_.out (by kernel_rfl)) (fun _ _ _ h => h) (Or.inl ⟨by rfl, ?_⟩) ?_ ?_
                        rotate_left
                        · intro w'; go_simp; with_reducible rfl
                        rotate_left
                        · simp only [Act.put, List.setIfInBounds_toArray, List.set_cons_zero, List.set_cons_succ, i64_w, i32_w]; rfl
                        refine pure_ (i := 20) (N := some 44) (v := undef) (a' := ?_) #[true, true, true, true, true, true, true, true, true, true, true, true, true, true, true, true, true, true, true, true, true, false, false, false, false, false, false] rfl rfl (any_of HT_.out (by kernel_rfl)) (fun _ _ _ h => h) (Or.inr ⟨by rfl, rfl⟩) ?_ ?_
                        rotate_left
                        · simp only [Act.put, List.setIfInBounds_toArray, List.set_cons_zero, List.set_cons_succ, i64_w, i32_w]; rfl
                        refine pure_ (i := 21) (N := some 45) (v := undef) (a' := ?_) #[true, true, true, true, true, true, true, true, true, true, true, true, true, true, true, true, true, true, true, true, true, true, false, false, false, false, false] rfl rfl (any_of HT_.out (by kernel_rfl)) (fun _ _ _ h => h) (Or.inr ⟨by rfl, rfl⟩) ?_ ?_
                        rotate_left
                        · simp only [Act.put, List.setIfInBounds_toArray, List.set_cons_zero, List.set_cons_succ, i64_w, i32_w]; rfl
                        refine pure_ (i := 22) (N := some 46) (v := undef) (a' := ?_) #[true, true, true, true, true, true, true, true, true, true, true, true, true, true, true, true, true, true, true, true, true, true, true, false, false, false, false] rfl rfl (any_of HT_.out (by kernel_rfl)) (fun _ _ _ h => h) (Or.inr ⟨by rfl, rfl⟩) ?_ ?_
                        rotate_left
                        · simp only [Act.put, List.setIfInBounds_toArray, List.set_cons_zero, List.set_cons_succ, i64_w, i32_w]; rfl
                        refine pure_ (i := 23) (N := some 47) (v := undef) (a' := ?_) #[true, true, true, true, true, true, true, true, true, true, true, true, true, true, true, true, true, true, true, true, true, true, true, true, false, false, false] rfl rfl (any_of HT_.out (by kernel_rfl)) (fun _ _ _ h => h) (Or.inr ⟨by rfl, rfl⟩) ?_ ?_
                        rotate_left
                        · simp only [Act.put, List.setIfInBounds_toArray, List.set_cons_zero, List.set_cons_succ, i64_w, i32_w]; rfl
                        refine pure_ (i := 24) (N := some 48) (v := undef) (a' := ?_) #[true, true, true, true, true, true, true, true, true, true, true, true, true, true, true, true, true, true, true, true, true, true, true, true, true, false, false] rfl rfl (any_of HT_.out (by kernel_rfl)) (fun _ _ _ h => h) (Or.inr ⟨by rfl, rfl⟩) ?_ ?_
                        rotate_left
                        · simp only [Act.put, List.setIfInBounds_toArray, List.set_cons_zero, List.set_cons_succ, i64_w, i32_w]; rfl
                        refine pure_ (i := 25) (N := some 49) (v := undef) (a' := ?_) #[true, true, true, true, true, true, true, true, true, true, true, true, true, true, true, true, true, true, true, true, true, true, true, true, true, true, false] rfl rfl (any_of HT_.out (by kernel_rfl)) (fun _ _ _ h => h) (Or.inr ⟨by rfl, rfl⟩) ?_ ?_
                        rotate_left
                        · simp only [Act.put, List.setIfInBounds_toArray, List.set_cons_zero, List.set_cons_succ, i64_w, i32_w]; rfl
                        refine pure_ (i := 26) (N := some 50) (v := ?_) (a' := ?_) #[true, true, true, true, true, true, true, true, true, true, true, true, true, true, true, true, true, true, true, true, true, true, true, true, true, true, true] rfl rfl (any_of HT_.out (by kernel_rfl)) (fun _ _ _ h => h) (Or.inl ⟨by rfl, ?_⟩) ?_ ?_
                        rotate_left
                        · intro w'; go_simp; with_reducible rfl
                        rotate_left
                        · simp only [Act.put, List.setIfInBounds_toArray, List.set_cons_zero, List.set_cons_succ, i64_w, i32_w]; rfl
                        refine done_ (done_of HT_.out (by kernel_rfl)) ?_
                        try go_wp2
                        go_meet
                        case rel => exact ⟨_, (true), (by first | rfl | (simp; done) | (simp [*]; done)), H', ⟨by have := HJ2.out; have := HK2.out; first | omega | exact Nat.le_refl _⟩, ⟨by (with_reducible repeat (first | apply Kd.R_alloc | apply Kd.R_drewN | apply Kd.R_drew)); exact HO_5.out⟩, ⟨by repeat (first | (with_reducible first | exact HB.out | apply below_alloc | apply pw_below_drewN | apply below_drew1) | exact HB.out)⟩⟩
                      · rw [if_neg c22] at H
                        have c22b0 : decide (1099511627776 < ((rd_T39 l0 x6_2).f3)) = false := decide_eq_false c22
                        clear c22
                        have H' := Aside0.mk H
                        clear H
                        try go_wp2
                        have n0_ := Aside0.mk (Kd.R_drew HO_5.out)
                        have n1_ := Aside0.mk (below_drew1 HB.out)
                        clear HO_5
                        clear HB
                        have HO_5 := n0_
                        have HB := n1_
                        clear n0_ n1_
                        obtain ⟨Ao28, co28, eo28⟩ := Kd.R_slice HO_5.out
                        (first | subst eo28 | (injection eo28 with f1_ f2_ f3_; have f4_ := f1_.symm; have f5_ := f3_.symm; clear f1_ f2_ f3_; subst f4_; subst f5_))
                        have p339 : 0 ≤ (x6_2 : Int) := of_decide_eq_true (by first | (with_reducible assumption) | assumption)
                        have q339 : x6_2 < (t336.length : Int) := of_decide_eq_true (by first | (with_reducible assumption) | assumption)
                        obtain ⟨ad339, e339, hx339_0, hx339_1, hx339_2, hx339_3⟩ := at_T37 (Kd.R_reads' HO_5.out).2.2 x6_2 p339 q339
                        cases e339
                        replace p339 := eq_true p339
                        replace q339 := eq_true q339
                        (try (have qz339 := q339; rw [ByteArray.size_extract, Nat.min_self] at qz339))
                        have p341 : 0 ≤ (x6_2 : Int) := of_decide_eq_true (by first | (with_reducible assumption) | assumption)
                        have q341 : x6_2 < (l0.length : Int) := of_decide_eq_true (by first | (with_reducible assumption) | assumption)
                        obtain ⟨ad341, e341, hx341_0, hx341_1, hx341_2, hx341_3⟩ := at_T39 HR0.out x6_2 p341 q341
                        have hw341_3 := hx341_3
                        have hw341_2 := hx341_2
                        have hw341_1 := hx341_1
                        have hw341_0 := hx341_0
                        cases e341
                        replace hx341_0 := (HB.out.cell (World.block_lt_of_cell? w _ hx341_0)).trans hx341_0
                        replace hx341_1 := (HB.out.cell (World.block_lt_of_cell? w _ hx341_1)).trans hx341_1
                        replace hx341_2 := (HB.out.cell (World.block_lt_of_cell? w _ hx341_2)).trans hx341_2
                        replace hx341_3 := (HB.out.cell (World.block_lt_of_cell? w _ hx341_3)).trans hx341_3
                        replace p341 := eq_true p341
                        replace q341 := eq_true q341
                        (try (have qz341 := q341; rw [ByteArray.size_extract, Nat.min_self] at qz341))
                        have p343 : 0 ≤ (x6_2 : Int) := of_decide_eq_true (by first | (with_reducible assumption) | assumption)
                        have q343 : x6_2 < (l0.length : Int) := of_decide_eq_true (by first | (with_reducible assumption) | assumption)
                        obtain ⟨ad343, e343, hx343_0, hx343_1, hx343_2, hx343_3⟩ := at_T39 HR0.out x6_2 p343 q343
                        have hw343_3 := hx343_3
                        have hw343_2 := hx343_2
                        have hw343_1 := hx343_1
                        have hw343_0 := hx343_0
                        obtain rfl : ad341 = ad343 := (by injection e343)
                        replace hx343_0 := (HB.out.cell (World.block_lt_of_cell? w _ hx343_0)).trans hx343_0
                        replace hx343_1 := (HB.out.cell (World.block_lt_of_cell? w _ hx343_1)).trans hx343_1
                        replace hx343_2 := (HB.out.cell (World.block_lt_of_cell? w _ hx343_2)).trans hx343_2
                        replace hx343_3 := (HB.out.cell (World.block_lt_of_cell? w _ hx343_3)).trans hx343_3
                        replace p343 := eq_true p343
                        replace q343 := eq_true q343
                        (try (have qz343 := q343; rw [ByteArray.size_extract, Nat.min_self] at qz343))
                        have p344 : 0 ≤ (x6_2 : Int) := of_decide_eq_true (by first | (with_reducible assumption) | assumption)
                        have q344 : x6_2 < (l0.length : Int) := of_decide_eq_true (by first | (with_reducible assumption) | assumption)
                        obtain ⟨ad344, e344, hx344_0, hx344_1, hx344_2, hx344_3⟩ := at_T39 HR0.out x6_2 p344 q344
                        have hw344_3 := hx344_3
                        have hw344_2 := hx344_2
                        have hw344_1 := hx344_1
                        have hw344_0 := hx344_0
                        obtain rfl : ad341 = ad344 := (by injection e344)
                        replace hx344_0 := (HB.out.cell (World.block_lt_of_cell? w _ hx344_0)).trans hx344_0
                        replace hx344_1 := (HB.out.cell (World.block_lt_of_cell? w _ hx344_1)).trans hx344_1
                        replace hx344_2 := (HB.out.cell (World.block_lt_of_cell? w _ hx344_2)).trans hx344_2
                        replace hx344_3 := (HB.out.cell (World.block_lt_of_cell? w _ hx344_3)).trans hx344_3
                        replace p344 := eq_true p344
                        replace q344 := eq_true q344
                        (try (have qz344 := q344; rw [ByteArray.size_extract, Nat.min_self] at qz344))
                        refine start_ (n := 27) (S := fun w' => w'.cell? (ad339.add ((x6_2).toNat * 4)) = some (.int .i64 ((rd_T37 t336 x6_2).f0)) ∧ w'.cell? ⟨(ad339.add ((x6_2).toNat * 4)).block, (ad339.add ((x6_2).toNat * 4)).off + 1, none⟩ = some (.string ((rd_T37 t336 x6_2).f1)) ∧ w'.cell? ⟨(ad339.add ((x6_2).toNat * 4)).block, (ad339.add ((x6_2).toNat * 4)).off + 2, none⟩ = some (.string ((rd_T37 t336 x6_2).f2)) ∧ w'.cell? ⟨(ad339.add ((x6_2).toNat * 4)).block, (ad339.add ((x6_2).toNat * 4)).off + 3, none⟩ = some (.int .i64 ((rd_T37 t336 x6_2).f3)) ∧ w'.cell? (ad341.add ((x6_2).toNat * 4)) = some (.int .i64 ((rd_T39 l0 x6_2).f0)) ∧ w'.cell? ⟨(ad341.add ((x6_2).toNat * 4)).block, (ad341.add ((x6_2).toNat * 4)).off + 1, none⟩ = some (.string ((rd_T39 l0 x6_2).f1)) ∧ w'.cell? ⟨(ad341.add ((x6_2).toNat * 4)).block, (ad341.add ((x6_2).toNat * 4)).off + 2, none⟩ = some (.string ((rd_T39 l0 x6_2).f2)) ∧ w'.cell? ⟨(ad341.add ((x6_2).toNat * 4)).block, (ad341.add ((x6_2).toNat * 4)).off + 3, none⟩ = some (.int .i64 ((rd_T39 l0 x6_2).f3)) ∧ w'.cell? (ad341.add ((x6_2).toNat * 4)) = some (.int .i64 ((rd_T39 l0 x6_2).f0)) ∧ w'.cell? ⟨(ad341.add ((x6_2).toNat * 4)).block, (ad341.add ((x6_2).toNat * 4)).off + 1, none⟩ = some (.string ((rd_T39 l0 x6_2).f1)) ∧ w'.cell? ⟨(ad341.add ((x6_2).toNat * 4)).block, (ad341.add ((x6_2).toNat * 4)).off + 2, none⟩ = some (.string ((rd_T39 l0 x6_2).f2)) ∧ w'.cell? ⟨(ad341.add ((x6_2).toNat * 4)).block, (ad341.add ((x6_2).toNat * 4)).off + 3, none⟩ = some (.int .i64 ((rd_T39 l0 x6_2).f3)) ∧ w'.cell? (ad341.add ((x6_2).toNat * 4)) = some (.int .i64 ((rd_T39 l0 x6_2).f0)) ∧ w'.cell? ⟨(ad341.add ((x6_2).toNat * 4)).block, (ad341.add ((x6_2).toNat * 4)).off + 1, none⟩ = some (.string ((rd_T39 l0 x6_2).f1)) ∧ w'.cell? ⟨(ad341.add ((x6_2).toNat * 4)).block, (ad341.add ((x6_2).toNat * 4)).off + 2, none⟩ = some (.string ((rd_T39 l0 x6_2).f2)) ∧ w'.cell? ⟨(ad341.add ((x6_2).toNat * 4)).block, (ad341.add ((x6_2).toNat * 4)).off + 3, none⟩ = some (.int .i64 ((rd_T39 l0 x6_2).f3))) (ds := []) #[false, false, false, false, false, false, false, false, false, false, false, false, false, false, false, false, false, false, false, false, false, false, false, false, false, false, false] (by kernel_rfl) rfl rfl ⟨hx339_0, hx339_1, hx339_2, hx339_3, ((HB.out.cell (World.block_lt_of_cell? w _ hw341_0)).trans hw341_0), ((HB.out.cell (World.block_lt_of_cell? w _ hw341_1)).trans hw341_1), ((HB.out.cell (World.block_lt_of_cell? w _ hw341_2)).trans hw341_2), ((HB.out.cell (World.block_lt_of_cell? w _ hw341_3)).trans hw341_3), ((HB.out.cell (World.block_lt_of_cell? w _ hw343_0)).trans hw343_0), ((HB.out.cell (World.block_lt_of_cell? w _ hw343_1)).trans hw343_1), ((HB.out.cell (World.block_lt_of_cell? w _ hw343_2)).trans hw343_2), ((HB.out.cell (World.block_lt_of_cell? w _ hw343_3)).trans hw343_3), ((HB.out.cell (World.block_lt_of_cell? w _ hw344_0)).trans hw344_0), ((HB.out.cell (World.block_lt_of_cell? w _ hw344_1)).trans hw344_1), ((HB.out.cell (World.block_lt_of_cell? w _ hw344_2)).trans hw344_2), ((HB.out.cell (World.block_lt_of_cell? w _ hw344_3)).trans hw344_3)⟩ (fun hHeld => ?_); refine with_tabW triremelaw32_TraceTells.tab7 triremelaw32_TraceTells.bits7 (fun HT_ HW_ => ?_)
                        generalize wr.drew = w27 at HO_5 HB hx339_0 hx339_1 hx339_2 hx339_3 hx341_0 hx341_1 hx341_2 hx341_3 hx343_0 hx343_1 hx343_2 hx343_3 hx344_0 hx344_1 hx344_2 hx344_3 hHeld ⊢
                        refine pure_ (i := 0) (N := some 24) (v := ?_) (a' := ?_) #[true, false, false, false, false, false, false, false, false, false, false, false, false, false, false, false, false, false, false, false, false, false, false, false, false, false, false] rfl rfl (any_of HT_.out (by kernel_rfl)) (fun _ _ _ h => h) (Or.inl ⟨by rfl, ?_⟩) ?_ ?_
                        rotate_left
                        · intro w'; go_simp; with_reducible rfl
                        rotate_left
                        · simp only [Act.put, List.setIfInBounds_toArray, List.set_cons_zero, List.set_cons_succ, i64_w, i32_w]; rfl
                        refine pure_ (i := 1) (N := some 25) (v := ?_) (a' := ?_) #[true, true, false, false, false, false, false, false, false, false, false, false, false, false, false, false, false, false, false, false, false, false, false, false, false, false, false] rfl rfl (any_of HT_.out (by kernel_rfl)) (fun _ _ _ h => h) (Or.inl ⟨by rfl, ?_⟩) ?_ ?_
                        rotate_left
                        · intro w'; go_simp; with_reducible rfl
                        rotate_left
                        · simp only [Act.put, List.setIfInBounds_toArray, List.set_cons_zero, List.set_cons_succ, i64_w, i32_w]; rfl
                        refine pure_ (i := 2) (N := some 26) (v := ?_) (a' := ?_) #[true, true, true, false, false, false, false, false, false, false, false, false, false, false, false, false, false, false, false, false, false, false, false, false, false, false, false] rfl rfl (any_of HT_.out (by kernel_rfl)) (fun _ _ _ h => h) (Or.inl ⟨by rfl, ?_⟩) ?_ ?_
                        rotate_left
                        · intro w'; go_simp; with_reducible rfl
                        rotate_left
                        · simp only [Act.put, List.setIfInBounds_toArray, List.set_cons_zero, List.set_cons_succ, i64_w, i32_w]; rfl
                        refine pure_ (i := 5) (N := some 29) (v := ?_) (a' := ?_) #[true, true, true, false, false, true, false, false, false, false, false, false, false, false, false, false, false, false, false, false, false, false, false, false, false, false, false] rfl rfl (any_of HT_.out (by kernel_rfl)) (fun _ _ _ h => h) (Or.inl ⟨by rfl, ?_⟩) ?_ ?_
                        rotate_left
                        · intro w'; go_simp; with_reducible rfl
                        rotate_left
                        · simp only [Act.put, List.setIfInBounds_toArray, List.set_cons_zero, List.set_cons_succ, i64_w, i32_w]; rfl
                        refine pure_ (i := 6) (N := some 30) (v := ?_) (a' := ?_) #[true, true, true, false, false, true, true, false, false, false, false, false, false, false, false, false, false, false, false, false, false, false, false, false, false, false, false] rfl rfl (any_of HT_.out (by kernel_rfl)) (fun _ _ _ h => h) (Or.inl ⟨by rfl, ?_⟩) ?_ ?_
                        rotate_left
                        · intro w'; go_simp; with_reducible rfl
                        rotate_left
                        · simp only [Act.put, List.setIfInBounds_toArray, List.set_cons_zero, List.set_cons_succ, i64_w, i32_w]; rfl
                        refine pure_ (i := 7) (N := some 31) (v := ?_) (a' := ?_) #[true, true, true, false, false, true, true, true, false, false, false, false, false, false, false, false, false, false, false, false, false, false, false, false, false, false, false] rfl rfl (any_of HT_.out (by kernel_rfl)) (fun _ _ _ h => h) (Or.inl ⟨by rfl, ?_⟩) ?_ ?_
                        rotate_left
                        · intro w'; go_simp; with_reducible rfl
                        rotate_left
                        · simp only [Act.put, List.setIfInBounds_toArray, List.set_cons_zero, List.set_cons_succ, i64_w, i32_w]; rfl
                        refine take_ (i := 3) (N := some 27) (v := ?_) (a' := ?_) #[true, true, true, true, false, true, true, true, false, false, false, false, false, false, false, false, false, false, false, false, false, false, false, false, false, false, false] rfl rfl (take_ofW HT_.out HW_.out (by kernel_rfl)) (fun _ _ _ h => h) (Or.inl ⟨by rfl, ?_⟩) hHeld ?_ ?_
                        rotate_left
                        · rintro w' ⟨s0, s1, s2, s3, s4, s5, s6, s7, s8, s9, s10, s11, s12, s13, s14, s15⟩; go_simp; with_reducible rfl
                        rotate_left
                        · simp only [Act.put, List.setIfInBounds_toArray, List.set_cons_zero, List.set_cons_succ, i64_w, i32_w]; rfl
                        refine take_ (i := 8) (N := some 32) (v := ?_) (a' := ?_) #[true, true, true, true, false, true, true, true, true, false, false, false, false, false, false, false, false, false, false, false, false, false, false, false, false, false, false] rfl rfl (take_ofW HT_.out HW_.out (by kernel_rfl)) (fun _ _ _ h => h) (Or.inl ⟨by rfl, ?_⟩) hHeld ?_ ?_
                        rotate_left
                        · rintro w' ⟨s0, s1, s2, s3, s4, s5, s6, s7, s8, s9, s10, s11, s12, s13, s14, s15⟩; go_simp; with_reducible rfl
                        rotate_left
                        · simp only [Act.put, List.setIfInBounds_toArray, List.set_cons_zero, List.set_cons_succ, i64_w, i32_w]; rfl
                        refine one_ (i := 4) (N := some 28) #[true, true, true, true, true, true, true, true, true, false, false, false, false, false, false, false, false, false, false, false, false, false, false, false, false, false, false] rfl rfl (one_of HT_.out (by kernel_rfl)) (by decide) (fun K hK => ?_)
                        refine goes_ Try.func14 (by kernel_rfl) rfl #[.agg #[.int .i64 ((rd_T37 t336 x6_2).f0), .string ((rd_T37 t336 x6_2).f1), .string ((rd_T37 t336 x6_2).f2), .int .i64 ((rd_T37 t336 x6_2).f3)]] (by rfl) rfl rfl (by (try simp only [List.map_toArray, List.map_cons, List.map_nil]); first | done | rfl | (simp only [List.length_drop, List.length_take]; rfl)) ?_
                        with_reducible refine (trace_Right.calls k2 ((rd_T37 t336 x6_2).f0) ((rd_T37 t336 x6_2).f1) ((rd_T37 t336 x6_2).f2) ((rd_T37 t336 x6_2).f3) t340 _ A15.out).mono ?_
                        rintro e w29 ⟨rfl, hb⟩
                        have HS0_ := (hb.cell (World.block_lt_of_cell? _ _ (hHeld.1))).trans (hHeld.1)
                        have HS1_ := (hb.cell (World.block_lt_of_cell? _ _ (hHeld.2.1))).trans (hHeld.2.1)
                        have HS2_ := (hb.cell (World.block_lt_of_cell? _ _ (hHeld.2.2.1))).trans (hHeld.2.2.1)
                        have HS3_ := (hb.cell (World.block_lt_of_cell? _ _ (hHeld.2.2.2.1))).trans (hHeld.2.2.2.1)
                        refine ⟨_, rfl, ?_⟩
                        have n0_ := Aside0.mk (Kd.R_below (by (with_reducible repeat (first | apply Kd.R_alloc | apply Kd.R_drewN | apply Kd.R_drew)); exact HO_5.out) hb)
                        have n1_ := Aside0.mk (below_step (by repeat (first | (with_reducible first | exact HB.out | apply below_alloc | apply pw_below_drewN | apply below_drew1) | exact HB.out)) hb)
                        clear HO_5
                        clear HB
                        have HO_5 := n0_
                        have HB := n1_
                        clear n0_ n1_
                        (try clear hb); (try clear hb2); (try clear hk); (try clear hi)
                        refine hK.out _ _ ⟨HS0_, HS1_, HS2_, HS3_, ((HB.out.cell (World.block_lt_of_cell? w _ hw341_0)).trans hw341_0), ((HB.out.cell (World.block_lt_of_cell? w _ hw341_1)).trans hw341_1), ((HB.out.cell (World.block_lt_of_cell? w _ hw341_2)).trans hw341_2), ((HB.out.cell (World.block_lt_of_cell? w _ hw341_3)).trans hw341_3), ((HB.out.cell (World.block_lt_of_cell? w _ hw343_0)).trans hw343_0), ((HB.out.cell (World.block_lt_of_cell? w _ hw343_1)).trans hw343_1), ((HB.out.cell (World.block_lt_of_cell? w _ hw343_2)).trans hw343_2), ((HB.out.cell (World.block_lt_of_cell? w _ hw343_3)).trans hw343_3), ((HB.out.cell (World.block_lt_of_cell? w _ hw344_0)).trans hw344_0), ((HB.out.cell (World.block_lt_of_cell? w _ hw344_1)).trans hw344_1), ((HB.out.cell (World.block_lt_of_cell? w _ hw344_2)).trans hw344_2), ((HB.out.cell (World.block_lt_of_cell? w _ hw344_3)).trans hw344_3)⟩ (fun hHeld => ?_)
                        clear hK K
                        refine norm_ (a' := ?_) ?_ ?_
                        rotate_left
                        · show Act.put _ (some 28) _ = _
                          simp only [Act.put, List.setIfInBounds_toArray, List.set_cons_zero, List.set_cons_succ, i64_w, i32_w]
                          rfl
                        refine one_ (i := 9) (N := some 33) #[true, true, true, true, true, true, true, true, true, true, false, false, false, false, false, false, false, false, false, false, false, false, false, false, false, false, false] rfl rfl (one_of HT_.out (by kernel_rfl)) (by decide) (fun K hK => ?_)
                        refine goes_ Try.func15 (by kernel_rfl) rfl #[.agg #[.int .i64 ((rd_T39 l0 x6_2).f0), .string ((rd_T39 l0 x6_2).f1), .string ((rd_T39 l0 x6_2).f2), .int .i64 ((rd_T39 l0 x6_2).f3)]] (by rfl) rfl rfl (by (try simp only [List.map_toArray, List.map_cons, List.map_nil]); first | done | rfl | (simp only [List.length_drop, List.length_take]; rfl)) ?_
                        with_reducible refine (triremeref32_Right.calls k2 ((rd_T39 l0 x6_2).f0) ((rd_T39 l0 x6_2).f1) ((rd_T39 l0 x6_2).f2) ((rd_T39 l0 x6_2).f3) t342 _ A16.out).mono ?_
                        rintro e w30 ⟨rfl, hb⟩
                        have HS0_ := (hb.cell (World.block_lt_of_cell? _ _ (hHeld.1))).trans (hHeld.1)
                        have HS1_ := (hb.cell (World.block_lt_of_cell? _ _ (hHeld.2.1))).trans (hHeld.2.1)
                        have HS2_ := (hb.cell (World.block_lt_of_cell? _ _ (hHeld.2.2.1))).trans (hHeld.2.2.1)
                        have HS3_ := (hb.cell (World.block_lt_of_cell? _ _ (hHeld.2.2.2.1))).trans (hHeld.2.2.2.1)
                        refine ⟨_, rfl, ?_⟩
                        have n0_ := Aside0.mk (Kd.R_below (by (with_reducible repeat (first | apply Kd.R_alloc | apply Kd.R_drewN | apply Kd.R_drew)); exact HO_5.out) hb)
                        have n1_ := Aside0.mk (below_step (by repeat (first | (with_reducible first | exact HB.out | apply below_alloc | apply pw_below_drewN | apply below_drew1) | exact HB.out)) hb)
                        clear HO_5
                        clear HB
                        have HO_5 := n0_
                        have HB := n1_
                        clear n0_ n1_
                        (try clear hb); (try clear hb2); (try clear hk); (try clear hi)
                        refine hK.out _ _ ⟨HS0_, HS1_, HS2_, HS3_, ((HB.out.cell (World.block_lt_of_cell? w _ hw341_0)).trans hw341_0), ((HB.out.cell (World.block_lt_of_cell? w _ hw341_1)).trans hw341_1), ((HB.out.cell (World.block_lt_of_cell? w _ hw341_2)).trans hw341_2), ((HB.out.cell (World.block_lt_of_cell? w _ hw341_3)).trans hw341_3), ((HB.out.cell (World.block_lt_of_cell? w _ hw343_0)).trans hw343_0), ((HB.out.cell (World.block_lt_of_cell? w _ hw343_1)).trans hw343_1), ((HB.out.cell (World.block_lt_of_cell? w _ hw343_2)).trans hw343_2), ((HB.out.cell (World.block_lt_of_cell? w _ hw343_3)).trans hw343_3), ((HB.out.cell (World.block_lt_of_cell? w _ hw344_0)).trans hw344_0), ((HB.out.cell (World.block_lt_of_cell? w _ hw344_1)).trans hw344_1), ((HB.out.cell (World.block_lt_of_cell? w _ hw344_2)).trans hw344_2), ((HB.out.cell (World.block_lt_of_cell? w _ hw344_3)).trans hw344_3)⟩ (fun hHeld => ?_)
                        clear hK K
                        refine norm_ (a' := ?_) ?_ ?_
                        rotate_left
                        · show Act.put _ (some 33) _ = _
                          simp only [Act.put, List.setIfInBounds_toArray, List.set_cons_zero, List.set_cons_succ, i64_w, i32_w]
                          rfl
                        refine pure_ (i := 10) (N := some 34) (v := ?_) (a' := ?_) #[true, true, true, true, true, true, true, true, true, true, true, false, false, false, false, false, false, false, false, false, false, false, false, false, false, false, false] rfl rfl (any_of HT_.out (by kernel_rfl)) (fun _ _ _ h => h) (Or.inl ⟨by rfl, ?_⟩) ?_ ?_
                        rotate_left
                        · intro w'; go_simp; with_reducible rfl
                        rotate_left
                        · simp only [Act.put, List.setIfInBounds_toArray, List.set_cons_zero, List.set_cons_succ, i64_w, i32_w]; rfl
                        refine pure_ (i := 11) (N := some 35) (v := ?_) (a' := ?_) #[true, true, true, true, true, true, true, true, true, true, true, true, false, false, false, false, false, false, false, false, false, false, false, false, false, false, false] rfl rfl (any_of HT_.out (by kernel_rfl)) (fun _ _ _ h => h) (Or.inl ⟨by rfl, ?_⟩) ?_ ?_
                        rotate_left
                        · intro w'; go_simp; with_reducible rfl
                        rotate_left
                        · simp only [Act.put, List.setIfInBounds_toArray, List.set_cons_zero, List.set_cons_succ, i64_w, i32_w]; rfl
                        refine pure_ (i := 12) (N := some 36) (v := ?_) (a' := ?_) #[true, true, true, true, true, true, true, true, true, true, true, true, true, false, false, false, false, false, false, false, false, false, false, false, false, false, false] rfl rfl (any_of HT_.out (by kernel_rfl)) (fun _ _ _ h => h) (Or.inl ⟨by rfl, ?_⟩) ?_ ?_
                        rotate_left
                        · intro w'; go_simp; with_reducible rfl
                        rotate_left
                        · simp only [Act.put, List.setIfInBounds_toArray, List.set_cons_zero, List.set_cons_succ, i64_w, i32_w]; rfl
                        refine pure_ (i := 13) (N := some 37) (v := ?_) (a' := ?_) #[true, true, true, true, true, true, true, true, true, true, true, true, true, true, false, false, false, false, false, false, false, false, false, false, false, false, false] rfl rfl (any_of HT_.out (by kernel_rfl)) (fun _ _ _ h => h) (Or.inl ⟨by rfl, ?_⟩) ?_ ?_
                        rotate_left
                        · intro w'; go_simp; with_reducible rfl
                        rotate_left
                        · simp only [Act.put, List.setIfInBounds_toArray, List.set_cons_zero, List.set_cons_succ, i64_w, i32_w]; rfl
                        refine pure_ (i := 14) (N := some 38) (v := ?_) (a' := ?_) #[true, true, true, true, true, true, true, true, true, true, true, true, true, true, true, false, false, false, false, false, false, false, false, false, false, false, false] rfl rfl (any_of HT_.out (by kernel_rfl)) (fun _ _ _ h => h) (Or.inl ⟨by rfl, ?_⟩) ?_ ?_
                        rotate_left
                        · intro w'; go_simp; with_reducible rfl
                        rotate_left
                        · simp only [Act.put, List.setIfInBounds_toArray, List.set_cons_zero, List.set_cons_succ, i64_w, i32_w]; rfl
                        refine pure_ (i := 15) (N := some 39) (v := ?_) (a' := ?_) #[true, true, true, true, true, true, true, true, true, true, true, true, true, true, true, true, false, false, false, false, false, false, false, false, false, false, false] rfl rfl (any_of HT_.out (by kernel_rfl)) (fun _ _ _ h => h) (Or.inl ⟨by rfl, ?_⟩) ?_ ?_
                        rotate_left
                        · intro w'; go_simp; with_reducible rfl
                        rotate_left
                        · simp only [Act.put, List.setIfInBounds_toArray, List.set_cons_zero, List.set_cons_succ, i64_w, i32_w]; rfl
                        refine take_ (i := 16) (N := some 40) (v := ?_) (a' := ?_) #[true, true, true, true, true, true, true, true, true, true, true, true, true, true, true, true, true, false, false, false, false, false, false, false, false, false, false] rfl rfl (take_ofW HT_.out HW_.out (by kernel_rfl)) (fun _ _ _ h => h) (Or.inl ⟨by rfl, ?_⟩) hHeld ?_ ?_
                        rotate_left
                        · rintro w' ⟨s0, s1, s2, s3, s4, s5, s6, s7, s8, s9, s10, s11, s12, s13, s14, s15⟩; go_simp; with_reducible rfl
                        rotate_left
                        · simp only [Act.put, List.setIfInBounds_toArray, List.set_cons_zero, List.set_cons_succ, i64_w, i32_w]; rfl
                        refine pure_ (i := 17) (N := some 41) (v := ?_) (a' := ?_) #[true, true, true, true, true, true, true, true, true, true, true, true, true, true, true, true, true, true, false, false, false, false, false, false, false, false, false] rfl rfl (any_of HT_.out (by kernel_rfl)) (fun _ _ _ h => h) (Or.inl ⟨by rfl, ?_⟩) ?_ ?_
                        rotate_left
                        · intro w'; go_simp; with_reducible rfl
                        rotate_left
                        · simp only [Act.put, List.setIfInBounds_toArray, List.set_cons_zero, List.set_cons_succ, i64_w, i32_w]; rfl
                        refine pure_ (i := 18) (N := some 42) (v := ?_) (a' := ?_) #[true, true, true, true, true, true, true, true, true, true, true, true, true, true, true, true, true, true, true, false, false, false, false, false, false, false, false] rfl rfl (any_of HT_.out (by kernel_rfl)) (fun _ _ _ h => h) (Or.inl ⟨by rfl, ?_⟩) ?_ ?_
                        rotate_left
                        · intro w'; go_simp; with_reducible rfl
                        rotate_left
                        · simp only [Act.put, List.setIfInBounds_toArray, List.set_cons_zero, List.set_cons_succ, i64_w, i32_w]; rfl
                        refine pure_ (i := 19) (N := some 43) (v := ?_) (a' := ?_) #[true, true, true, true, true, true, true, true, true, true, true, true, true, true, true, true, true, true, true, true, false, false, false, false, false, false, false] rfl rfl (any_of HT_.out (by kernel_rfl)) (fun _ _ _ h => h) (Or.inl ⟨by rfl, ?_⟩) ?_ ?_
                        rotate_left
                        · intro w'; go_simp; with_reducible rfl
                        rotate_left
                        · simp only [Act.put, List.setIfInBounds_toArray, List.set_cons_zero, List.set_cons_succ, i64_w, i32_w]; rfl
                        refine pure_ (i := 20) (N := some 44) (v := ?_) (a' := ?_) #[true, true, true, true, true, true, true, true, true, true, true, true, true, true, true, true, true, true, true, true, true, false, false, false, false, false, false] rfl rfl (any_of HT_.out (by kernel_rfl)) (fun _ _ _ h => h) (Or.inl ⟨by rfl, ?_⟩) ?_ ?_
                        rotate_left
                        · intro w'; go_simp; with_reducible rfl
                        rotate_left
                        · simp only [Act.put, List.setIfInBounds_toArray, List.set_cons_zero, List.set_cons_succ, i64_w, i32_w]; rfl
                        refine pure_ (i := 21) (N := some 45) (v := ?_) (a' := ?_) #[true, true, true, true, true, true, true, true, true, true, true, true, true, true, true, true, true, true, true, true, true, true, false, false, false, false, false] rfl rfl (any_of HT_.out (by kernel_rfl)) (fun _ _ _ h => h) (Or.inl ⟨by rfl, ?_⟩) ?_ ?_
                        rotate_left
                        · intro w'; go_simp; with_reducible rfl
                        rotate_left
                        · simp only [Act.put, List.setIfInBounds_toArray, List.set_cons_zero, List.set_cons_succ, i64_w, i32_w]; rfl
                        refine pure_ (i := 22) (N := some 46) (v := ?_) (a' := ?_) #[true, true, true, true, true, true, true, true, true, true, true, true, true, true, true, true, true, true, true, true, true, true, true, false, false, false, false] rfl rfl (any_of HT_.out (by kernel_rfl)) (fun _ _ _ h => h) (Or.inl ⟨by rfl, ?_⟩) ?_ ?_
                        rotate_left
                        · intro w'; go_simp; with_reducible rfl
                        rotate_left
                        · simp only [Act.put, List.setIfInBounds_toArray, List.set_cons_zero, List.set_cons_succ, i64_w, i32_w]; rfl
                        refine pure_ (i := 23) (N := some 47) (v := ?_) (a' := ?_) #[true, true, true, true, true, true, true, true, true, true, true, true, true, true, true, true, true, true, true, true, true, true, true, true, false, false, false] rfl rfl (any_of HT_.out (by kernel_rfl)) (fun _ _ _ h => h) (Or.inl ⟨by rfl, ?_⟩) ?_ ?_
                        rotate_left
                        · intro w'; go_simp; with_reducible rfl
                        rotate_left
                        · simp only [Act.put, List.setIfInBounds_toArray, List.set_cons_zero, List.set_cons_succ, i64_w, i32_w]; rfl
                        refine take_ (i := 24) (N := some 48) (v := ?_) (a' := ?_) #[true, true, true, true, true, true, true, true, true, true, true, true, true, true, true, true, true, true, true, true, true, true, true, true, true, false, false] rfl rfl (take_ofW HT_.out HW_.out (by kernel_rfl)) (fun _ _ _ h => h) (Or.inl ⟨by rfl, ?_⟩) hHeld ?_ ?_
                        rotate_left
                        · rintro w' ⟨s0, s1, s2, s3, s4, s5, s6, s7, s8, s9, s10, s11, s12, s13, s14, s15⟩; go_simp; with_reducible rfl
                        rotate_left
                        · simp only [Act.put, List.setIfInBounds_toArray, List.set_cons_zero, List.set_cons_succ, i64_w, i32_w]; rfl
                        refine pure_ (i := 25) (N := some 49) (v := ?_) (a' := ?_) #[true, true, true, true, true, true, true, true, true, true, true, true, true, true, true, true, true, true, true, true, true, true, true, true, true, true, false] rfl rfl (any_of HT_.out (by kernel_rfl)) (fun _ _ _ h => h) (Or.inl ⟨by rfl, ?_⟩) ?_ ?_
                        rotate_left
                        · intro w'; go_simp; with_reducible rfl
                        rotate_left
                        · simp only [Act.put, List.setIfInBounds_toArray, List.set_cons_zero, List.set_cons_succ, i64_w, i32_w]; rfl
                        refine pure_ (i := 26) (N := some 50) (v := ?_) (a' := ?_) #[true, true, true, true, true, true, true, true, true, true, true, true, true, true, true, true, true, true, true, true, true, true, true, true, true, true, true] rfl rfl (any_of HT_.out (by kernel_rfl)) (fun _ _ _ h => h) (Or.inl ⟨by rfl, ?_⟩) ?_ ?_
                        rotate_left
                        · intro w'; go_simp; with_reducible rfl
                        rotate_left
                        · simp only [Act.put, List.setIfInBounds_toArray, List.set_cons_zero, List.set_cons_succ, i64_w, i32_w]; rfl
                        refine done_ (done_of HT_.out (by kernel_rfl)) ?_
                        try go_wp2
                        go_meet
                        case rel => exact ⟨_, (decide (((rd_T39 l0 x6_2).f3) < 0)), (by first | rfl | (simp; done) | (simp [*]; done)), H', ⟨by have := HJ2.out; have := HK2.out; first | omega | exact Nat.le_refl _⟩, ⟨by (with_reducible repeat (first | apply Kd.R_alloc | apply Kd.R_drewN | apply Kd.R_drew)); exact HO_5.out⟩, ⟨by repeat (first | (with_reducible first | exact HB.out | apply below_alloc | apply pw_below_drewN | apply below_drew1) | exact HB.out)⟩⟩
                  · rw [if_neg c14] at H
                    exact absurd H (by simp)
                · rw [if_neg c13] at H
                  exact absurd H (by simp)
              case rest =>
                clear HC12
                try clear c1
                try clear c2
                try clear p2
                try clear p3
                try clear q3
                try clear hx3
                try clear c13
                try clear c14
                try clear c15
                try clear c22
                try clear c22b0
                try clear hx339_0
                try clear hx339_1
                try clear hx339_2
                try clear hx339_3
                try clear hx341_0
                try clear hx341_1
                try clear hx341_2
                try clear hx341_3
                try clear hx343_0
                try clear hx343_1
                try clear hx343_2
                try clear hx343_3
                try clear hx344_0
                try clear hx344_1
                try clear hx344_2
                try clear hx344_3
                try clear p339
                try clear p341
                try clear p343
                try clear p344
                try clear q339
                try clear q341
                try clear q343
                try clear q344
                obtain ⟨kq, x50_11, rfl, HA, HJ11, HO_5, HB⟩ := hcut
                cases kq with
                | zero => exact absurd HA.out (by simp [triremelaw32_TraceTells.j2])
                | succ kj11 =>
                  have H := HA.out
                  clear HA
                  simp only [triremelaw32_TraceTells.j2] at H
                  by_cases c31 : x50_11 = true
                  · subst c31
                    have H1 : (if 0 ≤ x6_2 then (if x6_2 < (t336.length : Int) then ((trace_Right.f kj11 ((rd_T37 t336 x6_2).f0) ((rd_T37 t336 x6_2).f1) ((rd_T37 t336 x6_2).f2) ((rd_T37 t336 x6_2).f3)).bind fun t346 => (if x6_2 < (l0.length : Int) then ((triremeref32_Right.f kj11 ((rd_T39 l0 x6_2).f0) ((rd_T39 l0 x6_2).f1) ((rd_T39 l0 x6_2).f2) ((rd_T39 l0 x6_2).f3)).bind fun t348 => (if (t346 == t348) = true then ((triremelaw32_known.f kj11).bind fun t349 => (some t349)) else (some false))) else (none))) else (none)) else (none)) = some r := by rw [if_pos rfl] at H; exact H
                    clear H
                    have H := H1
                    clear H1
                    by_cases c32 : 0 ≤ x6_2
                    · rw [if_pos c32] at H
                      have c32b0 : decide (0 ≤ x6_2) = true := decide_eq_true c32
                      clear c32
                      by_cases c33 : x6_2 < (t336.length : Int)
                      · rw [if_pos c33] at H
                        have c33b0 : decide (x6_2 < (t336.length : Int)) = true := decide_eq_true c33
                        clear c33
                        replace H := Option.bind_eq_some_iff.mp H
                        obtain ⟨t346, A340, H⟩ := H
                        replace H : (if x6_2 < (l0.length : Int) then ((triremeref32_Right.f kj11 ((rd_T39 l0 x6_2).f0) ((rd_T39 l0 x6_2).f1) ((rd_T39 l0 x6_2).f2) ((rd_T39 l0 x6_2).f3)).bind fun t348 => (if (t346 == t348) = true then ((triremelaw32_known.f kj11).bind fun t349 => (some t349)) else (some false))) else (none)) = some r := H
                        have A34 := Aside0.mk A340
                        clear A340
                        by_cases c35 : x6_2 < (l0.length : Int)
                        · rw [if_pos c35] at H
                          have c35b0 : decide (x6_2 < (l0.length : Int)) = true := decide_eq_true c35
                          clear c35
                          replace H := Option.bind_eq_some_iff.mp H
                          obtain ⟨t348, A360, H⟩ := H
                          replace H : (if (t346 == t348) = true then ((triremelaw32_known.f kj11).bind fun t349 => (some t349)) else (some false)) = some r := H
                          have A36 := Aside0.mk A360
                          clear A360
                          by_cases c37 : (t346 == t348) = true
                          · rw [if_pos c37] at H
                            have c37b0 : (t346 == t348) = true := c37
                            (try (have c37b1 : decide (t346 = t348) = true := by simpa using c37))
                            (try (have c37b2 : (t346 == t348) = true := by simpa using c37))
                            clear c37
                            replace H := Option.bind_eq_some_iff.mp H
                            obtain ⟨t349, A380, H⟩ := H
                            replace H : (some t349) = some r := H
                            have A38 := Aside0.mk A380
                            clear A380
                            obtain rfl := Option.some.inj H
                            try go_wp2
                            have n0_ := Aside0.mk (Kd.R_drew HO_5.out)
                            have n1_ := Aside0.mk (below_drew1 HB.out)
                            clear HO_5
                            clear HB
                            have HO_5 := n0_
                            have HB := n1_
                            clear n0_ n1_
                            obtain ⟨Ao40, co40, eo40⟩ := Kd.R_slice HO_5.out
                            (first | subst eo40 | (injection eo40 with f1_ f2_ f3_; have f4_ := f1_.symm; have f5_ := f3_.symm; clear f1_ f2_ f3_; subst f4_; subst f5_))
                            have p345 : 0 ≤ (x6_2 : Int) := of_decide_eq_true (by first | (with_reducible assumption) | assumption)
                            have q345 : x6_2 < (t336.length : Int) := of_decide_eq_true (by first | (with_reducible assumption) | assumption)
                            obtain ⟨ad345, e345, hx345_0, hx345_1, hx345_2, hx345_3⟩ := at_T37 (Kd.R_reads' HO_5.out).2.2 x6_2 p345 q345
                            cases e345
                            replace p345 := eq_true p345
                            replace q345 := eq_true q345
                            (try (have qz345 := q345; rw [ByteArray.size_extract, Nat.min_self] at qz345))
                            have p347 : 0 ≤ (x6_2 : Int) := of_decide_eq_true (by first | (with_reducible assumption) | assumption)
                            have q347 : x6_2 < (l0.length : Int) := of_decide_eq_true (by first | (with_reducible assumption) | assumption)
                            obtain ⟨ad347, e347, hx347_0, hx347_1, hx347_2, hx347_3⟩ := at_T39 HR0.out x6_2 p347 q347
                            have hw347_3 := hx347_3
                            have hw347_2 := hx347_2
                            have hw347_1 := hx347_1
                            have hw347_0 := hx347_0
                            cases e347
                            replace hx347_0 := (HB.out.cell (World.block_lt_of_cell? w _ hx347_0)).trans hx347_0
                            replace hx347_1 := (HB.out.cell (World.block_lt_of_cell? w _ hx347_1)).trans hx347_1
                            replace hx347_2 := (HB.out.cell (World.block_lt_of_cell? w _ hx347_2)).trans hx347_2
                            replace hx347_3 := (HB.out.cell (World.block_lt_of_cell? w _ hx347_3)).trans hx347_3
                            replace p347 := eq_true p347
                            replace q347 := eq_true q347
                            (try (have qz347 := q347; rw [ByteArray.size_extract, Nat.min_self] at qz347))
                            refine start_ (n := 15) (S := fun w' => w'.cell? (ad345.add ((x6_2).toNat * 4)) = some (.int .i64 ((rd_T37 t336 x6_2).f0)) ∧ w'.cell? ⟨(ad345.add ((x6_2).toNat * 4)).block, (ad345.add ((x6_2).toNat * 4)).off + 1, none⟩ = some (.string ((rd_T37 t336 x6_2).f1)) ∧ w'.cell? ⟨(ad345.add ((x6_2).toNat * 4)).block, (ad345.add ((x6_2).toNat * 4)).off + 2, none⟩ = some (.string ((rd_T37 t336 x6_2).f2)) ∧ w'.cell? ⟨(ad345.add ((x6_2).toNat * 4)).block, (ad345.add ((x6_2).toNat * 4)).off + 3, none⟩ = some (.int .i64 ((rd_T37 t336 x6_2).f3)) ∧ w'.cell? (ad347.add ((x6_2).toNat * 4)) = some (.int .i64 ((rd_T39 l0 x6_2).f0)) ∧ w'.cell? ⟨(ad347.add ((x6_2).toNat * 4)).block, (ad347.add ((x6_2).toNat * 4)).off + 1, none⟩ = some (.string ((rd_T39 l0 x6_2).f1)) ∧ w'.cell? ⟨(ad347.add ((x6_2).toNat * 4)).block, (ad347.add ((x6_2).toNat * 4)).off + 2, none⟩ = some (.string ((rd_T39 l0 x6_2).f2)) ∧ w'.cell? ⟨(ad347.add ((x6_2).toNat * 4)).block, (ad347.add ((x6_2).toNat * 4)).off + 3, none⟩ = some (.int .i64 ((rd_T39 l0 x6_2).f3))) (ds := []) #[false, false, false, false, false, false, false, false, false, false, false, false, false, false, false] (by kernel_rfl) rfl rfl ⟨hx345_0, hx345_1, hx345_2, hx345_3, ((HB.out.cell (World.block_lt_of_cell? w _ hw347_0)).trans hw347_0), ((HB.out.cell (World.block_lt_of_cell? w _ hw347_1)).trans hw347_1), ((HB.out.cell (World.block_lt_of_cell? w _ hw347_2)).trans hw347_2), ((HB.out.cell (World.block_lt_of_cell? w _ hw347_3)).trans hw347_3)⟩ (fun hHeld => ?_); refine with_tabW triremelaw32_TraceTells.tab8 triremelaw32_TraceTells.bits8 (fun HT_ HW_ => ?_)
                            generalize wc.drew = w39 at HO_5 HB hx345_0 hx345_1 hx345_2 hx345_3 hx347_0 hx347_1 hx347_2 hx347_3 hHeld ⊢
                            refine pure_ (i := 0) (N := some 51) (v := ?_) (a' := ?_) #[true, false, false, false, false, false, false, false, false, false, false, false, false, false, false] rfl rfl (any_of HT_.out (by kernel_rfl)) (fun _ _ _ h => h) (Or.inl ⟨by rfl, ?_⟩) ?_ ?_
                            rotate_left
                            · intro w'; go_simp; with_reducible rfl
                            rotate_left
                            · simp only [Act.put, List.setIfInBounds_toArray, List.set_cons_zero, List.set_cons_succ, i64_w, i32_w]; rfl
                            refine pure_ (i := 1) (N := some 52) (v := ?_) (a' := ?_) #[true, true, false, false, false, false, false, false, false, false, false, false, false, false, false] rfl rfl (any_of HT_.out (by kernel_rfl)) (fun _ _ _ h => h) (Or.inl ⟨by rfl, ?_⟩) ?_ ?_
                            rotate_left
                            · intro w'; go_simp; with_reducible rfl
                            rotate_left
                            · simp only [Act.put, List.setIfInBounds_toArray, List.set_cons_zero, List.set_cons_succ, i64_w, i32_w]; rfl
                            refine pure_ (i := 2) (N := some 53) (v := ?_) (a' := ?_) #[true, true, true, false, false, false, false, false, false, false, false, false, false, false, false] rfl rfl (any_of HT_.out (by kernel_rfl)) (fun _ _ _ h => h) (Or.inl ⟨by rfl, ?_⟩) ?_ ?_
                            rotate_left
                            · intro w'; go_simp; with_reducible rfl
                            rotate_left
                            · simp only [Act.put, List.setIfInBounds_toArray, List.set_cons_zero, List.set_cons_succ, i64_w, i32_w]; rfl
                            refine pure_ (i := 5) (N := some 56) (v := ?_) (a' := ?_) #[true, true, true, false, false, true, false, false, false, false, false, false, false, false, false] rfl rfl (any_of HT_.out (by kernel_rfl)) (fun _ _ _ h => h) (Or.inl ⟨by rfl, ?_⟩) ?_ ?_
                            rotate_left
                            · intro w'; go_simp; with_reducible rfl
                            rotate_left
                            · simp only [Act.put, List.setIfInBounds_toArray, List.set_cons_zero, List.set_cons_succ, i64_w, i32_w]; rfl
                            refine pure_ (i := 6) (N := some 57) (v := ?_) (a' := ?_) #[true, true, true, false, false, true, true, false, false, false, false, false, false, false, false] rfl rfl (any_of HT_.out (by kernel_rfl)) (fun _ _ _ h => h) (Or.inl ⟨by rfl, ?_⟩) ?_ ?_
                            rotate_left
                            · intro w'; go_simp; with_reducible rfl
                            rotate_left
                            · simp only [Act.put, List.setIfInBounds_toArray, List.set_cons_zero, List.set_cons_succ, i64_w, i32_w]; rfl
                            refine pure_ (i := 7) (N := some 58) (v := ?_) (a' := ?_) #[true, true, true, false, false, true, true, true, false, false, false, false, false, false, false] rfl rfl (any_of HT_.out (by kernel_rfl)) (fun _ _ _ h => h) (Or.inl ⟨by rfl, ?_⟩) ?_ ?_
                            rotate_left
                            · intro w'; go_simp; with_reducible rfl
                            rotate_left
                            · simp only [Act.put, List.setIfInBounds_toArray, List.set_cons_zero, List.set_cons_succ, i64_w, i32_w]; rfl
                            refine take_ (i := 3) (N := some 54) (v := ?_) (a' := ?_) #[true, true, true, true, false, true, true, true, false, false, false, false, false, false, false] rfl rfl (take_ofW HT_.out HW_.out (by kernel_rfl)) (fun _ _ _ h => h) (Or.inl ⟨by rfl, ?_⟩) hHeld ?_ ?_
                            rotate_left
                            · rintro w' ⟨s0, s1, s2, s3, s4, s5, s6, s7⟩; go_simp; with_reducible rfl
                            rotate_left
                            · simp only [Act.put, List.setIfInBounds_toArray, List.set_cons_zero, List.set_cons_succ, i64_w, i32_w]; rfl
                            refine take_ (i := 8) (N := some 59) (v := ?_) (a' := ?_) #[true, true, true, true, false, true, true, true, true, false, false, false, false, false, false] rfl rfl (take_ofW HT_.out HW_.out (by kernel_rfl)) (fun _ _ _ h => h) (Or.inl ⟨by rfl, ?_⟩) hHeld ?_ ?_
                            rotate_left
                            · rintro w' ⟨s0, s1, s2, s3, s4, s5, s6, s7⟩; go_simp; with_reducible rfl
                            rotate_left
                            · simp only [Act.put, List.setIfInBounds_toArray, List.set_cons_zero, List.set_cons_succ, i64_w, i32_w]; rfl
                            refine one_ (i := 4) (N := some 55) #[true, true, true, true, true, true, true, true, true, false, false, false, false, false, false] rfl rfl (one_of HT_.out (by kernel_rfl)) (by decide) (fun K hK => ?_)
                            refine goes_ Try.func14 (by kernel_rfl) rfl #[.agg #[.int .i64 ((rd_T37 t336 x6_2).f0), .string ((rd_T37 t336 x6_2).f1), .string ((rd_T37 t336 x6_2).f2), .int .i64 ((rd_T37 t336 x6_2).f3)]] (by rfl) rfl rfl (by (try simp only [List.map_toArray, List.map_cons, List.map_nil]); first | done | rfl | (simp only [List.length_drop, List.length_take]; rfl)) ?_
                            with_reducible refine (trace_Right.calls kj11 ((rd_T37 t336 x6_2).f0) ((rd_T37 t336 x6_2).f1) ((rd_T37 t336 x6_2).f2) ((rd_T37 t336 x6_2).f3) t346 _ A34.out).mono ?_
                            rintro e w41 ⟨rfl, hb⟩
                            have HS0_ := (hb.cell (World.block_lt_of_cell? _ _ (hHeld.1))).trans (hHeld.1)
                            have HS1_ := (hb.cell (World.block_lt_of_cell? _ _ (hHeld.2.1))).trans (hHeld.2.1)
                            have HS2_ := (hb.cell (World.block_lt_of_cell? _ _ (hHeld.2.2.1))).trans (hHeld.2.2.1)
                            have HS3_ := (hb.cell (World.block_lt_of_cell? _ _ (hHeld.2.2.2.1))).trans (hHeld.2.2.2.1)
                            refine ⟨_, rfl, ?_⟩
                            have n0_ := Aside0.mk (Kd.R_below (by (with_reducible repeat (first | apply Kd.R_alloc | apply Kd.R_drewN | apply Kd.R_drew)); exact HO_5.out) hb)
                            have n1_ := Aside0.mk (below_step (by repeat (first | (with_reducible first | exact HB.out | apply below_alloc | apply pw_below_drewN | apply below_drew1) | exact HB.out)) hb)
                            clear HO_5
                            clear HB
                            have HO_5 := n0_
                            have HB := n1_
                            clear n0_ n1_
                            (try clear hb); (try clear hb2); (try clear hk); (try clear hi)
                            refine hK.out _ _ ⟨HS0_, HS1_, HS2_, HS3_, ((HB.out.cell (World.block_lt_of_cell? w _ hw347_0)).trans hw347_0), ((HB.out.cell (World.block_lt_of_cell? w _ hw347_1)).trans hw347_1), ((HB.out.cell (World.block_lt_of_cell? w _ hw347_2)).trans hw347_2), ((HB.out.cell (World.block_lt_of_cell? w _ hw347_3)).trans hw347_3)⟩ (fun hHeld => ?_)
                            clear hK K
                            refine norm_ (a' := ?_) ?_ ?_
                            rotate_left
                            · show Act.put _ (some 55) _ = _
                              simp only [Act.put, List.setIfInBounds_toArray, List.set_cons_zero, List.set_cons_succ, i64_w, i32_w]
                              rfl
                            refine one_ (i := 9) (N := some 60) #[true, true, true, true, true, true, true, true, true, true, false, false, false, false, false] rfl rfl (one_of HT_.out (by kernel_rfl)) (by decide) (fun K hK => ?_)
                            refine goes_ Try.func15 (by kernel_rfl) rfl #[.agg #[.int .i64 ((rd_T39 l0 x6_2).f0), .string ((rd_T39 l0 x6_2).f1), .string ((rd_T39 l0 x6_2).f2), .int .i64 ((rd_T39 l0 x6_2).f3)]] (by rfl) rfl rfl (by (try simp only [List.map_toArray, List.map_cons, List.map_nil]); first | done | rfl | (simp only [List.length_drop, List.length_take]; rfl)) ?_
                            with_reducible refine (triremeref32_Right.calls kj11 ((rd_T39 l0 x6_2).f0) ((rd_T39 l0 x6_2).f1) ((rd_T39 l0 x6_2).f2) ((rd_T39 l0 x6_2).f3) t348 _ A36.out).mono ?_
                            rintro e w42 ⟨rfl, hb⟩
                            have HS0_ := (hb.cell (World.block_lt_of_cell? _ _ (hHeld.1))).trans (hHeld.1)
                            have HS1_ := (hb.cell (World.block_lt_of_cell? _ _ (hHeld.2.1))).trans (hHeld.2.1)
                            have HS2_ := (hb.cell (World.block_lt_of_cell? _ _ (hHeld.2.2.1))).trans (hHeld.2.2.1)
                            have HS3_ := (hb.cell (World.block_lt_of_cell? _ _ (hHeld.2.2.2.1))).trans (hHeld.2.2.2.1)
                            refine ⟨_, rfl, ?_⟩
                            have n0_ := Aside0.mk (Kd.R_below (by (with_reducible repeat (first | apply Kd.R_alloc | apply Kd.R_drewN | apply Kd.R_drew)); exact HO_5.out) hb)
                            have n1_ := Aside0.mk (below_step (by repeat (first | (with_reducible first | exact HB.out | apply below_alloc | apply pw_below_drewN | apply below_drew1) | exact HB.out)) hb)
                            clear HO_5
                            clear HB
                            have HO_5 := n0_
                            have HB := n1_
                            clear n0_ n1_
                            (try clear hb); (try clear hb2); (try clear hk); (try clear hi)
                            refine hK.out _ _ ⟨HS0_, HS1_, HS2_, HS3_, ((HB.out.cell (World.block_lt_of_cell? w _ hw347_0)).trans hw347_0), ((HB.out.cell (World.block_lt_of_cell? w _ hw347_1)).trans hw347_1), ((HB.out.cell (World.block_lt_of_cell? w _ hw347_2)).trans hw347_2), ((HB.out.cell (World.block_lt_of_cell? w _ hw347_3)).trans hw347_3)⟩ (fun hHeld => ?_)
                            clear hK K
                            refine norm_ (a' := ?_) ?_ ?_
                            rotate_left
                            · show Act.put _ (some 60) _ = _
                              simp only [Act.put, List.setIfInBounds_toArray, List.set_cons_zero, List.set_cons_succ, i64_w, i32_w]
                              rfl
                            refine pure_ (i := 10) (N := some 61) (v := ?_) (a' := ?_) #[true, true, true, true, true, true, true, true, true, true, true, false, false, false, false] rfl rfl (any_of HT_.out (by kernel_rfl)) (fun _ _ _ h => h) (Or.inl ⟨by rfl, ?_⟩) ?_ ?_
                            rotate_left
                            · intro w'; go_simp; with_reducible rfl
                            rotate_left
                            · simp only [Act.put, List.setIfInBounds_toArray, List.set_cons_zero, List.set_cons_succ, i64_w, i32_w]; rfl
                            refine pure_ (i := 11) (N := some 62) (v := ?_) (a' := ?_) #[true, true, true, true, true, true, true, true, true, true, true, true, false, false, false] rfl rfl (any_of HT_.out (by kernel_rfl)) (fun _ _ _ h => h) (Or.inl ⟨by rfl, ?_⟩) ?_ ?_
                            rotate_left
                            · intro w'; go_simp; with_reducible rfl
                            rotate_left
                            · simp only [Act.put, List.setIfInBounds_toArray, List.set_cons_zero, List.set_cons_succ, i64_w, i32_w]; rfl
                            refine one_ (i := 12) (N := some 63) #[true, true, true, true, true, true, true, true, true, true, true, true, true, false, false] rfl rfl (one_of HT_.out (by kernel_rfl)) (by decide) (fun K hK => ?_)
                            refine goes_ Try.func7 (by kernel_rfl) rfl #[] (by rfl) rfl rfl (by (try simp only [List.map_toArray, List.map_cons, List.map_nil]); first | done | rfl | (simp only [List.length_drop, List.length_take]; rfl)) ?_
                            with_reducible refine (triremelaw32_known.calls kj11  t349 _ A38.out).mono ?_
                            rintro e w43 ⟨rfl, hb⟩
                            have HS0_ := (hb.cell (World.block_lt_of_cell? _ _ (hHeld.1))).trans (hHeld.1)
                            have HS1_ := (hb.cell (World.block_lt_of_cell? _ _ (hHeld.2.1))).trans (hHeld.2.1)
                            have HS2_ := (hb.cell (World.block_lt_of_cell? _ _ (hHeld.2.2.1))).trans (hHeld.2.2.1)
                            have HS3_ := (hb.cell (World.block_lt_of_cell? _ _ (hHeld.2.2.2.1))).trans (hHeld.2.2.2.1)
                            refine ⟨_, rfl, ?_⟩
                            have n0_ := Aside0.mk (Kd.R_below (by (with_reducible repeat (first | apply Kd.R_alloc | apply Kd.R_drewN | apply Kd.R_drew)); exact HO_5.out) hb)
                            have n1_ := Aside0.mk (below_step (by repeat (first | (with_reducible first | exact HB.out | apply below_alloc | apply pw_below_drewN | apply below_drew1) | exact HB.out)) hb)
                            clear HO_5
                            clear HB
                            have HO_5 := n0_
                            have HB := n1_
                            clear n0_ n1_
                            (try clear hb); (try clear hb2); (try clear hk); (try clear hi)
                            refine hK.out _ _ ⟨HS0_, HS1_, HS2_, HS3_, ((HB.out.cell (World.block_lt_of_cell? w _ hw347_0)).trans hw347_0), ((HB.out.cell (World.block_lt_of_cell? w _ hw347_1)).trans hw347_1), ((HB.out.cell (World.block_lt_of_cell? w _ hw347_2)).trans hw347_2), ((HB.out.cell (World.block_lt_of_cell? w _ hw347_3)).trans hw347_3)⟩ (fun hHeld => ?_)
                            clear hK K
                            refine norm_ (a' := ?_) ?_ ?_
                            rotate_left
                            · show Act.put _ (some 63) _ = _
                              simp only [Act.put, List.setIfInBounds_toArray, List.set_cons_zero, List.set_cons_succ, i64_w, i32_w]
                              rfl
                            refine pure_ (i := 13) (N := some 64) (v := ?_) (a' := ?_) #[true, true, true, true, true, true, true, true, true, true, true, true, true, true, false] rfl rfl (any_of HT_.out (by kernel_rfl)) (fun _ _ _ h => h) (Or.inl ⟨by rfl, ?_⟩) ?_ ?_
                            rotate_left
                            · intro w'; go_simp; with_reducible rfl
                            rotate_left
                            · simp only [Act.put, List.setIfInBounds_toArray, List.set_cons_zero, List.set_cons_succ, i64_w, i32_w]; rfl
                            refine pure_ (i := 14) (N := some 4) (v := ?_) (a' := ?_) #[true, true, true, true, true, true, true, true, true, true, true, true, true, true, true] rfl rfl (any_of HT_.out (by kernel_rfl)) (fun _ _ _ h => h) (Or.inl ⟨by rfl, ?_⟩) ?_ ?_
                            rotate_left
                            · intro w'; go_simp; with_reducible rfl
                            rotate_left
                            · simp only [Act.put, List.setIfInBounds_toArray, List.set_cons_zero, List.set_cons_succ, i64_w, i32_w]; rfl
                            refine done_ (done_of HT_.out (by kernel_rfl)) ?_
                            try go_wp2
                            go_ret
                            exact ⟨by first | rfl | (simp [errW_none, errW_some] <;> rfl) | (simp [*, errW_none, errW_some] <;> rfl), by repeat (first | (with_reducible first | exact HB.out | apply below_alloc | apply pw_below_drewN | apply below_drew1) | exact HB.out)⟩
                          · rw [if_neg c37] at H
                            have c37b0 : (t346 == t348) = false := by simpa using c37
                            (try (have c37b1 : decide (t346 = t348) = false := by simpa using c37))
                            (try (have c37b2 : (t346 == t348) = false := by simpa using c37))
                            (try (have c37b3 : ¬ (t346 = t348) := by simpa using c37))
                            clear c37
                            obtain rfl := Option.some.inj H
                            try go_wp2
                            have n0_ := Aside0.mk (Kd.R_drew HO_5.out)
                            have n1_ := Aside0.mk (below_drew1 HB.out)
                            clear HO_5
                            clear HB
                            have HO_5 := n0_
                            have HB := n1_
                            clear n0_ n1_
                            obtain ⟨Ao45, co45, eo45⟩ := Kd.R_slice HO_5.out
                            (first | subst eo45 | (injection eo45 with f1_ f2_ f3_; have f4_ := f1_.symm; have f5_ := f3_.symm; clear f1_ f2_ f3_; subst f4_; subst f5_))
                            have p345 : 0 ≤ (x6_2 : Int) := of_decide_eq_true (by first | (with_reducible assumption) | assumption)
                            have q345 : x6_2 < (t336.length : Int) := of_decide_eq_true (by first | (with_reducible assumption) | assumption)
                            obtain ⟨ad345, e345, hx345_0, hx345_1, hx345_2, hx345_3⟩ := at_T37 (Kd.R_reads' HO_5.out).2.2 x6_2 p345 q345
                            cases e345
                            replace p345 := eq_true p345
                            replace q345 := eq_true q345
                            (try (have qz345 := q345; rw [ByteArray.size_extract, Nat.min_self] at qz345))
                            have p347 : 0 ≤ (x6_2 : Int) := of_decide_eq_true (by first | (with_reducible assumption) | assumption)
                            have q347 : x6_2 < (l0.length : Int) := of_decide_eq_true (by first | (with_reducible assumption) | assumption)
                            obtain ⟨ad347, e347, hx347_0, hx347_1, hx347_2, hx347_3⟩ := at_T39 HR0.out x6_2 p347 q347
                            have hw347_3 := hx347_3
                            have hw347_2 := hx347_2
                            have hw347_1 := hx347_1
                            have hw347_0 := hx347_0
                            cases e347
                            replace hx347_0 := (HB.out.cell (World.block_lt_of_cell? w _ hx347_0)).trans hx347_0
                            replace hx347_1 := (HB.out.cell (World.block_lt_of_cell? w _ hx347_1)).trans hx347_1
                            replace hx347_2 := (HB.out.cell (World.block_lt_of_cell? w _ hx347_2)).trans hx347_2
                            replace hx347_3 := (HB.out.cell (World.block_lt_of_cell? w _ hx347_3)).trans hx347_3
                            replace p347 := eq_true p347
                            replace q347 := eq_true q347
                            (try (have qz347 := q347; rw [ByteArray.size_extract, Nat.min_self] at qz347))
                            refine start_ (n := 15) (S := fun w' => w'.cell? (ad345.add ((x6_2).toNat * 4)) = some (.int .i64 ((rd_T37 t336 x6_2).f0)) ∧ w'.cell? ⟨(ad345.add ((x6_2).toNat * 4)).block, (ad345.add ((x6_2).toNat * 4)).off + 1, none⟩ = some (.string ((rd_T37 t336 x6_2).f1)) ∧ w'.cell? ⟨(ad345.add ((x6_2).toNat * 4)).block, (ad345.add ((x6_2).toNat * 4)).off + 2, none⟩ = some (.string ((rd_T37 t336 x6_2).f2)) ∧ w'.cell? ⟨(ad345.add ((x6_2).toNat * 4)).block, (ad345.add ((x6_2).toNat * 4)).off + 3, none⟩ = some (.int .i64 ((rd_T37 t336 x6_2).f3)) ∧ w'.cell? (ad347.add ((x6_2).toNat * 4)) = some (.int .i64 ((rd_T39 l0 x6_2).f0)) ∧ w'.cell? ⟨(ad347.add ((x6_2).toNat * 4)).block, (ad347.add ((x6_2).toNat * 4)).off + 1, none⟩ = some (.string ((rd_T39 l0 x6_2).f1)) ∧ w'.cell? ⟨(ad347.add ((x6_2).toNat * 4)).block, (ad347.add ((x6_2).toNat * 4)).off + 2, none⟩ = some (.string ((rd_T39 l0 x6_2).f2)) ∧ w'.cell? ⟨(ad347.add ((x6_2).toNat * 4)).block, (ad347.add ((x6_2).toNat * 4)).off + 3, none⟩ = some (.int .i64 ((rd_T39 l0 x6_2).f3))) (ds := []) #[false, false, false, false, false, false, false, false, false, false, false, false, false, false, false] (by kernel_rfl) rfl rfl ⟨hx345_0, hx345_1, hx345_2, hx345_3, ((HB.out.cell (World.block_lt_of_cell? w _ hw347_0)).trans hw347_0), ((HB.out.cell (World.block_lt_of_cell? w _ hw347_1)).trans hw347_1), ((HB.out.cell (World.block_lt_of_cell? w _ hw347_2)).trans hw347_2), ((HB.out.cell (World.block_lt_of_cell? w _ hw347_3)).trans hw347_3)⟩ (fun hHeld => ?_); refine with_tabW triremelaw32_TraceTells.tab8 triremelaw32_TraceTells.bits8 (fun HT_ HW_ => ?_)
                            generalize wc.drew = w44 at HO_5 HB hx345_0 hx345_1 hx345_2 hx345_3 hx347_0 hx347_1 hx347_2 hx347_3 hHeld ⊢
                            refine pure_ (i := 0) (N := some 51) (v := ?_) (a' := ?_) #[true, false, false, false, false, false, false, false, false, false, false, false, false, false, false] rfl rfl (any_of HT_.out (by kernel_rfl)) (fun _ _ _ h => h) (Or.inl ⟨by rfl, ?_⟩) ?_ ?_
                            rotate_left
                            · intro w'; go_simp; with_reducible rfl
                            rotate_left
                            · simp only [Act.put, List.setIfInBounds_toArray, List.set_cons_zero, List.set_cons_succ, i64_w, i32_w]; rfl
                            refine pure_ (i := 1) (N := some 52) (v := ?_) (a' := ?_) #[true, true, false, false, false, false, false, false, false, false, false, false, false, false, false] rfl rfl (any_of HT_.out (by kernel_rfl)) (fun _ _ _ h => h) (Or.inl ⟨by rfl, ?_⟩) ?_ ?_
                            rotate_left
                            · intro w'; go_simp; with_reducible rfl
                            rotate_left
                            · simp only [Act.put, List.setIfInBounds_toArray, List.set_cons_zero, List.set_cons_succ, i64_w, i32_w]; rfl
                            refine pure_ (i := 2) (N := some 53) (v := ?_) (a' := ?_) #[true, true, true, false, false, false, false, false, false, false, false, false, false, false, false] rfl rfl (any_of HT_.out (by kernel_rfl)) (fun _ _ _ h => h) (Or.inl ⟨by rfl, ?_⟩) ?_ ?_
                            rotate_left
                            · intro w'; go_simp; with_reducible rfl
                            rotate_left
                            · simp only [Act.put, List.setIfInBounds_toArray, List.set_cons_zero, List.set_cons_succ, i64_w, i32_w]; rfl
                            refine pure_ (i := 5) (N := some 56) (v := ?_) (a' := ?_) #[true, true, true, false, false, true, false, false, false, false, false, false, false, false, false] rfl rfl (any_of HT_.out (by kernel_rfl)) (fun _ _ _ h => h) (Or.inl ⟨by rfl, ?_⟩) ?_ ?_
                            rotate_left
                            · intro w'; go_simp; with_reducible rfl
                            rotate_left
                            · simp only [Act.put, List.setIfInBounds_toArray, List.set_cons_zero, List.set_cons_succ, i64_w, i32_w]; rfl
                            refine pure_ (i := 6) (N := some 57) (v := ?_) (a' := ?_) #[true, true, true, false, false, true, true, false, false, false, false, false, false, false, false] rfl rfl (any_of HT_.out (by kernel_rfl)) (fun _ _ _ h => h) (Or.inl ⟨by rfl, ?_⟩) ?_ ?_
                            rotate_left
                            · intro w'; go_simp; with_reducible rfl
                            rotate_left
                            · simp only [Act.put, List.setIfInBounds_toArray, List.set_cons_zero, List.set_cons_succ, i64_w, i32_w]; rfl
                            refine pure_ (i := 7) (N := some 58) (v := ?_) (a' := ?_) #[true, true, true, false, false, true, true, true, false, false, false, false, false, false, false] rfl rfl (any_of HT_.out (by kernel_rfl)) (fun _ _ _ h => h) (Or.inl ⟨by rfl, ?_⟩) ?_ ?_
                            rotate_left
                            · intro w'; go_simp; with_reducible rfl
                            rotate_left
                            · simp only [Act.put, List.setIfInBounds_toArray, List.set_cons_zero, List.set_cons_succ, i64_w, i32_w]; rfl
                            refine take_ (i := 3) (N := some 54) (v := ?_) (a' := ?_) #[true, true, true, true, false, true, true, true, false, false, false, false, false, false, false] rfl rfl (take_ofW HT_.out HW_.out (by kernel_rfl)) (fun _ _ _ h => h) (Or.inl ⟨by rfl, ?_⟩) hHeld ?_ ?_
                            rotate_left
                            · rintro w' ⟨s0, s1, s2, s3, s4, s5, s6, s7⟩; go_simp; with_reducible rfl
                            rotate_left
                            · simp only [Act.put, List.setIfInBounds_toArray, List.set_cons_zero, List.set_cons_succ, i64_w, i32_w]; rfl
                            refine take_ (i := 8) (N := some 59) (v := ?_) (a' := ?_) #[true, true, true, true, false, true, true, true, true, false, false, false, false, false, false] rfl rfl (take_ofW HT_.out HW_.out (by kernel_rfl)) (fun _ _ _ h => h) (Or.inl ⟨by rfl, ?_⟩) hHeld ?_ ?_
                            rotate_left
                            · rintro w' ⟨s0, s1, s2, s3, s4, s5, s6, s7⟩; go_simp; with_reducible rfl
                            rotate_left
                            · simp only [Act.put, List.setIfInBounds_toArray, List.set_cons_zero, List.set_cons_succ, i64_w, i32_w]; rfl
                            refine one_ (i := 4) (N := some 55) #[true, true, true, true, true, true, true, true, true, false, false, false, false, false, false] rfl rfl (one_of HT_.out (by kernel_rfl)) (by decide) (fun K hK => ?_)
                            refine goes_ Try.func14 (by kernel_rfl) rfl #[.agg #[.int .i64 ((rd_T37 t336 x6_2).f0), .string ((rd_T37 t336 x6_2).f1), .string ((rd_T37 t336 x6_2).f2), .int .i64 ((rd_T37 t336 x6_2).f3)]] (by rfl) rfl rfl (by (try simp only [List.map_toArray, List.map_cons, List.map_nil]); first | done | rfl | (simp only [List.length_drop, List.length_take]; rfl)) ?_
                            with_reducible refine (trace_Right.calls kj11 ((rd_T37 t336 x6_2).f0) ((rd_T37 t336 x6_2).f1) ((rd_T37 t336 x6_2).f2) ((rd_T37 t336 x6_2).f3) t346 _ A34.out).mono ?_
                            rintro e w46 ⟨rfl, hb⟩
                            have HS0_ := (hb.cell (World.block_lt_of_cell? _ _ (hHeld.1))).trans (hHeld.1)
                            have HS1_ := (hb.cell (World.block_lt_of_cell? _ _ (hHeld.2.1))).trans (hHeld.2.1)
                            have HS2_ := (hb.cell (World.block_lt_of_cell? _ _ (hHeld.2.2.1))).trans (hHeld.2.2.1)
                            have HS3_ := (hb.cell (World.block_lt_of_cell? _ _ (hHeld.2.2.2.1))).trans (hHeld.2.2.2.1)
                            refine ⟨_, rfl, ?_⟩
                            have n0_ := Aside0.mk (Kd.R_below (by (with_reducible repeat (first | apply Kd.R_alloc | apply Kd.R_drewN | apply Kd.R_drew)); exact HO_5.out) hb)
                            have n1_ := Aside0.mk (below_step (by repeat (first | (with_reducible first | exact HB.out | apply below_alloc | apply pw_below_drewN | apply below_drew1) | exact HB.out)) hb)
                            clear HO_5
                            clear HB
                            have HO_5 := n0_
                            have HB := n1_
                            clear n0_ n1_
                            (try clear hb); (try clear hb2); (try clear hk); (try clear hi)
                            refine hK.out _ _ ⟨HS0_, HS1_, HS2_, HS3_, ((HB.out.cell (World.block_lt_of_cell? w _ hw347_0)).trans hw347_0), ((HB.out.cell (World.block_lt_of_cell? w _ hw347_1)).trans hw347_1), ((HB.out.cell (World.block_lt_of_cell? w _ hw347_2)).trans hw347_2), ((HB.out.cell (World.block_lt_of_cell? w _ hw347_3)).trans hw347_3)⟩ (fun hHeld => ?_)
                            clear hK K
                            refine norm_ (a' := ?_) ?_ ?_
                            rotate_left
                            · show Act.put _ (some 55) _ = _
                              simp only [Act.put, List.setIfInBounds_toArray, List.set_cons_zero, List.set_cons_succ, i64_w, i32_w]
                              rfl
                            refine one_ (i := 9) (N := some 60) #[true, true, true, true, true, true, true, true, true, true, false, false, false, false, false] rfl rfl (one_of HT_.out (by kernel_rfl)) (by decide) (fun K hK => ?_)
                            refine goes_ Try.func15 (by kernel_rfl) rfl #[.agg #[.int .i64 ((rd_T39 l0 x6_2).f0), .string ((rd_T39 l0 x6_2).f1), .string ((rd_T39 l0 x6_2).f2), .int .i64 ((rd_T39 l0 x6_2).f3)]] (by rfl) rfl rfl (by (try simp only [List.map_toArray, List.map_cons, List.map_nil]); first | done | rfl | (simp only [List.length_drop, List.length_take]; rfl)) ?_
                            with_reducible refine (triremeref32_Right.calls kj11 ((rd_T39 l0 x6_2).f0) ((rd_T39 l0 x6_2).f1) ((rd_T39 l0 x6_2).f2) ((rd_T39 l0 x6_2).f3) t348 _ A36.out).mono ?_
                            rintro e w47 ⟨rfl, hb⟩
                            have HS0_ := (hb.cell (World.block_lt_of_cell? _ _ (hHeld.1))).trans (hHeld.1)
                            have HS1_ := (hb.cell (World.block_lt_of_cell? _ _ (hHeld.2.1))).trans (hHeld.2.1)
                            have HS2_ := (hb.cell (World.block_lt_of_cell? _ _ (hHeld.2.2.1))).trans (hHeld.2.2.1)
                            have HS3_ := (hb.cell (World.block_lt_of_cell? _ _ (hHeld.2.2.2.1))).trans (hHeld.2.2.2.1)
                            refine ⟨_, rfl, ?_⟩
                            have n0_ := Aside0.mk (Kd.R_below (by (with_reducible repeat (first | apply Kd.R_alloc | apply Kd.R_drewN | apply Kd.R_drew)); exact HO_5.out) hb)
                            have n1_ := Aside0.mk (below_step (by repeat (first | (with_reducible first | exact HB.out | apply below_alloc | apply pw_below_drewN | apply below_drew1) | exact HB.out)) hb)
                            clear HO_5
                            clear HB
                            have HO_5 := n0_
                            have HB := n1_
                            clear n0_ n1_
                            (try clear hb); (try clear hb2); (try clear hk); (try clear hi)
                            refine hK.out _ _ ⟨HS0_, HS1_, HS2_, HS3_, ((HB.out.cell (World.block_lt_of_cell? w _ hw347_0)).trans hw347_0), ((HB.out.cell (World.block_lt_of_cell? w _ hw347_1)).trans hw347_1), ((HB.out.cell (World.block_lt_of_cell? w _ hw347_2)).trans hw347_2), ((HB.out.cell (World.block_lt_of_cell? w _ hw347_3)).trans hw347_3)⟩ (fun hHeld => ?_)
                            clear hK K
                            refine norm_ (a' := ?_) ?_ ?_
                            rotate_left
                            · show Act.put _ (some 60) _ = _
                              simp only [Act.put, List.setIfInBounds_toArray, List.set_cons_zero, List.set_cons_succ, i64_w, i32_w]
                              rfl
                            refine pure_ (i := 10) (N := some 61) (v := ?_) (a' := ?_) #[true, true, true, true, true, true, true, true, true, true, true, false, false, false, false] rfl rfl (any_of HT_.out (by kernel_rfl)) (fun _ _ _ h => h) (Or.inl ⟨by rfl, ?_⟩) ?_ ?_
                            rotate_left
                            · intro w'; go_simp; with_reducible rfl
                            rotate_left
                            · simp only [Act.put, List.setIfInBounds_toArray, List.set_cons_zero, List.set_cons_succ, i64_w, i32_w]; rfl
                            refine pure_ (i := 11) (N := some 62) (v := ?_) (a' := ?_) #[true, true, true, true, true, true, true, true, true, true, true, true, false, false, false] rfl rfl (any_of HT_.out (by kernel_rfl)) (fun _ _ _ h => h) (Or.inl ⟨by rfl, ?_⟩) ?_ ?_
                            rotate_left
                            · intro w'; go_simp; with_reducible rfl
                            rotate_left
                            · simp only [Act.put, List.setIfInBounds_toArray, List.set_cons_zero, List.set_cons_succ, i64_w, i32_w]; rfl
                            refine pure_ (i := 12) (N := some 63) (v := undef) (a' := ?_) #[true, true, true, true, true, true, true, true, true, true, true, true, true, false, false] rfl rfl (any_of HT_.out (by kernel_rfl)) (fun _ _ _ h => h) (Or.inr ⟨by rfl, rfl⟩) ?_ ?_
                            rotate_left
                            · simp only [Act.put, List.setIfInBounds_toArray, List.set_cons_zero, List.set_cons_succ, i64_w, i32_w]; rfl
                            refine pure_ (i := 13) (N := some 64) (v := ?_) (a' := ?_) #[true, true, true, true, true, true, true, true, true, true, true, true, true, true, false] rfl rfl (any_of HT_.out (by kernel_rfl)) (fun _ _ _ h => h) (Or.inl ⟨by rfl, ?_⟩) ?_ ?_
                            rotate_left
                            · intro w'; go_simp; with_reducible rfl
                            rotate_left
                            · simp only [Act.put, List.setIfInBounds_toArray, List.set_cons_zero, List.set_cons_succ, i64_w, i32_w]; rfl
                            refine pure_ (i := 14) (N := some 4) (v := ?_) (a' := ?_) #[true, true, true, true, true, true, true, true, true, true, true, true, true, true, true] rfl rfl (any_of HT_.out (by kernel_rfl)) (fun _ _ _ h => h) (Or.inl ⟨by rfl, ?_⟩) ?_ ?_
                            rotate_left
                            · intro w'; go_simp; with_reducible rfl
                            rotate_left
                            · simp only [Act.put, List.setIfInBounds_toArray, List.set_cons_zero, List.set_cons_succ, i64_w, i32_w]; rfl
                            refine done_ (done_of HT_.out (by kernel_rfl)) ?_
                            try go_wp2
                            go_ret
                            exact ⟨by first | rfl | (simp [errW_none, errW_some] <;> rfl) | (simp [*, errW_none, errW_some] <;> rfl), by repeat (first | (with_reducible first | exact HB.out | apply below_alloc | apply pw_below_drewN | apply below_drew1) | exact HB.out)⟩
                        · rw [if_neg c35] at H
                          exact absurd H (by simp)
                      · rw [if_neg c33] at H
                        exact absurd H (by simp)
                    · rw [if_neg c32] at H
                      exact absurd H (by simp)
                  · replace c31 := Bool.eq_false_iff.mpr c31
                    subst c31
                    have H1 : (triremelaw32_TraceTells.l0 kj11 l0 a1 t336 (wrap64 (x6_2 + 1))) = some r := by rw [if_neg (show ¬ (false = true) by decide)] at H; exact H
                    clear H
                    have H := H1
                    clear H1
                    have H' := Aside0.mk H
                    clear H
                    go_wp2
                    go_roundg kj11
                    case measure => have := HJ2.out; have := HK2.out; have := HJ11.out; omega
                    case rel => exact ⟨(wrap64 (x6_2 + 1)), (by first | rfl | (simp; done) | (simp [*]; done)), H', ⟨by have := HJ2.out; have := HK2.out; have := HJ11.out; omega⟩, ⟨by (with_reducible repeat (first | apply Kd.R_alloc | apply Kd.R_drewN | apply Kd.R_drew)); exact HO_5.out⟩, ⟨by repeat (first | (with_reducible first | exact HB.out | apply below_alloc | apply pw_below_drewN | apply below_drew1) | exact HB.out)⟩⟩
            · rw [if_neg c11] at H
              have c11b0 : decide (x6_2 < (l0.length : Int)) = false := decide_eq_false c11
              clear c11
              replace H := Option.bind_eq_some_iff.mp H
              obtain ⟨t350, A480, H⟩ := H
              replace H : ((triremeref32_Show.f k2 l0).bind fun t351 => (if t350.toList = t351.toList then ((trace_Calls.f k2 t336).bind fun t352 => ((triremeref32_Calls.f k2 l0).bind fun t353 => (if t352 = t353 then ((trace_Check.f k2 t336).bind fun t354 => ((triremeref32_Check.f k2 l0).bind fun t355 => (if t354 = t355 then ((trace_Added.f k2 t336 a1).bind fun t356 => ((triremeref32_Added.f k2 l0 a1).bind fun t357 => (if t356 = t357 then ((triremelaw32_known.f k2).bind fun t358 => (some t358)) else (some false)))) else (some false)))) else (some false)))) else (some false))) = some r := H
              have A48 := Aside0.mk A480
              clear A480
              replace H := Option.bind_eq_some_iff.mp H
              obtain ⟨t351, A490, H⟩ := H
              replace H : (if t350.toList = t351.toList then ((trace_Calls.f k2 t336).bind fun t352 => ((triremeref32_Calls.f k2 l0).bind fun t353 => (if t352 = t353 then ((trace_Check.f k2 t336).bind fun t354 => ((triremeref32_Check.f k2 l0).bind fun t355 => (if t354 = t355 then ((trace_Added.f k2 t336 a1).bind fun t356 => ((triremeref32_Added.f k2 l0 a1).bind fun t357 => (if t356 = t357 then ((triremelaw32_known.f k2).bind fun t358 => (some t358)) else (some false)))) else (some false)))) else (some false)))) else (some false)) = some r := H
              have A49 := Aside0.mk A490
              clear A490
              by_cases c50 : t350.toList = t351.toList
              · rw [if_pos c50] at H
                have c50b0 : (t350.toList == t351.toList) = true := beq_iff_eq.mpr c50
                have c50b1 : (t350.toList != t351.toList) = false := bne_eq_false_iff_eq.mpr c50
                clear c50
                replace H := Option.bind_eq_some_iff.mp H
                obtain ⟨t352, A510, H⟩ := H
                replace H : ((triremeref32_Calls.f k2 l0).bind fun t353 => (if t352 = t353 then ((trace_Check.f k2 t336).bind fun t354 => ((triremeref32_Check.f k2 l0).bind fun t355 => (if t354 = t355 then ((trace_Added.f k2 t336 a1).bind fun t356 => ((triremeref32_Added.f k2 l0 a1).bind fun t357 => (if t356 = t357 then ((triremelaw32_known.f k2).bind fun t358 => (some t358)) else (some false)))) else (some false)))) else (some false))) = some r := H
                have A51 := Aside0.mk A510
                clear A510
                replace H := Option.bind_eq_some_iff.mp H
                obtain ⟨t353, A520, H⟩ := H
                replace H : (if t352 = t353 then ((trace_Check.f k2 t336).bind fun t354 => ((triremeref32_Check.f k2 l0).bind fun t355 => (if t354 = t355 then ((trace_Added.f k2 t336 a1).bind fun t356 => ((triremeref32_Added.f k2 l0 a1).bind fun t357 => (if t356 = t357 then ((triremelaw32_known.f k2).bind fun t358 => (some t358)) else (some false)))) else (some false)))) else (some false)) = some r := H
                have A52 := Aside0.mk A520
                clear A520
                by_cases c53 : t352 = t353
                · rw [if_pos c53] at H
                  have c53b0 : (t352 == t353) = true := beq_iff_eq.mpr c53
                  have c53b1 : (t352 != t353) = false := bne_eq_false_iff_eq.mpr c53
                  clear c53
                  replace H := Option.bind_eq_some_iff.mp H
                  obtain ⟨t354, A540, H⟩ := H
                  replace H : ((triremeref32_Check.f k2 l0).bind fun t355 => (if t354 = t355 then ((trace_Added.f k2 t336 a1).bind fun t356 => ((triremeref32_Added.f k2 l0 a1).bind fun t357 => (if t356 = t357 then ((triremelaw32_known.f k2).bind fun t358 => (some t358)) else (some false)))) else (some false))) = some r := H
                  have A54 := Aside0.mk A540
                  clear A540
                  replace H := Option.bind_eq_some_iff.mp H
                  obtain ⟨t355, A550, H⟩ := H
                  replace H : (if t354 = t355 then ((trace_Added.f k2 t336 a1).bind fun t356 => ((triremeref32_Added.f k2 l0 a1).bind fun t357 => (if t356 = t357 then ((triremelaw32_known.f k2).bind fun t358 => (some t358)) else (some false)))) else (some false)) = some r := H
                  have A55 := Aside0.mk A550
                  clear A550
                  by_cases c56 : t354 = t355
                  · rw [if_pos c56] at H
                    have c56b0 : (t354 == t355) = true := beq_iff_eq.mpr c56
                    have c56b1 : (t354 != t355) = false := bne_eq_false_iff_eq.mpr c56
                    clear c56
                    replace H := Option.bind_eq_some_iff.mp H
                    obtain ⟨t356, A570, H⟩ := H
                    replace H : ((triremeref32_Added.f k2 l0 a1).bind fun t357 => (if t356 = t357 then ((triremelaw32_known.f k2).bind fun t358 => (some t358)) else (some false))) = some r := H
                    have A57 := Aside0.mk A570
                    clear A570
                    replace H := Option.bind_eq_some_iff.mp H
                    obtain ⟨t357, A580, H⟩ := H
                    replace H : (if t356 = t357 then ((triremelaw32_known.f k2).bind fun t358 => (some t358)) else (some false)) = some r := H
                    have A58 := Aside0.mk A580
                    clear A580
                    by_cases c59 : t356 = t357
                    · rw [if_pos c59] at H
                      have c59b0 : (t356 == t357) = true := beq_iff_eq.mpr c59
                      have c59b1 : (t356 != t357) = false := bne_eq_false_iff_eq.mpr c59
                      clear c59
                      replace H := Option.bind_eq_some_iff.mp H
                      obtain ⟨t358, A600, H⟩ := H
                      replace H : (some t358) = some r := H
                      have A60 := Aside0.mk A600
                      clear A600
                      obtain rfl := Option.some.inj H
                      obtain ⟨Ao61, co61, eo61⟩ := Kd.R_slice HO_5.out
                      subst eo61
                      go_wp2_with (first | ((first | ((with_reducible refine gate_callee (f := 16) rfl ?_); refine goesL_ (some 66) rfl rfl Try.func16 (by kernel_rfl) rfl #[.slice Ao61 t336.length co61] rfl (by (try simp only [List.map_toArray, List.map_cons, List.map_nil]); first | done | rfl | (simp only [List.length_drop, List.length_take]; rfl)) ?_; (with_reducible refine (trace_Show.calls k2 _ _ t336 t350 _ ?side1 ?side2 A48.out).mono ?_); (case side1 => repeat (first | exact (Kd.R_reads' HO_5.out).2.2 | (with_reducible refine Kd.C_alloc ?_ _) | (with_reducible refine Kd.C_drewN ?_ _) | (with_reducible refine Kd.C_drew ?_))); (case side2 => exact (Kd.R_reads' HO_5.out).2.1); rintro e w62 ⟨rfl, hb⟩; refine ⟨_, rfl, ?_⟩) | (go_at_call 16; (with_reducible refine (trace_Show.calls k2 _ _ t336 t350 _ ?side1 ?side2 A48.out).mono ?_); (case side1 => repeat (first | exact (Kd.R_reads' HO_5.out).2.2 | (with_reducible refine Kd.C_alloc ?_ _) | (with_reducible refine Kd.C_drewN ?_ _) | (with_reducible refine Kd.C_drew ?_))); (case side2 => exact (Kd.R_reads' HO_5.out).2.1); rintro e w62 ⟨rfl, hb⟩)); have n0_ := Aside0.mk (Kd.R_below (by (with_reducible repeat (first | apply Kd.R_alloc | apply Kd.R_drewN | apply Kd.R_drew)); exact HO_5.out) hb); have n1_ := Aside0.mk (below_step (by repeat (first | (with_reducible first | exact HB.out | apply below_alloc | apply pw_below_drewN | apply below_drew1) | exact HB.out)) hb); clear HO_5; clear HB; have HO_5 := n0_; have HB := n1_; clear n0_ n1_; (try clear hb); (try clear hb2); (try clear hk); (try clear hi)) | ((first | ((with_reducible refine gate_callee (f := 17) rfl ?_); refine goesL_ (some 68) rfl rfl Try.func17 (by kernel_rfl) rfl #[.slice A0 l0.length c0] rfl (by (try simp only [List.map_toArray, List.map_cons, List.map_nil]); first | done | rfl | (simp only [List.length_drop, List.length_take]; rfl)) ?_; (with_reducible refine (triremeref32_Show.calls k2 _ _ l0 t351 _ ?side1 ?side2 A49.out).mono ?_); (case side1 => repeat (first | exact (Kd.C_below HR0.out HB.out) | (with_reducible refine Kd.C_alloc ?_ _) | (with_reducible refine Kd.C_drewN ?_ _) | (with_reducible refine Kd.C_drew ?_))); (case side2 => exact HC0.out); rintro e w63 ⟨rfl, hb⟩; refine ⟨_, rfl, ?_⟩) | (go_at_call 17; (with_reducible refine (triremeref32_Show.calls k2 _ _ l0 t351 _ ?side1 ?side2 A49.out).mono ?_); (case side1 => repeat (first | exact (Kd.C_below HR0.out HB.out) | (with_reducible refine Kd.C_alloc ?_ _) | (with_reducible refine Kd.C_drewN ?_ _) | (with_reducible refine Kd.C_drew ?_))); (case side2 => exact HC0.out); rintro e w63 ⟨rfl, hb⟩)); have n0_ := Aside0.mk (Kd.R_below (by (with_reducible repeat (first | apply Kd.R_alloc | apply Kd.R_drewN | apply Kd.R_drew)); exact HO_5.out) hb); have n1_ := Aside0.mk (below_step (by repeat (first | (with_reducible first | exact HB.out | apply below_alloc | apply pw_below_drewN | apply below_drew1) | exact HB.out)) hb); clear HO_5; clear HB; have HO_5 := n0_; have HB := n1_; clear n0_ n1_; (try clear hb); (try clear hb2); (try clear hk); (try clear hi)) | (go_at_call 18; (with_reducible refine (trace_Calls.calls k2 _ _ t336 t352 _ ?side1 ?side2 A51.out).mono ?_); (case side1 => repeat (first | exact (Kd.R_reads' HO_5.out).2.2 | (with_reducible refine Kd.C_alloc ?_ _) | (with_reducible refine Kd.C_drewN ?_ _) | (with_reducible refine Kd.C_drew ?_))); (case side2 => exact (Kd.R_reads' HO_5.out).2.1); rintro e w64 ⟨rfl, hb⟩; have n0_ := Aside0.mk (Kd.R_below (by (with_reducible repeat (first | apply Kd.R_alloc | apply Kd.R_drewN | apply Kd.R_drew)); exact HO_5.out) hb); have n1_ := Aside0.mk (below_step (by repeat (first | (with_reducible first | exact HB.out | apply below_alloc | apply pw_below_drewN | apply below_drew1) | exact HB.out)) hb); clear HO_5; clear HB; have HO_5 := n0_; have HB := n1_; clear n0_ n1_; (try clear hb); (try clear hb2); (try clear hk); (try clear hi)) | (go_at_call 19; (with_reducible refine (triremeref32_Calls.calls k2 _ _ l0 t353 _ ?side1 ?side2 A52.out).mono ?_); (case side1 => repeat (first | exact (Kd.C_below HR0.out HB.out) | (with_reducible refine Kd.C_alloc ?_ _) | (with_reducible refine Kd.C_drewN ?_ _) | (with_reducible refine Kd.C_drew ?_))); (case side2 => exact HC0.out); rintro e w' ⟨rfl, ⟨nd, rfl⟩⟩) | (go_at_call 20; (with_reducible refine (trace_Check.calls k2 _ _ t336 t354 _ ?side1 ?side2 A54.out).mono ?_); (case side1 => repeat (first | exact (Kd.R_reads' HO_5.out).2.2 | (with_reducible refine Kd.C_alloc ?_ _) | (with_reducible refine Kd.C_drewN ?_ _) | (with_reducible refine Kd.C_drew ?_))); (case side2 => exact (Kd.R_reads' HO_5.out).2.1); rintro e w65 ⟨rfl, hb⟩; have n0_ := Aside0.mk (Kd.R_below (by (with_reducible repeat (first | apply Kd.R_alloc | apply Kd.R_drewN | apply Kd.R_drew)); exact HO_5.out) hb); have n1_ := Aside0.mk (below_step (by repeat (first | (with_reducible first | exact HB.out | apply below_alloc | apply pw_below_drewN | apply below_drew1) | exact HB.out)) hb); clear HO_5; clear HB; have HO_5 := n0_; have HB := n1_; clear n0_ n1_; (try clear hb); (try clear hb2); (try clear hk); (try clear hi)) | (go_at_call 21; (with_reducible refine (triremeref32_Check.calls k2 _ _ l0 t355 _ ?side1 ?side2 A55.out).mono ?_); (case side1 => repeat (first | exact (Kd.C_below HR0.out HB.out) | (with_reducible refine Kd.C_alloc ?_ _) | (with_reducible refine Kd.C_drewN ?_ _) | (with_reducible refine Kd.C_drew ?_))); (case side2 => exact HC0.out); rintro e w66 ⟨rfl, hb⟩; have n0_ := Aside0.mk (Kd.R_below (by (with_reducible repeat (first | apply Kd.R_alloc | apply Kd.R_drewN | apply Kd.R_drew)); exact HO_5.out) hb); have n1_ := Aside0.mk (below_step (by repeat (first | (with_reducible first | exact HB.out | apply below_alloc | apply pw_below_drewN | apply below_drew1) | exact HB.out)) hb); clear HO_5; clear HB; have HO_5 := n0_; have HB := n1_; clear n0_ n1_; (try clear hb); (try clear hb2); (try clear hk); (try clear hi)) | (go_at_call 22; (with_reducible refine (trace_Added.calls k2 _ _ t336 a1 t356 _ ?side1 ?side2 A57.out).mono ?_); (case side1 => repeat (first | exact (Kd.R_reads' HO_5.out).2.2 | (with_reducible refine Kd.C_alloc ?_ _) | (with_reducible refine Kd.C_drewN ?_ _) | (with_reducible refine Kd.C_drew ?_))); (case side2 => exact (Kd.R_reads' HO_5.out).2.1); rintro e w67 ⟨rfl, hb⟩; have n0_ := Aside0.mk (Kd.R_below (by (with_reducible repeat (first | apply Kd.R_alloc | apply Kd.R_drewN | apply Kd.R_drew)); exact HO_5.out) hb); have n1_ := Aside0.mk (below_step (by repeat (first | (with_reducible first | exact HB.out | apply below_alloc | apply pw_below_drewN | apply below_drew1) | exact HB.out)) hb); clear HO_5; clear HB; have HO_5 := n0_; have HB := n1_; clear n0_ n1_; (try clear hb); (try clear hb2); (try clear hk); (try clear hi)) | (go_at_call 23; (with_reducible refine (triremeref32_Added.calls k2 _ _ l0 a1 t357 _ ?side1 ?side2 A58.out).mono ?_); (case side1 => repeat (first | exact (Kd.C_below HR0.out HB.out) | (with_reducible refine Kd.C_alloc ?_ _) | (with_reducible refine Kd.C_drewN ?_ _) | (with_reducible refine Kd.C_drew ?_))); (case side2 => exact HC0.out); rintro e w' ⟨rfl, ⟨nd, rfl⟩⟩) | (go_at_call 7; (with_reducible refine (triremelaw32_known.calls k2  t358 _ A60.out).mono ?_); rintro e w68 ⟨rfl, hb⟩; have n0_ := Aside0.mk (Kd.R_below (by (with_reducible repeat (first | apply Kd.R_alloc | apply Kd.R_drewN | apply Kd.R_drew)); exact HO_5.out) hb); have n1_ := Aside0.mk (below_step (by repeat (first | (with_reducible first | exact HB.out | apply below_alloc | apply pw_below_drewN | apply below_drew1) | exact HB.out)) hb); clear HO_5; clear HB; have HO_5 := n0_; have HB := n1_; clear n0_ n1_; (try clear hb); (try clear hb2); (try clear hk); (try clear hi)))
                      go_ret
                      exact ⟨by first | rfl | (simp [errW_none, errW_some] <;> rfl) | (simp [*, errW_none, errW_some] <;> rfl), by repeat (first | (with_reducible first | exact HB.out | apply below_alloc | apply pw_below_drewN | apply below_drew1) | exact HB.out)⟩
                    · rw [if_neg c59] at H
                      have c59b0 : (t356 == t357) = false := beq_eq_false_iff_ne.mpr c59
                      have c59b1 : (t356 != t357) = true := bne_iff_ne.mpr c59
                      obtain rfl := Option.some.inj H
                      obtain ⟨Ao69, co69, eo69⟩ := Kd.R_slice HO_5.out
                      subst eo69
                      go_wp2_with (first | ((first | ((with_reducible refine gate_callee (f := 16) rfl ?_); refine goesL_ (some 66) rfl rfl Try.func16 (by kernel_rfl) rfl #[.slice Ao69 t336.length co69] rfl (by (try simp only [List.map_toArray, List.map_cons, List.map_nil]); first | done | rfl | (simp only [List.length_drop, List.length_take]; rfl)) ?_; (with_reducible refine (trace_Show.calls k2 _ _ t336 t350 _ ?side1 ?side2 A48.out).mono ?_); (case side1 => repeat (first | exact (Kd.R_reads' HO_5.out).2.2 | (with_reducible refine Kd.C_alloc ?_ _) | (with_reducible refine Kd.C_drewN ?_ _) | (with_reducible refine Kd.C_drew ?_))); (case side2 => exact (Kd.R_reads' HO_5.out).2.1); rintro e w70 ⟨rfl, hb⟩; refine ⟨_, rfl, ?_⟩) | (go_at_call 16; (with_reducible refine (trace_Show.calls k2 _ _ t336 t350 _ ?side1 ?side2 A48.out).mono ?_); (case side1 => repeat (first | exact (Kd.R_reads' HO_5.out).2.2 | (with_reducible refine Kd.C_alloc ?_ _) | (with_reducible refine Kd.C_drewN ?_ _) | (with_reducible refine Kd.C_drew ?_))); (case side2 => exact (Kd.R_reads' HO_5.out).2.1); rintro e w70 ⟨rfl, hb⟩)); have n0_ := Aside0.mk (Kd.R_below (by (with_reducible repeat (first | apply Kd.R_alloc | apply Kd.R_drewN | apply Kd.R_drew)); exact HO_5.out) hb); have n1_ := Aside0.mk (below_step (by repeat (first | (with_reducible first | exact HB.out | apply below_alloc | apply pw_below_drewN | apply below_drew1) | exact HB.out)) hb); clear HO_5; clear HB; have HO_5 := n0_; have HB := n1_; clear n0_ n1_; (try clear hb); (try clear hb2); (try clear hk); (try clear hi)) | ((first | ((with_reducible refine gate_callee (f := 17) rfl ?_); refine goesL_ (some 68) rfl rfl Try.func17 (by kernel_rfl) rfl #[.slice A0 l0.length c0] rfl (by (try simp only [List.map_toArray, List.map_cons, List.map_nil]); first | done | rfl | (simp only [List.length_drop, List.length_take]; rfl)) ?_; (with_reducible refine (triremeref32_Show.calls k2 _ _ l0 t351 _ ?side1 ?side2 A49.out).mono ?_); (case side1 => repeat (first | exact (Kd.C_below HR0.out HB.out) | (with_reducible refine Kd.C_alloc ?_ _) | (with_reducible refine Kd.C_drewN ?_ _) | (with_reducible refine Kd.C_drew ?_))); (case side2 => exact HC0.out); rintro e w71 ⟨rfl, hb⟩; refine ⟨_, rfl, ?_⟩) | (go_at_call 17; (with_reducible refine (triremeref32_Show.calls k2 _ _ l0 t351 _ ?side1 ?side2 A49.out).mono ?_); (case side1 => repeat (first | exact (Kd.C_below HR0.out HB.out) | (with_reducible refine Kd.C_alloc ?_ _) | (with_reducible refine Kd.C_drewN ?_ _) | (with_reducible refine Kd.C_drew ?_))); (case side2 => exact HC0.out); rintro e w71 ⟨rfl, hb⟩)); have n0_ := Aside0.mk (Kd.R_below (by (with_reducible repeat (first | apply Kd.R_alloc | apply Kd.R_drewN | apply Kd.R_drew)); exact HO_5.out) hb); have n1_ := Aside0.mk (below_step (by repeat (first | (with_reducible first | exact HB.out | apply below_alloc | apply pw_below_drewN | apply below_drew1) | exact HB.out)) hb); clear HO_5; clear HB; have HO_5 := n0_; have HB := n1_; clear n0_ n1_; (try clear hb); (try clear hb2); (try clear hk); (try clear hi)) | (go_at_call 18; (with_reducible refine (trace_Calls.calls k2 _ _ t336 t352 _ ?side1 ?side2 A51.out).mono ?_); (case side1 => repeat (first | exact (Kd.R_reads' HO_5.out).2.2 | (with_reducible refine Kd.C_alloc ?_ _) | (with_reducible refine Kd.C_drewN ?_ _) | (with_reducible refine Kd.C_drew ?_))); (case side2 => exact (Kd.R_reads' HO_5.out).2.1); rintro e w72 ⟨rfl, hb⟩; have n0_ := Aside0.mk (Kd.R_below (by (with_reducible repeat (first | apply Kd.R_alloc | apply Kd.R_drewN | apply Kd.R_drew)); exact HO_5.out) hb); have n1_ := Aside0.mk (below_step (by repeat (first | (with_reducible first | exact HB.out | apply below_alloc | apply pw_below_drewN | apply below_drew1) | exact HB.out)) hb); clear HO_5; clear HB; have HO_5 := n0_; have HB := n1_; clear n0_ n1_; (try clear hb); (try clear hb2); (try clear hk); (try clear hi)) | (go_at_call 19; (with_reducible refine (triremeref32_Calls.calls k2 _ _ l0 t353 _ ?side1 ?side2 A52.out).mono ?_); (case side1 => repeat (first | exact (Kd.C_below HR0.out HB.out) | (with_reducible refine Kd.C_alloc ?_ _) | (with_reducible refine Kd.C_drewN ?_ _) | (with_reducible refine Kd.C_drew ?_))); (case side2 => exact HC0.out); rintro e w' ⟨rfl, ⟨nd, rfl⟩⟩) | (go_at_call 20; (with_reducible refine (trace_Check.calls k2 _ _ t336 t354 _ ?side1 ?side2 A54.out).mono ?_); (case side1 => repeat (first | exact (Kd.R_reads' HO_5.out).2.2 | (with_reducible refine Kd.C_alloc ?_ _) | (with_reducible refine Kd.C_drewN ?_ _) | (with_reducible refine Kd.C_drew ?_))); (case side2 => exact (Kd.R_reads' HO_5.out).2.1); rintro e w73 ⟨rfl, hb⟩; have n0_ := Aside0.mk (Kd.R_below (by (with_reducible repeat (first | apply Kd.R_alloc | apply Kd.R_drewN | apply Kd.R_drew)); exact HO_5.out) hb); have n1_ := Aside0.mk (below_step (by repeat (first | (with_reducible first | exact HB.out | apply below_alloc | apply pw_below_drewN | apply below_drew1) | exact HB.out)) hb); clear HO_5; clear HB; have HO_5 := n0_; have HB := n1_; clear n0_ n1_; (try clear hb); (try clear hb2); (try clear hk); (try clear hi)) | (go_at_call 21; (with_reducible refine (triremeref32_Check.calls k2 _ _ l0 t355 _ ?side1 ?side2 A55.out).mono ?_); (case side1 => repeat (first | exact (Kd.C_below HR0.out HB.out) | (with_reducible refine Kd.C_alloc ?_ _) | (with_reducible refine Kd.C_drewN ?_ _) | (with_reducible refine Kd.C_drew ?_))); (case side2 => exact HC0.out); rintro e w74 ⟨rfl, hb⟩; have n0_ := Aside0.mk (Kd.R_below (by (with_reducible repeat (first | apply Kd.R_alloc | apply Kd.R_drewN | apply Kd.R_drew)); exact HO_5.out) hb); have n1_ := Aside0.mk (below_step (by repeat (first | (with_reducible first | exact HB.out | apply below_alloc | apply pw_below_drewN | apply below_drew1) | exact HB.out)) hb); clear HO_5; clear HB; have HO_5 := n0_; have HB := n1_; clear n0_ n1_; (try clear hb); (try clear hb2); (try clear hk); (try clear hi)) | (go_at_call 22; (with_reducible refine (trace_Added.calls k2 _ _ t336 a1 t356 _ ?side1 ?side2 A57.out).mono ?_); (case side1 => repeat (first | exact (Kd.R_reads' HO_5.out).2.2 | (with_reducible refine Kd.C_alloc ?_ _) | (with_reducible refine Kd.C_drewN ?_ _) | (with_reducible refine Kd.C_drew ?_))); (case side2 => exact (Kd.R_reads' HO_5.out).2.1); rintro e w75 ⟨rfl, hb⟩; have n0_ := Aside0.mk (Kd.R_below (by (with_reducible repeat (first | apply Kd.R_alloc | apply Kd.R_drewN | apply Kd.R_drew)); exact HO_5.out) hb); have n1_ := Aside0.mk (below_step (by repeat (first | (with_reducible first | exact HB.out | apply below_alloc | apply pw_below_drewN | apply below_drew1) | exact HB.out)) hb); clear HO_5; clear HB; have HO_5 := n0_; have HB := n1_; clear n0_ n1_; (try clear hb); (try clear hb2); (try clear hk); (try clear hi)) | (go_at_call 23; (with_reducible refine (triremeref32_Added.calls k2 _ _ l0 a1 t357 _ ?side1 ?side2 A58.out).mono ?_); (case side1 => repeat (first | exact (Kd.C_below HR0.out HB.out) | (with_reducible refine Kd.C_alloc ?_ _) | (with_reducible refine Kd.C_drewN ?_ _) | (with_reducible refine Kd.C_drew ?_))); (case side2 => exact HC0.out); rintro e w' ⟨rfl, ⟨nd, rfl⟩⟩))
                      go_ret
                      exact ⟨by first | rfl | (simp [errW_none, errW_some] <;> rfl) | (simp [*, errW_none, errW_some] <;> rfl), by repeat (first | (with_reducible first | exact HB.out | apply below_alloc | apply pw_below_drewN | apply below_drew1) | exact HB.out)⟩
                  · rw [if_neg c56] at H
                    have c56b0 : (t354 == t355) = false := beq_eq_false_iff_ne.mpr c56
                    have c56b1 : (t354 != t355) = true := bne_iff_ne.mpr c56
                    obtain rfl := Option.some.inj H
                    obtain ⟨Ao76, co76, eo76⟩ := Kd.R_slice HO_5.out
                    subst eo76
                    go_wp2_with (first | ((first | ((with_reducible refine gate_callee (f := 16) rfl ?_); refine goesL_ (some 66) rfl rfl Try.func16 (by kernel_rfl) rfl #[.slice Ao76 t336.length co76] rfl (by (try simp only [List.map_toArray, List.map_cons, List.map_nil]); first | done | rfl | (simp only [List.length_drop, List.length_take]; rfl)) ?_; (with_reducible refine (trace_Show.calls k2 _ _ t336 t350 _ ?side1 ?side2 A48.out).mono ?_); (case side1 => repeat (first | exact (Kd.R_reads' HO_5.out).2.2 | (with_reducible refine Kd.C_alloc ?_ _) | (with_reducible refine Kd.C_drewN ?_ _) | (with_reducible refine Kd.C_drew ?_))); (case side2 => exact (Kd.R_reads' HO_5.out).2.1); rintro e w77 ⟨rfl, hb⟩; refine ⟨_, rfl, ?_⟩) | (go_at_call 16; (with_reducible refine (trace_Show.calls k2 _ _ t336 t350 _ ?side1 ?side2 A48.out).mono ?_); (case side1 => repeat (first | exact (Kd.R_reads' HO_5.out).2.2 | (with_reducible refine Kd.C_alloc ?_ _) | (with_reducible refine Kd.C_drewN ?_ _) | (with_reducible refine Kd.C_drew ?_))); (case side2 => exact (Kd.R_reads' HO_5.out).2.1); rintro e w77 ⟨rfl, hb⟩)); have n0_ := Aside0.mk (Kd.R_below (by (with_reducible repeat (first | apply Kd.R_alloc | apply Kd.R_drewN | apply Kd.R_drew)); exact HO_5.out) hb); have n1_ := Aside0.mk (below_step (by repeat (first | (with_reducible first | exact HB.out | apply below_alloc | apply pw_below_drewN | apply below_drew1) | exact HB.out)) hb); clear HO_5; clear HB; have HO_5 := n0_; have HB := n1_; clear n0_ n1_; (try clear hb); (try clear hb2); (try clear hk); (try clear hi)) | ((first | ((with_reducible refine gate_callee (f := 17) rfl ?_); refine goesL_ (some 68) rfl rfl Try.func17 (by kernel_rfl) rfl #[.slice A0 l0.length c0] rfl (by (try simp only [List.map_toArray, List.map_cons, List.map_nil]); first | done | rfl | (simp only [List.length_drop, List.length_take]; rfl)) ?_; (with_reducible refine (triremeref32_Show.calls k2 _ _ l0 t351 _ ?side1 ?side2 A49.out).mono ?_); (case side1 => repeat (first | exact (Kd.C_below HR0.out HB.out) | (with_reducible refine Kd.C_alloc ?_ _) | (with_reducible refine Kd.C_drewN ?_ _) | (with_reducible refine Kd.C_drew ?_))); (case side2 => exact HC0.out); rintro e w78 ⟨rfl, hb⟩; refine ⟨_, rfl, ?_⟩) | (go_at_call 17; (with_reducible refine (triremeref32_Show.calls k2 _ _ l0 t351 _ ?side1 ?side2 A49.out).mono ?_); (case side1 => repeat (first | exact (Kd.C_below HR0.out HB.out) | (with_reducible refine Kd.C_alloc ?_ _) | (with_reducible refine Kd.C_drewN ?_ _) | (with_reducible refine Kd.C_drew ?_))); (case side2 => exact HC0.out); rintro e w78 ⟨rfl, hb⟩)); have n0_ := Aside0.mk (Kd.R_below (by (with_reducible repeat (first | apply Kd.R_alloc | apply Kd.R_drewN | apply Kd.R_drew)); exact HO_5.out) hb); have n1_ := Aside0.mk (below_step (by repeat (first | (with_reducible first | exact HB.out | apply below_alloc | apply pw_below_drewN | apply below_drew1) | exact HB.out)) hb); clear HO_5; clear HB; have HO_5 := n0_; have HB := n1_; clear n0_ n1_; (try clear hb); (try clear hb2); (try clear hk); (try clear hi)) | (go_at_call 18; (with_reducible refine (trace_Calls.calls k2 _ _ t336 t352 _ ?side1 ?side2 A51.out).mono ?_); (case side1 => repeat (first | exact (Kd.R_reads' HO_5.out).2.2 | (with_reducible refine Kd.C_alloc ?_ _) | (with_reducible refine Kd.C_drewN ?_ _) | (with_reducible refine Kd.C_drew ?_))); (case side2 => exact (Kd.R_reads' HO_5.out).2.1); rintro e w79 ⟨rfl, hb⟩; have n0_ := Aside0.mk (Kd.R_below (by (with_reducible repeat (first | apply Kd.R_alloc | apply Kd.R_drewN | apply Kd.R_drew)); exact HO_5.out) hb); have n1_ := Aside0.mk (below_step (by repeat (first | (with_reducible first | exact HB.out | apply below_alloc | apply pw_below_drewN | apply below_drew1) | exact HB.out)) hb); clear HO_5; clear HB; have HO_5 := n0_; have HB := n1_; clear n0_ n1_; (try clear hb); (try clear hb2); (try clear hk); (try clear hi)) | (go_at_call 19; (with_reducible refine (triremeref32_Calls.calls k2 _ _ l0 t353 _ ?side1 ?side2 A52.out).mono ?_); (case side1 => repeat (first | exact (Kd.C_below HR0.out HB.out) | (with_reducible refine Kd.C_alloc ?_ _) | (with_reducible refine Kd.C_drewN ?_ _) | (with_reducible refine Kd.C_drew ?_))); (case side2 => exact HC0.out); rintro e w' ⟨rfl, ⟨nd, rfl⟩⟩) | (go_at_call 20; (with_reducible refine (trace_Check.calls k2 _ _ t336 t354 _ ?side1 ?side2 A54.out).mono ?_); (case side1 => repeat (first | exact (Kd.R_reads' HO_5.out).2.2 | (with_reducible refine Kd.C_alloc ?_ _) | (with_reducible refine Kd.C_drewN ?_ _) | (with_reducible refine Kd.C_drew ?_))); (case side2 => exact (Kd.R_reads' HO_5.out).2.1); rintro e w80 ⟨rfl, hb⟩; have n0_ := Aside0.mk (Kd.R_below (by (with_reducible repeat (first | apply Kd.R_alloc | apply Kd.R_drewN | apply Kd.R_drew)); exact HO_5.out) hb); have n1_ := Aside0.mk (below_step (by repeat (first | (with_reducible first | exact HB.out | apply below_alloc | apply pw_below_drewN | apply below_drew1) | exact HB.out)) hb); clear HO_5; clear HB; have HO_5 := n0_; have HB := n1_; clear n0_ n1_; (try clear hb); (try clear hb2); (try clear hk); (try clear hi)) | (go_at_call 21; (with_reducible refine (triremeref32_Check.calls k2 _ _ l0 t355 _ ?side1 ?side2 A55.out).mono ?_); (case side1 => repeat (first | exact (Kd.C_below HR0.out HB.out) | (with_reducible refine Kd.C_alloc ?_ _) | (with_reducible refine Kd.C_drewN ?_ _) | (with_reducible refine Kd.C_drew ?_))); (case side2 => exact HC0.out); rintro e w81 ⟨rfl, hb⟩; have n0_ := Aside0.mk (Kd.R_below (by (with_reducible repeat (first | apply Kd.R_alloc | apply Kd.R_drewN | apply Kd.R_drew)); exact HO_5.out) hb); have n1_ := Aside0.mk (below_step (by repeat (first | (with_reducible first | exact HB.out | apply below_alloc | apply pw_below_drewN | apply below_drew1) | exact HB.out)) hb); clear HO_5; clear HB; have HO_5 := n0_; have HB := n1_; clear n0_ n1_; (try clear hb); (try clear hb2); (try clear hk); (try clear hi)))
                    go_ret
                    exact ⟨by first | rfl | (simp [errW_none, errW_some] <;> rfl) | (simp [*, errW_none, errW_some] <;> rfl), by repeat (first | (with_reducible first | exact HB.out | apply below_alloc | apply pw_below_drewN | apply below_drew1) | exact HB.out)⟩
                · rw [if_neg c53] at H
                  have c53b0 : (t352 == t353) = false := beq_eq_false_iff_ne.mpr c53
                  have c53b1 : (t352 != t353) = true := bne_iff_ne.mpr c53
                  obtain rfl := Option.some.inj H
                  obtain ⟨Ao82, co82, eo82⟩ := Kd.R_slice HO_5.out
                  subst eo82
                  go_wp2_with (first | ((first | ((with_reducible refine gate_callee (f := 16) rfl ?_); refine goesL_ (some 66) rfl rfl Try.func16 (by kernel_rfl) rfl #[.slice Ao82 t336.length co82] rfl (by (try simp only [List.map_toArray, List.map_cons, List.map_nil]); first | done | rfl | (simp only [List.length_drop, List.length_take]; rfl)) ?_; (with_reducible refine (trace_Show.calls k2 _ _ t336 t350 _ ?side1 ?side2 A48.out).mono ?_); (case side1 => repeat (first | exact (Kd.R_reads' HO_5.out).2.2 | (with_reducible refine Kd.C_alloc ?_ _) | (with_reducible refine Kd.C_drewN ?_ _) | (with_reducible refine Kd.C_drew ?_))); (case side2 => exact (Kd.R_reads' HO_5.out).2.1); rintro e w83 ⟨rfl, hb⟩; refine ⟨_, rfl, ?_⟩) | (go_at_call 16; (with_reducible refine (trace_Show.calls k2 _ _ t336 t350 _ ?side1 ?side2 A48.out).mono ?_); (case side1 => repeat (first | exact (Kd.R_reads' HO_5.out).2.2 | (with_reducible refine Kd.C_alloc ?_ _) | (with_reducible refine Kd.C_drewN ?_ _) | (with_reducible refine Kd.C_drew ?_))); (case side2 => exact (Kd.R_reads' HO_5.out).2.1); rintro e w83 ⟨rfl, hb⟩)); have n0_ := Aside0.mk (Kd.R_below (by (with_reducible repeat (first | apply Kd.R_alloc | apply Kd.R_drewN | apply Kd.R_drew)); exact HO_5.out) hb); have n1_ := Aside0.mk (below_step (by repeat (first | (with_reducible first | exact HB.out | apply below_alloc | apply pw_below_drewN | apply below_drew1) | exact HB.out)) hb); clear HO_5; clear HB; have HO_5 := n0_; have HB := n1_; clear n0_ n1_; (try clear hb); (try clear hb2); (try clear hk); (try clear hi)) | ((first | ((with_reducible refine gate_callee (f := 17) rfl ?_); refine goesL_ (some 68) rfl rfl Try.func17 (by kernel_rfl) rfl #[.slice A0 l0.length c0] rfl (by (try simp only [List.map_toArray, List.map_cons, List.map_nil]); first | done | rfl | (simp only [List.length_drop, List.length_take]; rfl)) ?_; (with_reducible refine (triremeref32_Show.calls k2 _ _ l0 t351 _ ?side1 ?side2 A49.out).mono ?_); (case side1 => repeat (first | exact (Kd.C_below HR0.out HB.out) | (with_reducible refine Kd.C_alloc ?_ _) | (with_reducible refine Kd.C_drewN ?_ _) | (with_reducible refine Kd.C_drew ?_))); (case side2 => exact HC0.out); rintro e w84 ⟨rfl, hb⟩; refine ⟨_, rfl, ?_⟩) | (go_at_call 17; (with_reducible refine (triremeref32_Show.calls k2 _ _ l0 t351 _ ?side1 ?side2 A49.out).mono ?_); (case side1 => repeat (first | exact (Kd.C_below HR0.out HB.out) | (with_reducible refine Kd.C_alloc ?_ _) | (with_reducible refine Kd.C_drewN ?_ _) | (with_reducible refine Kd.C_drew ?_))); (case side2 => exact HC0.out); rintro e w84 ⟨rfl, hb⟩)); have n0_ := Aside0.mk (Kd.R_below (by (with_reducible repeat (first | apply Kd.R_alloc | apply Kd.R_drewN | apply Kd.R_drew)); exact HO_5.out) hb); have n1_ := Aside0.mk (below_step (by repeat (first | (with_reducible first | exact HB.out | apply below_alloc | apply pw_below_drewN | apply below_drew1) | exact HB.out)) hb); clear HO_5; clear HB; have HO_5 := n0_; have HB := n1_; clear n0_ n1_; (try clear hb); (try clear hb2); (try clear hk); (try clear hi)) | (go_at_call 18; (with_reducible refine (trace_Calls.calls k2 _ _ t336 t352 _ ?side1 ?side2 A51.out).mono ?_); (case side1 => repeat (first | exact (Kd.R_reads' HO_5.out).2.2 | (with_reducible refine Kd.C_alloc ?_ _) | (with_reducible refine Kd.C_drewN ?_ _) | (with_reducible refine Kd.C_drew ?_))); (case side2 => exact (Kd.R_reads' HO_5.out).2.1); rintro e w85 ⟨rfl, hb⟩; have n0_ := Aside0.mk (Kd.R_below (by (with_reducible repeat (first | apply Kd.R_alloc | apply Kd.R_drewN | apply Kd.R_drew)); exact HO_5.out) hb); have n1_ := Aside0.mk (below_step (by repeat (first | (with_reducible first | exact HB.out | apply below_alloc | apply pw_below_drewN | apply below_drew1) | exact HB.out)) hb); clear HO_5; clear HB; have HO_5 := n0_; have HB := n1_; clear n0_ n1_; (try clear hb); (try clear hb2); (try clear hk); (try clear hi)) | (go_at_call 19; (with_reducible refine (triremeref32_Calls.calls k2 _ _ l0 t353 _ ?side1 ?side2 A52.out).mono ?_); (case side1 => repeat (first | exact (Kd.C_below HR0.out HB.out) | (with_reducible refine Kd.C_alloc ?_ _) | (with_reducible refine Kd.C_drewN ?_ _) | (with_reducible refine Kd.C_drew ?_))); (case side2 => exact HC0.out); rintro e w' ⟨rfl, ⟨nd, rfl⟩⟩))
                  go_ret
                  exact ⟨by first | rfl | (simp [errW_none, errW_some] <;> rfl) | (simp [*, errW_none, errW_some] <;> rfl), by repeat (first | (with_reducible first | exact HB.out | apply below_alloc | apply pw_below_drewN | apply below_drew1) | exact HB.out)⟩
              · rw [if_neg c50] at H
                have c50b0 : (t350.toList == t351.toList) = false := beq_eq_false_iff_ne.mpr c50
                have c50b1 : (t350.toList != t351.toList) = true := bne_iff_ne.mpr c50
                obtain rfl := Option.some.inj H
                obtain ⟨Ao86, co86, eo86⟩ := Kd.R_slice HO_5.out
                subst eo86
                go_wp2_with (first | ((first | ((with_reducible refine gate_callee (f := 16) rfl ?_); refine goesL_ (some 66) rfl rfl Try.func16 (by kernel_rfl) rfl #[.slice Ao86 t336.length co86] rfl (by (try simp only [List.map_toArray, List.map_cons, List.map_nil]); first | done | rfl | (simp only [List.length_drop, List.length_take]; rfl)) ?_; (with_reducible refine (trace_Show.calls k2 _ _ t336 t350 _ ?side1 ?side2 A48.out).mono ?_); (case side1 => repeat (first | exact (Kd.R_reads' HO_5.out).2.2 | (with_reducible refine Kd.C_alloc ?_ _) | (with_reducible refine Kd.C_drewN ?_ _) | (with_reducible refine Kd.C_drew ?_))); (case side2 => exact (Kd.R_reads' HO_5.out).2.1); rintro e w87 ⟨rfl, hb⟩; refine ⟨_, rfl, ?_⟩) | (go_at_call 16; (with_reducible refine (trace_Show.calls k2 _ _ t336 t350 _ ?side1 ?side2 A48.out).mono ?_); (case side1 => repeat (first | exact (Kd.R_reads' HO_5.out).2.2 | (with_reducible refine Kd.C_alloc ?_ _) | (with_reducible refine Kd.C_drewN ?_ _) | (with_reducible refine Kd.C_drew ?_))); (case side2 => exact (Kd.R_reads' HO_5.out).2.1); rintro e w87 ⟨rfl, hb⟩)); have n0_ := Aside0.mk (Kd.R_below (by (with_reducible repeat (first | apply Kd.R_alloc | apply Kd.R_drewN | apply Kd.R_drew)); exact HO_5.out) hb); have n1_ := Aside0.mk (below_step (by repeat (first | (with_reducible first | exact HB.out | apply below_alloc | apply pw_below_drewN | apply below_drew1) | exact HB.out)) hb); clear HO_5; clear HB; have HO_5 := n0_; have HB := n1_; clear n0_ n1_; (try clear hb); (try clear hb2); (try clear hk); (try clear hi)) | ((first | ((with_reducible refine gate_callee (f := 17) rfl ?_); refine goesL_ (some 68) rfl rfl Try.func17 (by kernel_rfl) rfl #[.slice A0 l0.length c0] rfl (by (try simp only [List.map_toArray, List.map_cons, List.map_nil]); first | done | rfl | (simp only [List.length_drop, List.length_take]; rfl)) ?_; (with_reducible refine (triremeref32_Show.calls k2 _ _ l0 t351 _ ?side1 ?side2 A49.out).mono ?_); (case side1 => repeat (first | exact (Kd.C_below HR0.out HB.out) | (with_reducible refine Kd.C_alloc ?_ _) | (with_reducible refine Kd.C_drewN ?_ _) | (with_reducible refine Kd.C_drew ?_))); (case side2 => exact HC0.out); rintro e w88 ⟨rfl, hb⟩; refine ⟨_, rfl, ?_⟩) | (go_at_call 17; (with_reducible refine (triremeref32_Show.calls k2 _ _ l0 t351 _ ?side1 ?side2 A49.out).mono ?_); (case side1 => repeat (first | exact (Kd.C_below HR0.out HB.out) | (with_reducible refine Kd.C_alloc ?_ _) | (with_reducible refine Kd.C_drewN ?_ _) | (with_reducible refine Kd.C_drew ?_))); (case side2 => exact HC0.out); rintro e w88 ⟨rfl, hb⟩)); have n0_ := Aside0.mk (Kd.R_below (by (with_reducible repeat (first | apply Kd.R_alloc | apply Kd.R_drewN | apply Kd.R_drew)); exact HO_5.out) hb); have n1_ := Aside0.mk (below_step (by repeat (first | (with_reducible first | exact HB.out | apply below_alloc | apply pw_below_drewN | apply below_drew1) | exact HB.out)) hb); clear HO_5; clear HB; have HO_5 := n0_; have HB := n1_; clear n0_ n1_; (try clear hb); (try clear hb2); (try clear hk); (try clear hi)))
                go_ret
                exact ⟨by first | rfl | (simp [errW_none, errW_some] <;> rfl) | (simp [*, errW_none, errW_some] <;> rfl), by repeat (first | (with_reducible first | exact HB.out | apply below_alloc | apply pw_below_drewN | apply below_drew1) | exact HB.out)⟩
end Go.Proofs.Ytngmcigkihfnkaa.H
end
section
namespace Go.Proofs.Ytngmcigkihfnkaa.H
open Go.RowKit Go.Proofs.YtngmcigkihfnkaaW.PrintWords Go.Proofs.YtngmcigkihfnkaaW.PrintLast Go.Proofs.YtngmcigkihfnkaaW.PrintMore
set_option linter.unusedVariables false
set_option linter.unusedSimpArgs false
theorem light_sub {l : List EvT} (h : lightR l = true) : ∀ e ∈ l, e.name.size ≤ 1000000000 := fun e he => by have := (light_use h).2 e he; omega
theorem tells_end (l : List S39) (g : ByteArray) (h : lightR (l.map e39) = true) : Ev (fun k => ((trace_Show.f k ((l.map e39).map s37)).bind fun t350 => ((triremeref32_Show.f k l).bind fun t351 => (if t350.toList = t351.toList then ((trace_Calls.f k ((l.map e39).map s37)).bind fun t352 => ((triremeref32_Calls.f k l).bind fun t353 => (if t352 = t353 then ((trace_Check.f k ((l.map e39).map s37)).bind fun t354 => ((triremeref32_Check.f k l).bind fun t355 => (if t354 = t355 then ((trace_Added.f k ((l.map e39).map s37) g).bind fun t356 => ((triremeref32_Added.f k l g).bind fun t357 => (if t356 = t357 then ((triremelaw32_known.f k).bind fun t358 => (some t358)) else (some false)))) else (some false)))) else (some false)))) else (some false))))) true := by
  obtain ⟨h1, h2⟩ := light_use h
  rw [List.length_map] at h1
  refine Ev.bind (show_ev _ h) ?_
  refine Ev.bind (refShow_ev l h) ?_
  simp only [if_true]
  refine Ev.bind (calls_ev (l.map e39) (by rw [List.length_map]; exact h1)) ?_
  refine Ev.bind (refCalls_ev l h1) ?_
  simp only [if_true]
  refine Ev.bind (check_ev (l.map e39) (light_sub h)) ?_
  refine Ev.bind (refCheck_ev l (by omega) (light_sub h)) ?_
  simp only [if_true]
  refine Ev.bind (added_ev g (l.map e39) (by rw [List.length_map]; exact h1)) ?_
  refine Ev.bind (refAdded_ev g l h1) ?_
  simp only [if_true]
  exact Ev.bind known_ev (Ev.now _)
theorem tells_l0 (l : List S39) (g : ByteArray) (h : lightR (l.map e39) = true) : ∀ (d i : Nat), i + d = l.length → Ev (fun k => triremelaw32_TraceTells.l0 k l g ((l.map e39).map s37) (i : Int)) true := by
  have hlen : l.length ≤ 60 := by have := (light_use h).1; rwa [List.length_map] at this
  intro d
  induction d with
  | zero =>
    intro i hi
    refine Ev.step (fun k => by rw [triremelaw32_TraceTells.l0]) ?_
    simp only [show ¬ ((i : Int) < (l.length : Int)) by omega, if_false]
    exact tells_end l g h
  | succ d ih =>
    intro i hi
    have h5 : i < l.length := by omega
    have h6 : i < ((l.map e39).map s37).length := by simp; omega
    have hm := light_sub h (e39 l[i]) (List.mem_map.2 ⟨_, List.getElem_mem h5, rfl⟩)
    have hr37 : rd_T37 ((l.map e39).map s37) (i : Int) = s37 (e39 l[i]) := by rw [rd37_at i h6, List.getElem_map, List.getElem_map]
    have hr1 := right_ev l[i].f0 l[i].f1 l[i].f2 l[i].f3 hm
    have hr2 := refRight_ev l[i].f0 l[i].f1 l[i].f2 l[i].f3 hm
    have hj : Ev (fun k => triremelaw32_TraceTells.j2 k l g ((l.map e39).map s37) (i : Int) true) true := by
      refine Ev.step (fun k => by rw [triremelaw32_TraceTells.j2]) ?_
      rw [hr37, rd39_at i h5]
      simp only [if_true, show (0 : Int) ≤ (i : Int) by omega, List.length_map, show (i : Int) < (l.length : Int) by omega]
      refine Ev.bind hr1 ?_
      refine Ev.bind hr2 ?_
      simp only [beq_self_eq_true, if_true]
      exact Ev.bind known_ev (Ev.now _)
    refine Ev.step (fun k => by rw [triremelaw32_TraceTells.l0]) ?_
    rw [hr37, rd39_at i h5]
    simp only [List.length_map, show (i : Int) < (l.length : Int) by omega, show (0 : Int) ≤ (i : Int) by omega, if_true]
    refine Ev.bind hr1 ?_
    refine Ev.bind hr2 ?_
    simp only [bne_self_eq_false, Bool.false_eq_true, if_false]
    refine ev_if (fun _ => hj) (fun _ => ?_)
    by_cases hn : l[i].f3 < 0
    · rw [decide_eq_true hn]; exact hj
    · rw [decide_eq_false hn]
      refine Ev.step (fun k => by rw [triremelaw32_TraceTells.j2]) ?_
      simp only [Bool.false_eq_true, if_false]
      rw [wrap_small (i := (i : Int) + 1) (by omega) (by omega)]
      exact ih (i + 1) (by omega)
theorem tells_pure (l : List S39) (g : ByteArray) : ∃ k, triremelaw32_TraceTells.f k l g = some true := by
  apply Ev.rounds
  unfold triremelaw32_TraceTells.f
  refine Ev.bind (light_ev l) ?_
  have hk : Ev (fun k => triremelaw32_TraceTells.j0 k l g true) true := by
    refine Ev.step (fun k => by rw [triremelaw32_TraceTells.j0]) ?_
    simp only [if_true]; exact Ev.bind known_ev (Ev.now _)
  refine ev_if (fun h => ?_) (fun _ => hk)
  by_cases hz : (g.size : Int) > 300
  · rw [decide_eq_true hz]; exact hk
  · rw [decide_eq_false hz]
    refine Ev.step (fun k => by rw [triremelaw32_TraceTells.j0]) ?_
    simp only [Bool.false_eq_true, if_false]
    have hlen : l.length ≤ 60 := by have := (light_use h).1; rwa [List.length_map] at this
    exact Ev.bind (given_ev l (by omega)) (tells_l0 l g h l.length 0 (by omega))
end Go.Proofs.Ytngmcigkihfnkaa.H
end
section
namespace Go.Proofs.Ytngmcigkihfnkaa.traceTells
open Go.ChangeShapes Go.WideShapes Go.ChangeAt Go.RowKit Go.Proofs.YtngmcigkihfnkaaW.PrintWords Go.Proofs.YtngmcigkihfnkaaW.PrintLast Go.Proofs.Ytngmcigkihfnkaa.H
open Go.ChangeMaps (open_string shut_string)
set_option linter.unusedVariables false
set_option maxRecDepth 100000
def ok3 (n : Int) : Prop := (Lit.int .i64 n).wf = true
theorem opens3 : Opens Try.prog 3 (Kd.int .i64) ok3 := opens_int Try.underlying3
def ok9 (s : ByteArray) : Prop := s.size ≤ 140737488351232
theorem opens9 : Opens Try.prog 9 Kd.string ok9 := opens_string Try.underlying9
def ok39 (y : S39) : Prop := ok3 y.f0 ∧ ok9 y.f1 ∧ ok9 y.f2 ∧ ok3 y.f3
theorem opens39 : Opens Try.prog 39 k39 ok39 := by
  intro H enc w base fuel held cs x h hw
  obtain ⟨xs, n, _, rfl, hl, hxl, hf⟩ := DataW.trod_struct Try.underlying39 h
  have hl' : cs.length = 4 := hl.trans (by kernel_rfl)
  have g0 := hf 0 _ rfl
  obtain ⟨x0, e0⟩ : ∃ z, xs[0]? = some z := ⟨_, List.getElem?_eq_getElem (by rw [hxl]; decide)⟩
  rw [e0] at g0
  obtain ⟨y0, q0, o0⟩ := opens3 enc w base n held ((cs.drop 0).take 1) x0 (by rw [← g0]; rfl) (fun m hm => hw m (DataW.weights_mem_each (j := 0) rfl (by rw [List.getElem?_map, e0]; rfl) m hm))
  have g1 := hf 1 _ rfl
  obtain ⟨x1, e1⟩ : ∃ z, xs[1]? = some z := ⟨_, List.getElem?_eq_getElem (by rw [hxl]; decide)⟩
  rw [e1] at g1
  obtain ⟨y1, q1, o1⟩ := opens9 enc w base n held ((cs.drop 1).take 1) x1 (by rw [← g1]; rfl) (fun m hm => hw m (DataW.weights_mem_each (j := 1) rfl (by rw [List.getElem?_map, e1]; rfl) m hm))
  have g2 := hf 2 _ rfl
  obtain ⟨x2, e2⟩ : ∃ z, xs[2]? = some z := ⟨_, List.getElem?_eq_getElem (by rw [hxl]; decide)⟩
  rw [e2] at g2
  obtain ⟨y2, q2, o2⟩ := opens9 enc w base n held ((cs.drop 2).take 1) x2 (by rw [← g2]; rfl) (fun m hm => hw m (DataW.weights_mem_each (j := 2) rfl (by rw [List.getElem?_map, e2]; rfl) m hm))
  have g3 := hf 3 _ rfl
  obtain ⟨x3, e3⟩ : ∃ z, xs[3]? = some z := ⟨_, List.getElem?_eq_getElem (by rw [hxl]; decide)⟩
  rw [e3] at g3
  obtain ⟨y3, q3, o3⟩ := opens3 enc w base n held ((cs.drop 3).take 1) x3 (by rw [← g3]; rfl) (fun m hm => hw m (DataW.weights_mem_each (j := 3) rfl (by rw [List.getElem?_map, e3]; rfl) m hm))
  rw [split_last cs 3 1 (by omega)] at q3
  exact ⟨⟨y0, y1, y2, y3⟩, ⟨_, _, split_step cs 0 1, q0, ⟨_, _, split_step cs 1 1, q1, ⟨_, _, split_step cs 2 1, q2, q3⟩⟩⟩, o0, o1, o2, o3⟩
theorem bytes27 : Try.prog.bytesOf 39 = 48 := by kernel_rfl
def ok27 (l : List S39) : Prop := l.length * 48 ≤ 140737488351232 ∧ ∀ y ∈ l, ok39 y
theorem opens27 : Opens Try.prog 27 (Kd.slice 39 k39) ok27 := opens_slice Try.underlying27 (by kernel_rfl) bytes27 opens39
theorem own : ownKnob Try.prog.godebug = none := by kernel_rfl
theorem laidOut : laidOutB Try.prog = true := by kernel_rfl
set_option maxRecDepth 100000 in
theorem lifted (os : Os) (started : os.Started) (H : Type) (enc : TypeId × Value → H) :
    ReturnsInHanded {} Try.checked os 4 .any (Rows.traceTellsSpec.pre6 enc Try.prog Try.f4 Rows.traceTellsRow.domain false) (Rows.traceTellsSpec.post enc Try.prog Try.f4 false true false false) := by
  refine returnsInHanded_of_change_sized (C := Try.checked) own started (by kernel_rfl) Try.func4
    (ChangeSpec.witness6 (enc := enc) (C := Try.checked) false ⟨#[], #[.slice none 0 0, .string ByteArray.empty], []⟩ 8 (by kernel_rfl) (by kernel_rfl) (by kernel_rfl) (by kernel_rfl)) ?_
  intro W base args ds gs before hval0 hW hcnd hsz0 _
  have hsz : (DataW.weightsEach Try.prog (Try.f4.params.toList ++ Rows.traceTellsSpec.plain.varTypes Try.prog) (ds ++ gs)).all (· ≤ reachBytes) = true := hsz0
  have hval : ∀ (j : Nat) t v, Try.f4.params[j]? = some t → args[j]? = some v → Value.okWide Try.prog W .any base t v := hval0
  have hW' := hW
  obtain ⟨p, q, hA0, hV, rfl, hfz, hnd⟩ := hW
  have hA : DataW.TrodAll enc Try.prog W 0 (fun _ => true) true Try.f4.params.toList args.toList ds p := hA0
  rw [Try.params4] at hA hval hsz
  obtain ⟨v0, vs0, d0, ds0, p0, q0, hargs, rfl, rfl, h0, r0⟩ := trodAll_cons hA
  obtain ⟨v1, vs1, d1, ds1, p1, q1, rfl, rfl, rfl, h1, r1⟩ := trodAll_cons r0
  obtain ⟨rfl, rfl, rfl⟩ := trodAll_nil r1
  obtain rfl : args = #[v0, v1] := by cases args; simp_all
  obtain ⟨rfl, rfl⟩ := trodVars_none hV
  have tr0 := h0
  have lt0 : ∀ x ∈ p0, x.block < W.heap.size := by obtain ⟨m, hm⟩ := tr0; exact DataW.trod_lt m _ _ _ hm
  obtain ⟨a0, len0, cap0, rfl⟩ := okWide_slice Try.underlying27 (hval 0 27 v0 rfl rfl)
  obtain ⟨m0, hm0⟩ := h0
  obtain ⟨l0, kk0, okk0⟩ := opens27 enc W 0 m0 true _ _ hm0 (fun m hm => of_decide_eq_true (List.all_eq_true.1 hsz m (DataW.weights_mem_each (j := 0) rfl rfl m hm)))
  obtain ⟨A0, c0, e0, hc0, hr0⟩ := kk0
  simp only [Value.cells, List.cons.injEq, and_true, Value.slice.injEq] at e0
  obtain ⟨rfl, rfl, rfl⟩ := e0
  obtain ⟨a1, rfl, rfl, rfl, y1⟩ := open_string Try.underlying9 (hval 1 9 v1 rfl rfl) h1
  have okk1 : ok9 a1 := by
    have z := sized_string hsz (j := 1) (t := 9) rfl rfl
    rw [Array.length_toList] at z
    exact z
  clear hA0 hval0 hsz0 hsz
  obtain ⟨k, hp⟩ := tells_pure l0 a1
  refine (triremelaw32_TraceTells.calls k _ _ l0 a1 true W hr0 hc0 hp).mono fun e W' ⟨he, bel⟩ => ?_
  subst he
  exact ⟨_, rfl, _, _, _, [], _, [], hW', trodAll_mk1 (shut_bool Try.underlying4 _), (trodAll_cons_mk (Below.trod laidOut (by kernel_rfl) (of_decide_eq_true (by kernel_rfl)) tr0 bel lt0) (trodAll_cons_mk (shut_string Try.underlying9 y1) trodAll_mk0)), rfl, bel.frame _, fun h => by cases h⟩
theorem over : Rows.traceTellsRow.holds Try.pinned (OpenSpec.ofChange Rows.traceTellsSpec) :=
  OpenClaim.holds_of_wide 4 Try.f4 rfl rfl rfl rfl rfl rfl rfl ⟨rfl, rfl, rfl, rfl, rfl⟩ rfl rfl rfl rfl rfl (by kernel_rfl) Try.func4 (by kernel_rfl)
    (of_decide_eq_true (by kernel_rfl)) (by unfold Func.isWrapper; first | (rw [if_pos (by decide +kernel)]; kernel_rfl) | (rw [if_neg (by decide +kernel)]; exact ⟨rfl, rfl⟩))
    (fun os started H enc _ => lifted os started H enc)
theorem proved : Rows.TraceTellsSaid := over
end Go.Proofs.Ytngmcigkihfnkaa.traceTells
namespace Go.Proofs.Ytngmcigkihfnkaa
/-- TraceTells, as the given rows state it. -/
theorem traceTells_holds : Rows.TraceTellsSaid := traceTells.proved
end Go.Proofs.Ytngmcigkihfnkaa
end
