import Derived.Deep.Slices
import Derived.SizedLaws
import Derived.Test.YtcnaefnlnjfjkaaCLabelsMeets0
import Derived.Test.YtcnaefnlnjfjkaaCLabelsMeets1
import Derived.Test.YtcnaefnlnjfjkaaCLabelsMeets2
import Derived.Test.YtcnaefnlnjfjkaaCLabelsMeets3
import Derived.Test.YtcnaefnlnjfjkaaCLabelsMeets4
import Derived.Test.YtcnaefnlnjfjkaaCLabelsMeets5
import Derived.Test.YtcnaefnlnjfjkaaCLabelsMeets6
section
namespace Go.Proofs.Ytcnaefnlnjfjkaa.H
open Go.RowKit Go.Proofs.YtcnaefnlnjfjkaaW.PrintWords Go.Proofs.YtcnaefnlnjfjkaaW.PrintLast Go.Proofs.YtcnaefnlnjfjkaaW.PrintMore
attribute [local go_sem] max2_int min2_int max_two min_two max_three min_three max_four min_four   -- for this text's walks alone
set_option linter.unusedVariables false
set_option linter.unusedSimpArgs false
mutual
def triremelaw05_LabelsMeets.j0 : Nat → List (S31) → List (S31) → List (S37) → Bool → Option (Bool)
  | 0, _, _, _, _ => none
  | k + 1, x0, x1, x2, x30 => if x30 = true then ((triremelaw05_known.f).bind fun t298 => (some t298)) else (triremelaw05_LabelsMeets.l0 k x0 x1 x2 0)
def triremelaw05_LabelsMeets.l0 : Nat → List (S31) → List (S31) → List (S37) → Int → Option (Bool)
  | 0, _, _, _, _ => none
  | k + 1, x0, x1, x2, x7 => if x7 < (x2.length : Int) then (if 0 ≤ x7 then ((triremeref05_LightTerm.f k ((rd_T37 x2 x7).f0) ((rd_T37 x2 x7).f1) ((rd_T37 x2 x7).f2)).bind fun t300 => (if t300 = true then ((triremeref05_RightTerm.f k ((rd_T37 x2 x7).f0) ((rd_T37 x2 x7).f1) ((rd_T37 x2 x7).f2)).bind fun t302 => (triremelaw05_LabelsMeets.j2 k x0 x1 x2 x7 (!t302))) else (triremelaw05_LabelsMeets.j2 k x0 x1 x2 x7 true))) else (none)) else ((labels_Has.f k x0 x1).bind fun t308 => ((triremeref05_Has.f k x0 x1).bind fun t309 => (if (t308 == t309) = true then ((labels_All.f k x0 x2).bind fun t310 => ((triremeref05_All.f k x0 x2).bind fun t311 => (if (t310 == t311) = true then ((triremelaw05_known.f).bind fun t312 => (some t312)) else (some false)))) else (some false))))
def triremelaw05_LabelsMeets.j2 : Nat → List (S31) → List (S31) → List (S37) → Int → Bool → Option (Bool)
  | 0, _, _, _, _, _ => none
  | k + 1, x0, x1, x2, x7, x51 => if x51 = true then ((triremelaw05_known.f).bind fun t303 => (some t303)) else (if 0 ≤ x7 then (if x7 < (x2.length : Int) then ((labels_Meets.f k x0 ((rd_T37 x2 x7).f0) ((rd_T37 x2 x7).f1) ((rd_T37 x2 x7).f2)).bind fun t305 => ((triremeref05_Meets.f k x0 ((rd_T37 x2 x7).f0) ((rd_T37 x2 x7).f1) ((rd_T37 x2 x7).f2)).bind fun t307 => (if (t305 != t307) = true then (some false) else (triremelaw05_LabelsMeets.l0 k x0 x1 x2 (wrap64 (x7 + 1)))))) else (none)) else (none))
end
def triremelaw05_LabelsMeets.f (k : Nat) (l0 : List (S31)) (l1 : List (S31)) (l2 : List (S37)) : Option (Bool) := (triremeref05_Light.f k l0).bind fun t294 => (if t294 = true then ((triremeref05_Light.f k l1).bind fun t295 => (if t295 = true then (if (l2.length : Int) > 20 then (triremelaw05_LabelsMeets.j0 k l0 l1 l2 true) else ((triremeref05_Right.f k l0).bind fun t296 => (if t296 = true then ((triremeref05_Right.f k l1).bind fun t297 => (triremelaw05_LabelsMeets.j0 k l0 l1 l2 (!t297))) else (triremelaw05_LabelsMeets.j0 k l0 l1 l2 true)))) else (triremelaw05_LabelsMeets.j0 k l0 l1 l2 true))) else (triremelaw05_LabelsMeets.j0 k l0 l1 l2 true))
theorem triremelaw05_LabelsMeets.mono_l : ∀ k, (∀ y0 y1 y2 y3, LeO (triremelaw05_LabelsMeets.j0 k y0 y1 y2 y3) (triremelaw05_LabelsMeets.j0 (k + 1) y0 y1 y2 y3)) ∧ (∀ y0 y1 y2 y3, LeO (triremelaw05_LabelsMeets.l0 k y0 y1 y2 y3) (triremelaw05_LabelsMeets.l0 (k + 1) y0 y1 y2 y3)) ∧ (∀ y0 y1 y2 y3 y4, LeO (triremelaw05_LabelsMeets.j2 k y0 y1 y2 y3 y4) (triremelaw05_LabelsMeets.j2 (k + 1) y0 y1 y2 y3 y4))
  | 0 => ⟨fun _ _ _ _ r h => by simp [triremelaw05_LabelsMeets.j0] at h, fun _ _ _ _ r h => by simp [triremelaw05_LabelsMeets.l0] at h, fun _ _ _ _ _ r h => by simp [triremelaw05_LabelsMeets.j2] at h⟩
  | k + 1 => by
    obtain ⟨ih0, ih1, ih2⟩ := triremelaw05_LabelsMeets.mono_l k
    refine ⟨?_, ?_, ?_⟩
    · intro y0 y1 y2 y3
      unfold triremelaw05_LabelsMeets.j0
      repeat' first
      | (with_reducible exact ih0 _ _ _ _)
      | (with_reducible exact ih1 _ _ _ _)
      | (with_reducible exact ih2 _ _ _ _ _)
      | (with_reducible exact labels_All.mono _ _ _)
      | (with_reducible exact labels_Has.mono _ _ _)
      | (with_reducible exact labels_Meets.mono _ _ _ _ _)
      | (with_reducible exact triremeref05_All.mono _ _ _)
      | (with_reducible exact triremeref05_Has.mono _ _ _)
      | (with_reducible exact triremeref05_Light.mono _ _)
      | (with_reducible exact triremeref05_LightTerm.mono _ _ _ _)
      | (with_reducible exact triremeref05_Meets.mono _ _ _ _ _)
      | (with_reducible exact triremeref05_Right.mono _ _)
      | (with_reducible exact triremeref05_RightTerm.mono _ _ _ _)
      | (with_reducible exact LeO.refl _)
      | (with_reducible exact LeO.none _)
      | (with_reducible refine LeO.ite ?_ ?_)
      | (with_reducible refine LeO.bind ?_ (fun _ => ?_))
      | exact ih0 _ _ _ _
      | exact ih1 _ _ _ _
      | exact ih2 _ _ _ _ _
      | exact labels_All.mono _ _ _
      | exact labels_Has.mono _ _ _
      | exact labels_Meets.mono _ _ _ _ _
      | exact triremeref05_All.mono _ _ _
      | exact triremeref05_Has.mono _ _ _
      | exact triremeref05_Light.mono _ _
      | exact triremeref05_LightTerm.mono _ _ _ _
      | exact triremeref05_Meets.mono _ _ _ _ _
      | exact triremeref05_Right.mono _ _
      | exact triremeref05_RightTerm.mono _ _ _ _
      | exact LeO.none _
      | refine LeO.ite ?_ ?_
      | refine LeO.bind ?_ (fun _ => ?_)
    · intro y0 y1 y2 y3
      unfold triremelaw05_LabelsMeets.l0
      repeat' first
      | (with_reducible exact ih0 _ _ _ _)
      | (with_reducible exact ih1 _ _ _ _)
      | (with_reducible exact ih2 _ _ _ _ _)
      | (with_reducible exact labels_All.mono _ _ _)
      | (with_reducible exact labels_Has.mono _ _ _)
      | (with_reducible exact labels_Meets.mono _ _ _ _ _)
      | (with_reducible exact triremeref05_All.mono _ _ _)
      | (with_reducible exact triremeref05_Has.mono _ _ _)
      | (with_reducible exact triremeref05_Light.mono _ _)
      | (with_reducible exact triremeref05_LightTerm.mono _ _ _ _)
      | (with_reducible exact triremeref05_Meets.mono _ _ _ _ _)
      | (with_reducible exact triremeref05_Right.mono _ _)
      | (with_reducible exact triremeref05_RightTerm.mono _ _ _ _)
      | (with_reducible exact LeO.refl _)
      | (with_reducible exact LeO.none _)
      | (with_reducible refine LeO.ite ?_ ?_)
      | (with_reducible refine LeO.bind ?_ (fun _ => ?_))
      | exact ih0 _ _ _ _
      | exact ih1 _ _ _ _
      | exact ih2 _ _ _ _ _
      | exact labels_All.mono _ _ _
      | exact labels_Has.mono _ _ _
      | exact labels_Meets.mono _ _ _ _ _
      | exact triremeref05_All.mono _ _ _
      | exact triremeref05_Has.mono _ _ _
      | exact triremeref05_Light.mono _ _
      | exact triremeref05_LightTerm.mono _ _ _ _
      | exact triremeref05_Meets.mono _ _ _ _ _
      | exact triremeref05_Right.mono _ _
      | exact triremeref05_RightTerm.mono _ _ _ _
      | exact LeO.none _
      | refine LeO.ite ?_ ?_
      | refine LeO.bind ?_ (fun _ => ?_)
    · intro y0 y1 y2 y3 y4
      unfold triremelaw05_LabelsMeets.j2
      repeat' first
      | (with_reducible exact ih0 _ _ _ _)
      | (with_reducible exact ih1 _ _ _ _)
      | (with_reducible exact ih2 _ _ _ _ _)
      | (with_reducible exact labels_All.mono _ _ _)
      | (with_reducible exact labels_Has.mono _ _ _)
      | (with_reducible exact labels_Meets.mono _ _ _ _ _)
      | (with_reducible exact triremeref05_All.mono _ _ _)
      | (with_reducible exact triremeref05_Has.mono _ _ _)
      | (with_reducible exact triremeref05_Light.mono _ _)
      | (with_reducible exact triremeref05_LightTerm.mono _ _ _ _)
      | (with_reducible exact triremeref05_Meets.mono _ _ _ _ _)
      | (with_reducible exact triremeref05_Right.mono _ _)
      | (with_reducible exact triremeref05_RightTerm.mono _ _ _ _)
      | (with_reducible exact LeO.refl _)
      | (with_reducible exact LeO.none _)
      | (with_reducible refine LeO.ite ?_ ?_)
      | (with_reducible refine LeO.bind ?_ (fun _ => ?_))
      | exact ih0 _ _ _ _
      | exact ih1 _ _ _ _
      | exact ih2 _ _ _ _ _
      | exact labels_All.mono _ _ _
      | exact labels_Has.mono _ _ _
      | exact labels_Meets.mono _ _ _ _ _
      | exact triremeref05_All.mono _ _ _
      | exact triremeref05_Has.mono _ _ _
      | exact triremeref05_Light.mono _ _
      | exact triremeref05_LightTerm.mono _ _ _ _
      | exact triremeref05_Meets.mono _ _ _ _ _
      | exact triremeref05_Right.mono _ _
      | exact triremeref05_RightTerm.mono _ _ _ _
      | exact LeO.none _
      | refine LeO.ite ?_ ?_
      | refine LeO.bind ?_ (fun _ => ?_)
theorem triremelaw05_LabelsMeets.mono : ∀ a0 a1 a2 k, LeO (triremelaw05_LabelsMeets.f k a0 a1 a2) (triremelaw05_LabelsMeets.f (k + 1) a0 a1 a2) := by
  intro a0 a1 a2 k
  obtain ⟨ih0, ih1, ih2⟩ := triremelaw05_LabelsMeets.mono_l k
  unfold triremelaw05_LabelsMeets.f
  repeat' first
      | (with_reducible exact ih0 _ _ _ _)
      | (with_reducible exact ih1 _ _ _ _)
      | (with_reducible exact ih2 _ _ _ _ _)
      | (with_reducible exact labels_All.mono _ _ _)
      | (with_reducible exact labels_Has.mono _ _ _)
      | (with_reducible exact labels_Meets.mono _ _ _ _ _)
      | (with_reducible exact triremeref05_All.mono _ _ _)
      | (with_reducible exact triremeref05_Has.mono _ _ _)
      | (with_reducible exact triremeref05_Light.mono _ _)
      | (with_reducible exact triremeref05_LightTerm.mono _ _ _ _)
      | (with_reducible exact triremeref05_Meets.mono _ _ _ _ _)
      | (with_reducible exact triremeref05_Right.mono _ _)
      | (with_reducible exact triremeref05_RightTerm.mono _ _ _ _)
      | (with_reducible exact LeO.refl _)
      | (with_reducible exact LeO.none _)
      | (with_reducible refine LeO.ite ?_ ?_)
      | (with_reducible refine LeO.bind ?_ (fun _ => ?_))
      | exact ih0 _ _ _ _
      | exact ih1 _ _ _ _
      | exact ih2 _ _ _ _ _
      | exact labels_All.mono _ _ _
      | exact labels_Has.mono _ _ _
      | exact labels_Meets.mono _ _ _ _ _
      | exact triremeref05_All.mono _ _ _
      | exact triremeref05_Has.mono _ _ _
      | exact triremeref05_Light.mono _ _
      | exact triremeref05_LightTerm.mono _ _ _ _
      | exact triremeref05_Meets.mono _ _ _ _ _
      | exact triremeref05_Right.mono _ _
      | exact triremeref05_RightTerm.mono _ _ _ _
      | exact LeO.none _
      | refine LeO.ite ?_ ?_
      | refine LeO.bind ?_ (fun _ => ?_)
def triremelaw05_LabelsMeets.T8 : Bool × List (List Nat × List Nat) := (true, [([], []), ([], []), ([], []), ([1, 2], [1, 2]), ([3], [3]), ([0, 4], [0, 4]), ([], []), ([], []), ([], []), ([7, 8], [7, 8]), ([9], [9]), ([6, 10, 5], [6, 10]), ([5, 11], [5, 11])])
def triremelaw05_LabelsMeets.B8 : List Nat := [0, 0, 0, 6, 14, 31, 0, 0, 0, 384, 896, 2047, 4095]
theorem triremelaw05_LabelsMeets.tab8 : rtab .any (opsOf Try.f4 8) = triremelaw05_LabelsMeets.T8 := by kernel_rfl
theorem triremelaw05_LabelsMeets.bits8 : waitsOk triremelaw05_LabelsMeets.T8.2 triremelaw05_LabelsMeets.B8 = true := by kernel_rfl
set_option maxHeartbeats 8000000 in
set_option maxRecDepth 100000 in
theorem triremelaw05_LabelsMeets.calls (k : Nat) (A0 : Option Addr) (c0 : Nat) (l0 : List (S31)) (A1 : Option Addr) (c1 : Nat) (l1 : List (S31)) (A2 : Option Addr) (c2 : Nat) (l2 : List (S37)) (r : Bool) (w : World) (hr0 : Kd.C k31 w A0 l0.length l0) (hc0 : l0.length ≤ c0) (hr1 : Kd.C k31 w A1 l1.length l1) (hc1 : l1.length ≤ c1) (hr2 : Kd.C k37 w A2 l2.length l2) (hc2 : l2.length ≤ c2) (h : triremelaw05_LabelsMeets.f k l0 l1 l2 = some r) :
    Calls Try.prog 4 #[.slice A0 l0.length c0, .slice A1 l1.length c1, .slice A2 l2.length c2] w fun e w' => e = .returned (.bool r) ∧ Below w.heap.size w w' := by
  have hu37 := Try.underlying37
  have HR0 := Aside0.mk hr0
  have HC0 := Aside0.mk hc0
  clear hr0 hc0
  have HR1 := Aside0.mk hr1
  have HC1 := Aside0.mk hc1
  clear hr1 hc1
  have HR2 := Aside0.mk hr2
  have HC2 := Aside0.mk hc2
  clear hr2 hc2
  have HB := Aside0.mk (Below.refl w.heap.size w)
  have H : ((triremeref05_Light.f k l0).bind fun t294 => (if t294 = true then ((triremeref05_Light.f k l1).bind fun t295 => (if t295 = true then (if (l2.length : Int) > 20 then (triremelaw05_LabelsMeets.j0 k l0 l1 l2 true) else ((triremeref05_Right.f k l0).bind fun t296 => (if t296 = true then ((triremeref05_Right.f k l1).bind fun t297 => (triremelaw05_LabelsMeets.j0 k l0 l1 l2 (!t297))) else (triremelaw05_LabelsMeets.j0 k l0 l1 l2 true)))) else (triremelaw05_LabelsMeets.j0 k l0 l1 l2 true))) else (triremelaw05_LabelsMeets.j0 k l0 l1 l2 true))) = some r := h
  clear h
  have HC4 := Aside0.mk H
  clear H
  go_enter Try.func4, Try.ntmps4
  go_upto_region 1 with (fail)
  go_cut [30] (fun v30 wc => ∃ (kq : Nat) (x30_3 : Bool), v30 = .bool x30_3 ∧ Aside0 (triremelaw05_LabelsMeets.j0 kq l0 l1 l2 x30_3 = some r) ∧ Aside0 (kq ≤ k) ∧ Aside0 (Below w.heap.size w wc))
  case first =>
    have H := HC4.out
    clear HC4
    replace H := Option.bind_eq_some_iff.mp H
    obtain ⟨t294, A50, H⟩ := H
    replace H : (if t294 = true then ((triremeref05_Light.f k l1).bind fun t295 => (if t295 = true then (if (l2.length : Int) > 20 then (triremelaw05_LabelsMeets.j0 k l0 l1 l2 true) else ((triremeref05_Right.f k l0).bind fun t296 => (if t296 = true then ((triremeref05_Right.f k l1).bind fun t297 => (triremelaw05_LabelsMeets.j0 k l0 l1 l2 (!t297))) else (triremelaw05_LabelsMeets.j0 k l0 l1 l2 true)))) else (triremelaw05_LabelsMeets.j0 k l0 l1 l2 true))) else (triremelaw05_LabelsMeets.j0 k l0 l1 l2 true)) = some r := H
    have A5 := Aside0.mk A50
    clear A50
    by_cases c6 : t294 = true
    · subst c6
      have H1 : ((triremeref05_Light.f k l1).bind fun t295 => (if t295 = true then (if (l2.length : Int) > 20 then (triremelaw05_LabelsMeets.j0 k l0 l1 l2 true) else ((triremeref05_Right.f k l0).bind fun t296 => (if t296 = true then ((triremeref05_Right.f k l1).bind fun t297 => (triremelaw05_LabelsMeets.j0 k l0 l1 l2 (!t297))) else (triremelaw05_LabelsMeets.j0 k l0 l1 l2 true)))) else (triremelaw05_LabelsMeets.j0 k l0 l1 l2 true))) = some r := by rw [if_pos rfl] at H; exact H
      clear H
      have H := H1
      clear H1
      replace H := Option.bind_eq_some_iff.mp H
      obtain ⟨t295, A70, H⟩ := H
      replace H : (if t295 = true then (if (l2.length : Int) > 20 then (triremelaw05_LabelsMeets.j0 k l0 l1 l2 true) else ((triremeref05_Right.f k l0).bind fun t296 => (if t296 = true then ((triremeref05_Right.f k l1).bind fun t297 => (triremelaw05_LabelsMeets.j0 k l0 l1 l2 (!t297))) else (triremelaw05_LabelsMeets.j0 k l0 l1 l2 true)))) else (triremelaw05_LabelsMeets.j0 k l0 l1 l2 true)) = some r := H
      have A7 := Aside0.mk A70
      clear A70
      by_cases c8 : t295 = true
      · subst c8
        have H1 : (if (l2.length : Int) > 20 then (triremelaw05_LabelsMeets.j0 k l0 l1 l2 true) else ((triremeref05_Right.f k l0).bind fun t296 => (if t296 = true then ((triremeref05_Right.f k l1).bind fun t297 => (triremelaw05_LabelsMeets.j0 k l0 l1 l2 (!t297))) else (triremelaw05_LabelsMeets.j0 k l0 l1 l2 true)))) = some r := by rw [if_pos rfl] at H; exact H
        clear H
        have H := H1
        clear H1
        by_cases c9 : (l2.length : Int) > 20
        · rw [if_pos c9] at H
          have c9b0 : decide (20 < (l2.length : Int)) = true := decide_eq_true c9
          have c9b1 : decide (20 < l2.length) = true := decide_eq_true (by omega)
          clear c9
          (first | rw [c9b0] | (simp only [i64_w, i32_w]; rw [c9b0]) | skip)
          have H' := Aside0.mk H
          clear H
          go_wp2_with (first | ((first | ((with_reducible refine gate_callee (f := 5) rfl ?_); refine goesL_ (some 9) rfl rfl Try.func5 (by kernel_rfl) rfl #[.slice A0 l0.length c0] rfl (by (try simp only [List.map_toArray, List.map_cons, List.map_nil]); first | done | rfl | (simp only [List.length_drop, List.length_take]; rfl)) ?_; (with_reducible refine (triremeref05_Light.calls k _ _ l0 true _ ?side1 ?side2 A5.out).mono ?_); (case side1 => repeat (first | exact (Kd.C_below HR0.out HB.out) | (with_reducible refine Kd.C_alloc ?_ _) | (with_reducible refine Kd.C_drewN ?_ _) | (with_reducible refine Kd.C_drew ?_))); (case side2 => exact HC0.out); rintro e w' ⟨rfl, ⟨nd, rfl⟩⟩; refine ⟨_, rfl, ?_⟩) | (go_at_call 5; (with_reducible refine (triremeref05_Light.calls k _ _ l0 true _ ?side1 ?side2 A5.out).mono ?_); (case side1 => repeat (first | exact (Kd.C_below HR0.out HB.out) | (with_reducible refine Kd.C_alloc ?_ _) | (with_reducible refine Kd.C_drewN ?_ _) | (with_reducible refine Kd.C_drew ?_))); (case side2 => exact HC0.out); rintro e w' ⟨rfl, ⟨nd, rfl⟩⟩))) | (go_at_call 5; (with_reducible refine (triremeref05_Light.calls k _ _ l1 true _ ?side1 ?side2 A7.out).mono ?_); (case side1 => repeat (first | exact (Kd.C_below HR1.out (by repeat (first | (with_reducible first | exact HB.out | apply below_alloc | apply pw_below_drewN | apply below_drew1) | exact HB.out))) | (with_reducible refine Kd.C_alloc ?_ _) | (with_reducible refine Kd.C_drewN ?_ _) | (with_reducible refine Kd.C_drew ?_))); (case side2 => exact HC1.out); rintro e w' ⟨rfl, ⟨nd, rfl⟩⟩))
          go_meet
          case rel => exact ⟨_, (true), (by first | rfl | (simp; done) | (simp [*]; done)), H', ⟨by first | omega | exact Nat.le_refl _⟩, ⟨by repeat (first | (with_reducible first | exact HB.out | apply below_alloc | apply pw_below_drewN | apply below_drew1) | exact HB.out)⟩⟩
        · rw [if_neg c9] at H
          have c9b0 : decide (20 < (l2.length : Int)) = false := decide_eq_false c9
          have c9b1 : decide (20 < l2.length) = false := decide_eq_false (by omega)
          clear c9
          (first | rw [c9b0] | (simp only [i64_w, i32_w]; rw [c9b0]) | skip)
          replace H := Option.bind_eq_some_iff.mp H
          obtain ⟨t296, A100, H⟩ := H
          replace H : (if t296 = true then ((triremeref05_Right.f k l1).bind fun t297 => (triremelaw05_LabelsMeets.j0 k l0 l1 l2 (!t297))) else (triremelaw05_LabelsMeets.j0 k l0 l1 l2 true)) = some r := H
          have A10 := Aside0.mk A100
          clear A100
          by_cases c11 : t296 = true
          · subst c11
            have H1 : ((triremeref05_Right.f k l1).bind fun t297 => (triremelaw05_LabelsMeets.j0 k l0 l1 l2 (!t297))) = some r := by rw [if_pos rfl] at H; exact H
            clear H
            have H := H1
            clear H1
            replace H := Option.bind_eq_some_iff.mp H
            obtain ⟨t297, A120, H⟩ := H
            replace H : (triremelaw05_LabelsMeets.j0 k l0 l1 l2 (!t297)) = some r := H
            have A12 := Aside0.mk A120
            clear A120
            have H' := Aside0.mk H
            clear H
            go_wp2_with (first | ((first | ((with_reducible refine gate_callee (f := 5) rfl ?_); refine goesL_ (some 9) rfl rfl Try.func5 (by kernel_rfl) rfl #[.slice A0 l0.length c0] rfl (by (try simp only [List.map_toArray, List.map_cons, List.map_nil]); first | done | rfl | (simp only [List.length_drop, List.length_take]; rfl)) ?_; (with_reducible refine (triremeref05_Light.calls k _ _ l0 true _ ?side1 ?side2 A5.out).mono ?_); (case side1 => repeat (first | exact (Kd.C_below HR0.out HB.out) | (with_reducible refine Kd.C_alloc ?_ _) | (with_reducible refine Kd.C_drewN ?_ _) | (with_reducible refine Kd.C_drew ?_))); (case side2 => exact HC0.out); rintro e w' ⟨rfl, ⟨nd, rfl⟩⟩; refine ⟨_, rfl, ?_⟩) | (go_at_call 5; (with_reducible refine (triremeref05_Light.calls k _ _ l0 true _ ?side1 ?side2 A5.out).mono ?_); (case side1 => repeat (first | exact (Kd.C_below HR0.out HB.out) | (with_reducible refine Kd.C_alloc ?_ _) | (with_reducible refine Kd.C_drewN ?_ _) | (with_reducible refine Kd.C_drew ?_))); (case side2 => exact HC0.out); rintro e w' ⟨rfl, ⟨nd, rfl⟩⟩))) | (go_at_call 5; (with_reducible refine (triremeref05_Light.calls k _ _ l1 true _ ?side1 ?side2 A7.out).mono ?_); (case side1 => repeat (first | exact (Kd.C_below HR1.out (by repeat (first | (with_reducible first | exact HB.out | apply below_alloc | apply pw_below_drewN | apply below_drew1) | exact HB.out))) | (with_reducible refine Kd.C_alloc ?_ _) | (with_reducible refine Kd.C_drewN ?_ _) | (with_reducible refine Kd.C_drew ?_))); (case side2 => exact HC1.out); rintro e w' ⟨rfl, ⟨nd, rfl⟩⟩) | (go_at_call 6; (with_reducible refine (triremeref05_Right.calls k _ _ l0 true _ ?side1 ?side2 A10.out).mono ?_); (case side1 => repeat (first | exact (Kd.C_below HR0.out (by repeat (first | (with_reducible first | exact HB.out | apply below_alloc | apply pw_below_drewN | apply below_drew1) | exact HB.out))) | (with_reducible refine Kd.C_alloc ?_ _) | (with_reducible refine Kd.C_drewN ?_ _) | (with_reducible refine Kd.C_drew ?_))); (case side2 => exact HC0.out); rintro e w13 ⟨rfl, hb⟩; have n0_ := Aside0.mk (below_step (by repeat (first | (with_reducible first | exact HB.out | apply below_alloc | apply pw_below_drewN | apply below_drew1) | exact HB.out)) hb); clear HB; have HB := n0_; clear n0_; (try clear hb); (try clear hb2); (try clear hk); (try clear hi)) | (go_at_call 6; (with_reducible refine (triremeref05_Right.calls k _ _ l1 t297 _ ?side1 ?side2 A12.out).mono ?_); (case side1 => repeat (first | exact (Kd.C_below HR1.out HB.out) | (with_reducible refine Kd.C_alloc ?_ _) | (with_reducible refine Kd.C_drewN ?_ _) | (with_reducible refine Kd.C_drew ?_))); (case side2 => exact HC1.out); rintro e w14 ⟨rfl, hb⟩; have n0_ := Aside0.mk (below_step (by repeat (first | (with_reducible first | exact HB.out | apply below_alloc | apply pw_below_drewN | apply below_drew1) | exact HB.out)) hb); clear HB; have HB := n0_; clear n0_; (try clear hb); (try clear hb2); (try clear hk); (try clear hi)))
            go_meet
            case rel => exact ⟨_, (!t297), (by first | rfl | (simp; done) | (simp [*]; done)), H', ⟨by first | omega | exact Nat.le_refl _⟩, ⟨by repeat (first | (with_reducible first | exact HB.out | apply below_alloc | apply pw_below_drewN | apply below_drew1) | exact HB.out)⟩⟩
          · replace c11 := Bool.eq_false_iff.mpr c11
            subst c11
            have H1 : (triremelaw05_LabelsMeets.j0 k l0 l1 l2 true) = some r := by rw [if_neg (show ¬ (false = true) by decide)] at H; exact H
            clear H
            have H := H1
            clear H1
            have H' := Aside0.mk H
            clear H
            go_wp2_with (first | ((first | ((with_reducible refine gate_callee (f := 5) rfl ?_); refine goesL_ (some 9) rfl rfl Try.func5 (by kernel_rfl) rfl #[.slice A0 l0.length c0] rfl (by (try simp only [List.map_toArray, List.map_cons, List.map_nil]); first | done | rfl | (simp only [List.length_drop, List.length_take]; rfl)) ?_; (with_reducible refine (triremeref05_Light.calls k _ _ l0 true _ ?side1 ?side2 A5.out).mono ?_); (case side1 => repeat (first | exact (Kd.C_below HR0.out HB.out) | (with_reducible refine Kd.C_alloc ?_ _) | (with_reducible refine Kd.C_drewN ?_ _) | (with_reducible refine Kd.C_drew ?_))); (case side2 => exact HC0.out); rintro e w' ⟨rfl, ⟨nd, rfl⟩⟩; refine ⟨_, rfl, ?_⟩) | (go_at_call 5; (with_reducible refine (triremeref05_Light.calls k _ _ l0 true _ ?side1 ?side2 A5.out).mono ?_); (case side1 => repeat (first | exact (Kd.C_below HR0.out HB.out) | (with_reducible refine Kd.C_alloc ?_ _) | (with_reducible refine Kd.C_drewN ?_ _) | (with_reducible refine Kd.C_drew ?_))); (case side2 => exact HC0.out); rintro e w' ⟨rfl, ⟨nd, rfl⟩⟩))) | (go_at_call 5; (with_reducible refine (triremeref05_Light.calls k _ _ l1 true _ ?side1 ?side2 A7.out).mono ?_); (case side1 => repeat (first | exact (Kd.C_below HR1.out (by repeat (first | (with_reducible first | exact HB.out | apply below_alloc | apply pw_below_drewN | apply below_drew1) | exact HB.out))) | (with_reducible refine Kd.C_alloc ?_ _) | (with_reducible refine Kd.C_drewN ?_ _) | (with_reducible refine Kd.C_drew ?_))); (case side2 => exact HC1.out); rintro e w' ⟨rfl, ⟨nd, rfl⟩⟩) | (go_at_call 6; (with_reducible refine (triremeref05_Right.calls k _ _ l0 false _ ?side1 ?side2 A10.out).mono ?_); (case side1 => repeat (first | exact (Kd.C_below HR0.out (by repeat (first | (with_reducible first | exact HB.out | apply below_alloc | apply pw_below_drewN | apply below_drew1) | exact HB.out))) | (with_reducible refine Kd.C_alloc ?_ _) | (with_reducible refine Kd.C_drewN ?_ _) | (with_reducible refine Kd.C_drew ?_))); (case side2 => exact HC0.out); rintro e w15 ⟨rfl, hb⟩; have n0_ := Aside0.mk (below_step (by repeat (first | (with_reducible first | exact HB.out | apply below_alloc | apply pw_below_drewN | apply below_drew1) | exact HB.out)) hb); clear HB; have HB := n0_; clear n0_; (try clear hb); (try clear hb2); (try clear hk); (try clear hi)))
            go_meet
            case rel => exact ⟨_, (true), (by first | rfl | (simp; done) | (simp [*]; done)), H', ⟨by first | omega | exact Nat.le_refl _⟩, ⟨by repeat (first | (with_reducible first | exact HB.out | apply below_alloc | apply pw_below_drewN | apply below_drew1) | exact HB.out)⟩⟩
      · replace c8 := Bool.eq_false_iff.mpr c8
        subst c8
        have H1 : (triremelaw05_LabelsMeets.j0 k l0 l1 l2 true) = some r := by rw [if_neg (show ¬ (false = true) by decide)] at H; exact H
        clear H
        have H := H1
        clear H1
        have H' := Aside0.mk H
        clear H
        go_wp2_with (first | ((first | ((with_reducible refine gate_callee (f := 5) rfl ?_); refine goesL_ (some 9) rfl rfl Try.func5 (by kernel_rfl) rfl #[.slice A0 l0.length c0] rfl (by (try simp only [List.map_toArray, List.map_cons, List.map_nil]); first | done | rfl | (simp only [List.length_drop, List.length_take]; rfl)) ?_; (with_reducible refine (triremeref05_Light.calls k _ _ l0 true _ ?side1 ?side2 A5.out).mono ?_); (case side1 => repeat (first | exact (Kd.C_below HR0.out HB.out) | (with_reducible refine Kd.C_alloc ?_ _) | (with_reducible refine Kd.C_drewN ?_ _) | (with_reducible refine Kd.C_drew ?_))); (case side2 => exact HC0.out); rintro e w' ⟨rfl, ⟨nd, rfl⟩⟩; refine ⟨_, rfl, ?_⟩) | (go_at_call 5; (with_reducible refine (triremeref05_Light.calls k _ _ l0 true _ ?side1 ?side2 A5.out).mono ?_); (case side1 => repeat (first | exact (Kd.C_below HR0.out HB.out) | (with_reducible refine Kd.C_alloc ?_ _) | (with_reducible refine Kd.C_drewN ?_ _) | (with_reducible refine Kd.C_drew ?_))); (case side2 => exact HC0.out); rintro e w' ⟨rfl, ⟨nd, rfl⟩⟩))) | (go_at_call 5; (with_reducible refine (triremeref05_Light.calls k _ _ l1 false _ ?side1 ?side2 A7.out).mono ?_); (case side1 => repeat (first | exact (Kd.C_below HR1.out (by repeat (first | (with_reducible first | exact HB.out | apply below_alloc | apply pw_below_drewN | apply below_drew1) | exact HB.out))) | (with_reducible refine Kd.C_alloc ?_ _) | (with_reducible refine Kd.C_drewN ?_ _) | (with_reducible refine Kd.C_drew ?_))); (case side2 => exact HC1.out); rintro e w' ⟨rfl, ⟨nd, rfl⟩⟩))
        go_meet
        case rel => exact ⟨_, (true), (by first | rfl | (simp; done) | (simp [*]; done)), H', ⟨by first | omega | exact Nat.le_refl _⟩, ⟨by repeat (first | (with_reducible first | exact HB.out | apply below_alloc | apply pw_below_drewN | apply below_drew1) | exact HB.out)⟩⟩
    · replace c6 := Bool.eq_false_iff.mpr c6
      subst c6
      have H1 : (triremelaw05_LabelsMeets.j0 k l0 l1 l2 true) = some r := by rw [if_neg (show ¬ (false = true) by decide)] at H; exact H
      clear H
      have H := H1
      clear H1
      have H' := Aside0.mk H
      clear H
      go_wp2_with (first | ((first | ((with_reducible refine gate_callee (f := 5) rfl ?_); refine goesL_ (some 9) rfl rfl Try.func5 (by kernel_rfl) rfl #[.slice A0 l0.length c0] rfl (by (try simp only [List.map_toArray, List.map_cons, List.map_nil]); first | done | rfl | (simp only [List.length_drop, List.length_take]; rfl)) ?_; (with_reducible refine (triremeref05_Light.calls k _ _ l0 false _ ?side1 ?side2 A5.out).mono ?_); (case side1 => repeat (first | exact (Kd.C_below HR0.out HB.out) | (with_reducible refine Kd.C_alloc ?_ _) | (with_reducible refine Kd.C_drewN ?_ _) | (with_reducible refine Kd.C_drew ?_))); (case side2 => exact HC0.out); rintro e w' ⟨rfl, ⟨nd, rfl⟩⟩; refine ⟨_, rfl, ?_⟩) | (go_at_call 5; (with_reducible refine (triremeref05_Light.calls k _ _ l0 false _ ?side1 ?side2 A5.out).mono ?_); (case side1 => repeat (first | exact (Kd.C_below HR0.out HB.out) | (with_reducible refine Kd.C_alloc ?_ _) | (with_reducible refine Kd.C_drewN ?_ _) | (with_reducible refine Kd.C_drew ?_))); (case side2 => exact HC0.out); rintro e w' ⟨rfl, ⟨nd, rfl⟩⟩))))
      go_meet
      case rel => exact ⟨_, (true), (by first | rfl | (simp; done) | (simp [*]; done)), H', ⟨by first | omega | exact Nat.le_refl _⟩, ⟨by repeat (first | (with_reducible first | exact HB.out | apply below_alloc | apply pw_below_drewN | apply below_drew1) | exact HB.out)⟩⟩
  case rest =>
    clear HC4
    try clear c1
    try clear c2
    try clear p2
    try clear c4
    try clear c5
    try clear c6
    try clear c8
    try clear c9
    try clear c9b0
    try clear c9b1
    try clear c11
    obtain ⟨kq, x30_3, rfl, HA, HJ3, HB⟩ := hcut
    cases kq with
    | zero => exact absurd HA.out (by simp [triremelaw05_LabelsMeets.j0])
    | succ kj3 =>
      have H := HA.out
      clear HA
      simp only [triremelaw05_LabelsMeets.j0] at H
      by_cases c16 : x30_3 = true
      · subst c16
        have H1 : ((triremelaw05_known.f).bind fun t298 => (some t298)) = some r := by rw [if_pos rfl] at H; exact H
        clear H
        have H := H1
        clear H1
        replace H := Option.bind_eq_some_iff.mp H
        obtain ⟨t298, A170, H⟩ := H
        replace H : (some t298) = some r := H
        have A17 := Aside0.mk A170
        clear A170
        obtain rfl := Option.some.inj H
        go_wp2_with (first | ((first | ((with_reducible refine gate_callee (f := 7) rfl ?_); refine goesL_ (some 31) rfl rfl Try.func7 (by kernel_rfl) rfl #[] rfl (by (try simp only [List.map_toArray, List.map_cons, List.map_nil]); first | done | rfl | (simp only [List.length_drop, List.length_take]; rfl)) ?_; (with_reducible refine (triremelaw05_known.calls  t298 _ A17.out).mono ?_); rintro e w18 ⟨rfl, hb⟩; refine ⟨_, rfl, ?_⟩) | (go_at_call 7; (with_reducible refine (triremelaw05_known.calls  t298 _ A17.out).mono ?_); rintro e w18 ⟨rfl, hb⟩)); have n0_ := Aside0.mk (below_step (by repeat (first | (with_reducible first | exact HB.out | apply below_alloc | apply pw_below_drewN | apply below_drew1) | exact HB.out)) hb); clear HB; have HB := n0_; clear n0_; (try clear hb); (try clear hb2); (try clear hk); (try clear hi)))
        go_ret
        exact ⟨by first | rfl | (simp [errW_none, errW_some] <;> rfl) | (simp [*, errW_none, errW_some] <;> rfl), by repeat (first | (with_reducible first | exact HB.out | apply below_alloc | apply pw_below_drewN | apply below_drew1) | exact HB.out)⟩
      · replace c16 := Bool.eq_false_iff.mpr c16
        subst c16
        have H1 : (triremelaw05_LabelsMeets.l0 kj3 l0 l1 l2 0) = some r := by rw [if_neg (show ¬ (false = true) by decide)] at H; exact H
        clear H
        have H := H1
        clear H1
        have H' := Aside0.mk H
        clear H
        go_wp2
        go_loopg [7] kj3 (fun kq v7 w' => ∃ (x7_2 : Int), v7 = .int .i64 x7_2 ∧ Aside0 (triremelaw05_LabelsMeets.l0 kq l0 l1 l2 x7_2 = some r) ∧ Aside0 (kq ≤ kj3) ∧ Aside0 (Below w.heap.size w w'))
        case atStart => exact ⟨(0), (by first | rfl | (simp; done) | (simp [*]; done)), H', ⟨Nat.le_refl _⟩, ⟨by repeat (first | (with_reducible first | exact HB.out | apply below_alloc | apply pw_below_drewN | apply below_drew1) | exact HB.out)⟩⟩
        case round =>
          clear H'
          try clear c1
          try clear c2
          try clear p2
          try clear c4
          try clear c5
          try clear c6
          try clear c7
          try clear c8
          try clear c9
          try clear c9b0
          try clear c9b1
          try clear c11
          try clear c16
          try clear p2
          obtain ⟨x7_2, rfl, HA, HK2, HB⟩ := hrel
          cases gk with
          | zero => exact absurd HA.out (by simp [triremelaw05_LabelsMeets.l0])
          | succ k2 =>
            have H := HA.out
            clear HA
            simp only [triremelaw05_LabelsMeets.l0] at H
            by_cases c19 : x7_2 < (l2.length : Int)
            · rw [if_pos c19] at H
              have c19b0 : decide (x7_2 < (l2.length : Int)) = true := decide_eq_true c19
              clear c19
              have HC20 := Aside0.mk H
              clear H
              go_upto_region 6 with (fail)
              go_cut [51] (fun v51 wc => ∃ (kq : Nat) (x51_19 : Bool), v51 = .bool x51_19 ∧ Aside0 (triremelaw05_LabelsMeets.j2 kq l0 l1 l2 x7_2 x51_19 = some r) ∧ Aside0 (kq ≤ k2) ∧ Aside0 (Below w.heap.size w wc))
              case first =>
                have H := HC20.out
                clear HC20
                by_cases c21 : 0 ≤ x7_2
                · rw [if_pos c21] at H
                  have c21b0 : decide (0 ≤ x7_2) = true := decide_eq_true c21
                  clear c21
                  (first | rw [c21b0] | (simp only [i64_w, i32_w]; rw [c21b0]) | skip)
                  replace H := Option.bind_eq_some_iff.mp H
                  obtain ⟨t300, A220, H⟩ := H
                  replace H : (if t300 = true then ((triremeref05_RightTerm.f k2 ((rd_T37 l2 x7_2).f0) ((rd_T37 l2 x7_2).f1) ((rd_T37 l2 x7_2).f2)).bind fun t302 => (triremelaw05_LabelsMeets.j2 k2 l0 l1 l2 x7_2 (!t302))) else (triremelaw05_LabelsMeets.j2 k2 l0 l1 l2 x7_2 true)) = some r := H
                  have A22 := Aside0.mk A220
                  clear A220
                  by_cases c23 : t300 = true
                  · subst c23
                    have H1 : ((triremeref05_RightTerm.f k2 ((rd_T37 l2 x7_2).f0) ((rd_T37 l2 x7_2).f1) ((rd_T37 l2 x7_2).f2)).bind fun t302 => (triremelaw05_LabelsMeets.j2 k2 l0 l1 l2 x7_2 (!t302))) = some r := by rw [if_pos rfl] at H; exact H
                    clear H
                    have H := H1
                    clear H1
                    replace H := Option.bind_eq_some_iff.mp H
                    obtain ⟨t302, A240, H⟩ := H
                    replace H : (triremelaw05_LabelsMeets.j2 k2 l0 l1 l2 x7_2 (!t302)) = some r := H
                    have A24 := Aside0.mk A240
                    clear A240
                    have H' := Aside0.mk H
                    clear H
                    have p299 : 0 ≤ (x7_2 : Int) := of_decide_eq_true (by first | (with_reducible assumption) | assumption)
                    have q299 : x7_2 < (l2.length : Int) := of_decide_eq_true (by first | (with_reducible assumption) | assumption)
                    obtain ⟨ad299, A299_2, c299_2, e299, hx299_0, hx299_1, hx299_2, hl299_2, hi299_2⟩ := at_T37 HR2.out x7_2 p299 q299
                    cases e299
                    replace hx299_0 := (HB.out.cell (World.block_lt_of_cell? w _ hx299_0)).trans hx299_0
                    replace hx299_1 := (HB.out.cell (World.block_lt_of_cell? w _ hx299_1)).trans hx299_1
                    replace hx299_2 := (HB.out.cell (World.block_lt_of_cell? w _ hx299_2)).trans hx299_2
                    have HR299_2 := Aside0.mk hi299_2
                    have HC299_2 := Aside0.mk hl299_2
                    clear hi299_2 hl299_2
                    replace p299 := eq_true p299
                    replace q299 := eq_true q299
                    go_wp2_with (first | ((first | ((with_reducible refine gate_callee (f := 15) rfl ?_); refine goesL_ (some 42) rfl rfl Try.func15 (by kernel_rfl) rfl #[.agg #[.string ((rd_T37 l2 x7_2).f0), .int .i64 ((rd_T37 l2 x7_2).f1), .slice A299_2 ((rd_T37 l2 x7_2).f2).length c299_2]] rfl (by (try simp only [List.map_toArray, List.map_cons, List.map_nil]); first | done | rfl | (simp only [List.length_drop, List.length_take]; rfl)) ?_; (with_reducible refine (triremeref05_LightTerm.calls k2 ((rd_T37 l2 x7_2).f0) ((rd_T37 l2 x7_2).f1) _ _ ((rd_T37 l2 x7_2).f2) true _ ?side1 ?side2 A22.out).mono ?_); (case side1 => repeat (first | exact (Kd.C_below HR299_2.out HB.out) | (with_reducible refine Kd.C_alloc ?_ _) | (with_reducible refine Kd.C_drewN ?_ _) | (with_reducible refine Kd.C_drew ?_))); (case side2 => exact HC299_2.out); rintro e w25 ⟨rfl, hb⟩; refine ⟨_, rfl, ?_⟩) | (go_at_call 15; (with_reducible refine (triremeref05_LightTerm.calls k2 ((rd_T37 l2 x7_2).f0) ((rd_T37 l2 x7_2).f1) _ _ ((rd_T37 l2 x7_2).f2) true _ ?side1 ?side2 A22.out).mono ?_); (case side1 => repeat (first | exact (Kd.C_below HR299_2.out HB.out) | (with_reducible refine Kd.C_alloc ?_ _) | (with_reducible refine Kd.C_drewN ?_ _) | (with_reducible refine Kd.C_drew ?_))); (case side2 => exact HC299_2.out); rintro e w25 ⟨rfl, hb⟩)); have n0_ := Aside0.mk (below_step (by repeat (first | (with_reducible first | exact HB.out | apply below_alloc | apply pw_below_drewN | apply below_drew1) | exact HB.out)) hb); clear HB; have HB := n0_; clear n0_; (try clear hb); (try clear hb2); (try clear hk); (try clear hi); have p301 : 0 ≤ (x7_2 : Int) := of_decide_eq_true (by first | (with_reducible assumption) | assumption); have q301 : x7_2 < (l2.length : Int) := of_decide_eq_true (by first | (with_reducible assumption) | assumption); obtain ⟨ad301, A301_2, c301_2, e301, hx301_0, hx301_1, hx301_2, hl301_2, hi301_2⟩ := at_T37 HR2.out x7_2 p301 q301; obtain rfl : ad299 = ad301 := (by injection e301); replace hx301_0 := (HB.out.cell (World.block_lt_of_cell? w _ hx301_0)).trans hx301_0; replace hx301_1 := (HB.out.cell (World.block_lt_of_cell? w _ hx301_1)).trans hx301_1; replace hx301_2 := (HB.out.cell (World.block_lt_of_cell? w _ hx301_2)).trans hx301_2; have HR301_2 := Aside0.mk hi301_2; have HC301_2 := Aside0.mk hl301_2; clear hi301_2 hl301_2; replace p301 := eq_true p301; replace q301 := eq_true q301) | (go_at_call 16; (with_reducible refine (triremeref05_RightTerm.calls k2 ((rd_T37 l2 x7_2).f0) ((rd_T37 l2 x7_2).f1) _ _ ((rd_T37 l2 x7_2).f2) t302 _ ?side1 ?side2 A24.out).mono ?_); (case side1 => repeat (first | exact (Kd.C_below HR301_2.out HB.out) | (with_reducible refine Kd.C_alloc ?_ _) | (with_reducible refine Kd.C_drewN ?_ _) | (with_reducible refine Kd.C_drew ?_))); (case side2 => exact HC301_2.out); rintro e w26 ⟨rfl, hb⟩; have n0_ := Aside0.mk (below_step (by repeat (first | (with_reducible first | exact HB.out | apply below_alloc | apply pw_below_drewN | apply below_drew1) | exact HB.out)) hb); clear HB; have HB := n0_; clear n0_; (try clear hb); (try clear hb2); (try clear hk); (try clear hi)))
                    go_meet
                    case rel => exact ⟨_, (!t302), (by first | rfl | (simp; done) | (simp [*]; done)), H', ⟨by have := HJ3.out; have := HK2.out; first | omega | exact Nat.le_refl _⟩, ⟨by repeat (first | (with_reducible first | exact HB.out | apply below_alloc | apply pw_below_drewN | apply below_drew1) | exact HB.out)⟩⟩
                  · replace c23 := Bool.eq_false_iff.mpr c23
                    subst c23
                    have H1 : (triremelaw05_LabelsMeets.j2 k2 l0 l1 l2 x7_2 true) = some r := by rw [if_neg (show ¬ (false = true) by decide)] at H; exact H
                    clear H
                    have H := H1
                    clear H1
                    have H' := Aside0.mk H
                    clear H
                    have p299 : 0 ≤ (x7_2 : Int) := of_decide_eq_true (by first | (with_reducible assumption) | assumption)
                    have q299 : x7_2 < (l2.length : Int) := of_decide_eq_true (by first | (with_reducible assumption) | assumption)
                    obtain ⟨ad299, A299_2, c299_2, e299, hx299_0, hx299_1, hx299_2, hl299_2, hi299_2⟩ := at_T37 HR2.out x7_2 p299 q299
                    cases e299
                    replace hx299_0 := (HB.out.cell (World.block_lt_of_cell? w _ hx299_0)).trans hx299_0
                    replace hx299_1 := (HB.out.cell (World.block_lt_of_cell? w _ hx299_1)).trans hx299_1
                    replace hx299_2 := (HB.out.cell (World.block_lt_of_cell? w _ hx299_2)).trans hx299_2
                    have HR299_2 := Aside0.mk hi299_2
                    have HC299_2 := Aside0.mk hl299_2
                    clear hi299_2 hl299_2
                    replace p299 := eq_true p299
                    replace q299 := eq_true q299
                    go_wp2_with (first | ((first | ((with_reducible refine gate_callee (f := 15) rfl ?_); refine goesL_ (some 42) rfl rfl Try.func15 (by kernel_rfl) rfl #[.agg #[.string ((rd_T37 l2 x7_2).f0), .int .i64 ((rd_T37 l2 x7_2).f1), .slice A299_2 ((rd_T37 l2 x7_2).f2).length c299_2]] rfl (by (try simp only [List.map_toArray, List.map_cons, List.map_nil]); first | done | rfl | (simp only [List.length_drop, List.length_take]; rfl)) ?_; (with_reducible refine (triremeref05_LightTerm.calls k2 ((rd_T37 l2 x7_2).f0) ((rd_T37 l2 x7_2).f1) _ _ ((rd_T37 l2 x7_2).f2) false _ ?side1 ?side2 A22.out).mono ?_); (case side1 => repeat (first | exact (Kd.C_below HR299_2.out HB.out) | (with_reducible refine Kd.C_alloc ?_ _) | (with_reducible refine Kd.C_drewN ?_ _) | (with_reducible refine Kd.C_drew ?_))); (case side2 => exact HC299_2.out); rintro e w27 ⟨rfl, hb⟩; refine ⟨_, rfl, ?_⟩) | (go_at_call 15; (with_reducible refine (triremeref05_LightTerm.calls k2 ((rd_T37 l2 x7_2).f0) ((rd_T37 l2 x7_2).f1) _ _ ((rd_T37 l2 x7_2).f2) false _ ?side1 ?side2 A22.out).mono ?_); (case side1 => repeat (first | exact (Kd.C_below HR299_2.out HB.out) | (with_reducible refine Kd.C_alloc ?_ _) | (with_reducible refine Kd.C_drewN ?_ _) | (with_reducible refine Kd.C_drew ?_))); (case side2 => exact HC299_2.out); rintro e w27 ⟨rfl, hb⟩)); have n0_ := Aside0.mk (below_step (by repeat (first | (with_reducible first | exact HB.out | apply below_alloc | apply pw_below_drewN | apply below_drew1) | exact HB.out)) hb); clear HB; have HB := n0_; clear n0_; (try clear hb); (try clear hb2); (try clear hk); (try clear hi)))
                    go_meet
                    case rel => exact ⟨_, (true), (by first | rfl | (simp; done) | (simp [*]; done)), H', ⟨by have := HJ3.out; have := HK2.out; first | omega | exact Nat.le_refl _⟩, ⟨by repeat (first | (with_reducible first | exact HB.out | apply below_alloc | apply pw_below_drewN | apply below_drew1) | exact HB.out)⟩⟩
                · rw [if_neg c21] at H
                  exact absurd H (by simp)
              case rest =>
                clear HC20
                try clear c1
                try clear c2
                try clear p2
                try clear q2
                try clear hx2
                try clear c3
                try clear p3
                try clear q3
                try clear hx3
                try clear c4
                try clear c5
                try clear c6
                try clear c7
                try clear c8
                try clear c9
                try clear c9b0
                try clear c9b1
                try clear c11
                try clear c15
                try clear c16
                try clear c19
                try clear c19b0
                try clear c21
                try clear c21b0
                try clear c23
                try clear hx299_0
                try clear hx299_1
                try clear hx299_2
                try clear hx301_0
                try clear hx301_1
                try clear hx301_2
                try clear p2
                try clear p299
                try clear p301
                try clear q299
                try clear q301
                obtain ⟨kq, x51_19, rfl, HA, HJ19, HB⟩ := hcut
                cases kq with
                | zero => exact absurd HA.out (by simp [triremelaw05_LabelsMeets.j2])
                | succ kj19 =>
                  have H := HA.out
                  clear HA
                  simp only [triremelaw05_LabelsMeets.j2] at H
                  by_cases c28 : x51_19 = true
                  · subst c28
                    have H1 : ((triremelaw05_known.f).bind fun t303 => (some t303)) = some r := by rw [if_pos rfl] at H; exact H
                    clear H
                    have H := H1
                    clear H1
                    replace H := Option.bind_eq_some_iff.mp H
                    obtain ⟨t303, A290, H⟩ := H
                    replace H : (some t303) = some r := H
                    have A29 := Aside0.mk A290
                    clear A290
                    obtain rfl := Option.some.inj H
                    go_wp2_with (first | ((first | ((with_reducible refine gate_callee (f := 7) rfl ?_); refine goesL_ (some 52) rfl rfl Try.func7 (by kernel_rfl) rfl #[] rfl (by (try simp only [List.map_toArray, List.map_cons, List.map_nil]); first | done | rfl | (simp only [List.length_drop, List.length_take]; rfl)) ?_; (with_reducible refine (triremelaw05_known.calls  t303 _ A29.out).mono ?_); rintro e w30 ⟨rfl, hb⟩; refine ⟨_, rfl, ?_⟩) | (go_at_call 7; (with_reducible refine (triremelaw05_known.calls  t303 _ A29.out).mono ?_); rintro e w30 ⟨rfl, hb⟩)); have n0_ := Aside0.mk (below_step (by repeat (first | (with_reducible first | exact HB.out | apply below_alloc | apply pw_below_drewN | apply below_drew1) | exact HB.out)) hb); clear HB; have HB := n0_; clear n0_; (try clear hb); (try clear hb2); (try clear hk); (try clear hi)))
                    go_ret
                    exact ⟨by first | rfl | (simp [errW_none, errW_some] <;> rfl) | (simp [*, errW_none, errW_some] <;> rfl), by repeat (first | (with_reducible first | exact HB.out | apply below_alloc | apply pw_below_drewN | apply below_drew1) | exact HB.out)⟩
                  · replace c28 := Bool.eq_false_iff.mpr c28
                    subst c28
                    have H1 : (if 0 ≤ x7_2 then (if x7_2 < (l2.length : Int) then ((labels_Meets.f kj19 l0 ((rd_T37 l2 x7_2).f0) ((rd_T37 l2 x7_2).f1) ((rd_T37 l2 x7_2).f2)).bind fun t305 => ((triremeref05_Meets.f kj19 l0 ((rd_T37 l2 x7_2).f0) ((rd_T37 l2 x7_2).f1) ((rd_T37 l2 x7_2).f2)).bind fun t307 => (if (t305 != t307) = true then (some false) else (triremelaw05_LabelsMeets.l0 kj19 l0 l1 l2 (wrap64 (x7_2 + 1)))))) else (none)) else (none)) = some r := by rw [if_neg (show ¬ (false = true) by decide)] at H; exact H
                    clear H
                    have H := H1
                    clear H1
                    by_cases c31 : 0 ≤ x7_2
                    · rw [if_pos c31] at H
                      have c31b0 : decide (0 ≤ x7_2) = true := decide_eq_true c31
                      clear c31
                      by_cases c32 : x7_2 < (l2.length : Int)
                      · rw [if_pos c32] at H
                        have c32b0 : decide (x7_2 < (l2.length : Int)) = true := decide_eq_true c32
                        clear c32
                        replace H := Option.bind_eq_some_iff.mp H
                        obtain ⟨t305, A330, H⟩ := H
                        replace H : ((triremeref05_Meets.f kj19 l0 ((rd_T37 l2 x7_2).f0) ((rd_T37 l2 x7_2).f1) ((rd_T37 l2 x7_2).f2)).bind fun t307 => (if (t305 != t307) = true then (some false) else (triremelaw05_LabelsMeets.l0 kj19 l0 l1 l2 (wrap64 (x7_2 + 1))))) = some r := H
                        have A33 := Aside0.mk A330
                        clear A330
                        replace H := Option.bind_eq_some_iff.mp H
                        obtain ⟨t307, A340, H⟩ := H
                        replace H : (if (t305 != t307) = true then (some false) else (triremelaw05_LabelsMeets.l0 kj19 l0 l1 l2 (wrap64 (x7_2 + 1)))) = some r := H
                        have A34 := Aside0.mk A340
                        clear A340
                        by_cases c35 : (t305 != t307) = true
                        · rw [if_pos c35] at H
                          have c35b0 : (t305 != t307) = true := c35
                          (try (have c35b1 : decide (t305 = t307) = false := by simpa using c35))
                          (try (have c35b2 : (t305 == t307) = false := by simpa using c35))
                          (try (have c35b3 : ¬ (t305 = t307) := by simpa using c35))
                          clear c35
                          obtain rfl := Option.some.inj H
                          try go_wp2
                          have n0_ := Aside0.mk (below_drew1 HB.out)
                          clear HB
                          have HB := n0_
                          clear n0_
                          have p304 : 0 ≤ (x7_2 : Int) := of_decide_eq_true (by first | (with_reducible assumption) | assumption)
                          have q304 : x7_2 < (l2.length : Int) := of_decide_eq_true (by first | (with_reducible assumption) | assumption)
                          obtain ⟨ad304, A304_2, c304_2, e304, hx304_0, hx304_1, hx304_2, hl304_2, hi304_2⟩ := at_T37 HR2.out x7_2 p304 q304
                          have hw304_2 := hx304_2
                          have hw304_1 := hx304_1
                          have hw304_0 := hx304_0
                          cases e304
                          replace hx304_0 := (HB.out.cell (World.block_lt_of_cell? w _ hx304_0)).trans hx304_0
                          replace hx304_1 := (HB.out.cell (World.block_lt_of_cell? w _ hx304_1)).trans hx304_1
                          replace hx304_2 := (HB.out.cell (World.block_lt_of_cell? w _ hx304_2)).trans hx304_2
                          have HR304_2 := Aside0.mk hi304_2
                          have HC304_2 := Aside0.mk hl304_2
                          clear hi304_2 hl304_2
                          replace p304 := eq_true p304
                          replace q304 := eq_true q304
                          have p306 : 0 ≤ (x7_2 : Int) := of_decide_eq_true (by first | (with_reducible assumption) | assumption)
                          have q306 : x7_2 < (l2.length : Int) := of_decide_eq_true (by first | (with_reducible assumption) | assumption)
                          obtain ⟨ad306, A306_2, c306_2, e306, hx306_0, hx306_1, hx306_2, hl306_2, hi306_2⟩ := at_T37 HR2.out x7_2 p306 q306
                          have hw306_2 := hx306_2
                          have hw306_1 := hx306_1
                          have hw306_0 := hx306_0
                          obtain rfl : ad304 = ad306 := (by injection e306)
                          replace hx306_0 := (HB.out.cell (World.block_lt_of_cell? w _ hx306_0)).trans hx306_0
                          replace hx306_1 := (HB.out.cell (World.block_lt_of_cell? w _ hx306_1)).trans hx306_1
                          replace hx306_2 := (HB.out.cell (World.block_lt_of_cell? w _ hx306_2)).trans hx306_2
                          have HR306_2 := Aside0.mk hi306_2
                          have HC306_2 := Aside0.mk hl306_2
                          clear hi306_2 hl306_2
                          replace p306 := eq_true p306
                          replace q306 := eq_true q306
                          have ea_ := Option.some.inj (hx304_2.symm.trans hx306_2)
                          injection ea_ with ea_ en_ ec_
                          subst ea_
                          subst ec_
                          clear en_
                          refine start_ (n := 13) (S := fun w' => w'.cell? (ad304.add ((x7_2).toNat * 3)) = some (.string ((rd_T37 l2 x7_2).f0)) ∧ w'.cell? ⟨(ad304.add ((x7_2).toNat * 3)).block, (ad304.add ((x7_2).toNat * 3)).off + 1, none⟩ = some (.int .i64 ((rd_T37 l2 x7_2).f1)) ∧ w'.cell? ⟨(ad304.add ((x7_2).toNat * 3)).block, (ad304.add ((x7_2).toNat * 3)).off + 2, none⟩ = some (.slice A304_2 ((rd_T37 l2 x7_2).f2).length c304_2) ∧ w'.cell? (ad304.add ((x7_2).toNat * 3)) = some (.string ((rd_T37 l2 x7_2).f0)) ∧ w'.cell? ⟨(ad304.add ((x7_2).toNat * 3)).block, (ad304.add ((x7_2).toNat * 3)).off + 1, none⟩ = some (.int .i64 ((rd_T37 l2 x7_2).f1)) ∧ w'.cell? ⟨(ad304.add ((x7_2).toNat * 3)).block, (ad304.add ((x7_2).toNat * 3)).off + 2, none⟩ = some (.slice A304_2 ((rd_T37 l2 x7_2).f2).length c304_2)) (ds := []) #[false, false, false, false, false, false, false, false, false, false, false, false, false] (by kernel_rfl) rfl rfl ⟨((HB.out.cell (World.block_lt_of_cell? w _ hw304_0)).trans hw304_0), ((HB.out.cell (World.block_lt_of_cell? w _ hw304_1)).trans hw304_1), ((HB.out.cell (World.block_lt_of_cell? w _ hw304_2)).trans hw304_2), ((HB.out.cell (World.block_lt_of_cell? w _ hw306_0)).trans hw306_0), ((HB.out.cell (World.block_lt_of_cell? w _ hw306_1)).trans hw306_1), ((HB.out.cell (World.block_lt_of_cell? w _ hw306_2)).trans hw306_2)⟩ (fun hHeld => ?_); refine with_tabW triremelaw05_LabelsMeets.tab8 triremelaw05_LabelsMeets.bits8 (fun HT_ HW_ => ?_)
                          generalize wc.drew = w36 at HB HR304_2 HR306_2 hx304_0 hx304_1 hx304_2 hx306_0 hx306_1 hx306_2 hHeld ⊢
                          refine pure_ (i := 0) (N := some 53) (v := ?_) (a' := ?_) #[true, false, false, false, false, false, false, false, false, false, false, false, false] rfl rfl (any_of HT_.out (by kernel_rfl)) (fun _ _ _ h => h) (Or.inl ⟨by rfl, ?_⟩) ?_ ?_
                          rotate_left
                          · intro w'
                            go_simp
                            with_reducible rfl
                          rotate_left
                          · simp only [Act.put, List.setIfInBounds_toArray, List.set_cons_zero, List.set_cons_succ, i64_w, i32_w]
                            rfl
                          refine pure_ (i := 1) (N := some 54) (v := ?_) (a' := ?_) #[true, true, false, false, false, false, false, false, false, false, false, false, false] rfl rfl (any_of HT_.out (by kernel_rfl)) (fun _ _ _ h => h) (Or.inl ⟨by rfl, ?_⟩) ?_ ?_
                          rotate_left
                          · intro w'
                            go_simp
                            with_reducible rfl
                          rotate_left
                          · simp only [Act.put, List.setIfInBounds_toArray, List.set_cons_zero, List.set_cons_succ, i64_w, i32_w]
                            rfl
                          refine pure_ (i := 2) (N := some 55) (v := ?_) (a' := ?_) #[true, true, true, false, false, false, false, false, false, false, false, false, false] rfl rfl (any_of HT_.out (by kernel_rfl)) (fun _ _ _ h => h) (Or.inl ⟨by rfl, ?_⟩) ?_ ?_
                          rotate_left
                          · intro w'
                            go_simp
                            with_reducible rfl
                          rotate_left
                          · simp only [Act.put, List.setIfInBounds_toArray, List.set_cons_zero, List.set_cons_succ, i64_w, i32_w]
                            rfl
                          refine pure_ (i := 3) (N := some 56) (v := ?_) (a' := ?_) #[true, true, true, true, false, false, false, false, false, false, false, false, false] rfl rfl (any_of HT_.out (by kernel_rfl)) (fun _ _ _ h => h) (Or.inl ⟨by rfl, ?_⟩) ?_ ?_
                          rotate_left
                          · intro w'
                            go_simp
                            with_reducible rfl
                          rotate_left
                          · simp only [Act.put, List.setIfInBounds_toArray, List.set_cons_zero, List.set_cons_succ, i64_w, i32_w]
                            rfl
                          refine pure_ (i := 6) (N := some 59) (v := ?_) (a' := ?_) #[true, true, true, true, false, false, true, false, false, false, false, false, false] rfl rfl (any_of HT_.out (by kernel_rfl)) (fun _ _ _ h => h) (Or.inl ⟨by rfl, ?_⟩) ?_ ?_
                          rotate_left
                          · intro w'
                            go_simp
                            with_reducible rfl
                          rotate_left
                          · simp only [Act.put, List.setIfInBounds_toArray, List.set_cons_zero, List.set_cons_succ, i64_w, i32_w]
                            rfl
                          refine pure_ (i := 7) (N := some 60) (v := ?_) (a' := ?_) #[true, true, true, true, false, false, true, true, false, false, false, false, false] rfl rfl (any_of HT_.out (by kernel_rfl)) (fun _ _ _ h => h) (Or.inl ⟨by rfl, ?_⟩) ?_ ?_
                          rotate_left
                          · intro w'
                            go_simp
                            with_reducible rfl
                          rotate_left
                          · simp only [Act.put, List.setIfInBounds_toArray, List.set_cons_zero, List.set_cons_succ, i64_w, i32_w]
                            rfl
                          refine pure_ (i := 8) (N := some 61) (v := ?_) (a' := ?_) #[true, true, true, true, false, false, true, true, true, false, false, false, false] rfl rfl (any_of HT_.out (by kernel_rfl)) (fun _ _ _ h => h) (Or.inl ⟨by rfl, ?_⟩) ?_ ?_
                          rotate_left
                          · intro w'
                            go_simp
                            with_reducible rfl
                          rotate_left
                          · simp only [Act.put, List.setIfInBounds_toArray, List.set_cons_zero, List.set_cons_succ, i64_w, i32_w]
                            rfl
                          refine pure_ (i := 9) (N := some 62) (v := ?_) (a' := ?_) #[true, true, true, true, false, false, true, true, true, true, false, false, false] rfl rfl (any_of HT_.out (by kernel_rfl)) (fun _ _ _ h => h) (Or.inl ⟨by rfl, ?_⟩) ?_ ?_
                          rotate_left
                          · intro w'
                            go_simp
                            with_reducible rfl
                          rotate_left
                          · simp only [Act.put, List.setIfInBounds_toArray, List.set_cons_zero, List.set_cons_succ, i64_w, i32_w]
                            rfl
                          refine take_ (i := 4) (N := some 57) (v := ?_) (a' := ?_) #[true, true, true, true, true, false, true, true, true, true, false, false, false] rfl rfl (take_ofW HT_.out HW_.out (by kernel_rfl)) (fun _ _ _ h => h) (Or.inl ⟨by rfl, ?_⟩) hHeld ?_ ?_
                          rotate_left
                          · rintro w' ⟨s0, s1, s2, s3, s4, s5⟩
                            go_simp
                            with_reducible rfl
                          rotate_left
                          · simp only [Act.put, List.setIfInBounds_toArray, List.set_cons_zero, List.set_cons_succ, i64_w, i32_w]
                            rfl
                          refine take_ (i := 10) (N := some 63) (v := ?_) (a' := ?_) #[true, true, true, true, true, false, true, true, true, true, true, false, false] rfl rfl (take_ofW HT_.out HW_.out (by kernel_rfl)) (fun _ _ _ h => h) (Or.inl ⟨by rfl, ?_⟩) hHeld ?_ ?_
                          rotate_left
                          · rintro w' ⟨s0, s1, s2, s3, s4, s5⟩
                            go_simp
                            with_reducible rfl
                          rotate_left
                          · simp only [Act.put, List.setIfInBounds_toArray, List.set_cons_zero, List.set_cons_succ, i64_w, i32_w]
                            rfl
                          refine one_ (i := 5) (N := some 58) #[true, true, true, true, true, true, true, true, true, true, true, false, false] rfl rfl (one_of HT_.out (by kernel_rfl)) (by decide) (fun K hK => ?_)
                          refine goes_ Try.func17 (by kernel_rfl) rfl #[.slice A0 l0.length c0, .agg #[.string ((rd_T37 l2 x7_2).f0), .int .i64 ((rd_T37 l2 x7_2).f1), .slice A304_2 ((rd_T37 l2 x7_2).f2).length c304_2]] (by rfl) rfl rfl (by (try simp only [List.map_toArray, List.map_cons, List.map_nil]); first | done | rfl | (simp only [List.length_drop, List.length_take]; rfl)) ?_
                          with_reducible refine (labels_Meets.calls kj19 _ _ l0 ((rd_T37 l2 x7_2).f0) ((rd_T37 l2 x7_2).f1) _ _ ((rd_T37 l2 x7_2).f2) t305 _ ?side1 ?side2 ?side3 ?side4 A33.out).mono ?_
                          (case side1 => repeat (first | exact (Kd.C_below HR0.out HB.out) | (with_reducible refine Kd.C_alloc ?_ _) | (with_reducible refine Kd.C_drewN ?_ _) | (with_reducible refine Kd.C_drew ?_)))
                          (case side2 => exact HC0.out)
                          (case side3 => repeat (first | exact (Kd.C_below HR304_2.out HB.out) | (with_reducible refine Kd.C_alloc ?_ _) | (with_reducible refine Kd.C_drewN ?_ _) | (with_reducible refine Kd.C_drew ?_)))
                          (case side4 => exact HC304_2.out)
                          rintro e w37 ⟨rfl, hb⟩
                          refine ⟨_, rfl, ?_⟩
                          have n0_ := Aside0.mk (below_step (by repeat (first | (with_reducible first | exact HB.out | apply below_alloc | apply pw_below_drewN | apply below_drew1) | exact HB.out)) hb)
                          clear HB
                          have HB := n0_
                          clear n0_
                          (try clear hb)
                          (try clear hb2)
                          (try clear hk)
                          (try clear hi)
                          refine hK.out _ _ ⟨((HB.out.cell (World.block_lt_of_cell? w _ hw304_0)).trans hw304_0), ((HB.out.cell (World.block_lt_of_cell? w _ hw304_1)).trans hw304_1), ((HB.out.cell (World.block_lt_of_cell? w _ hw304_2)).trans hw304_2), ((HB.out.cell (World.block_lt_of_cell? w _ hw306_0)).trans hw306_0), ((HB.out.cell (World.block_lt_of_cell? w _ hw306_1)).trans hw306_1), ((HB.out.cell (World.block_lt_of_cell? w _ hw306_2)).trans hw306_2)⟩ (fun hHeld => ?_)
                          clear hK K
                          refine norm_ (a' := ?_) ?_ ?_
                          rotate_left
                          · show Act.put _ (some 58) _ = _
                            simp only [Act.put, List.setIfInBounds_toArray, List.set_cons_zero, List.set_cons_succ, i64_w, i32_w]
                            rfl
                          refine one_ (i := 11) (N := some 64) #[true, true, true, true, true, true, true, true, true, true, true, true, false] rfl rfl (one_of HT_.out (by kernel_rfl)) (by decide) (fun K hK => ?_)
                          refine goes_ Try.func18 (by kernel_rfl) rfl #[.slice A0 l0.length c0, .agg #[.string ((rd_T37 l2 x7_2).f0), .int .i64 ((rd_T37 l2 x7_2).f1), .slice A304_2 ((rd_T37 l2 x7_2).f2).length c304_2]] (by rfl) rfl rfl (by (try simp only [List.map_toArray, List.map_cons, List.map_nil]); first | done | rfl | (simp only [List.length_drop, List.length_take]; rfl)) ?_
                          with_reducible refine (triremeref05_Meets.calls kj19 _ _ l0 ((rd_T37 l2 x7_2).f0) ((rd_T37 l2 x7_2).f1) _ _ ((rd_T37 l2 x7_2).f2) t307 _ ?side1 ?side2 ?side3 ?side4 A34.out).mono ?_
                          (case side1 => repeat (first | exact (Kd.C_below HR0.out HB.out) | (with_reducible refine Kd.C_alloc ?_ _) | (with_reducible refine Kd.C_drewN ?_ _) | (with_reducible refine Kd.C_drew ?_)))
                          (case side2 => exact HC0.out)
                          (case side3 => repeat (first | exact (Kd.C_below HR306_2.out HB.out) | (with_reducible refine Kd.C_alloc ?_ _) | (with_reducible refine Kd.C_drewN ?_ _) | (with_reducible refine Kd.C_drew ?_)))
                          (case side4 => exact HC306_2.out)
                          rintro e w38 ⟨rfl, hb⟩
                          refine ⟨_, rfl, ?_⟩
                          have n0_ := Aside0.mk (below_step (by repeat (first | (with_reducible first | exact HB.out | apply below_alloc | apply pw_below_drewN | apply below_drew1) | exact HB.out)) hb)
                          clear HB
                          have HB := n0_
                          clear n0_
                          (try clear hb)
                          (try clear hb2)
                          (try clear hk)
                          (try clear hi)
                          refine hK.out _ _ ⟨((HB.out.cell (World.block_lt_of_cell? w _ hw304_0)).trans hw304_0), ((HB.out.cell (World.block_lt_of_cell? w _ hw304_1)).trans hw304_1), ((HB.out.cell (World.block_lt_of_cell? w _ hw304_2)).trans hw304_2), ((HB.out.cell (World.block_lt_of_cell? w _ hw306_0)).trans hw306_0), ((HB.out.cell (World.block_lt_of_cell? w _ hw306_1)).trans hw306_1), ((HB.out.cell (World.block_lt_of_cell? w _ hw306_2)).trans hw306_2)⟩ (fun hHeld => ?_)
                          clear hK K
                          refine norm_ (a' := ?_) ?_ ?_
                          rotate_left
                          · show Act.put _ (some 64) _ = _
                            simp only [Act.put, List.setIfInBounds_toArray, List.set_cons_zero, List.set_cons_succ, i64_w, i32_w]
                            rfl
                          refine pure_ (i := 12) (N := some 65) (v := ?_) (a' := ?_) #[true, true, true, true, true, true, true, true, true, true, true, true, true] rfl rfl (any_of HT_.out (by kernel_rfl)) (fun _ _ _ h => h) (Or.inl ⟨by rfl, ?_⟩) ?_ ?_
                          rotate_left
                          · intro w'
                            go_simp
                            with_reducible rfl
                          rotate_left
                          · simp only [Act.put, List.setIfInBounds_toArray, List.set_cons_zero, List.set_cons_succ, i64_w, i32_w]
                            rfl
                          refine done_ (done_of HT_.out (by kernel_rfl)) ?_
                          try go_wp2
                          go_ret
                          exact ⟨by first | rfl | (simp [errW_none, errW_some] <;> rfl) | (simp [*, errW_none, errW_some] <;> rfl), by repeat (first | (with_reducible first | exact HB.out | apply below_alloc | apply pw_below_drewN | apply below_drew1) | exact HB.out)⟩
                        · rw [if_neg c35] at H
                          have c35b0 : (t305 != t307) = false := by simpa using c35
                          (try (have c35b1 : decide (t305 = t307) = true := by simpa using c35))
                          (try (have c35b2 : (t305 == t307) = true := by simpa using c35))
                          clear c35
                          have H' := Aside0.mk H
                          clear H
                          try go_wp2
                          have n0_ := Aside0.mk (below_drew1 HB.out)
                          clear HB
                          have HB := n0_
                          clear n0_
                          have p304 : 0 ≤ (x7_2 : Int) := of_decide_eq_true (by first | (with_reducible assumption) | assumption)
                          have q304 : x7_2 < (l2.length : Int) := of_decide_eq_true (by first | (with_reducible assumption) | assumption)
                          obtain ⟨ad304, A304_2, c304_2, e304, hx304_0, hx304_1, hx304_2, hl304_2, hi304_2⟩ := at_T37 HR2.out x7_2 p304 q304
                          have hw304_2 := hx304_2
                          have hw304_1 := hx304_1
                          have hw304_0 := hx304_0
                          cases e304
                          replace hx304_0 := (HB.out.cell (World.block_lt_of_cell? w _ hx304_0)).trans hx304_0
                          replace hx304_1 := (HB.out.cell (World.block_lt_of_cell? w _ hx304_1)).trans hx304_1
                          replace hx304_2 := (HB.out.cell (World.block_lt_of_cell? w _ hx304_2)).trans hx304_2
                          have HR304_2 := Aside0.mk hi304_2
                          have HC304_2 := Aside0.mk hl304_2
                          clear hi304_2 hl304_2
                          replace p304 := eq_true p304
                          replace q304 := eq_true q304
                          have p306 : 0 ≤ (x7_2 : Int) := of_decide_eq_true (by first | (with_reducible assumption) | assumption)
                          have q306 : x7_2 < (l2.length : Int) := of_decide_eq_true (by first | (with_reducible assumption) | assumption)
                          obtain ⟨ad306, A306_2, c306_2, e306, hx306_0, hx306_1, hx306_2, hl306_2, hi306_2⟩ := at_T37 HR2.out x7_2 p306 q306
                          have hw306_2 := hx306_2
                          have hw306_1 := hx306_1
                          have hw306_0 := hx306_0
                          obtain rfl : ad304 = ad306 := (by injection e306)
                          replace hx306_0 := (HB.out.cell (World.block_lt_of_cell? w _ hx306_0)).trans hx306_0
                          replace hx306_1 := (HB.out.cell (World.block_lt_of_cell? w _ hx306_1)).trans hx306_1
                          replace hx306_2 := (HB.out.cell (World.block_lt_of_cell? w _ hx306_2)).trans hx306_2
                          have HR306_2 := Aside0.mk hi306_2
                          have HC306_2 := Aside0.mk hl306_2
                          clear hi306_2 hl306_2
                          replace p306 := eq_true p306
                          replace q306 := eq_true q306
                          have ea_ := Option.some.inj (hx304_2.symm.trans hx306_2)
                          injection ea_ with ea_ en_ ec_
                          subst ea_
                          subst ec_
                          clear en_
                          refine start_ (n := 13) (S := fun w' => w'.cell? (ad304.add ((x7_2).toNat * 3)) = some (.string ((rd_T37 l2 x7_2).f0)) ∧ w'.cell? ⟨(ad304.add ((x7_2).toNat * 3)).block, (ad304.add ((x7_2).toNat * 3)).off + 1, none⟩ = some (.int .i64 ((rd_T37 l2 x7_2).f1)) ∧ w'.cell? ⟨(ad304.add ((x7_2).toNat * 3)).block, (ad304.add ((x7_2).toNat * 3)).off + 2, none⟩ = some (.slice A304_2 ((rd_T37 l2 x7_2).f2).length c304_2) ∧ w'.cell? (ad304.add ((x7_2).toNat * 3)) = some (.string ((rd_T37 l2 x7_2).f0)) ∧ w'.cell? ⟨(ad304.add ((x7_2).toNat * 3)).block, (ad304.add ((x7_2).toNat * 3)).off + 1, none⟩ = some (.int .i64 ((rd_T37 l2 x7_2).f1)) ∧ w'.cell? ⟨(ad304.add ((x7_2).toNat * 3)).block, (ad304.add ((x7_2).toNat * 3)).off + 2, none⟩ = some (.slice A304_2 ((rd_T37 l2 x7_2).f2).length c304_2)) (ds := []) #[false, false, false, false, false, false, false, false, false, false, false, false, false] (by kernel_rfl) rfl rfl ⟨((HB.out.cell (World.block_lt_of_cell? w _ hw304_0)).trans hw304_0), ((HB.out.cell (World.block_lt_of_cell? w _ hw304_1)).trans hw304_1), ((HB.out.cell (World.block_lt_of_cell? w _ hw304_2)).trans hw304_2), ((HB.out.cell (World.block_lt_of_cell? w _ hw306_0)).trans hw306_0), ((HB.out.cell (World.block_lt_of_cell? w _ hw306_1)).trans hw306_1), ((HB.out.cell (World.block_lt_of_cell? w _ hw306_2)).trans hw306_2)⟩ (fun hHeld => ?_); refine with_tabW triremelaw05_LabelsMeets.tab8 triremelaw05_LabelsMeets.bits8 (fun HT_ HW_ => ?_)
                          generalize wc.drew = w39 at HB HR304_2 HR306_2 hx304_0 hx304_1 hx304_2 hx306_0 hx306_1 hx306_2 hHeld ⊢
                          refine pure_ (i := 0) (N := some 53) (v := ?_) (a' := ?_) #[true, false, false, false, false, false, false, false, false, false, false, false, false] rfl rfl (any_of HT_.out (by kernel_rfl)) (fun _ _ _ h => h) (Or.inl ⟨by rfl, ?_⟩) ?_ ?_
                          rotate_left
                          · intro w'
                            go_simp
                            with_reducible rfl
                          rotate_left
                          · simp only [Act.put, List.setIfInBounds_toArray, List.set_cons_zero, List.set_cons_succ, i64_w, i32_w]
                            rfl
                          refine pure_ (i := 1) (N := some 54) (v := ?_) (a' := ?_) #[true, true, false, false, false, false, false, false, false, false, false, false, false] rfl rfl (any_of HT_.out (by kernel_rfl)) (fun _ _ _ h => h) (Or.inl ⟨by rfl, ?_⟩) ?_ ?_
                          rotate_left
                          · intro w'
                            go_simp
                            with_reducible rfl
                          rotate_left
                          · simp only [Act.put, List.setIfInBounds_toArray, List.set_cons_zero, List.set_cons_succ, i64_w, i32_w]
                            rfl
                          refine pure_ (i := 2) (N := some 55) (v := ?_) (a' := ?_) #[true, true, true, false, false, false, false, false, false, false, false, false, false] rfl rfl (any_of HT_.out (by kernel_rfl)) (fun _ _ _ h => h) (Or.inl ⟨by rfl, ?_⟩) ?_ ?_
                          rotate_left
                          · intro w'
                            go_simp
                            with_reducible rfl
                          rotate_left
                          · simp only [Act.put, List.setIfInBounds_toArray, List.set_cons_zero, List.set_cons_succ, i64_w, i32_w]
                            rfl
                          refine pure_ (i := 3) (N := some 56) (v := ?_) (a' := ?_) #[true, true, true, true, false, false, false, false, false, false, false, false, false] rfl rfl (any_of HT_.out (by kernel_rfl)) (fun _ _ _ h => h) (Or.inl ⟨by rfl, ?_⟩) ?_ ?_
                          rotate_left
                          · intro w'
                            go_simp
                            with_reducible rfl
                          rotate_left
                          · simp only [Act.put, List.setIfInBounds_toArray, List.set_cons_zero, List.set_cons_succ, i64_w, i32_w]
                            rfl
                          refine pure_ (i := 6) (N := some 59) (v := ?_) (a' := ?_) #[true, true, true, true, false, false, true, false, false, false, false, false, false] rfl rfl (any_of HT_.out (by kernel_rfl)) (fun _ _ _ h => h) (Or.inl ⟨by rfl, ?_⟩) ?_ ?_
                          rotate_left
                          · intro w'
                            go_simp
                            with_reducible rfl
                          rotate_left
                          · simp only [Act.put, List.setIfInBounds_toArray, List.set_cons_zero, List.set_cons_succ, i64_w, i32_w]
                            rfl
                          refine pure_ (i := 7) (N := some 60) (v := ?_) (a' := ?_) #[true, true, true, true, false, false, true, true, false, false, false, false, false] rfl rfl (any_of HT_.out (by kernel_rfl)) (fun _ _ _ h => h) (Or.inl ⟨by rfl, ?_⟩) ?_ ?_
                          rotate_left
                          · intro w'
                            go_simp
                            with_reducible rfl
                          rotate_left
                          · simp only [Act.put, List.setIfInBounds_toArray, List.set_cons_zero, List.set_cons_succ, i64_w, i32_w]
                            rfl
                          refine pure_ (i := 8) (N := some 61) (v := ?_) (a' := ?_) #[true, true, true, true, false, false, true, true, true, false, false, false, false] rfl rfl (any_of HT_.out (by kernel_rfl)) (fun _ _ _ h => h) (Or.inl ⟨by rfl, ?_⟩) ?_ ?_
                          rotate_left
                          · intro w'
                            go_simp
                            with_reducible rfl
                          rotate_left
                          · simp only [Act.put, List.setIfInBounds_toArray, List.set_cons_zero, List.set_cons_succ, i64_w, i32_w]
                            rfl
                          refine pure_ (i := 9) (N := some 62) (v := ?_) (a' := ?_) #[true, true, true, true, false, false, true, true, true, true, false, false, false] rfl rfl (any_of HT_.out (by kernel_rfl)) (fun _ _ _ h => h) (Or.inl ⟨by rfl, ?_⟩) ?_ ?_
                          rotate_left
                          · intro w'
                            go_simp
                            with_reducible rfl
                          rotate_left
                          · simp only [Act.put, List.setIfInBounds_toArray, List.set_cons_zero, List.set_cons_succ, i64_w, i32_w]
                            rfl
                          refine take_ (i := 4) (N := some 57) (v := ?_) (a' := ?_) #[true, true, true, true, true, false, true, true, true, true, false, false, false] rfl rfl (take_ofW HT_.out HW_.out (by kernel_rfl)) (fun _ _ _ h => h) (Or.inl ⟨by rfl, ?_⟩) hHeld ?_ ?_
                          rotate_left
                          · rintro w' ⟨s0, s1, s2, s3, s4, s5⟩
                            go_simp
                            with_reducible rfl
                          rotate_left
                          · simp only [Act.put, List.setIfInBounds_toArray, List.set_cons_zero, List.set_cons_succ, i64_w, i32_w]
                            rfl
                          refine take_ (i := 10) (N := some 63) (v := ?_) (a' := ?_) #[true, true, true, true, true, false, true, true, true, true, true, false, false] rfl rfl (take_ofW HT_.out HW_.out (by kernel_rfl)) (fun _ _ _ h => h) (Or.inl ⟨by rfl, ?_⟩) hHeld ?_ ?_
                          rotate_left
                          · rintro w' ⟨s0, s1, s2, s3, s4, s5⟩
                            go_simp
                            with_reducible rfl
                          rotate_left
                          · simp only [Act.put, List.setIfInBounds_toArray, List.set_cons_zero, List.set_cons_succ, i64_w, i32_w]
                            rfl
                          refine one_ (i := 5) (N := some 58) #[true, true, true, true, true, true, true, true, true, true, true, false, false] rfl rfl (one_of HT_.out (by kernel_rfl)) (by decide) (fun K hK => ?_)
                          refine goes_ Try.func17 (by kernel_rfl) rfl #[.slice A0 l0.length c0, .agg #[.string ((rd_T37 l2 x7_2).f0), .int .i64 ((rd_T37 l2 x7_2).f1), .slice A304_2 ((rd_T37 l2 x7_2).f2).length c304_2]] (by rfl) rfl rfl (by (try simp only [List.map_toArray, List.map_cons, List.map_nil]); first | done | rfl | (simp only [List.length_drop, List.length_take]; rfl)) ?_
                          with_reducible refine (labels_Meets.calls kj19 _ _ l0 ((rd_T37 l2 x7_2).f0) ((rd_T37 l2 x7_2).f1) _ _ ((rd_T37 l2 x7_2).f2) t305 _ ?side1 ?side2 ?side3 ?side4 A33.out).mono ?_
                          (case side1 => repeat (first | exact (Kd.C_below HR0.out HB.out) | (with_reducible refine Kd.C_alloc ?_ _) | (with_reducible refine Kd.C_drewN ?_ _) | (with_reducible refine Kd.C_drew ?_)))
                          (case side2 => exact HC0.out)
                          (case side3 => repeat (first | exact (Kd.C_below HR304_2.out HB.out) | (with_reducible refine Kd.C_alloc ?_ _) | (with_reducible refine Kd.C_drewN ?_ _) | (with_reducible refine Kd.C_drew ?_)))
                          (case side4 => exact HC304_2.out)
                          rintro e w40 ⟨rfl, hb⟩
                          refine ⟨_, rfl, ?_⟩
                          have n0_ := Aside0.mk (below_step (by repeat (first | (with_reducible first | exact HB.out | apply below_alloc | apply pw_below_drewN | apply below_drew1) | exact HB.out)) hb)
                          clear HB
                          have HB := n0_
                          clear n0_
                          (try clear hb)
                          (try clear hb2)
                          (try clear hk)
                          (try clear hi)
                          refine hK.out _ _ ⟨((HB.out.cell (World.block_lt_of_cell? w _ hw304_0)).trans hw304_0), ((HB.out.cell (World.block_lt_of_cell? w _ hw304_1)).trans hw304_1), ((HB.out.cell (World.block_lt_of_cell? w _ hw304_2)).trans hw304_2), ((HB.out.cell (World.block_lt_of_cell? w _ hw306_0)).trans hw306_0), ((HB.out.cell (World.block_lt_of_cell? w _ hw306_1)).trans hw306_1), ((HB.out.cell (World.block_lt_of_cell? w _ hw306_2)).trans hw306_2)⟩ (fun hHeld => ?_)
                          clear hK K
                          refine norm_ (a' := ?_) ?_ ?_
                          rotate_left
                          · show Act.put _ (some 58) _ = _
                            simp only [Act.put, List.setIfInBounds_toArray, List.set_cons_zero, List.set_cons_succ, i64_w, i32_w]
                            rfl
                          refine one_ (i := 11) (N := some 64) #[true, true, true, true, true, true, true, true, true, true, true, true, false] rfl rfl (one_of HT_.out (by kernel_rfl)) (by decide) (fun K hK => ?_)
                          refine goes_ Try.func18 (by kernel_rfl) rfl #[.slice A0 l0.length c0, .agg #[.string ((rd_T37 l2 x7_2).f0), .int .i64 ((rd_T37 l2 x7_2).f1), .slice A304_2 ((rd_T37 l2 x7_2).f2).length c304_2]] (by rfl) rfl rfl (by (try simp only [List.map_toArray, List.map_cons, List.map_nil]); first | done | rfl | (simp only [List.length_drop, List.length_take]; rfl)) ?_
                          with_reducible refine (triremeref05_Meets.calls kj19 _ _ l0 ((rd_T37 l2 x7_2).f0) ((rd_T37 l2 x7_2).f1) _ _ ((rd_T37 l2 x7_2).f2) t307 _ ?side1 ?side2 ?side3 ?side4 A34.out).mono ?_
                          (case side1 => repeat (first | exact (Kd.C_below HR0.out HB.out) | (with_reducible refine Kd.C_alloc ?_ _) | (with_reducible refine Kd.C_drewN ?_ _) | (with_reducible refine Kd.C_drew ?_)))
                          (case side2 => exact HC0.out)
                          (case side3 => repeat (first | exact (Kd.C_below HR306_2.out HB.out) | (with_reducible refine Kd.C_alloc ?_ _) | (with_reducible refine Kd.C_drewN ?_ _) | (with_reducible refine Kd.C_drew ?_)))
                          (case side4 => exact HC306_2.out)
                          rintro e w41 ⟨rfl, hb⟩
                          refine ⟨_, rfl, ?_⟩
                          have n0_ := Aside0.mk (below_step (by repeat (first | (with_reducible first | exact HB.out | apply below_alloc | apply pw_below_drewN | apply below_drew1) | exact HB.out)) hb)
                          clear HB
                          have HB := n0_
                          clear n0_
                          (try clear hb)
                          (try clear hb2)
                          (try clear hk)
                          (try clear hi)
                          refine hK.out _ _ ⟨((HB.out.cell (World.block_lt_of_cell? w _ hw304_0)).trans hw304_0), ((HB.out.cell (World.block_lt_of_cell? w _ hw304_1)).trans hw304_1), ((HB.out.cell (World.block_lt_of_cell? w _ hw304_2)).trans hw304_2), ((HB.out.cell (World.block_lt_of_cell? w _ hw306_0)).trans hw306_0), ((HB.out.cell (World.block_lt_of_cell? w _ hw306_1)).trans hw306_1), ((HB.out.cell (World.block_lt_of_cell? w _ hw306_2)).trans hw306_2)⟩ (fun hHeld => ?_)
                          clear hK K
                          refine norm_ (a' := ?_) ?_ ?_
                          rotate_left
                          · show Act.put _ (some 64) _ = _
                            simp only [Act.put, List.setIfInBounds_toArray, List.set_cons_zero, List.set_cons_succ, i64_w, i32_w]
                            rfl
                          refine pure_ (i := 12) (N := some 65) (v := ?_) (a' := ?_) #[true, true, true, true, true, true, true, true, true, true, true, true, true] rfl rfl (any_of HT_.out (by kernel_rfl)) (fun _ _ _ h => h) (Or.inl ⟨by rfl, ?_⟩) ?_ ?_
                          rotate_left
                          · intro w'
                            go_simp
                            with_reducible rfl
                          rotate_left
                          · simp only [Act.put, List.setIfInBounds_toArray, List.set_cons_zero, List.set_cons_succ, i64_w, i32_w]
                            rfl
                          refine done_ (done_of HT_.out (by kernel_rfl)) ?_
                          try go_wp2
                          go_roundg kj19
                          case measure => have := HJ3.out; have := HK2.out; have := HJ19.out; omega
                          case rel => exact ⟨(wrap64 (x7_2 + 1)), (by first | rfl | (simp; done) | (simp [*]; done)), H', ⟨by have := HJ3.out; have := HK2.out; have := HJ19.out; omega⟩, ⟨by repeat (first | (with_reducible first | exact HB.out | apply below_alloc | apply pw_below_drewN | apply below_drew1) | exact HB.out)⟩⟩
                      · rw [if_neg c32] at H
                        exact absurd H (by simp)
                    · rw [if_neg c31] at H
                      exact absurd H (by simp)
            · rw [if_neg c19] at H
              have c19b0 : decide (x7_2 < (l2.length : Int)) = false := decide_eq_false c19
              clear c19
              replace H := Option.bind_eq_some_iff.mp H
              obtain ⟨t308, A420, H⟩ := H
              replace H : ((triremeref05_Has.f k2 l0 l1).bind fun t309 => (if (t308 == t309) = true then ((labels_All.f k2 l0 l2).bind fun t310 => ((triremeref05_All.f k2 l0 l2).bind fun t311 => (if (t310 == t311) = true then ((triremelaw05_known.f).bind fun t312 => (some t312)) else (some false)))) else (some false))) = some r := H
              have A42 := Aside0.mk A420
              clear A420
              replace H := Option.bind_eq_some_iff.mp H
              obtain ⟨t309, A430, H⟩ := H
              replace H : (if (t308 == t309) = true then ((labels_All.f k2 l0 l2).bind fun t310 => ((triremeref05_All.f k2 l0 l2).bind fun t311 => (if (t310 == t311) = true then ((triremelaw05_known.f).bind fun t312 => (some t312)) else (some false)))) else (some false)) = some r := H
              have A43 := Aside0.mk A430
              clear A430
              by_cases c44 : (t308 == t309) = true
              · rw [if_pos c44] at H
                have c44b0 : (t308 == t309) = true := c44
                (try (have c44b1 : decide (t308 = t309) = true := by simpa using c44))
                (try (have c44b2 : (t308 == t309) = true := by simpa using c44))
                clear c44
                replace H := Option.bind_eq_some_iff.mp H
                obtain ⟨t310, A450, H⟩ := H
                replace H : ((triremeref05_All.f k2 l0 l2).bind fun t311 => (if (t310 == t311) = true then ((triremelaw05_known.f).bind fun t312 => (some t312)) else (some false))) = some r := H
                have A45 := Aside0.mk A450
                clear A450
                replace H := Option.bind_eq_some_iff.mp H
                obtain ⟨t311, A460, H⟩ := H
                replace H : (if (t310 == t311) = true then ((triremelaw05_known.f).bind fun t312 => (some t312)) else (some false)) = some r := H
                have A46 := Aside0.mk A460
                clear A460
                by_cases c47 : (t310 == t311) = true
                · rw [if_pos c47] at H
                  have c47b0 : (t310 == t311) = true := c47
                  (try (have c47b1 : decide (t310 = t311) = true := by simpa using c47))
                  (try (have c47b2 : (t310 == t311) = true := by simpa using c47))
                  clear c47
                  replace H := Option.bind_eq_some_iff.mp H
                  obtain ⟨t312, A480, H⟩ := H
                  replace H : (some t312) = some r := H
                  have A48 := Aside0.mk A480
                  clear A480
                  obtain rfl := Option.some.inj H
                  go_wp2_with (first | ((first | ((with_reducible refine gate_callee (f := 19) rfl ?_); refine goesL_ (some 68) rfl rfl Try.func19 (by kernel_rfl) rfl #[.slice A0 l0.length c0, .slice A1 l1.length c1] rfl (by (try simp only [List.map_toArray, List.map_cons, List.map_nil]); first | done | rfl | (simp only [List.length_drop, List.length_take]; rfl)) ?_; (with_reducible refine (labels_Has.calls k2 _ _ l0 _ _ l1 t308 _ ?side1 ?side2 ?side3 ?side4 A42.out).mono ?_); (case side1 => repeat (first | exact (Kd.C_below HR0.out HB.out) | (with_reducible refine Kd.C_alloc ?_ _) | (with_reducible refine Kd.C_drewN ?_ _) | (with_reducible refine Kd.C_drew ?_))); (case side2 => exact HC0.out); (case side3 => repeat (first | exact (Kd.C_below HR1.out HB.out) | (with_reducible refine Kd.C_alloc ?_ _) | (with_reducible refine Kd.C_drewN ?_ _) | (with_reducible refine Kd.C_drew ?_))); (case side4 => exact HC1.out); rintro e w49 ⟨rfl, hb⟩; refine ⟨_, rfl, ?_⟩) | (go_at_call 19; (with_reducible refine (labels_Has.calls k2 _ _ l0 _ _ l1 t308 _ ?side1 ?side2 ?side3 ?side4 A42.out).mono ?_); (case side1 => repeat (first | exact (Kd.C_below HR0.out HB.out) | (with_reducible refine Kd.C_alloc ?_ _) | (with_reducible refine Kd.C_drewN ?_ _) | (with_reducible refine Kd.C_drew ?_))); (case side2 => exact HC0.out); (case side3 => repeat (first | exact (Kd.C_below HR1.out HB.out) | (with_reducible refine Kd.C_alloc ?_ _) | (with_reducible refine Kd.C_drewN ?_ _) | (with_reducible refine Kd.C_drew ?_))); (case side4 => exact HC1.out); rintro e w49 ⟨rfl, hb⟩)); have n0_ := Aside0.mk (below_step (by repeat (first | (with_reducible first | exact HB.out | apply below_alloc | apply pw_below_drewN | apply below_drew1) | exact HB.out)) hb); clear HB; have HB := n0_; clear n0_; (try clear hb); (try clear hb2); (try clear hk); (try clear hi)) | ((first | ((with_reducible refine gate_callee (f := 20) rfl ?_); refine goesL_ (some 71) rfl rfl Try.func20 (by kernel_rfl) rfl #[.slice A0 l0.length c0, .slice A1 l1.length c1] rfl (by (try simp only [List.map_toArray, List.map_cons, List.map_nil]); first | done | rfl | (simp only [List.length_drop, List.length_take]; rfl)) ?_; (with_reducible refine (triremeref05_Has.calls k2 _ _ l0 _ _ l1 t309 _ ?side1 ?side2 ?side3 ?side4 A43.out).mono ?_); (case side1 => repeat (first | exact (Kd.C_below HR0.out HB.out) | (with_reducible refine Kd.C_alloc ?_ _) | (with_reducible refine Kd.C_drewN ?_ _) | (with_reducible refine Kd.C_drew ?_))); (case side2 => exact HC0.out); (case side3 => repeat (first | exact (Kd.C_below HR1.out HB.out) | (with_reducible refine Kd.C_alloc ?_ _) | (with_reducible refine Kd.C_drewN ?_ _) | (with_reducible refine Kd.C_drew ?_))); (case side4 => exact HC1.out); rintro e w' ⟨rfl, ⟨nd, rfl⟩⟩; refine ⟨_, rfl, ?_⟩) | (go_at_call 20; (with_reducible refine (triremeref05_Has.calls k2 _ _ l0 _ _ l1 t309 _ ?side1 ?side2 ?side3 ?side4 A43.out).mono ?_); (case side1 => repeat (first | exact (Kd.C_below HR0.out HB.out) | (with_reducible refine Kd.C_alloc ?_ _) | (with_reducible refine Kd.C_drewN ?_ _) | (with_reducible refine Kd.C_drew ?_))); (case side2 => exact HC0.out); (case side3 => repeat (first | exact (Kd.C_below HR1.out HB.out) | (with_reducible refine Kd.C_alloc ?_ _) | (with_reducible refine Kd.C_drewN ?_ _) | (with_reducible refine Kd.C_drew ?_))); (case side4 => exact HC1.out); rintro e w' ⟨rfl, ⟨nd, rfl⟩⟩))) | (go_at_call 21; (with_reducible refine (labels_All.calls k2 _ _ l0 _ _ l2 t310 _ ?side1 ?side2 ?side3 ?side4 A45.out).mono ?_); (case side1 => repeat (first | exact (Kd.C_below HR0.out (by repeat (first | (with_reducible first | exact HB.out | apply below_alloc | apply pw_below_drewN | apply below_drew1) | exact HB.out))) | (with_reducible refine Kd.C_alloc ?_ _) | (with_reducible refine Kd.C_drewN ?_ _) | (with_reducible refine Kd.C_drew ?_))); (case side2 => exact HC0.out); (case side3 => repeat (first | exact (Kd.C_below HR2.out (by repeat (first | (with_reducible first | exact HB.out | apply below_alloc | apply pw_below_drewN | apply below_drew1) | exact HB.out))) | (with_reducible refine Kd.C_alloc ?_ _) | (with_reducible refine Kd.C_drewN ?_ _) | (with_reducible refine Kd.C_drew ?_))); (case side4 => exact HC2.out); rintro e w50 ⟨rfl, hb⟩; have n0_ := Aside0.mk (below_step (by repeat (first | (with_reducible first | exact HB.out | apply below_alloc | apply pw_below_drewN | apply below_drew1) | exact HB.out)) hb); clear HB; have HB := n0_; clear n0_; (try clear hb); (try clear hb2); (try clear hk); (try clear hi)) | (go_at_call 22; (with_reducible refine (triremeref05_All.calls k2 _ _ l0 _ _ l2 t311 _ ?side1 ?side2 ?side3 ?side4 A46.out).mono ?_); (case side1 => repeat (first | exact (Kd.C_below HR0.out HB.out) | (with_reducible refine Kd.C_alloc ?_ _) | (with_reducible refine Kd.C_drewN ?_ _) | (with_reducible refine Kd.C_drew ?_))); (case side2 => exact HC0.out); (case side3 => repeat (first | exact (Kd.C_below HR2.out HB.out) | (with_reducible refine Kd.C_alloc ?_ _) | (with_reducible refine Kd.C_drewN ?_ _) | (with_reducible refine Kd.C_drew ?_))); (case side4 => exact HC2.out); rintro e w51 ⟨rfl, hb⟩; have n0_ := Aside0.mk (below_step (by repeat (first | (with_reducible first | exact HB.out | apply below_alloc | apply pw_below_drewN | apply below_drew1) | exact HB.out)) hb); clear HB; have HB := n0_; clear n0_; (try clear hb); (try clear hb2); (try clear hk); (try clear hi)) | (go_at_call 7; (with_reducible refine (triremelaw05_known.calls  t312 _ A48.out).mono ?_); rintro e w52 ⟨rfl, hb⟩; have n0_ := Aside0.mk (below_step (by repeat (first | (with_reducible first | exact HB.out | apply below_alloc | apply pw_below_drewN | apply below_drew1) | exact HB.out)) hb); clear HB; have HB := n0_; clear n0_; (try clear hb); (try clear hb2); (try clear hk); (try clear hi)))
                  go_ret
                  exact ⟨by first | rfl | (simp [errW_none, errW_some] <;> rfl) | (simp [*, errW_none, errW_some] <;> rfl), by repeat (first | (with_reducible first | exact HB.out | apply below_alloc | apply pw_below_drewN | apply below_drew1) | exact HB.out)⟩
                · rw [if_neg c47] at H
                  have c47b0 : (t310 == t311) = false := by simpa using c47
                  (try (have c47b1 : decide (t310 = t311) = false := by simpa using c47))
                  (try (have c47b2 : (t310 == t311) = false := by simpa using c47))
                  (try (have c47b3 : ¬ (t310 = t311) := by simpa using c47))
                  clear c47
                  obtain rfl := Option.some.inj H
                  go_wp2_with (first | ((first | ((with_reducible refine gate_callee (f := 19) rfl ?_); refine goesL_ (some 68) rfl rfl Try.func19 (by kernel_rfl) rfl #[.slice A0 l0.length c0, .slice A1 l1.length c1] rfl (by (try simp only [List.map_toArray, List.map_cons, List.map_nil]); first | done | rfl | (simp only [List.length_drop, List.length_take]; rfl)) ?_; (with_reducible refine (labels_Has.calls k2 _ _ l0 _ _ l1 t308 _ ?side1 ?side2 ?side3 ?side4 A42.out).mono ?_); (case side1 => repeat (first | exact (Kd.C_below HR0.out HB.out) | (with_reducible refine Kd.C_alloc ?_ _) | (with_reducible refine Kd.C_drewN ?_ _) | (with_reducible refine Kd.C_drew ?_))); (case side2 => exact HC0.out); (case side3 => repeat (first | exact (Kd.C_below HR1.out HB.out) | (with_reducible refine Kd.C_alloc ?_ _) | (with_reducible refine Kd.C_drewN ?_ _) | (with_reducible refine Kd.C_drew ?_))); (case side4 => exact HC1.out); rintro e w53 ⟨rfl, hb⟩; refine ⟨_, rfl, ?_⟩) | (go_at_call 19; (with_reducible refine (labels_Has.calls k2 _ _ l0 _ _ l1 t308 _ ?side1 ?side2 ?side3 ?side4 A42.out).mono ?_); (case side1 => repeat (first | exact (Kd.C_below HR0.out HB.out) | (with_reducible refine Kd.C_alloc ?_ _) | (with_reducible refine Kd.C_drewN ?_ _) | (with_reducible refine Kd.C_drew ?_))); (case side2 => exact HC0.out); (case side3 => repeat (first | exact (Kd.C_below HR1.out HB.out) | (with_reducible refine Kd.C_alloc ?_ _) | (with_reducible refine Kd.C_drewN ?_ _) | (with_reducible refine Kd.C_drew ?_))); (case side4 => exact HC1.out); rintro e w53 ⟨rfl, hb⟩)); have n0_ := Aside0.mk (below_step (by repeat (first | (with_reducible first | exact HB.out | apply below_alloc | apply pw_below_drewN | apply below_drew1) | exact HB.out)) hb); clear HB; have HB := n0_; clear n0_; (try clear hb); (try clear hb2); (try clear hk); (try clear hi)) | ((first | ((with_reducible refine gate_callee (f := 20) rfl ?_); refine goesL_ (some 71) rfl rfl Try.func20 (by kernel_rfl) rfl #[.slice A0 l0.length c0, .slice A1 l1.length c1] rfl (by (try simp only [List.map_toArray, List.map_cons, List.map_nil]); first | done | rfl | (simp only [List.length_drop, List.length_take]; rfl)) ?_; (with_reducible refine (triremeref05_Has.calls k2 _ _ l0 _ _ l1 t309 _ ?side1 ?side2 ?side3 ?side4 A43.out).mono ?_); (case side1 => repeat (first | exact (Kd.C_below HR0.out HB.out) | (with_reducible refine Kd.C_alloc ?_ _) | (with_reducible refine Kd.C_drewN ?_ _) | (with_reducible refine Kd.C_drew ?_))); (case side2 => exact HC0.out); (case side3 => repeat (first | exact (Kd.C_below HR1.out HB.out) | (with_reducible refine Kd.C_alloc ?_ _) | (with_reducible refine Kd.C_drewN ?_ _) | (with_reducible refine Kd.C_drew ?_))); (case side4 => exact HC1.out); rintro e w' ⟨rfl, ⟨nd, rfl⟩⟩; refine ⟨_, rfl, ?_⟩) | (go_at_call 20; (with_reducible refine (triremeref05_Has.calls k2 _ _ l0 _ _ l1 t309 _ ?side1 ?side2 ?side3 ?side4 A43.out).mono ?_); (case side1 => repeat (first | exact (Kd.C_below HR0.out HB.out) | (with_reducible refine Kd.C_alloc ?_ _) | (with_reducible refine Kd.C_drewN ?_ _) | (with_reducible refine Kd.C_drew ?_))); (case side2 => exact HC0.out); (case side3 => repeat (first | exact (Kd.C_below HR1.out HB.out) | (with_reducible refine Kd.C_alloc ?_ _) | (with_reducible refine Kd.C_drewN ?_ _) | (with_reducible refine Kd.C_drew ?_))); (case side4 => exact HC1.out); rintro e w' ⟨rfl, ⟨nd, rfl⟩⟩))) | (go_at_call 21; (with_reducible refine (labels_All.calls k2 _ _ l0 _ _ l2 t310 _ ?side1 ?side2 ?side3 ?side4 A45.out).mono ?_); (case side1 => repeat (first | exact (Kd.C_below HR0.out (by repeat (first | (with_reducible first | exact HB.out | apply below_alloc | apply pw_below_drewN | apply below_drew1) | exact HB.out))) | (with_reducible refine Kd.C_alloc ?_ _) | (with_reducible refine Kd.C_drewN ?_ _) | (with_reducible refine Kd.C_drew ?_))); (case side2 => exact HC0.out); (case side3 => repeat (first | exact (Kd.C_below HR2.out (by repeat (first | (with_reducible first | exact HB.out | apply below_alloc | apply pw_below_drewN | apply below_drew1) | exact HB.out))) | (with_reducible refine Kd.C_alloc ?_ _) | (with_reducible refine Kd.C_drewN ?_ _) | (with_reducible refine Kd.C_drew ?_))); (case side4 => exact HC2.out); rintro e w54 ⟨rfl, hb⟩; have n0_ := Aside0.mk (below_step (by repeat (first | (with_reducible first | exact HB.out | apply below_alloc | apply pw_below_drewN | apply below_drew1) | exact HB.out)) hb); clear HB; have HB := n0_; clear n0_; (try clear hb); (try clear hb2); (try clear hk); (try clear hi)) | (go_at_call 22; (with_reducible refine (triremeref05_All.calls k2 _ _ l0 _ _ l2 t311 _ ?side1 ?side2 ?side3 ?side4 A46.out).mono ?_); (case side1 => repeat (first | exact (Kd.C_below HR0.out HB.out) | (with_reducible refine Kd.C_alloc ?_ _) | (with_reducible refine Kd.C_drewN ?_ _) | (with_reducible refine Kd.C_drew ?_))); (case side2 => exact HC0.out); (case side3 => repeat (first | exact (Kd.C_below HR2.out HB.out) | (with_reducible refine Kd.C_alloc ?_ _) | (with_reducible refine Kd.C_drewN ?_ _) | (with_reducible refine Kd.C_drew ?_))); (case side4 => exact HC2.out); rintro e w55 ⟨rfl, hb⟩; have n0_ := Aside0.mk (below_step (by repeat (first | (with_reducible first | exact HB.out | apply below_alloc | apply pw_below_drewN | apply below_drew1) | exact HB.out)) hb); clear HB; have HB := n0_; clear n0_; (try clear hb); (try clear hb2); (try clear hk); (try clear hi)))
                  go_ret
                  exact ⟨by first | rfl | (simp [errW_none, errW_some] <;> rfl) | (simp [*, errW_none, errW_some] <;> rfl), by repeat (first | (with_reducible first | exact HB.out | apply below_alloc | apply pw_below_drewN | apply below_drew1) | exact HB.out)⟩
              · rw [if_neg c44] at H
                have c44b0 : (t308 == t309) = false := by simpa using c44
                (try (have c44b1 : decide (t308 = t309) = false := by simpa using c44))
                (try (have c44b2 : (t308 == t309) = false := by simpa using c44))
                (try (have c44b3 : ¬ (t308 = t309) := by simpa using c44))
                clear c44
                obtain rfl := Option.some.inj H
                go_wp2_with (first | ((first | ((with_reducible refine gate_callee (f := 19) rfl ?_); refine goesL_ (some 68) rfl rfl Try.func19 (by kernel_rfl) rfl #[.slice A0 l0.length c0, .slice A1 l1.length c1] rfl (by (try simp only [List.map_toArray, List.map_cons, List.map_nil]); first | done | rfl | (simp only [List.length_drop, List.length_take]; rfl)) ?_; (with_reducible refine (labels_Has.calls k2 _ _ l0 _ _ l1 t308 _ ?side1 ?side2 ?side3 ?side4 A42.out).mono ?_); (case side1 => repeat (first | exact (Kd.C_below HR0.out HB.out) | (with_reducible refine Kd.C_alloc ?_ _) | (with_reducible refine Kd.C_drewN ?_ _) | (with_reducible refine Kd.C_drew ?_))); (case side2 => exact HC0.out); (case side3 => repeat (first | exact (Kd.C_below HR1.out HB.out) | (with_reducible refine Kd.C_alloc ?_ _) | (with_reducible refine Kd.C_drewN ?_ _) | (with_reducible refine Kd.C_drew ?_))); (case side4 => exact HC1.out); rintro e w56 ⟨rfl, hb⟩; refine ⟨_, rfl, ?_⟩) | (go_at_call 19; (with_reducible refine (labels_Has.calls k2 _ _ l0 _ _ l1 t308 _ ?side1 ?side2 ?side3 ?side4 A42.out).mono ?_); (case side1 => repeat (first | exact (Kd.C_below HR0.out HB.out) | (with_reducible refine Kd.C_alloc ?_ _) | (with_reducible refine Kd.C_drewN ?_ _) | (with_reducible refine Kd.C_drew ?_))); (case side2 => exact HC0.out); (case side3 => repeat (first | exact (Kd.C_below HR1.out HB.out) | (with_reducible refine Kd.C_alloc ?_ _) | (with_reducible refine Kd.C_drewN ?_ _) | (with_reducible refine Kd.C_drew ?_))); (case side4 => exact HC1.out); rintro e w56 ⟨rfl, hb⟩)); have n0_ := Aside0.mk (below_step (by repeat (first | (with_reducible first | exact HB.out | apply below_alloc | apply pw_below_drewN | apply below_drew1) | exact HB.out)) hb); clear HB; have HB := n0_; clear n0_; (try clear hb); (try clear hb2); (try clear hk); (try clear hi)) | ((first | ((with_reducible refine gate_callee (f := 20) rfl ?_); refine goesL_ (some 71) rfl rfl Try.func20 (by kernel_rfl) rfl #[.slice A0 l0.length c0, .slice A1 l1.length c1] rfl (by (try simp only [List.map_toArray, List.map_cons, List.map_nil]); first | done | rfl | (simp only [List.length_drop, List.length_take]; rfl)) ?_; (with_reducible refine (triremeref05_Has.calls k2 _ _ l0 _ _ l1 t309 _ ?side1 ?side2 ?side3 ?side4 A43.out).mono ?_); (case side1 => repeat (first | exact (Kd.C_below HR0.out HB.out) | (with_reducible refine Kd.C_alloc ?_ _) | (with_reducible refine Kd.C_drewN ?_ _) | (with_reducible refine Kd.C_drew ?_))); (case side2 => exact HC0.out); (case side3 => repeat (first | exact (Kd.C_below HR1.out HB.out) | (with_reducible refine Kd.C_alloc ?_ _) | (with_reducible refine Kd.C_drewN ?_ _) | (with_reducible refine Kd.C_drew ?_))); (case side4 => exact HC1.out); rintro e w' ⟨rfl, ⟨nd, rfl⟩⟩; refine ⟨_, rfl, ?_⟩) | (go_at_call 20; (with_reducible refine (triremeref05_Has.calls k2 _ _ l0 _ _ l1 t309 _ ?side1 ?side2 ?side3 ?side4 A43.out).mono ?_); (case side1 => repeat (first | exact (Kd.C_below HR0.out HB.out) | (with_reducible refine Kd.C_alloc ?_ _) | (with_reducible refine Kd.C_drewN ?_ _) | (with_reducible refine Kd.C_drew ?_))); (case side2 => exact HC0.out); (case side3 => repeat (first | exact (Kd.C_below HR1.out HB.out) | (with_reducible refine Kd.C_alloc ?_ _) | (with_reducible refine Kd.C_drewN ?_ _) | (with_reducible refine Kd.C_drew ?_))); (case side4 => exact HC1.out); rintro e w' ⟨rfl, ⟨nd, rfl⟩⟩))))
                go_ret
                exact ⟨by first | rfl | (simp [errW_none, errW_some] <;> rfl) | (simp [*, errW_none, errW_some] <;> rfl), by repeat (first | (with_reducible first | exact HB.out | apply below_alloc | apply pw_below_drewN | apply below_drew1) | exact HB.out)⟩
end Go.Proofs.Ytcnaefnlnjfjkaa.H
end
section
namespace Go.Proofs.Ytcnaefnlnjfjkaa.H
open Go.RowKit Go.Proofs.YtcnaefnlnjfjkaaW.PrintWords Go.Proofs.YtcnaefnlnjfjkaaW.PrintLast Go.Proofs.YtcnaefnlnjfjkaaW.PrintMore
attribute [local go_sem] max2_int min2_int max_two min_two max_three min_three max_four min_four   -- for this text's walks alone
set_option linter.unusedVariables false
set_option linter.unusedSimpArgs false
def Opens (P : Program) (t : TypeId) {α : Type} (d : Kd α) (ok : α → Prop) : Prop :=
  ∀ {H : Type} (enc : TypeId × Value → H) (w : World) (base fuel : Nat) (held : Bool) (cs : List Value) (x : DataW H × List MemPlace), DataW.trod enc P w base (fun _ => true) held fuel t cs = some x → (∀ n ∈ x.1.weights P t, n ≤ reachBytes) → ∃ y : α, d.K w y cs ∧ ok y
section
open Go.ChangeShapes Go.WideShapes
variable {P : Program}
theorem opens_int {t : TypeId} {k : IntKind} (ht : P.underlying t = some (.int k)) : Opens P t (Kd.int k) (fun n => (Lit.int k n).wf = true) := by
  intro H enc w base fuel held cs x h _
  obtain ⟨n, rfl, _, hw⟩ := DataW.trod_int ht h
  exact ⟨n, rfl, hw⟩
theorem opens_string {t : TypeId} (ht : P.underlying t = some .string) : Opens P t Kd.string (fun s => s.size ≤ 140737488351232) := by
  intro H enc w base fuel held cs x h hw
  obtain ⟨s, rfl, rfl, _⟩ := DataW.trod_string ht h
  refine ⟨s, rfl, ?_⟩
  have := hw s.data.toList.length (by simp [DataW.weights])
  rw [Array.length_toList] at this
  exact this
theorem list_of_lt {α : Type} {p : Nat → α → Prop} : ∀ n : Nat, (∀ i, i < n → ∃ y, p i y) → ∃ ys : List α, ys.length = n ∧ ∀ i y, ys[i]? = some y → p i y
  | 0, _ => ⟨[], rfl, fun i y h => by simp at h⟩
  | n + 1, h => by
    obtain ⟨ys, hl, hp⟩ := list_of_lt n (fun i hi => h i (Nat.lt_succ_of_lt hi))
    obtain ⟨y, hy⟩ := h n (Nat.lt_succ_self n)
    refine ⟨ys ++ [y], by simp [hl], fun i z hz => ?_⟩
    rcases Nat.lt_or_ge i ys.length with hi | hi
    · rw [List.getElem?_append_left hi] at hz
      exact hp i z hz
    · have hlt := (List.getElem?_eq_some_iff.1 hz).1
      rw [List.length_append, List.length_singleton] at hlt
      have e : i = ys.length := by omega
      subst e
      rw [List.getElem?_append_right (Nat.le_refl _)] at hz
      simp at hz
      rw [← hz, hl]
      exact hy
theorem weightsAll_in {H : Type} {e : TypeId} {d : DataW H} : ∀ {l : List (DataW H)}, d ∈ l → ∀ n ∈ d.weights P e, n ∈ DataW.weightsAll P e l
  | [], h, _, _ => by cases h
  | x :: l, h, n, hn => by
    unfold DataW.weightsAll
    rcases List.mem_cons.1 h with rfl | h
    · exact List.mem_append_left _ hn
    · exact List.mem_append_right _ (weightsAll_in h n hn)
theorem opens_slice {α : Type} {d : Kd α} {ok : α → Prop} {t e : TypeId} {B : Nat} (ht : P.underlying t = some (.slice e)) (hc : P.cellsOf e = d.sz) (hB : P.bytesOf e = B) (he : Opens P e d ok) :
    Opens P t (Kd.slice e d) (fun l => l.length * B ≤ 140737488351232 ∧ ∀ y ∈ l, ok y) := by
  intro H enc w base fuel held cs x h hw
  rcases Go.Deep.open_slice ht h with ⟨rfl, rfl⟩ | ⟨a, len, cap, m, n, D, Pl, rfl, _, hl, hm, hmm, rfl, hx⟩
  · exact ⟨[], ⟨none, 0, rfl, Nat.zero_le _, Kd.C_nil _ _⟩, by simp, fun y hy => by cases hy⟩
  · have hmm' : m = cap := by rw [hmm]; rfl
    have hwt : (DataW.slice ((List.range len).map D) ((List.range (m - len)).map fun j => D (len + j))).weights P t = (((List.range len).map D).length + ((List.range (m - len)).map fun j => D (len + j)).length) * P.bytesOf e :: (DataW.weightsAll P e ((List.range len).map D) ++ DataW.weightsAll P e ((List.range (m - len)).map fun j => D (len + j))) := by
      simp [DataW.weights, ht]
    obtain ⟨ys, hyl, hy⟩ := list_of_lt (p := fun i (y : α) => (∃ cs' : List Value, w.cells? base (a.add (i * P.cellsOf e)) (P.cellsOf e) = some cs' ∧ d.K w y cs') ∧ ok y) len (fun i hi => by
      obtain ⟨cs', h1, h2⟩ := hx i (by omega)
      obtain ⟨y, h3, h4⟩ := he enc w base n held cs' _ h2 (fun q hq => hw q (by
        rw [hwt]
        exact List.mem_cons_of_mem _ (List.mem_append_left _ (weightsAll_in (List.mem_map.2 ⟨i, List.mem_range.2 hi, rfl⟩) q hq))))
      exact ⟨y, ⟨cs', h1, h3⟩, h4⟩)
    have hsz := hw ((((List.range len).map D).length + ((List.range (m - len)).map fun j => D (len + j)).length) * P.bytesOf e) (by rw [hwt]; exact List.mem_cons_self)
    rw [List.length_map, List.length_range, hB] at hsz
    have hsz2 : len * B ≤ 140737488351232 := Nat.le_trans (Nat.mul_le_mul_right _ (Nat.le_add_right _ _)) hsz
    refine ⟨ys, ⟨some a, cap, by rw [hyl], by rw [hyl]; exact hl, hyl ▸ rfl, by rw [hyl]; unfold maxLen at hm; omega, fun _ => ⟨a, rfl, fun j p hj => ?_⟩⟩, by rw [hyl]; exact hsz2, fun y hy' => ?_⟩
    · obtain ⟨⟨cs', h1, h2⟩, _⟩ := hy j p hj
      obtain ⟨_, hlen, hcell⟩ := World.cells?_some h1
      refine ⟨cs', hlen.trans hc, h2, fun i u hu => ?_⟩
      have hi : i < P.cellsOf e := by
        have := (List.getElem?_eq_some_iff.1 hu).1
        omega
      have h3 := hcell i hi
      rw [Go.Deep.add_add, hu, hc] at h3
      exact h3
    · obtain ⟨i, hi, hy'⟩ := List.mem_iff_getElem.1 hy'
      exact (hy i y (by rw [List.getElem?_eq_getElem hi, hy'])).2
theorem split_step (cs : List Value) (a s : Nat) : cs.drop a = (cs.drop a).take s ++ cs.drop (a + s) := by
  rw [← List.drop_drop]
  exact (List.take_append_drop s (cs.drop a)).symm
theorem split_last (cs : List Value) (a s : Nat) (h : cs.length ≤ a + s) : (cs.drop a).take s = cs.drop a := List.take_of_length_le (by rw [List.length_drop]; omega)
end
end Go.Proofs.Ytcnaefnlnjfjkaa.H
end
section
namespace Go.Proofs.Ytcnaefnlnjfjkaa.H
open Go.RowKit Go.Proofs.YtcnaefnlnjfjkaaW.PrintWords Go.Proofs.YtcnaefnlnjfjkaaW.PrintLast
theorem wrap_small {i : Int} (h0 : -1000000000000000000 ≤ i) (h1 : i ≤ 1000000000000000000) : wrap64 i = i := by unfold wrap64; omega
theorem get_bt (s : ByteArray) (i k : Nat) (h : i + k < s.size) : ((s.get! (i + k)).toNat : Int) = bt s ((i : Int) + (k : Int)) := by
  have e : ((i : Int) + (k : Int)).toNat = i + k := by omega
  have e2 : s.get! (i + k) = s[i + k]'h := by
    show s.get! (i + k) = _
    simp [ByteArray.get!, getElem!_pos, h]
    rfl
  rw [e2]
  unfold bt
  simp only [e]
  rw [dif_pos h]
def moreB (s : ByteArray) (i : Int) : Bool := decide (i < s.size) && (decide (bt s i ≥ 128) && decide (bt s i < 192))
theorem more_f (s : ByteArray) (i : Int) (h : 0 ≤ i) : triremeref01_more.f s i = some (moreB s i) := by
  unfold triremeref01_more.f moreB
  by_cases h1 : i < (s.size : Int) <;> by_cases h2 : bt s i ≥ 128 <;> simp [h, h1, h2]
/-- What the reference's Rune tells. -/
def runeR (s : ByteArray) (i : Int) : Int × Int :=
  let c := bt s i
  if c < 128 then (c, 1)
  else if 192 ≤ c ∧ c < 224 ∧ moreB s (i + 1) = true then
    (if (c - 192) * 64 + bt s (i + 1) - 128 ≥ 128 then ((c - 192) * 64 + bt s (i + 1) - 128, 2) else (0, 0))
  else if 224 ≤ c ∧ c < 240 ∧ moreB s (i + 1) = true ∧ moreB s (i + 2) = true then
    (if (c - 224) * 4096 + (bt s (i + 1) - 128) * 64 + bt s (i + 2) - 128 ≥ 2048 ∧ ((c - 224) * 4096 + (bt s (i + 1) - 128) * 64 + bt s (i + 2) - 128 < 55296 ∨ (c - 224) * 4096 + (bt s (i + 1) - 128) * 64 + bt s (i + 2) - 128 > 57343)
      then ((c - 224) * 4096 + (bt s (i + 1) - 128) * 64 + bt s (i + 2) - 128, 3) else (0, 0))
  else if 240 ≤ c ∧ c < 248 ∧ moreB s (i + 1) = true ∧ moreB s (i + 2) = true ∧ moreB s (i + 3) = true then
    (if (c - 240) * 262144 + (bt s (i + 1) - 128) * 4096 + (bt s (i + 2) - 128) * 64 + bt s (i + 3) - 128 ≥ 65536 ∧ (c - 240) * 262144 + (bt s (i + 1) - 128) * 4096 + (bt s (i + 2) - 128) * 64 + bt s (i + 3) - 128 ≤ 1114111
      then ((c - 240) * 262144 + (bt s (i + 1) - 128) * 4096 + (bt s (i + 2) - 128) * 64 + bt s (i + 3) - 128, 4) else (0, 0))
  else (0, 0)
theorem moreB_lt {s : ByteArray} {i : Int} (h : moreB s i = true) : i < (s.size : Int) ∧ 128 ≤ bt s i ∧ bt s i < 192 := by
  unfold moreB at h
  simp at h
  omega
theorem rune_j2 (s : ByteArray) (i c : Int) (b : Bool) (h0 : 0 ≤ i) (hs : i + 3 < 1000000000000) (hc : 0 ≤ c) (hc2 : c < 256) (hb : b = true → i + 3 < (s.size : Int)) (k : Nat) :
    triremeref01_Rune.j2 (k + 1) s i c b = some (if b = true then (if (c - 240) * 262144 + (bt s (i + 1) - 128) * 4096 + (bt s (i + 2) - 128) * 64 + bt s (i + 3) - 128 ≥ 65536 ∧ (c - 240) * 262144 + (bt s (i + 1) - 128) * 4096 + (bt s (i + 2) - 128) * 64 + bt s (i + 3) - 128 ≤ 1114111
      then ((c - 240) * 262144 + (bt s (i + 1) - 128) * 4096 + (bt s (i + 2) - 128) * 64 + bt s (i + 3) - 128, 4) else (0, 0)) else (0, 0)) := by
  have b1 := bt_range s (i + 1)
  have b2 := bt_range s (i + 2)
  have b3 := bt_range s (i + 3)
  rw [triremeref01_Rune.j2]
  cases b with
  | false => simp
  | true =>
    have h3 := hb rfl
    simp (disch := omega) only [wrap_small]
    simp only [if_true]
    rw [if_pos (by omega), if_pos (by omega), if_pos (by omega), if_pos (by omega), if_pos (by omega), if_pos (by omega)]
    repeat' split
    all_goals first | rfl | (exfalso; omega)
theorem rune_j1 (s : ByteArray) (i c : Int) (b : Bool) (h0 : 0 ≤ i) (hs : i + 3 < 1000000000000) (hc : 0 ≤ c) (hc2 : c < 256) (hb : b = true → i + 2 < (s.size : Int)) (k : Nat) :
    triremeref01_Rune.j1 (k + 2) s i c b = some (if b = true then (if (c - 224) * 4096 + (bt s (i + 1) - 128) * 64 + bt s (i + 2) - 128 ≥ 2048 ∧ ((c - 224) * 4096 + (bt s (i + 1) - 128) * 64 + bt s (i + 2) - 128 < 55296 ∨ (c - 224) * 4096 + (bt s (i + 1) - 128) * 64 + bt s (i + 2) - 128 > 57343)
      then ((c - 224) * 4096 + (bt s (i + 1) - 128) * 64 + bt s (i + 2) - 128, 3) else (0, 0))
      else if 240 ≤ c ∧ c < 248 ∧ moreB s (i + 1) = true ∧ moreB s (i + 2) = true ∧ moreB s (i + 3) = true then (if (c - 240) * 262144 + (bt s (i + 1) - 128) * 4096 + (bt s (i + 2) - 128) * 64 + bt s (i + 3) - 128 ≥ 65536 ∧ (c - 240) * 262144 + (bt s (i + 1) - 128) * 4096 + (bt s (i + 2) - 128) * 64 + bt s (i + 3) - 128 ≤ 1114111
      then ((c - 240) * 262144 + (bt s (i + 1) - 128) * 4096 + (bt s (i + 2) - 128) * 64 + bt s (i + 3) - 128, 4) else (0, 0)) else (0, 0)) := by
  have b1 := bt_range s (i + 1)
  have b2 := bt_range s (i + 2)
  rw [triremeref01_Rune.j1]
  cases b with
  | true =>
    have h3 := hb rfl
    simp (disch := omega) only [wrap_small]
    simp only [if_true]
    rw [if_pos (by omega), if_pos (by omega), if_pos (by omega), if_pos (by omega)]
    repeat' split
    all_goals first | rfl | (exfalso; omega)
  | false =>
    simp (disch := omega) only [wrap_small]
    rw [more_f s (i + 1) (by omega), more_f s (i + 2) (by omega), more_f s (i + 3) (by omega)]
    simp only [Option.bind_some, Bool.false_eq_true, if_false]
    by_cases g1 : c ≥ 240
    · rw [if_pos g1]
      by_cases g2 : c < 248
      · rw [if_pos g2]
        cases m1 : moreB s (i + 1) <;> cases m2 : moreB s (i + 2) <;> cases m3 : moreB s (i + 3) <;> simp only [Bool.false_eq_true, if_false, if_true, and_false, false_and, and_true, g2]
        all_goals rw [rune_j2 s i c _ h0 hs hc hc2 (by first | (intro h; cases h; done) | (intro _; exact (moreB_lt m3).1))]
        all_goals simp [g1]
      · rw [if_neg g2, rune_j2 s i c _ h0 hs hc hc2 (by intro h; cases h)]
        simp only [Bool.false_eq_true, if_false]
        rw [if_neg (by omega)]
    · rw [if_neg g1, rune_j2 s i c _ h0 hs hc hc2 (by intro h; cases h)]
      simp only [Bool.false_eq_true, if_false]
      rw [if_neg (by omega)]
theorem rune_f (s : ByteArray) (i : Int) (h0 : 0 ≤ i) (h1 : i < (s.size : Int)) (hs : (s.size : Int) < 100000000000) (k : Nat) : triremeref01_Rune.f (k + 3) s i = some (runeR s i) := by
  have b0 := bt_range s i
  have b1 := bt_range s (i + 1)
  unfold triremeref01_Rune.f runeR
  rw [if_pos h0, if_pos h1]
  simp (disch := omega) only [wrap_small]
  rw [more_f s (i + 1) (by omega)]
  simp only [Option.bind_some]
  by_cases g0 : bt s i < 128
  · rw [if_pos g0]; simp [g0]
  rw [if_neg g0]
  simp only [g0, if_false]
  have key : ∀ b : Bool, (b = true ↔ (192 ≤ bt s i ∧ bt s i < 224 ∧ moreB s (i + 1) = true)) → triremeref01_Rune.j0 (k + 3) s i (bt s i) b = some (if 192 ≤ bt s i ∧ bt s i < 224 ∧ moreB s (i + 1) = true then
    (if (bt s i - 192) * 64 + bt s (i + 1) - 128 ≥ 128 then ((bt s i - 192) * 64 + bt s (i + 1) - 128, 2) else (0, 0))
  else if 224 ≤ bt s i ∧ bt s i < 240 ∧ moreB s (i + 1) = true ∧ moreB s (i + 2) = true then
    (if (bt s i - 224) * 4096 + (bt s (i + 1) - 128) * 64 + bt s (i + 2) - 128 ≥ 2048 ∧ ((bt s i - 224) * 4096 + (bt s (i + 1) - 128) * 64 + bt s (i + 2) - 128 < 55296 ∨ (bt s i - 224) * 4096 + (bt s (i + 1) - 128) * 64 + bt s (i + 2) - 128 > 57343)
      then ((bt s i - 224) * 4096 + (bt s (i + 1) - 128) * 64 + bt s (i + 2) - 128, 3) else (0, 0))
  else if 240 ≤ bt s i ∧ bt s i < 248 ∧ moreB s (i + 1) = true ∧ moreB s (i + 2) = true ∧ moreB s (i + 3) = true then
    (if (bt s i - 240) * 262144 + (bt s (i + 1) - 128) * 4096 + (bt s (i + 2) - 128) * 64 + bt s (i + 3) - 128 ≥ 65536 ∧ (bt s i - 240) * 262144 + (bt s (i + 1) - 128) * 4096 + (bt s (i + 2) - 128) * 64 + bt s (i + 3) - 128 ≤ 1114111
      then ((bt s i - 240) * 262144 + (bt s (i + 1) - 128) * 4096 + (bt s (i + 2) - 128) * 64 + bt s (i + 3) - 128, 4) else (0, 0))
  else (0, 0)) := by
    intro b hb
    rw [triremeref01_Rune.j0]
    cases b with
    | true =>
      obtain ⟨g1, g2, g3⟩ := hb.1 rfl
      have hm := moreB_lt g3
      simp (disch := omega) only [wrap_small]
      simp only [if_true]
      rw [if_pos (by omega), if_pos (by omega), if_pos (show 192 ≤ bt s i ∧ bt s i < 224 ∧ moreB s (i + 1) = true from ⟨g1, g2, g3⟩)]
      split <;> rfl
    | false =>
      have hn : ¬ (192 ≤ bt s i ∧ bt s i < 224 ∧ moreB s (i + 1) = true) := fun h => by simpa using hb.2 h
      rw [if_neg hn]
      simp (disch := omega) only [wrap_small]
      rw [more_f s (i + 1) (by omega), more_f s (i + 2) (by omega)]
      simp only [Option.bind_some, Bool.false_eq_true, if_false]
      by_cases g1 : bt s i ≥ 224
      · rw [if_pos g1]
        by_cases g2 : bt s i < 240
        · rw [if_pos g2]
          have g4 : ¬ bt s i ≥ 240 := by omega
          cases m1 : moreB s (i + 1) <;> cases m2 : moreB s (i + 2) <;> simp only [Bool.false_eq_true, if_false, if_true, and_false, false_and, and_true, g2]
          all_goals rw [rune_j1 s i (bt s i) _ h0 (by omega) (by omega) (by omega) (by first | (intro h; cases h; done) | (intro _; exact (moreB_lt m2).1))]
          all_goals simp [g1, g4, m1, m2]
        · rw [if_neg g2, rune_j1 s i (bt s i) _ h0 (by omega) (by omega) (by omega) (by intro h; cases h)]
          simp only [Bool.false_eq_true, if_false]
          rw [if_neg (show ¬ (224 ≤ bt s i ∧ bt s i < 240 ∧ moreB s (i + 1) = true ∧ moreB s (i + 2) = true) by omega)]
      · rw [if_neg g1, rune_j1 s i (bt s i) _ h0 (by omega) (by omega) (by omega) (by intro h; cases h)]
        simp only [Bool.false_eq_true, if_false]
        rw [if_neg (show ¬ (224 ≤ bt s i ∧ bt s i < 240 ∧ moreB s (i + 1) = true ∧ moreB s (i + 2) = true) by omega)]
  by_cases g1 : bt s i ≥ 192
  · rw [if_pos g1]
    by_cases g2 : bt s i < 224
    · rw [if_pos g2]
      exact key _ ⟨fun h => ⟨g1, g2, h⟩, fun h => h.2.2⟩
    · rw [if_neg g2]
      exact key _ ⟨fun h => by simp at h, fun h => by omega⟩
  · rw [if_neg g1]
    exact key _ ⟨fun h => by simp at h, fun h => by omega⟩
/-- A rune that is right lies within the text. -/
theorem runeR_in (s : ByteArray) (i : Int) (h1 : i < (s.size : Int)) : (runeR s i).2 = 0 ∨ 1 ≤ (runeR s i).2 ∧ i + (runeR s i).2 ≤ s.size := by
  unfold runeR
  simp only []
  by_cases c0 : bt s i < 128
  · rw [if_pos c0]; right; exact ⟨by simp, by simp; omega⟩
  rw [if_neg c0]
  by_cases c1 : 192 ≤ bt s i ∧ bt s i < 224 ∧ moreB s (i + 1) = true
  · rw [if_pos c1]
    have h2 := moreB_lt c1.2.2
    split
    · right; exact ⟨by simp, by simp; omega⟩
    · left; rfl
  rw [if_neg c1]
  by_cases c2 : 224 ≤ bt s i ∧ bt s i < 240 ∧ moreB s (i + 1) = true ∧ moreB s (i + 2) = true
  · rw [if_pos c2]
    have h2 := moreB_lt c2.2.2.2
    split
    · right; exact ⟨by simp, by simp; omega⟩
    · left; rfl
  rw [if_neg c2]
  by_cases c3 : 240 ≤ bt s i ∧ bt s i < 248 ∧ moreB s (i + 1) = true ∧ moreB s (i + 2) = true ∧ moreB s (i + 3) = true
  · rw [if_pos c3]
    have h2 := moreB_lt c3.2.2.2.2
    split
    · right; exact ⟨by simp, by simp; omega⟩
    · left; rfl
  rw [if_neg c3]
  left; rfl
end Go.Proofs.Ytcnaefnlnjfjkaa.H
end
section
namespace Go.Proofs.Ytcnaefnlnjfjkaa.H
open Go.RowKit Go.Proofs.YtcnaefnlnjfjkaaW.PrintWords Go.Proofs.YtcnaefnlnjfjkaaW.PrintLast
def nb (s : ByteArray) (i : Nat) : Nat := (bt s (i : Int)).toNat
theorem nb_cast (s : ByteArray) (i : Nat) : (nb s i : Int) = bt s i := by unfold nb; have := bt_range s i; omega
theorem nb_lt (s : ByteArray) (i : Nat) : nb s i < 256 := by unfold nb; have := bt_range s i; omega
theorem get_nb (s : ByteArray) (i k : Nat) (h : i + k < s.size) : (s.get! (i + k)).toNat = nb s (i + k) := by
  have := get_bt s i k h
  have h2 := nb_cast s (i + k)
  push_cast at h2
  omega
theorem moreB_nb (s : ByteArray) (i : Nat) : moreB s (i : Int) = (decide (i < s.size) && (nb s i / 64 == 2)) := by
  have h := nb_cast s i
  unfold moreB
  rw [← h]
  by_cases h1 : i < s.size
  · have h2 : ((i : Int) < (s.size : Int)) := by omega
    simp only [h1, h2, decide_true, Bool.true_and]
    rw [Bool.eq_iff_iff]
    simp
    omega
  · have h2 : ¬ ((i : Int) < (s.size : Int)) := by omega
    simp [h1, h2]
theorem cont_nb (s : ByteArray) (i k : Nat) : (decide (i + k < s.size) && ((s.get! (i + k)).toNat / 64 == 2)) = moreB s ((i + k : Nat) : Int) := by
  rw [moreB_nb]
  by_cases h : i + k < s.size
  · rw [get_nb s i k h]
  · simp [h]
/-- The model's own decoder, by the bytes. -/
theorem decode_nb (s : ByteArray) (i : Nat) (hi : i < s.size) : Utf8.decode s i =
    (if nb s i < 128 then (nb s i, 1)
    else if (nb s i / 32 == 6 && moreB s ((i + 1 : Nat) : Int)) = true then
      (if (nb s i % 32) * 64 + nb s (i + 1) % 64 ≥ 128 then ((nb s i % 32) * 64 + nb s (i + 1) % 64, 2) else (65533, 1))
    else if (nb s i / 16 == 14 && moreB s ((i + 1 : Nat) : Int) && moreB s ((i + 2 : Nat) : Int)) = true then
      (if (decide ((nb s i % 16) * 4096 + (nb s (i + 1) % 64) * 64 + nb s (i + 2) % 64 ≥ 2048) && Utf8.valid (((nb s i % 16) * 4096 + (nb s (i + 1) % 64) * 64 + nb s (i + 2) % 64 : Nat) : Int)) = true then ((nb s i % 16) * 4096 + (nb s (i + 1) % 64) * 64 + nb s (i + 2) % 64, 3) else (65533, 1))
    else if (nb s i / 8 == 30 && moreB s ((i + 1 : Nat) : Int) && moreB s ((i + 2 : Nat) : Int) && moreB s ((i + 3 : Nat) : Int)) = true then
      (if (decide ((nb s i % 8) * 262144 + (nb s (i + 1) % 64) * 4096 + (nb s (i + 2) % 64) * 64 + nb s (i + 3) % 64 ≥ 65536) && Utf8.valid (((nb s i % 8) * 262144 + (nb s (i + 1) % 64) * 4096 + (nb s (i + 2) % 64) * 64 + nb s (i + 3) % 64 : Nat) : Int)) = true then ((nb s i % 8) * 262144 + (nb s (i + 1) % 64) * 4096 + (nb s (i + 2) % 64) * 64 + nb s (i + 3) % 64, 4) else (65533, 1))
    else (65533, 1)) := by
  have g0 := get_nb s i 0 hi
  simp only [Nat.add_zero] at g0
  unfold Utf8.decode
  simp only [cont_nb, g0, Nat.add_zero, Utf8.runeError]
  by_cases h1 : i + 1 < s.size
  · have g1 := get_nb s i 1 h1
    by_cases h2 : i + 2 < s.size
    · have g2 := get_nb s i 2 h2
      by_cases h3 : i + 3 < s.size
      · have g3 := get_nb s i 3 h3
        simp only [g1, g2, g3]
      · have m3 : moreB s ((i + 3 : Nat) : Int) = false := by rw [moreB_nb]; simp [h3]
        simp only [g1, g2, m3, Bool.and_false, Bool.false_eq_true, if_false]
    · have m2 : moreB s ((i + 2 : Nat) : Int) = false := by rw [moreB_nb]; simp [h2]
      simp only [g1, m2, Bool.and_false, Bool.false_and, Bool.false_eq_true, if_false]
  · have m1 : moreB s ((i + 1 : Nat) : Int) = false := by rw [moreB_nb]; simp [h1]
    simp only [m1, Bool.and_false, Bool.false_and, Bool.false_eq_true, if_false]
theorem valid_iff (c : Nat) : Utf8.valid (c : Int) = (decide (c < 55296) || (decide (57344 ≤ c) && decide (c ≤ 1114111))) := by
  unfold Utf8.valid
  rw [Bool.eq_iff_iff]
  simp
  omega
/-- Arithmetic alone: the model's decoder, and the reference's. -/
theorem rune_arith (b0 b1 b2 b3 : Nat) (m1 m2 m3 in2 : Bool) (h0 : b0 < 256) (h1 : m1 = true → 128 ≤ b1 ∧ b1 < 192) (h2 : m2 = true → 128 ≤ b2 ∧ b2 < 192) (h3 : m3 = true → 128 ≤ b3 ∧ b3 < 192)
    (hin : in2 = true → b1 = 191 → m1 = true) (hin2 : in2 = true → b2 = 189 → m2 = true) (hin3 : m2 = true → in2 = true)
    (d : Nat × Nat) (hd : d = (if b0 < 128 then (b0, 1)
    else if (b0 / 32 == 6 && m1) = true then (if (b0 % 32) * 64 + b1 % 64 ≥ 128 then ((b0 % 32) * 64 + b1 % 64, 2) else (65533, 1))
    else if (b0 / 16 == 14 && m1 && m2) = true then
      (if (decide ((b0 % 16) * 4096 + (b1 % 64) * 64 + b2 % 64 ≥ 2048) && Utf8.valid (((b0 % 16) * 4096 + (b1 % 64) * 64 + b2 % 64 : Nat) : Int)) = true then ((b0 % 16) * 4096 + (b1 % 64) * 64 + b2 % 64, 3) else (65533, 1))
    else if (b0 / 8 == 30 && m1 && m2 && m3) = true then
      (if (decide ((b0 % 8) * 262144 + (b1 % 64) * 4096 + (b2 % 64) * 64 + b3 % 64 ≥ 65536) && Utf8.valid (((b0 % 8) * 262144 + (b1 % 64) * 4096 + (b2 % 64) * 64 + b3 % 64 : Nat) : Int)) = true then ((b0 % 8) * 262144 + (b1 % 64) * 4096 + (b2 % 64) * 64 + b3 % 64, 4) else (65533, 1))
    else (65533, 1)))
    (q : Int × Int) (hq : q = (if (b0 : Int) < 128 then ((b0 : Int), 1)
  else if 192 ≤ (b0 : Int) ∧ (b0 : Int) < 224 ∧ m1 = true then (if ((b0 : Int) - 192) * 64 + (b1 : Int) - 128 ≥ 128 then (((b0 : Int) - 192) * 64 + (b1 : Int) - 128, 2) else (0, 0))
  else if 224 ≤ (b0 : Int) ∧ (b0 : Int) < 240 ∧ m1 = true ∧ m2 = true then
    (if ((b0 : Int) - 224) * 4096 + ((b1 : Int) - 128) * 64 + (b2 : Int) - 128 ≥ 2048 ∧ (((b0 : Int) - 224) * 4096 + ((b1 : Int) - 128) * 64 + (b2 : Int) - 128 < 55296 ∨ ((b0 : Int) - 224) * 4096 + ((b1 : Int) - 128) * 64 + (b2 : Int) - 128 > 57343)
      then (((b0 : Int) - 224) * 4096 + ((b1 : Int) - 128) * 64 + (b2 : Int) - 128, 3) else (0, 0))
  else if 240 ≤ (b0 : Int) ∧ (b0 : Int) < 248 ∧ m1 = true ∧ m2 = true ∧ m3 = true then
    (if ((b0 : Int) - 240) * 262144 + ((b1 : Int) - 128) * 4096 + ((b2 : Int) - 128) * 64 + (b3 : Int) - 128 ≥ 65536 ∧ ((b0 : Int) - 240) * 262144 + ((b1 : Int) - 128) * 4096 + ((b2 : Int) - 128) * 64 + (b3 : Int) - 128 ≤ 1114111
      then (((b0 : Int) - 240) * 262144 + ((b1 : Int) - 128) * 4096 + ((b2 : Int) - 128) * 64 + (b3 : Int) - 128, 4) else (0, 0))
  else (0, 0))) (rt : Prop) (hrt : rt ↔ (d.1 ≠ 65533 ∨ in2 = true ∧ b0 = 239 ∧ b1 = 191 ∧ b2 = 189)) :
    (rt → q = ((d.1 : Int), (d.2 : Int))) ∧ (¬ rt → q.2 = 0) := by
  by_cases c0 : b0 < 128
  · rw [if_pos c0] at hd
    rw [if_pos (by omega)] at hq
    subst hd hq
    exact ⟨fun _ => rfl, fun h => absurd (hrt.2 (Or.inl (by simp; omega))) h⟩
  rw [if_neg c0] at hd
  rw [if_neg (by omega)] at hq
  by_cases c1 : 192 ≤ b0 ∧ b0 < 224 ∧ m1 = true
  · have e1 : (b0 / 32 == 6 && m1) = true := by simp [c1.2.2]; omega
    rw [if_pos e1] at hd
    rw [if_pos (by exact ⟨by omega, by omega, c1.2.2⟩)] at hq
    have g1 := h1 c1.2.2
    by_cases k1 : (b0 % 32) * 64 + b1 % 64 ≥ 128
    · rw [if_pos k1] at hd
      rw [if_pos (by omega)] at hq
      subst hd hq
      exact ⟨fun _ => by simp; omega, fun h => absurd (hrt.2 (Or.inl (by simp; omega))) h⟩
    · rw [if_neg k1] at hd
      rw [if_neg (by omega)] at hq
      subst hd hq
      exact ⟨fun h => by have := hrt.1 h; simp at this; omega, fun _ => rfl⟩
  have e1 : ¬ (b0 / 32 == 6 && m1) = true := by simp; intro h; cases m1 <;> simp_all; omega
  rw [if_neg e1] at hd
  rw [if_neg (by intro h; exact c1 ⟨by omega, by omega, h.2.2⟩)] at hq
  by_cases c2 : 224 ≤ b0 ∧ b0 < 240 ∧ m1 = true ∧ m2 = true
  · have e2 : (b0 / 16 == 14 && m1 && m2) = true := by simp [c2.2.2]; omega
    rw [if_pos e2] at hd
    rw [if_pos (by exact ⟨by omega, by omega, c2.2.2⟩)] at hq
    have g1 := h1 c2.2.2.1
    have g2 := h2 c2.2.2.2
    have g3 := hin3 c2.2.2.2
    rw [valid_iff] at hd
    by_cases k1 : (b0 % 16) * 4096 + (b1 % 64) * 64 + b2 % 64 ≥ 2048 ∧ ((b0 % 16) * 4096 + (b1 % 64) * 64 + b2 % 64 < 55296 ∨ 57344 ≤ (b0 % 16) * 4096 + (b1 % 64) * 64 + b2 % 64)
    · rw [if_pos (by simp; omega)] at hd
      rw [if_pos (by omega)] at hq
      subst hd hq
      refine ⟨fun _ => by simp; omega, fun h => absurd (hrt.2 ?_) h⟩
      by_cases k2 : (b0 % 16) * 4096 + (b1 % 64) * 64 + b2 % 64 = 65533
      · exact Or.inr ⟨g3, by omega, by omega, by omega⟩
      · exact Or.inl k2
    · rw [if_neg (by simp; omega)] at hd
      rw [if_neg (by omega)] at hq
      subst hd hq
      exact ⟨fun h => by have := hrt.1 h; simp at this; omega, fun _ => rfl⟩
  have e2 : ¬ (b0 / 16 == 14 && m1 && m2) = true := by simp; intro h; cases m1 <;> cases m2 <;> simp_all; omega
  rw [if_neg e2] at hd
  rw [if_neg (by intro h; exact c2 ⟨by omega, by omega, h.2.2⟩)] at hq
  by_cases c3 : 240 ≤ b0 ∧ b0 < 248 ∧ m1 = true ∧ m2 = true ∧ m3 = true
  · have e3 : (b0 / 8 == 30 && m1 && m2 && m3) = true := by simp [c3.2.2]; omega
    rw [if_pos e3] at hd
    rw [if_pos (by exact ⟨by omega, by omega, c3.2.2⟩)] at hq
    have g1 := h1 c3.2.2.1
    have g2 := h2 c3.2.2.2.1
    have g3 := h3 c3.2.2.2.2
    rw [valid_iff] at hd
    by_cases k1 : (b0 % 8) * 262144 + (b1 % 64) * 4096 + (b2 % 64) * 64 + b3 % 64 ≥ 65536 ∧ (b0 % 8) * 262144 + (b1 % 64) * 4096 + (b2 % 64) * 64 + b3 % 64 ≤ 1114111
    · rw [if_pos (by simp; omega)] at hd
      rw [if_pos (by omega)] at hq
      subst hd hq
      exact ⟨fun _ => by simp; omega, fun h => absurd (hrt.2 (Or.inl (by simp; omega))) h⟩
    · rw [if_neg (by simp; omega)] at hd
      rw [if_neg (by omega)] at hq
      subst hd hq
      exact ⟨fun h => by have := hrt.1 h; simp at this; omega, fun _ => rfl⟩
  have e3 : ¬ (b0 / 8 == 30 && m1 && m2 && m3) = true := by simp; intro h; cases m1 <;> cases m2 <;> cases m3 <;> simp_all; omega
  rw [if_neg e3] at hd
  rw [if_neg (by intro h; exact c3 ⟨by omega, by omega, h.2.2⟩)] at hq
  subst hd hq
  refine ⟨fun h => ?_, fun _ => rfl⟩
  rcases hrt.1 h with h | ⟨g1, g2, g3, g4⟩
  · simp at h
  · exact absurd ⟨by omega, by omega, hin g1 g3, hin2 g1 g4⟩ c2
theorem runeR_decode (s : ByteArray) (i : Nat) (hi : i < s.size) :
    (lexRightB s i = true → runeR s i = (((Utf8.decode s i).1 : Int), ((Utf8.decode s i).2 : Int))) ∧ (lexRightB s i = false → (runeR s i).2 = 0) := by
  have e0 := nb_cast s i
  have e1 := nb_cast s (i + 1)
  have e2 := nb_cast s (i + 2)
  have e3 := nb_cast s (i + 3)
  have p1 : ((i + 1 : Nat) : Int) = (i : Int) + 1 := by omega
  have p2 : ((i + 2 : Nat) : Int) = (i : Int) + 2 := by omega
  have p3 : ((i + 3 : Nat) : Int) = (i : Int) + 3 := by omega
  have m1 := @moreB_lt s ((i + 1 : Nat) : Int)
  have m2 := @moreB_lt s ((i + 2 : Nat) : Int)
  have m3 := @moreB_lt s ((i + 3 : Nat) : Int)
  have b1 := moreB_nb s (i + 1)
  have b2 := moreB_nb s (i + 2)
  have hd := decode_nb s i hi
  have key := rune_arith (nb s i) (nb s (i + 1)) (nb s (i + 2)) (nb s (i + 3)) (moreB s ((i + 1 : Nat) : Int)) (moreB s ((i + 2 : Nat) : Int)) (moreB s ((i + 3 : Nat) : Int)) (decide (i + 2 < s.size))
    (nb_lt s i) (fun h => by have := m1 h; omega) (fun h => by have := m2 h; omega) (fun h => by have := m3 h; omega)
    (fun h1 h2 => by simp at h1; rw [b1, h2]; simp; omega) (fun h1 h2 => by simp at h1; rw [b2, h2]; simp; omega) (fun h => by have := m2 h; simp; omega)
    (Utf8.decode s i) hd (runeR s i) (by unfold runeR; simp only [← p1, ← p2, ← p3, ← e0, ← e1, ← e2, ← e3]) (lexRightB s i = true) (by
      unfold lexRightB
      rw [← p1, ← p2, ← e0, ← e1, ← e2]
      simp
      omega)
  refine ⟨key.1, fun h => key.2 (by rw [h]; simp)⟩
theorem plain_f (c : Int) : triremeref01_plain.f c = some (lexPlainB c) := by
  unfold lexPlainB triremeref01_plain.f lex_plain.f
  by_cases h0 : c > 32 <;> by_cases h1 : c = 40 <;> by_cases h2 : c = 41 <;> by_cases h3 : c = 34 <;> by_cases h4 : c = 59 <;> by_cases h5 : c = 127 <;> simp [h0, h1, h2, h3, h4, h5]
  all_goals omega
theorem lexHead_ok (s : ByteArray) : ∀ (b i : Nat) (n : Int), (lexHead s b i).2 = true → (lexHead s b i).1 = (s.size : Int) → n ≤ lexRunes s b i n
  | 0, _, _, _, _ => by simp [lexRunes]
  | b + 1, i, n, h1, h2 => by
    unfold lexHead at h1 h2
    unfold lexRunes
    by_cases hi : i < s.size
    · rw [if_pos hi] at h1 h2 ⊢
      cases hr : lexRightB s i with
      | false => rw [hr] at h1; simp at h1
      | true =>
        rw [hr] at h1 h2
        simp only [if_true] at h1 h2 ⊢
        cases hp : lexPlainB ((Utf8.decode s i).1 : Int) with
        | false => rw [hp] at h2; simp at h2; omega
        | true =>
          rw [hp] at h1 h2
          simp only [if_true] at h1 h2
          have := lexHead_ok s b _ (n + 1) h1 h2
          omega
    · rw [if_neg hi]
      exact Int.le_refl _
theorem word_l0 (s : ByteArray) (hs : s.size ≤ 1000000000) : ∀ (b i : Nat) (n : Int), i ≤ s.size → s.size ≤ i + b → 0 ≤ n → n ≤ i → Ev (fun k => triremeref01_Word.l0 k s n (i : Int))
    ((lexHead s b i).2 && ((lexHead s b i).1 == (s.size : Int) && (decide (lexRunes s b i n ≥ 1) && decide (lexRunes s b i n ≤ 64)))) := by
  intro b
  induction b with
  | zero =>
    intro i n hi hb h0 h1
    refine Ev.step (fun k => by rw [triremeref01_Word.l0]) ?_
    have h2 : ¬ ((i : Int) < (s.size : Int)) := by omega
    simp only [h2, if_false]
    by_cases h3 : n ≥ 1 <;> simp only [h3, if_true, if_false, lexHead, lexRunes, BEq.rfl, Bool.true_and, decide_true, decide_false, Bool.false_and] <;> exact Ev.now _
  | succ b ih =>
    intro i n hi hb h0 h1
    refine Ev.step (fun k => by rw [triremeref01_Word.l0]) ?_
    by_cases h2 : i < s.size
    · have h3 : (i : Int) < (s.size : Int) := by omega
      simp only [h3, if_true]
      refine Ev.bind (a := runeR s i) ⟨3, fun k hk => by
        obtain ⟨m, rfl⟩ : ∃ m, k = m + 3 := ⟨k - 3, by omega⟩
        exact rune_f s i (by omega) h3 (by omega) m⟩ ?_
      have hd := runeR_decode s i h2
      unfold lexHead lexRunes
      rw [if_pos h2, if_pos h2]
      cases hr : lexRightB s i with
      | false =>
        simp only [hd.2 hr, if_true, Bool.false_eq_true, if_false]
        exact Ev.now _
      | true =>
        have hq := hd.1 hr
        have hw := lex_width s i h2
        have hin := runeR_in s i h3
        rw [hq] at hin
        simp only at hin
        simp only [hq, if_true]
        have hw0 : ¬ (((Utf8.decode s i).2 : Int) = 0) := by omega
        simp only [hw0, if_false]
        rw [plain_f]
        simp only [Option.bind_some]
        cases hp : lexPlainB ((Utf8.decode s i).1 : Int) with
        | false =>
          simp only [Bool.false_eq_true, if_false]
          have h4 : ((i : Int) == (s.size : Int)) = false := by simp; omega
          simp only [h4, Bool.false_and, Bool.and_false]
          exact Ev.now _
        | true =>
          simp only [if_true]
          have w1 : wrap64 (n + 1) = n + 1 := wrap_small (by omega) (by omega)
          have w2 : wrap64 ((i : Int) + ((Utf8.decode s i).2 : Int)) = ((i + (Utf8.decode s i).2 : Nat) : Int) := by rw [wrap_small (by omega) (by omega)]; push_cast; rfl
          rw [w1, w2]
          exact ih _ _ (by omega) (by omega) (by omega) (by omega)
    · have h3 : ¬ ((i : Int) < (s.size : Int)) := by omega
      simp only [h3, if_false]
      unfold lexHead lexRunes
      rw [if_neg h2, if_neg h2]
      by_cases h4 : n ≥ 1 <;> simp only [h4, if_true, if_false, BEq.rfl, Bool.true_and, decide_true, decide_false, Bool.false_and] <;> exact Ev.now _
/-- The two answers on what is a word are one. -/
theorem word_ev (s : ByteArray) (hs : s.size ≤ 1000000000) : Ev (fun k => triremeref01_Word.f k s) (lexWordB s) := by
  have h := word_l0 s hs s.size 0 0 (by omega) (by omega) (by omega) (by omega)
  have e : lexWordB s = ((lexHead s s.size 0).2 && ((lexHead s s.size 0).1 == (s.size : Int) && (decide (lexRunes s s.size 0 0 ≥ 1) && decide (lexRunes s s.size 0 0 ≤ 64)))) := by
    unfold lexWordB
    cases h1 : (lexHead s s.size 0).2 with
    | false => rfl
    | true =>
      by_cases h2 : (lexHead s s.size 0).1 = (s.size : Int)
      · have h3 : ((lexHead s s.size 0).1 == (s.size : Int)) = true := by simp [h2]
        rw [h3, h2]
        simp only [Bool.true_and]
        congr 1
        rw [Bool.eq_iff_iff]
        simp only [decide_eq_true_eq]
        by_cases h4 : 0 < s.size
        · constructor
          · intro _
            obtain ⟨b, hb⟩ : ∃ b, s.size = b + 1 := ⟨s.size - 1, by omega⟩
            rw [hb] at h1 h2 ⊢
            unfold lexHead at h1 h2
            unfold lexRunes
            rw [if_pos h4] at h1 h2 ⊢
            cases hr : lexRightB s 0 with
            | false => rw [hr] at h1; simp at h1
            | true =>
              rw [hr] at h1 h2
              simp only [if_true] at h1 h2 ⊢
              cases hp : lexPlainB ((Utf8.decode s 0).1 : Int) with
              | false => rw [hp] at h2; simp at h2; omega
              | true =>
                rw [hp] at h1 h2
                simp only [if_true] at h1 h2
                have := lexHead_ok s b _ (0 + 1) h1 (by rw [h2, hb])
                omega
          · intro _; omega
        · have h5 : s.size = 0 := by omega
          rw [h5]
          simp [lexRunes]
      · have h3 : ((lexHead s s.size 0).1 == (s.size : Int)) = false := by simp [h2]
        rw [h3]; rfl
  rw [e]
  exact h
end Go.Proofs.Ytcnaefnlnjfjkaa.H
end
