/- LabelsSet returns true for every input, and each argument reads behind the call as it read before. No condition beyond the row's own. -/
import Derived.Deep.Slices
import Derived.SizedLaws
import Derived.Test.YtcnaefnlnjfjkaaRows
import Derived.WalkKit
import Derived.ProofKit
import Derived.OpenShut
import Derived.ShutString
import Derived.ChangeOld
import Derived.Below
import Derived.Test.YtcnaefnlnjfjkaaCLabelsSet0
import Derived.Test.YtcnaefnlnjfjkaaCLabelsSet1
import Derived.Test.YtcnaefnlnjfjkaaCLabelsSet2
import Derived.Test.YtcnaefnlnjfjkaaCLabelsSet3
section
namespace Go.Proofs.Ytcnaefnlnjfjkaa.H
open Go.RowKit Go.Proofs.YtcnaefnlnjfjkaaW.PrintWords Go.Proofs.YtcnaefnlnjfjkaaW.PrintLast Go.Proofs.YtcnaefnlnjfjkaaW.PrintMore
attribute [local go_sem] max2_int min2_int max_two min_two max_three min_three max_four min_four   -- for this text's walks alone
set_option linter.unusedVariables false
set_option linter.unusedSimpArgs false
mutual
def triremelaw05_LabelsSet.j0 : Nat → List (S31) → ByteArray → ByteArray → Bool → Option (Bool)
  | 0, _, _, _, _ => none
  | k + 1, x0, x1, x2, x34 => if x34 = true then ((triremelaw05_known.f).bind fun t238 => (some t238)) else ((some (([] : List (S31)) : List (S31))).bind fun y239 => (if y239.length + x0.length < 4398046511104 then ((some (y239 ++ x0 : List (S31))).bind fun y242 => ((labels_Get.f k y242 x1).bind fun bt245 => ((triremeref05_Get.f k x0 x1).bind fun bt247 => ((labels_Set.f k y242 x1 x2).bind fun t249 => ((labels_Drop.f k y242 x1).bind fun t252 => (if bt245.1.toList = bt247.1.toList then (if (bt245.2 == bt247.2) = true then ((triremeref05_Set.f k x0 x1 x2).bind fun t255 => ((triremeref05_Same.f k t249 t255).bind fun t258 => (if t258 = true then ((triremeref05_Drop.f k x0 x1).bind fun t259 => ((triremeref05_Same.f k t252 t259).bind fun t262 => (triremelaw05_LabelsSet.j1 k x0 y242 t249 t252 t262))) else (triremelaw05_LabelsSet.j1 k x0 y242 t249 t252 false)))) else (triremelaw05_LabelsSet.j1 k x0 y242 t249 t252 false)) else (triremelaw05_LabelsSet.j1 k x0 y242 t249 t252 false))))))) else (none)))
def triremelaw05_LabelsSet.j1 : Nat → List (S31) → List (S31) → List (S31) → List (S31) → Bool → Option (Bool)
  | 0, _, _, _, _, _ => none
  | k + 1, x0, x7, x12, x13, x14 => triremelaw05_LabelsSet.l0 k x0 x7 x12 x13 x14 0
def triremelaw05_LabelsSet.l0 : Nat → List (S31) → List (S31) → List (S31) → List (S31) → Bool → Int → Option (Bool)
  | 0, _, _, _, _, _, _ => none
  | k + 1, x0, x7, x12, x13, x14, x15 => if x15 < (x12.length : Int) then (if 0 ≤ x15 then (triremelaw05_LabelsSet.l0 k x0 x7 (x12.set (x15 : Int).toNat (⟨(rd_T31 x12 x15).f0, (⟨#[115, 112, 111, 105, 108, 116]⟩ : ByteArray)⟩ : S31)) x13 x14 (wrap64 (x15 + 1))) else (none)) else (triremelaw05_LabelsSet.l1 k x0 x7 x13 x14 0)
def triremelaw05_LabelsSet.l1 : Nat → List (S31) → List (S31) → List (S31) → Bool → Int → Option (Bool)
  | 0, _, _, _, _, _ => none
  | k + 1, x0, x7, x13, x14, x16 => if x16 < (x13.length : Int) then (if 0 ≤ x16 then (triremelaw05_LabelsSet.l1 k x0 x7 (x13.set (x16 : Int).toNat (⟨(rd_T31 x13 x16).f0, (⟨#[115, 112, 111, 105, 108, 116]⟩ : ByteArray)⟩ : S31)) x14 (wrap64 (x16 + 1))) else (none)) else (if x14 = true then ((triremeref05_Same.f k x7 x0).bind fun t265 => (if t265 = true then ((triremelaw05_known.f).bind fun t266 => (some t266)) else (some false))) else (some false))
end
def triremelaw05_LabelsSet.f (k : Nat) (l0 : List (S31)) (a1 : ByteArray) (a2 : ByteArray) : Option (Bool) := (triremeref05_Light.f k l0).bind fun t236 => (if t236 = true then (if (a1.size : Int) > 300 then (triremelaw05_LabelsSet.j0 k l0 a1 a2 true) else (if (a2.size : Int) > 300 then (triremelaw05_LabelsSet.j0 k l0 a1 a2 true) else ((triremeref05_Right.f k l0).bind fun t237 => (triremelaw05_LabelsSet.j0 k l0 a1 a2 (!t237))))) else (triremelaw05_LabelsSet.j0 k l0 a1 a2 true))
theorem triremelaw05_LabelsSet.mono_l : ∀ k, (∀ y0 y1 y2 y3, LeO (triremelaw05_LabelsSet.j0 k y0 y1 y2 y3) (triremelaw05_LabelsSet.j0 (k + 1) y0 y1 y2 y3)) ∧ (∀ y0 y1 y2 y3 y4, LeO (triremelaw05_LabelsSet.j1 k y0 y1 y2 y3 y4) (triremelaw05_LabelsSet.j1 (k + 1) y0 y1 y2 y3 y4)) ∧ (∀ y0 y1 y2 y3 y4 y5, LeO (triremelaw05_LabelsSet.l0 k y0 y1 y2 y3 y4 y5) (triremelaw05_LabelsSet.l0 (k + 1) y0 y1 y2 y3 y4 y5)) ∧ (∀ y0 y1 y2 y3 y4, LeO (triremelaw05_LabelsSet.l1 k y0 y1 y2 y3 y4) (triremelaw05_LabelsSet.l1 (k + 1) y0 y1 y2 y3 y4))
  | 0 => ⟨fun _ _ _ _ r h => by simp [triremelaw05_LabelsSet.j0] at h, fun _ _ _ _ _ r h => by simp [triremelaw05_LabelsSet.j1] at h, fun _ _ _ _ _ _ r h => by simp [triremelaw05_LabelsSet.l0] at h, fun _ _ _ _ _ r h => by simp [triremelaw05_LabelsSet.l1] at h⟩
  | k + 1 => by
    obtain ⟨ih0, ih1, ih2, ih3⟩ := triremelaw05_LabelsSet.mono_l k
    refine ⟨?_, ?_, ?_, ?_⟩
    · intro y0 y1 y2 y3
      unfold triremelaw05_LabelsSet.j0
      repeat' first
      | (with_reducible exact ih0 _ _ _ _)
      | (with_reducible exact ih1 _ _ _ _ _)
      | (with_reducible exact ih2 _ _ _ _ _ _)
      | (with_reducible exact ih3 _ _ _ _ _)
      | (with_reducible exact labels_Drop.mono _ _ _)
      | (with_reducible exact labels_Get.mono _ _ _)
      | (with_reducible exact labels_Set.mono _ _ _ _)
      | (with_reducible exact triremeref05_Drop.mono _ _ _)
      | (with_reducible exact triremeref05_Get.mono _ _ _)
      | (with_reducible exact triremeref05_Light.mono _ _)
      | (with_reducible exact triremeref05_Right.mono _ _)
      | (with_reducible exact triremeref05_Same.mono _ _ _)
      | (with_reducible exact triremeref05_Set.mono _ _ _ _)
      | (with_reducible exact LeO.refl _)
      | (with_reducible exact LeO.none _)
      | (with_reducible refine LeO.ite ?_ ?_)
      | (with_reducible refine LeO.bind ?_ (fun _ => ?_))
      | exact ih0 _ _ _ _
      | exact ih1 _ _ _ _ _
      | exact ih2 _ _ _ _ _ _
      | exact ih3 _ _ _ _ _
      | exact labels_Drop.mono _ _ _
      | exact labels_Get.mono _ _ _
      | exact labels_Set.mono _ _ _ _
      | exact triremeref05_Drop.mono _ _ _
      | exact triremeref05_Get.mono _ _ _
      | exact triremeref05_Light.mono _ _
      | exact triremeref05_Right.mono _ _
      | exact triremeref05_Same.mono _ _ _
      | exact triremeref05_Set.mono _ _ _ _
      | exact LeO.none _
      | refine LeO.ite ?_ ?_
      | refine LeO.bind ?_ (fun _ => ?_)
    · intro y0 y1 y2 y3 y4
      unfold triremelaw05_LabelsSet.j1
      repeat' first
      | (with_reducible exact ih0 _ _ _ _)
      | (with_reducible exact ih1 _ _ _ _ _)
      | (with_reducible exact ih2 _ _ _ _ _ _)
      | (with_reducible exact ih3 _ _ _ _ _)
      | (with_reducible exact labels_Drop.mono _ _ _)
      | (with_reducible exact labels_Get.mono _ _ _)
      | (with_reducible exact labels_Set.mono _ _ _ _)
      | (with_reducible exact triremeref05_Drop.mono _ _ _)
      | (with_reducible exact triremeref05_Get.mono _ _ _)
      | (with_reducible exact triremeref05_Light.mono _ _)
      | (with_reducible exact triremeref05_Right.mono _ _)
      | (with_reducible exact triremeref05_Same.mono _ _ _)
      | (with_reducible exact triremeref05_Set.mono _ _ _ _)
      | (with_reducible exact LeO.refl _)
      | (with_reducible exact LeO.none _)
      | (with_reducible refine LeO.ite ?_ ?_)
      | (with_reducible refine LeO.bind ?_ (fun _ => ?_))
      | exact ih0 _ _ _ _
      | exact ih1 _ _ _ _ _
      | exact ih2 _ _ _ _ _ _
      | exact ih3 _ _ _ _ _
      | exact labels_Drop.mono _ _ _
      | exact labels_Get.mono _ _ _
      | exact labels_Set.mono _ _ _ _
      | exact triremeref05_Drop.mono _ _ _
      | exact triremeref05_Get.mono _ _ _
      | exact triremeref05_Light.mono _ _
      | exact triremeref05_Right.mono _ _
      | exact triremeref05_Same.mono _ _ _
      | exact triremeref05_Set.mono _ _ _ _
      | exact LeO.none _
      | refine LeO.ite ?_ ?_
      | refine LeO.bind ?_ (fun _ => ?_)
    · intro y0 y1 y2 y3 y4 y5
      unfold triremelaw05_LabelsSet.l0
      repeat' first
      | (with_reducible exact ih0 _ _ _ _)
      | (with_reducible exact ih1 _ _ _ _ _)
      | (with_reducible exact ih2 _ _ _ _ _ _)
      | (with_reducible exact ih3 _ _ _ _ _)
      | (with_reducible exact labels_Drop.mono _ _ _)
      | (with_reducible exact labels_Get.mono _ _ _)
      | (with_reducible exact labels_Set.mono _ _ _ _)
      | (with_reducible exact triremeref05_Drop.mono _ _ _)
      | (with_reducible exact triremeref05_Get.mono _ _ _)
      | (with_reducible exact triremeref05_Light.mono _ _)
      | (with_reducible exact triremeref05_Right.mono _ _)
      | (with_reducible exact triremeref05_Same.mono _ _ _)
      | (with_reducible exact triremeref05_Set.mono _ _ _ _)
      | (with_reducible exact LeO.refl _)
      | (with_reducible exact LeO.none _)
      | (with_reducible refine LeO.ite ?_ ?_)
      | (with_reducible refine LeO.bind ?_ (fun _ => ?_))
      | exact ih0 _ _ _ _
      | exact ih1 _ _ _ _ _
      | exact ih2 _ _ _ _ _ _
      | exact ih3 _ _ _ _ _
      | exact labels_Drop.mono _ _ _
      | exact labels_Get.mono _ _ _
      | exact labels_Set.mono _ _ _ _
      | exact triremeref05_Drop.mono _ _ _
      | exact triremeref05_Get.mono _ _ _
      | exact triremeref05_Light.mono _ _
      | exact triremeref05_Right.mono _ _
      | exact triremeref05_Same.mono _ _ _
      | exact triremeref05_Set.mono _ _ _ _
      | exact LeO.none _
      | refine LeO.ite ?_ ?_
      | refine LeO.bind ?_ (fun _ => ?_)
    · intro y0 y1 y2 y3 y4
      unfold triremelaw05_LabelsSet.l1
      repeat' first
      | (with_reducible exact ih0 _ _ _ _)
      | (with_reducible exact ih1 _ _ _ _ _)
      | (with_reducible exact ih2 _ _ _ _ _ _)
      | (with_reducible exact ih3 _ _ _ _ _)
      | (with_reducible exact labels_Drop.mono _ _ _)
      | (with_reducible exact labels_Get.mono _ _ _)
      | (with_reducible exact labels_Set.mono _ _ _ _)
      | (with_reducible exact triremeref05_Drop.mono _ _ _)
      | (with_reducible exact triremeref05_Get.mono _ _ _)
      | (with_reducible exact triremeref05_Light.mono _ _)
      | (with_reducible exact triremeref05_Right.mono _ _)
      | (with_reducible exact triremeref05_Same.mono _ _ _)
      | (with_reducible exact triremeref05_Set.mono _ _ _ _)
      | (with_reducible exact LeO.refl _)
      | (with_reducible exact LeO.none _)
      | (with_reducible refine LeO.ite ?_ ?_)
      | (with_reducible refine LeO.bind ?_ (fun _ => ?_))
      | exact ih0 _ _ _ _
      | exact ih1 _ _ _ _ _
      | exact ih2 _ _ _ _ _ _
      | exact ih3 _ _ _ _ _
      | exact labels_Drop.mono _ _ _
      | exact labels_Get.mono _ _ _
      | exact labels_Set.mono _ _ _ _
      | exact triremeref05_Drop.mono _ _ _
      | exact triremeref05_Get.mono _ _ _
      | exact triremeref05_Light.mono _ _
      | exact triremeref05_Right.mono _ _
      | exact triremeref05_Same.mono _ _ _
      | exact triremeref05_Set.mono _ _ _ _
      | exact LeO.none _
      | refine LeO.ite ?_ ?_
      | refine LeO.bind ?_ (fun _ => ?_)
theorem triremelaw05_LabelsSet.mono : ∀ a0 a1 a2 k, LeO (triremelaw05_LabelsSet.f k a0 a1 a2) (triremelaw05_LabelsSet.f (k + 1) a0 a1 a2) := by
  intro a0 a1 a2 k
  obtain ⟨ih0, ih1, ih2, ih3⟩ := triremelaw05_LabelsSet.mono_l k
  unfold triremelaw05_LabelsSet.f
  repeat' first
      | (with_reducible exact ih0 _ _ _ _)
      | (with_reducible exact ih1 _ _ _ _ _)
      | (with_reducible exact ih2 _ _ _ _ _ _)
      | (with_reducible exact ih3 _ _ _ _ _)
      | (with_reducible exact labels_Drop.mono _ _ _)
      | (with_reducible exact labels_Get.mono _ _ _)
      | (with_reducible exact labels_Set.mono _ _ _ _)
      | (with_reducible exact triremeref05_Drop.mono _ _ _)
      | (with_reducible exact triremeref05_Get.mono _ _ _)
      | (with_reducible exact triremeref05_Light.mono _ _)
      | (with_reducible exact triremeref05_Right.mono _ _)
      | (with_reducible exact triremeref05_Same.mono _ _ _)
      | (with_reducible exact triremeref05_Set.mono _ _ _ _)
      | (with_reducible exact LeO.refl _)
      | (with_reducible exact LeO.none _)
      | (with_reducible refine LeO.ite ?_ ?_)
      | (with_reducible refine LeO.bind ?_ (fun _ => ?_))
      | exact ih0 _ _ _ _
      | exact ih1 _ _ _ _ _
      | exact ih2 _ _ _ _ _ _
      | exact ih3 _ _ _ _ _
      | exact labels_Drop.mono _ _ _
      | exact labels_Get.mono _ _ _
      | exact labels_Set.mono _ _ _ _
      | exact triremeref05_Drop.mono _ _ _
      | exact triremeref05_Get.mono _ _ _
      | exact triremeref05_Light.mono _ _
      | exact triremeref05_Right.mono _ _
      | exact triremeref05_Same.mono _ _ _
      | exact triremeref05_Set.mono _ _ _ _
      | exact LeO.none _
      | refine LeO.ite ?_ ?_
      | refine LeO.bind ?_ (fun _ => ?_)
set_option maxHeartbeats 8000000 in
set_option maxRecDepth 100000 in
theorem triremelaw05_LabelsSet.calls (k : Nat) (A0 : Option Addr) (c0 : Nat) (l0 : List (S31)) (a1 : ByteArray) (a2 : ByteArray) (r : Bool) (w : World) (hr0 : Kd.C k31 w A0 l0.length l0) (hc0 : l0.length ≤ c0) (h : triremelaw05_LabelsSet.f k l0 a1 a2 = some r) :
    Calls Try.prog 3 #[.slice A0 l0.length c0, .string a1, .string a2] w fun e w' => e = .returned (.bool r) ∧ Below w.heap.size w w' := by
  have HR0 := Aside0.mk hr0
  have HC0 := Aside0.mk hc0
  clear hr0 hc0
  have HB := Aside0.mk (Below.refl w.heap.size w)
  have H : ((triremeref05_Light.f k l0).bind fun t236 => (if t236 = true then (if (a1.size : Int) > 300 then (triremelaw05_LabelsSet.j0 k l0 a1 a2 true) else (if (a2.size : Int) > 300 then (triremelaw05_LabelsSet.j0 k l0 a1 a2 true) else ((triremeref05_Right.f k l0).bind fun t237 => (triremelaw05_LabelsSet.j0 k l0 a1 a2 (!t237))))) else (triremelaw05_LabelsSet.j0 k l0 a1 a2 true))) = some r := h
  clear h
  have HC4 := Aside0.mk H
  clear H
  go_enter Try.func3, Try.ntmps3
  go_upto_region 1 with (fail)
  go_cut [34] (fun v34 wc => ∃ (kq : Nat) (x34_3 : Bool), v34 = .bool x34_3 ∧ Aside0 (triremelaw05_LabelsSet.j0 kq l0 a1 a2 x34_3 = some r) ∧ Aside0 (kq ≤ k) ∧ Aside0 (Below w.heap.size w wc))
  case first =>
    have H := HC4.out
    clear HC4
    replace H := Option.bind_eq_some_iff.mp H
    obtain ⟨t236, A50, H⟩ := H
    replace H : (if t236 = true then (if (a1.size : Int) > 300 then (triremelaw05_LabelsSet.j0 k l0 a1 a2 true) else (if (a2.size : Int) > 300 then (triremelaw05_LabelsSet.j0 k l0 a1 a2 true) else ((triremeref05_Right.f k l0).bind fun t237 => (triremelaw05_LabelsSet.j0 k l0 a1 a2 (!t237))))) else (triremelaw05_LabelsSet.j0 k l0 a1 a2 true)) = some r := H
    have A5 := Aside0.mk A50
    clear A50
    by_cases c6 : t236 = true
    · subst c6
      have H1 : (if (a1.size : Int) > 300 then (triremelaw05_LabelsSet.j0 k l0 a1 a2 true) else (if (a2.size : Int) > 300 then (triremelaw05_LabelsSet.j0 k l0 a1 a2 true) else ((triremeref05_Right.f k l0).bind fun t237 => (triremelaw05_LabelsSet.j0 k l0 a1 a2 (!t237))))) = some r := by rw [if_pos rfl] at H; exact H
      clear H
      have H := H1
      clear H1
      by_cases c7 : (a1.size : Int) > 300
      · rw [if_pos c7] at H
        have c7b0 : decide (300 < (a1.size : Int)) = true := decide_eq_true c7
        have c7b1 : decide (300 < a1.size) = true := decide_eq_true (by omega)
        clear c7
        (first | rw [c7b0] | (simp only [i64_w, i32_w]; rw [c7b0]) | skip)
        have H' := Aside0.mk H
        clear H
        go_wp2_with (first | ((first | ((with_reducible refine gate_callee (f := 5) rfl ?_); refine goesL_ (some 18) rfl rfl Try.func5 (by kernel_rfl) rfl #[.slice A0 l0.length c0] rfl (by (try simp only [List.map_toArray, List.map_cons, List.map_nil]); first | done | rfl | (simp only [List.length_drop, List.length_take]; rfl)) ?_; (with_reducible refine (triremeref05_Light.calls k _ _ l0 true _ ?side1 ?side2 A5.out).mono ?_); (case side1 => repeat (first | exact (Kd.C_below HR0.out HB.out) | (with_reducible refine Kd.C_alloc ?_ _) | (with_reducible refine Kd.C_drewN ?_ _) | (with_reducible refine Kd.C_drew ?_))); (case side2 => exact HC0.out); rintro e w' ⟨rfl, ⟨nd, rfl⟩⟩; refine ⟨_, rfl, ?_⟩) | (go_at_call 5; (with_reducible refine (triremeref05_Light.calls k _ _ l0 true _ ?side1 ?side2 A5.out).mono ?_); (case side1 => repeat (first | exact (Kd.C_below HR0.out HB.out) | (with_reducible refine Kd.C_alloc ?_ _) | (with_reducible refine Kd.C_drewN ?_ _) | (with_reducible refine Kd.C_drew ?_))); (case side2 => exact HC0.out); rintro e w' ⟨rfl, ⟨nd, rfl⟩⟩))))
        go_meet
        case rel => exact ⟨_, (true), (by first | rfl | (simp; done) | (simp [*]; done)), H', ⟨by first | omega | exact Nat.le_refl _⟩, ⟨by repeat (first | (with_reducible first | exact HB.out | apply below_alloc | apply pw_below_drewN | apply below_drew1) | exact HB.out)⟩⟩
      · rw [if_neg c7] at H
        have c7b0 : decide (300 < (a1.size : Int)) = false := decide_eq_false c7
        have c7b1 : decide (300 < a1.size) = false := decide_eq_false (by omega)
        clear c7
        (first | rw [c7b0] | (simp only [i64_w, i32_w]; rw [c7b0]) | skip)
        by_cases c8 : (a2.size : Int) > 300
        · rw [if_pos c8] at H
          have c8b0 : decide (300 < (a2.size : Int)) = true := decide_eq_true c8
          have c8b1 : decide (300 < a2.size) = true := decide_eq_true (by omega)
          clear c8
          have H' := Aside0.mk H
          clear H
          go_wp2_with (first | ((first | ((with_reducible refine gate_callee (f := 5) rfl ?_); refine goesL_ (some 18) rfl rfl Try.func5 (by kernel_rfl) rfl #[.slice A0 l0.length c0] rfl (by (try simp only [List.map_toArray, List.map_cons, List.map_nil]); first | done | rfl | (simp only [List.length_drop, List.length_take]; rfl)) ?_; (with_reducible refine (triremeref05_Light.calls k _ _ l0 true _ ?side1 ?side2 A5.out).mono ?_); (case side1 => repeat (first | exact (Kd.C_below HR0.out HB.out) | (with_reducible refine Kd.C_alloc ?_ _) | (with_reducible refine Kd.C_drewN ?_ _) | (with_reducible refine Kd.C_drew ?_))); (case side2 => exact HC0.out); rintro e w' ⟨rfl, ⟨nd, rfl⟩⟩; refine ⟨_, rfl, ?_⟩) | (go_at_call 5; (with_reducible refine (triremeref05_Light.calls k _ _ l0 true _ ?side1 ?side2 A5.out).mono ?_); (case side1 => repeat (first | exact (Kd.C_below HR0.out HB.out) | (with_reducible refine Kd.C_alloc ?_ _) | (with_reducible refine Kd.C_drewN ?_ _) | (with_reducible refine Kd.C_drew ?_))); (case side2 => exact HC0.out); rintro e w' ⟨rfl, ⟨nd, rfl⟩⟩))))
          go_meet
          case rel => exact ⟨_, (true), (by first | rfl | (simp; done) | (simp [*]; done)), H', ⟨by first | omega | exact Nat.le_refl _⟩, ⟨by repeat (first | (with_reducible first | exact HB.out | apply below_alloc | apply pw_below_drewN | apply below_drew1) | exact HB.out)⟩⟩
        · rw [if_neg c8] at H
          have c8b0 : decide (300 < (a2.size : Int)) = false := decide_eq_false c8
          have c8b1 : decide (300 < a2.size) = false := decide_eq_false (by omega)
          clear c8
          replace H := Option.bind_eq_some_iff.mp H
          obtain ⟨t237, A90, H⟩ := H
          replace H : (triremelaw05_LabelsSet.j0 k l0 a1 a2 (!t237)) = some r := H
          have A9 := Aside0.mk A90
          clear A90
          have H' := Aside0.mk H
          clear H
          go_wp2_with (first | ((first | ((with_reducible refine gate_callee (f := 5) rfl ?_); refine goesL_ (some 18) rfl rfl Try.func5 (by kernel_rfl) rfl #[.slice A0 l0.length c0] rfl (by (try simp only [List.map_toArray, List.map_cons, List.map_nil]); first | done | rfl | (simp only [List.length_drop, List.length_take]; rfl)) ?_; (with_reducible refine (triremeref05_Light.calls k _ _ l0 true _ ?side1 ?side2 A5.out).mono ?_); (case side1 => repeat (first | exact (Kd.C_below HR0.out HB.out) | (with_reducible refine Kd.C_alloc ?_ _) | (with_reducible refine Kd.C_drewN ?_ _) | (with_reducible refine Kd.C_drew ?_))); (case side2 => exact HC0.out); rintro e w' ⟨rfl, ⟨nd, rfl⟩⟩; refine ⟨_, rfl, ?_⟩) | (go_at_call 5; (with_reducible refine (triremeref05_Light.calls k _ _ l0 true _ ?side1 ?side2 A5.out).mono ?_); (case side1 => repeat (first | exact (Kd.C_below HR0.out HB.out) | (with_reducible refine Kd.C_alloc ?_ _) | (with_reducible refine Kd.C_drewN ?_ _) | (with_reducible refine Kd.C_drew ?_))); (case side2 => exact HC0.out); rintro e w' ⟨rfl, ⟨nd, rfl⟩⟩))) | (go_at_call 6; (with_reducible refine (triremeref05_Right.calls k _ _ l0 t237 _ ?side1 ?side2 A9.out).mono ?_); (case side1 => repeat (first | exact (Kd.C_below HR0.out (by repeat (first | (with_reducible first | exact HB.out | apply below_alloc | apply pw_below_drewN | apply below_drew1) | exact HB.out))) | (with_reducible refine Kd.C_alloc ?_ _) | (with_reducible refine Kd.C_drewN ?_ _) | (with_reducible refine Kd.C_drew ?_))); (case side2 => exact HC0.out); rintro e w10 ⟨rfl, hb⟩; have n0_ := Aside0.mk (below_step (by repeat (first | (with_reducible first | exact HB.out | apply below_alloc | apply pw_below_drewN | apply below_drew1) | exact HB.out)) hb); clear HB; have HB := n0_; clear n0_; (try clear hb); (try clear hb2); (try clear hk); (try clear hi)))
          go_meet
          case rel => exact ⟨_, (!t237), (by first | rfl | (simp; done) | (simp [*]; done)), H', ⟨by first | omega | exact Nat.le_refl _⟩, ⟨by repeat (first | (with_reducible first | exact HB.out | apply below_alloc | apply pw_below_drewN | apply below_drew1) | exact HB.out)⟩⟩
    · replace c6 := Bool.eq_false_iff.mpr c6
      subst c6
      have H1 : (triremelaw05_LabelsSet.j0 k l0 a1 a2 true) = some r := by rw [if_neg (show ¬ (false = true) by decide)] at H; exact H
      clear H
      have H := H1
      clear H1
      have H' := Aside0.mk H
      clear H
      go_wp2_with (first | ((first | ((with_reducible refine gate_callee (f := 5) rfl ?_); refine goesL_ (some 18) rfl rfl Try.func5 (by kernel_rfl) rfl #[.slice A0 l0.length c0] rfl (by (try simp only [List.map_toArray, List.map_cons, List.map_nil]); first | done | rfl | (simp only [List.length_drop, List.length_take]; rfl)) ?_; (with_reducible refine (triremeref05_Light.calls k _ _ l0 false _ ?side1 ?side2 A5.out).mono ?_); (case side1 => repeat (first | exact (Kd.C_below HR0.out HB.out) | (with_reducible refine Kd.C_alloc ?_ _) | (with_reducible refine Kd.C_drewN ?_ _) | (with_reducible refine Kd.C_drew ?_))); (case side2 => exact HC0.out); rintro e w' ⟨rfl, ⟨nd, rfl⟩⟩; refine ⟨_, rfl, ?_⟩) | (go_at_call 5; (with_reducible refine (triremeref05_Light.calls k _ _ l0 false _ ?side1 ?side2 A5.out).mono ?_); (case side1 => repeat (first | exact (Kd.C_below HR0.out HB.out) | (with_reducible refine Kd.C_alloc ?_ _) | (with_reducible refine Kd.C_drewN ?_ _) | (with_reducible refine Kd.C_drew ?_))); (case side2 => exact HC0.out); rintro e w' ⟨rfl, ⟨nd, rfl⟩⟩))))
      go_meet
      case rel => exact ⟨_, (true), (by first | rfl | (simp; done) | (simp [*]; done)), H', ⟨by first | omega | exact Nat.le_refl _⟩, ⟨by repeat (first | (with_reducible first | exact HB.out | apply below_alloc | apply pw_below_drewN | apply below_drew1) | exact HB.out)⟩⟩
  case rest =>
    clear HC4
    try clear p2
    try clear c3
    try clear c5
    try clear c6
    try clear c7
    try clear c7b0
    try clear c7b1
    try clear c8
    try clear c8b0
    try clear c8b1
    obtain ⟨kq, x34_3, rfl, HA, HJ3, HB⟩ := hcut
    cases kq with
    | zero => exact absurd HA.out (by simp [triremelaw05_LabelsSet.j0])
    | succ kj3 =>
      have H := HA.out
      clear HA
      simp only [triremelaw05_LabelsSet.j0] at H
      by_cases c11 : x34_3 = true
      · subst c11
        have H1 : ((triremelaw05_known.f).bind fun t238 => (some t238)) = some r := by rw [if_pos rfl] at H; exact H
        clear H
        have H := H1
        clear H1
        replace H := Option.bind_eq_some_iff.mp H
        obtain ⟨t238, A120, H⟩ := H
        replace H : (some t238) = some r := H
        have A12 := Aside0.mk A120
        clear A120
        obtain rfl := Option.some.inj H
        go_wp2_with (first | ((first | ((with_reducible refine gate_callee (f := 7) rfl ?_); refine goesL_ (some 35) rfl rfl Try.func7 (by kernel_rfl) rfl #[] rfl (by (try simp only [List.map_toArray, List.map_cons, List.map_nil]); first | done | rfl | (simp only [List.length_drop, List.length_take]; rfl)) ?_; (with_reducible refine (triremelaw05_known.calls  t238 _ A12.out).mono ?_); rintro e w13 ⟨rfl, hb⟩; refine ⟨_, rfl, ?_⟩) | (go_at_call 7; (with_reducible refine (triremelaw05_known.calls  t238 _ A12.out).mono ?_); rintro e w13 ⟨rfl, hb⟩)); have n0_ := Aside0.mk (below_step (by repeat (first | (with_reducible first | exact HB.out | apply below_alloc | apply pw_below_drewN | apply below_drew1) | exact HB.out)) hb); clear HB; have HB := n0_; clear n0_; (try clear hb); (try clear hb2); (try clear hk); (try clear hi)))
        go_ret
        exact ⟨by first | rfl | (simp [errW_none, errW_some] <;> rfl) | (simp [*, errW_none, errW_some] <;> rfl), by repeat (first | (with_reducible first | exact HB.out | apply below_alloc | apply pw_below_drewN | apply below_drew1) | exact HB.out)⟩
      · replace c11 := Bool.eq_false_iff.mpr c11
        subst c11
        have H1 : ((some (([] : List (S31)) : List (S31))).bind fun y239 => (if y239.length + l0.length < 4398046511104 then ((some (y239 ++ l0 : List (S31))).bind fun y242 => ((labels_Get.f kj3 y242 a1).bind fun bt245 => ((triremeref05_Get.f kj3 l0 a1).bind fun bt247 => ((labels_Set.f kj3 y242 a1 a2).bind fun t249 => ((labels_Drop.f kj3 y242 a1).bind fun t252 => (if bt245.1.toList = bt247.1.toList then (if (bt245.2 == bt247.2) = true then ((triremeref05_Set.f kj3 l0 a1 a2).bind fun t255 => ((triremeref05_Same.f kj3 t249 t255).bind fun t258 => (if t258 = true then ((triremeref05_Drop.f kj3 l0 a1).bind fun t259 => ((triremeref05_Same.f kj3 t252 t259).bind fun t262 => (triremelaw05_LabelsSet.j1 kj3 l0 y242 t249 t252 t262))) else (triremelaw05_LabelsSet.j1 kj3 l0 y242 t249 t252 false)))) else (triremelaw05_LabelsSet.j1 kj3 l0 y242 t249 t252 false)) else (triremelaw05_LabelsSet.j1 kj3 l0 y242 t249 t252 false))))))) else (none))) = some r := by rw [if_neg (show ¬ (false = true) by decide)] at H; exact H
        clear H
        have H := H1
        clear H1
        obtain ⟨y239, hy239⟩ : ∃ y_ : List (S31), y_ = (([] : List (S31))) := ⟨_, rfl⟩
        replace H : (if y239.length + l0.length < 4398046511104 then ((some (y239 ++ l0 : List (S31))).bind fun y242 => ((labels_Get.f kj3 y242 a1).bind fun bt245 => ((triremeref05_Get.f kj3 l0 a1).bind fun bt247 => ((labels_Set.f kj3 y242 a1 a2).bind fun t249 => ((labels_Drop.f kj3 y242 a1).bind fun t252 => (if bt245.1.toList = bt247.1.toList then (if (bt245.2 == bt247.2) = true then ((triremeref05_Set.f kj3 l0 a1 a2).bind fun t255 => ((triremeref05_Same.f kj3 t249 t255).bind fun t258 => (if t258 = true then ((triremeref05_Drop.f kj3 l0 a1).bind fun t259 => ((triremeref05_Same.f kj3 t252 t259).bind fun t262 => (triremelaw05_LabelsSet.j1 kj3 l0 y242 t249 t252 t262))) else (triremelaw05_LabelsSet.j1 kj3 l0 y242 t249 t252 false)))) else (triremelaw05_LabelsSet.j1 kj3 l0 y242 t249 t252 false)) else (triremelaw05_LabelsSet.j1 kj3 l0 y242 t249 t252 false))))))) else (none)) = some r := by first | (rw [hy239]; with_reducible exact H) | (have H2_ := (Option.bind_some _ _).symm.trans H; rw [hy239]; with_reducible exact H2_) | (have H2_ := (Option.bind_some _ _).symm.trans H; with_reducible exact H2_) | with_reducible exact H | (rw [hy239]; exact H) | exact H
        have Ny239 := Aside0.mk hy239
        clear hy239
        by_cases c14 : y239.length + l0.length < 4398046511104
        · rw [if_pos c14] at H
          have LMc14 := Aside0.mk c14
          clear c14
          obtain ⟨y242, hy242⟩ : ∃ y_ : List (S31), y_ = (y239 ++ l0) := ⟨_, rfl⟩
          replace H : ((labels_Get.f kj3 y242 a1).bind fun bt245 => ((triremeref05_Get.f kj3 l0 a1).bind fun bt247 => ((labels_Set.f kj3 y242 a1 a2).bind fun t249 => ((labels_Drop.f kj3 y242 a1).bind fun t252 => (if bt245.1.toList = bt247.1.toList then (if (bt245.2 == bt247.2) = true then ((triremeref05_Set.f kj3 l0 a1 a2).bind fun t255 => ((triremeref05_Same.f kj3 t249 t255).bind fun t258 => (if t258 = true then ((triremeref05_Drop.f kj3 l0 a1).bind fun t259 => ((triremeref05_Same.f kj3 t252 t259).bind fun t262 => (triremelaw05_LabelsSet.j1 kj3 l0 y242 t249 t252 t262))) else (triremelaw05_LabelsSet.j1 kj3 l0 y242 t249 t252 false)))) else (triremelaw05_LabelsSet.j1 kj3 l0 y242 t249 t252 false)) else (triremelaw05_LabelsSet.j1 kj3 l0 y242 t249 t252 false)))))) = some r := by first | (rw [hy242]; with_reducible exact H) | (have H2_ := (Option.bind_some _ _).symm.trans H; rw [hy242]; with_reducible exact H2_) | (have H2_ := (Option.bind_some _ _).symm.trans H; with_reducible exact H2_) | with_reducible exact H | (rw [hy242]; exact H) | exact H
          have Ny242 := Aside0.mk hy242
          clear hy242
          replace H := Option.bind_eq_some_iff.mp H
          obtain ⟨⟨t245, t246⟩, A150, H⟩ := H
          replace H : ((triremeref05_Get.f kj3 l0 a1).bind fun bt247 => ((labels_Set.f kj3 y242 a1 a2).bind fun t249 => ((labels_Drop.f kj3 y242 a1).bind fun t252 => (if t245.toList = bt247.1.toList then (if (t246 == bt247.2) = true then ((triremeref05_Set.f kj3 l0 a1 a2).bind fun t255 => ((triremeref05_Same.f kj3 t249 t255).bind fun t258 => (if t258 = true then ((triremeref05_Drop.f kj3 l0 a1).bind fun t259 => ((triremeref05_Same.f kj3 t252 t259).bind fun t262 => (triremelaw05_LabelsSet.j1 kj3 l0 y242 t249 t252 t262))) else (triremelaw05_LabelsSet.j1 kj3 l0 y242 t249 t252 false)))) else (triremelaw05_LabelsSet.j1 kj3 l0 y242 t249 t252 false)) else (triremelaw05_LabelsSet.j1 kj3 l0 y242 t249 t252 false))))) = some r := H
          have A15 := Aside0.mk A150
          clear A150
          replace H := Option.bind_eq_some_iff.mp H
          obtain ⟨⟨t247, t248⟩, A160, H⟩ := H
          replace H : ((labels_Set.f kj3 y242 a1 a2).bind fun t249 => ((labels_Drop.f kj3 y242 a1).bind fun t252 => (if t245.toList = t247.toList then (if (t246 == t248) = true then ((triremeref05_Set.f kj3 l0 a1 a2).bind fun t255 => ((triremeref05_Same.f kj3 t249 t255).bind fun t258 => (if t258 = true then ((triremeref05_Drop.f kj3 l0 a1).bind fun t259 => ((triremeref05_Same.f kj3 t252 t259).bind fun t262 => (triremelaw05_LabelsSet.j1 kj3 l0 y242 t249 t252 t262))) else (triremelaw05_LabelsSet.j1 kj3 l0 y242 t249 t252 false)))) else (triremelaw05_LabelsSet.j1 kj3 l0 y242 t249 t252 false)) else (triremelaw05_LabelsSet.j1 kj3 l0 y242 t249 t252 false)))) = some r := H
          have A16 := Aside0.mk A160
          clear A160
          replace H := Option.bind_eq_some_iff.mp H
          obtain ⟨t249, A170, H⟩ := H
          replace H : ((labels_Drop.f kj3 y242 a1).bind fun t252 => (if t245.toList = t247.toList then (if (t246 == t248) = true then ((triremeref05_Set.f kj3 l0 a1 a2).bind fun t255 => ((triremeref05_Same.f kj3 t249 t255).bind fun t258 => (if t258 = true then ((triremeref05_Drop.f kj3 l0 a1).bind fun t259 => ((triremeref05_Same.f kj3 t252 t259).bind fun t262 => (triremelaw05_LabelsSet.j1 kj3 l0 y242 t249 t252 t262))) else (triremelaw05_LabelsSet.j1 kj3 l0 y242 t249 t252 false)))) else (triremelaw05_LabelsSet.j1 kj3 l0 y242 t249 t252 false)) else (triremelaw05_LabelsSet.j1 kj3 l0 y242 t249 t252 false))) = some r := H
          have A17 := Aside0.mk A170
          clear A170
          replace H := Option.bind_eq_some_iff.mp H
          obtain ⟨t252, A180, H⟩ := H
          replace H : (if t245.toList = t247.toList then (if (t246 == t248) = true then ((triremeref05_Set.f kj3 l0 a1 a2).bind fun t255 => ((triremeref05_Same.f kj3 t249 t255).bind fun t258 => (if t258 = true then ((triremeref05_Drop.f kj3 l0 a1).bind fun t259 => ((triremeref05_Same.f kj3 t252 t259).bind fun t262 => (triremelaw05_LabelsSet.j1 kj3 l0 y242 t249 t252 t262))) else (triremelaw05_LabelsSet.j1 kj3 l0 y242 t249 t252 false)))) else (triremelaw05_LabelsSet.j1 kj3 l0 y242 t249 t252 false)) else (triremelaw05_LabelsSet.j1 kj3 l0 y242 t249 t252 false)) = some r := H
          have A18 := Aside0.mk A180
          clear A180
          have HC19 := Aside0.mk H
          clear H
          go_upto_region 8 with (first | ((with_reducible refine gate_dst (N := 36) rfl ?_); (try (refine gate_guard (by rfl) ?_; dsimp only)); refine Kd.R_lit k31 _ 31 ?hg (N := 36) ?hd (xs := ([] : List (S31))) (inner := []) (ok := fun _ => True) (okp := fun _ => True) ?hr ?hp (fun _ hk => hk) trivial (Below.refl _ _) (Nat.le_refl _) (by simp) ?_; (case hd => rfl); (case hg => rfl); (case hr => first | (go_simp; done) | (go_simp; rfl)); (case hp => exact (Reps.none _ _)); intro v240 w20 ho21 hb hg_ hnew_; clear hg_ hnew_; (first | rw [← Ny239.out] at ho21 | (simp only [Int.reduceToNat] at ho21; rw [← Ny239.out] at ho21)); have n0_ := Aside0.mk (Kd.R_lower ho21 (below_size (by repeat (first | (with_reducible first | exact HB.out | apply below_alloc | apply pw_below_drewN | apply below_drew1) | exact HB.out)))); have n1_ := Aside0.mk (below_step (by repeat (first | (with_reducible first | exact HB.out | apply below_alloc | apply pw_below_drewN | apply below_drew1) | exact HB.out)) hb); clear HB; have HO241 := n0_; have HB := n1_; clear n0_ n1_; clear hb ho21) | ((with_reducible refine gate_builtin (b := .append) (xs := #[.tmp 36, .tmp 37]) rfl ?_); (try (refine gate_guard (by rfl) ?_; dsimp only)); at_builtin; refine Kd.R_append_rows k31 (w0 := w) w.heap.size rfl (.tmp 36) (.tmp 37) 22 31 (.agg #[(.string ⟨#[]⟩), (.string ⟨#[]⟩)]) 32 rfl Try.underlying22 info31 rfl (by decide) (by omega) v240 y239 l0 _ _ _ (fun _ => True) (fun _ => False) rfl rfl ?aO ?aR (fun _ _ h => h) (fun _ h => h.elim) ?aF ?aB ?aS ?aL ?_; (case aR => repeat (first | exact (Kd.C_below HR0.out HB.out) | (with_reducible refine Kd.C_alloc ?_ _) | (with_reducible refine Kd.C_drewN ?_ _) | (with_reducible refine Kd.C_drew ?_))); (case aB => exact (by repeat (first | (with_reducible first | exact HB.out | apply below_alloc | apply pw_below_drewN | apply below_drew1) | exact HB.out))); (case aF => exact (fun _ _ => trivial)); (case aO => exact (by (with_reducible repeat (first | apply Kd.R_alloc | apply Kd.R_drewN | apply Kd.R_drew)); exact HO241.out)); (case aS => exact (below_size (by repeat (first | (with_reducible first | exact HB.out | apply below_alloc | apply pw_below_drewN | apply below_drew1) | exact HB.out)))); (case aL => have := LMc14.out; omega); intro v243 w22 ho hb hg hat; rw [← Ny242.out] at ho; have n0_ := Aside0.mk (hb); have n1_ := Aside0.mk (ho); clear HB; clear HO241; have HB := n0_; have HO244 := n1_; clear n0_ n1_; clear ho hb hg hat; obtain ⟨Ao23, co23, eo23⟩ := Kd.R_slice HO244.out; subst eo23) | ((first | ((with_reducible refine gate_callee (f := 8) rfl ?_); refine goesL_ (some 42) rfl rfl Try.func8 (by kernel_rfl) rfl #[.slice Ao23 y242.length co23, .string a1] rfl (by (try simp only [List.map_toArray, List.map_cons, List.map_nil]); first | done | rfl | (simp only [List.length_drop, List.length_take]; rfl)) ?_; (with_reducible refine (labels_Get.calls kj3 _ _ y242 a1 t245 t246 _ ?side1 ?side2 A15.out).mono ?_); (case side1 => repeat (first | exact (Kd.R_reads' HO244.out).2.2 | (with_reducible refine Kd.C_alloc ?_ _) | (with_reducible refine Kd.C_drewN ?_ _) | (with_reducible refine Kd.C_drew ?_))); (case side2 => exact (Kd.R_reads' HO244.out).2.1); rintro e w24 ⟨rfl, hb⟩; refine ⟨_, rfl, ?_⟩) | (go_at_call 8; (with_reducible refine (labels_Get.calls kj3 _ _ y242 a1 t245 t246 _ ?side1 ?side2 A15.out).mono ?_); (case side1 => repeat (first | exact (Kd.R_reads' HO244.out).2.2 | (with_reducible refine Kd.C_alloc ?_ _) | (with_reducible refine Kd.C_drewN ?_ _) | (with_reducible refine Kd.C_drew ?_))); (case side2 => exact (Kd.R_reads' HO244.out).2.1); rintro e w24 ⟨rfl, hb⟩)); have n0_ := Aside0.mk (Kd.R_below (by (with_reducible repeat (first | apply Kd.R_alloc | apply Kd.R_drewN | apply Kd.R_drew)); exact HO244.out) hb); have n1_ := Aside0.mk (below_step (by repeat (first | (with_reducible first | exact HB.out | apply below_alloc | apply pw_below_drewN | apply below_drew1) | exact HB.out)) hb); clear HO244; clear HB; have HO244 := n0_; have HB := n1_; clear n0_ n1_; (try clear hb); (try clear hb2); (try clear hk); (try clear hi)) | ((first | ((with_reducible refine gate_callee (f := 9) rfl ?_); refine goesL_ (some 48) rfl rfl Try.func9 (by kernel_rfl) rfl #[.slice A0 l0.length c0, .string a1] rfl (by (try simp only [List.map_toArray, List.map_cons, List.map_nil]); first | done | rfl | (simp only [List.length_drop, List.length_take]; rfl)) ?_; (with_reducible refine (triremeref05_Get.calls kj3 _ _ l0 a1 t247 t248 _ ?side1 ?side2 A16.out).mono ?_); (case side1 => repeat (first | exact (Kd.C_below HR0.out HB.out) | (with_reducible refine Kd.C_alloc ?_ _) | (with_reducible refine Kd.C_drewN ?_ _) | (with_reducible refine Kd.C_drew ?_))); (case side2 => exact HC0.out); rintro e w' ⟨rfl, ⟨nd, rfl⟩⟩; refine ⟨_, rfl, ?_⟩) | (go_at_call 9; (with_reducible refine (triremeref05_Get.calls kj3 _ _ l0 a1 t247 t248 _ ?side1 ?side2 A16.out).mono ?_); (case side1 => repeat (first | exact (Kd.C_below HR0.out HB.out) | (with_reducible refine Kd.C_alloc ?_ _) | (with_reducible refine Kd.C_drewN ?_ _) | (with_reducible refine Kd.C_drew ?_))); (case side2 => exact HC0.out); rintro e w' ⟨rfl, ⟨nd, rfl⟩⟩))) | ((first | ((with_reducible refine gate_callee (f := 10) rfl ?_); refine goesL_ (some 54) rfl rfl Try.func10 (by kernel_rfl) rfl #[.slice Ao23 y242.length co23, .string a1, .string a2] rfl (by (try simp only [List.map_toArray, List.map_cons, List.map_nil]); first | done | rfl | (simp only [List.length_drop, List.length_take]; rfl)) ?_; (with_reducible refine (labels_Set.calls kj3 _ _ y242 a1 a2 t249 _ ?side1 ?side2 A17.out).mono ?_); (case side1 => repeat (first | exact (Kd.R_reads' HO244.out).2.2 | (with_reducible refine Kd.C_alloc ?_ _) | (with_reducible refine Kd.C_drewN ?_ _) | (with_reducible refine Kd.C_drew ?_))); (case side2 => exact (Kd.R_reads' HO244.out).2.1); rintro e w25 ⟨v250, rfl, ho0, hb⟩; refine ⟨_, rfl, ?_⟩) | (go_at_call 10; (with_reducible refine (labels_Set.calls kj3 _ _ y242 a1 a2 t249 _ ?side1 ?side2 A17.out).mono ?_); (case side1 => repeat (first | exact (Kd.R_reads' HO244.out).2.2 | (with_reducible refine Kd.C_alloc ?_ _) | (with_reducible refine Kd.C_drewN ?_ _) | (with_reducible refine Kd.C_drew ?_))); (case side2 => exact (Kd.R_reads' HO244.out).2.1); rintro e w25 ⟨v250, rfl, ho0, hb⟩)); have n0_ := Aside0.mk (Kd.R_elder' (by (with_reducible repeat (first | apply Kd.R_alloc | apply Kd.R_drewN | apply Kd.R_drew)); exact HO244.out) (Kd.R_base ho0) hb); have n1_ := Aside0.mk (Kd.R_lower (Kd.R_new' ho0 (Kd.R_lt (by (with_reducible repeat (first | apply Kd.R_alloc | apply Kd.R_drewN | apply Kd.R_drew)); exact HO244.out))) (below_size (by repeat (first | (with_reducible first | exact HB.out | apply below_alloc | apply pw_below_drewN | apply below_drew1) | exact HB.out)))); have n2_ := Aside0.mk (below_step (by repeat (first | (with_reducible first | exact HB.out | apply below_alloc | apply pw_below_drewN | apply below_drew1) | exact HB.out)) hb); clear HO244; clear HB; have HO244 := n0_; have HO251 := n1_; have HB := n2_; clear n0_ n1_ n2_; (try clear hb); (try clear hb2); (try clear hk); (try clear hi); (try clear ho0)) | ((first | ((with_reducible refine gate_callee (f := 11) rfl ?_); refine goesL_ (some 57) rfl rfl Try.func11 (by kernel_rfl) rfl #[.slice Ao23 y242.length co23, .string a1] rfl (by (try simp only [List.map_toArray, List.map_cons, List.map_nil]); first | done | rfl | (simp only [List.length_drop, List.length_take]; rfl)) ?_; (with_reducible refine (labels_Drop.calls kj3 _ _ y242 a1 t252 _ ?side1 ?side2 A18.out).mono ?_); (case side1 => repeat (first | exact (Kd.R_reads' HO244.out).2.2 | (with_reducible refine Kd.C_alloc ?_ _) | (with_reducible refine Kd.C_drewN ?_ _) | (with_reducible refine Kd.C_drew ?_))); (case side2 => exact (Kd.R_reads' HO244.out).2.1); rintro e w26 ⟨v253, rfl, ho0, hb⟩; refine ⟨_, rfl, ?_⟩) | (go_at_call 11; (with_reducible refine (labels_Drop.calls kj3 _ _ y242 a1 t252 _ ?side1 ?side2 A18.out).mono ?_); (case side1 => repeat (first | exact (Kd.R_reads' HO244.out).2.2 | (with_reducible refine Kd.C_alloc ?_ _) | (with_reducible refine Kd.C_drewN ?_ _) | (with_reducible refine Kd.C_drew ?_))); (case side2 => exact (Kd.R_reads' HO244.out).2.1); rintro e w26 ⟨v253, rfl, ho0, hb⟩)); have n0_ := Aside0.mk (Kd.R_elder' (by (with_reducible repeat (first | apply Kd.R_alloc | apply Kd.R_drewN | apply Kd.R_drew)); exact HO244.out) (Kd.R_base ho0) hb); have n1_ := Aside0.mk (Kd.R_elder' (by (with_reducible repeat (first | apply Kd.R_alloc | apply Kd.R_drewN | apply Kd.R_drew)); exact HO251.out) (Kd.R_base ho0) hb); have n2_ := Aside0.mk (Kd.R_lower (Kd.R_new' (Kd.R_new' ho0 (Kd.R_lt (by (with_reducible repeat (first | apply Kd.R_alloc | apply Kd.R_drewN | apply Kd.R_drew)); exact HO244.out))) (Kd.R_lt (by (with_reducible repeat (first | apply Kd.R_alloc | apply Kd.R_drewN | apply Kd.R_drew)); exact HO251.out))) (below_size (by repeat (first | (with_reducible first | exact HB.out | apply below_alloc | apply pw_below_drewN | apply below_drew1) | exact HB.out)))); have n3_ := Aside0.mk (below_step (by repeat (first | (with_reducible first | exact HB.out | apply below_alloc | apply pw_below_drewN | apply below_drew1) | exact HB.out)) hb); clear HO244; clear HO251; clear HB; have HO244 := n0_; have HO251 := n1_; have HO254 := n2_; have HB := n3_; clear n0_ n1_ n2_ n3_; (try clear hb); (try clear hb2); (try clear hk); (try clear hi); (try clear ho0)))
          (try simp only [Act.put, List.setIfInBounds_toArray, List.set_cons_zero, List.set_cons_succ])
          go_cut [14] (fun v14 wc => ∃ (kq : Nat) (x14_18 : Bool), v14 = .bool x14_18 ∧ Aside0 (triremelaw05_LabelsSet.j1 kq l0 y242 t249 t252 x14_18 = some r) ∧ Aside0 (kq ≤ kj3) ∧ Aside0 (Kd.R k31 31 wc w.heap.size (fun k_ => some k_ ≠ (v250 : Value).ownBlock ∧ some k_ ≠ (v253 : Value).ownBlock) (.slice Ao23 y242.length co23) y242) ∧ Aside0 (Kd.R k31 31 wc w.heap.size (fun k_ => some k_ ≠ ((.slice Ao23 y242.length co23) : Value).ownBlock ∧ some k_ ≠ (v253 : Value).ownBlock) v250 t249) ∧ Aside0 (Kd.R k31 31 wc w.heap.size (fun k_ => some k_ ≠ ((.slice Ao23 y242.length co23) : Value).ownBlock ∧ some k_ ≠ (v250 : Value).ownBlock) v253 t252) ∧ Aside0 (Below w.heap.size w wc))
          case first =>
            have H := HC19.out
            clear HC19
            by_cases c27 : t245.toList = t247.toList
            · rw [if_pos c27] at H
              have c27b0 : (t245.toList == t247.toList) = true := beq_iff_eq.mpr c27
              have c27b1 : (t245.toList != t247.toList) = false := bne_eq_false_iff_eq.mpr c27
              clear c27
              (first | rw [c27b0] | (simp only [i64_w, i32_w]; rw [c27b0]) | skip)
              by_cases c28 : (t246 == t248) = true
              · rw [if_pos c28] at H
                have c28b0 : (t246 == t248) = true := c28
                (try (have c28b1 : decide (t246 = t248) = true := by simpa using c28))
                (try (have c28b2 : (t246 == t248) = true := by simpa using c28))
                clear c28
                replace H := Option.bind_eq_some_iff.mp H
                obtain ⟨t255, A290, H⟩ := H
                replace H : ((triremeref05_Same.f kj3 t249 t255).bind fun t258 => (if t258 = true then ((triremeref05_Drop.f kj3 l0 a1).bind fun t259 => ((triremeref05_Same.f kj3 t252 t259).bind fun t262 => (triremelaw05_LabelsSet.j1 kj3 l0 y242 t249 t252 t262))) else (triremelaw05_LabelsSet.j1 kj3 l0 y242 t249 t252 false))) = some r := H
                have A29 := Aside0.mk A290
                clear A290
                replace H := Option.bind_eq_some_iff.mp H
                obtain ⟨t258, A300, H⟩ := H
                replace H : (if t258 = true then ((triremeref05_Drop.f kj3 l0 a1).bind fun t259 => ((triremeref05_Same.f kj3 t252 t259).bind fun t262 => (triremelaw05_LabelsSet.j1 kj3 l0 y242 t249 t252 t262))) else (triremelaw05_LabelsSet.j1 kj3 l0 y242 t249 t252 false)) = some r := H
                have A30 := Aside0.mk A300
                clear A300
                by_cases c31 : t258 = true
                · subst c31
                  have H1 : ((triremeref05_Drop.f kj3 l0 a1).bind fun t259 => ((triremeref05_Same.f kj3 t252 t259).bind fun t262 => (triremelaw05_LabelsSet.j1 kj3 l0 y242 t249 t252 t262))) = some r := by rw [if_pos rfl] at H; exact H
                  clear H
                  have H := H1
                  clear H1
                  replace H := Option.bind_eq_some_iff.mp H
                  obtain ⟨t259, A320, H⟩ := H
                  replace H : ((triremeref05_Same.f kj3 t252 t259).bind fun t262 => (triremelaw05_LabelsSet.j1 kj3 l0 y242 t249 t252 t262)) = some r := H
                  have A32 := Aside0.mk A320
                  clear A320
                  replace H := Option.bind_eq_some_iff.mp H
                  obtain ⟨t262, A330, H⟩ := H
                  replace H : (triremelaw05_LabelsSet.j1 kj3 l0 y242 t249 t252 t262) = some r := H
                  have A33 := Aside0.mk A330
                  clear A330
                  have H' := Aside0.mk H
                  clear H
                  go_wp2_with (first | (go_at_call 13; (with_reducible refine (triremeref05_Set.calls kj3 _ _ l0 a1 a2 t255 _ ?side1 ?side2 A29.out).mono ?_); (case side1 => repeat (first | exact (Kd.C_below HR0.out HB.out) | (with_reducible refine Kd.C_alloc ?_ _) | (with_reducible refine Kd.C_drewN ?_ _) | (with_reducible refine Kd.C_drew ?_))); (case side2 => exact HC0.out); rintro e w34 ⟨v256, rfl, ho0, hb⟩; have n0_ := Aside0.mk (Kd.R_elder' (by (with_reducible repeat (first | apply Kd.R_alloc | apply Kd.R_drewN | apply Kd.R_drew)); exact HO244.out) (Kd.R_base ho0) hb); have n1_ := Aside0.mk (Kd.R_elder' (by (with_reducible repeat (first | apply Kd.R_alloc | apply Kd.R_drewN | apply Kd.R_drew)); exact HO251.out) (Kd.R_base ho0) hb); have n2_ := Aside0.mk (Kd.R_elder' (by (with_reducible repeat (first | apply Kd.R_alloc | apply Kd.R_drewN | apply Kd.R_drew)); exact HO254.out) (Kd.R_base ho0) hb); have n3_ := Aside0.mk (Kd.R_lower (Kd.R_new' (Kd.R_new' (Kd.R_new' ho0 (Kd.R_lt (by (with_reducible repeat (first | apply Kd.R_alloc | apply Kd.R_drewN | apply Kd.R_drew)); exact HO244.out))) (Kd.R_lt (by (with_reducible repeat (first | apply Kd.R_alloc | apply Kd.R_drewN | apply Kd.R_drew)); exact HO251.out))) (Kd.R_lt (by (with_reducible repeat (first | apply Kd.R_alloc | apply Kd.R_drewN | apply Kd.R_drew)); exact HO254.out))) (below_size (by repeat (first | (with_reducible first | exact HB.out | apply below_alloc | apply pw_below_drewN | apply below_drew1) | exact HB.out)))); have n4_ := Aside0.mk (below_step (by repeat (first | (with_reducible first | exact HB.out | apply below_alloc | apply pw_below_drewN | apply below_drew1) | exact HB.out)) hb); clear HO244; clear HO251; clear HO254; clear HB; have HO244 := n0_; have HO251 := n1_; have HO254 := n2_; have HO257 := n3_; have HB := n4_; clear n0_ n1_ n2_ n3_ n4_; (try clear hb); (try clear hb2); (try clear hk); (try clear hi); (try clear ho0); obtain ⟨Ao35, co35, eo35⟩ := Kd.R_slice HO251.out; subst eo35; obtain ⟨Ao36, co36, eo36⟩ := Kd.R_slice HO257.out; subst eo36) | (go_at_call 12; (with_reducible refine (triremeref05_Same.calls kj3 _ _ t249 _ _ t255 true _ ?side1 ?side2 ?side3 ?side4 A30.out).mono ?_); (case side1 => repeat (first | exact (Kd.R_reads' HO251.out).2.2 | (with_reducible refine Kd.C_alloc ?_ _) | (with_reducible refine Kd.C_drewN ?_ _) | (with_reducible refine Kd.C_drew ?_))); (case side2 => exact (Kd.R_reads' HO251.out).2.1); (case side3 => repeat (first | exact (Kd.R_reads' HO257.out).2.2 | (with_reducible refine Kd.C_alloc ?_ _) | (with_reducible refine Kd.C_drewN ?_ _) | (with_reducible refine Kd.C_drew ?_))); (case side4 => exact (Kd.R_reads' HO257.out).2.1); rintro e w' ⟨rfl, ⟨nd, rfl⟩⟩) | (go_at_call 14; (with_reducible refine (triremeref05_Drop.calls kj3 _ _ l0 a1 t259 _ ?side1 ?side2 A32.out).mono ?_); (case side1 => repeat (first | exact (Kd.C_below HR0.out (by repeat (first | (with_reducible first | exact HB.out | apply below_alloc | apply pw_below_drewN | apply below_drew1) | exact HB.out))) | (with_reducible refine Kd.C_alloc ?_ _) | (with_reducible refine Kd.C_drewN ?_ _) | (with_reducible refine Kd.C_drew ?_))); (case side2 => exact HC0.out); rintro e w37 ⟨v260, rfl, ho0, hb⟩; have n0_ := Aside0.mk (Kd.R_elder' (by (with_reducible repeat (first | apply Kd.R_alloc | apply Kd.R_drewN | apply Kd.R_drew)); exact HO244.out) (Kd.R_base ho0) hb); have n1_ := Aside0.mk (Kd.R_elder' (by (with_reducible repeat (first | apply Kd.R_alloc | apply Kd.R_drewN | apply Kd.R_drew)); exact HO251.out) (Kd.R_base ho0) hb); have n2_ := Aside0.mk (Kd.R_elder' (by (with_reducible repeat (first | apply Kd.R_alloc | apply Kd.R_drewN | apply Kd.R_drew)); exact HO254.out) (Kd.R_base ho0) hb); have n3_ := Aside0.mk (Kd.R_elder' (by (with_reducible repeat (first | apply Kd.R_alloc | apply Kd.R_drewN | apply Kd.R_drew)); exact HO257.out) (Kd.R_base ho0) hb); have n4_ := Aside0.mk (Kd.R_lower (Kd.R_new' (Kd.R_new' (Kd.R_new' (Kd.R_new' ho0 (Kd.R_lt (by (with_reducible repeat (first | apply Kd.R_alloc | apply Kd.R_drewN | apply Kd.R_drew)); exact HO244.out))) (Kd.R_lt (by (with_reducible repeat (first | apply Kd.R_alloc | apply Kd.R_drewN | apply Kd.R_drew)); exact HO251.out))) (Kd.R_lt (by (with_reducible repeat (first | apply Kd.R_alloc | apply Kd.R_drewN | apply Kd.R_drew)); exact HO254.out))) (Kd.R_lt (by (with_reducible repeat (first | apply Kd.R_alloc | apply Kd.R_drewN | apply Kd.R_drew)); exact HO257.out))) (below_size (by repeat (first | (with_reducible first | exact HB.out | apply below_alloc | apply pw_below_drewN | apply below_drew1) | exact HB.out)))); have n5_ := Aside0.mk (below_step (by repeat (first | (with_reducible first | exact HB.out | apply below_alloc | apply pw_below_drewN | apply below_drew1) | exact HB.out)) hb); clear HO244; clear HO251; clear HO254; clear HO257; clear HB; have HO244 := n0_; have HO251 := n1_; have HO254 := n2_; have HO257 := n3_; have HO261 := n4_; have HB := n5_; clear n0_ n1_ n2_ n3_ n4_ n5_; (try clear hb); (try clear hb2); (try clear hk); (try clear hi); (try clear ho0); obtain ⟨Ao38, co38, eo38⟩ := Kd.R_slice HO254.out; subst eo38; obtain ⟨Ao39, co39, eo39⟩ := Kd.R_slice HO261.out; subst eo39) | (go_at_call 12; (with_reducible refine (triremeref05_Same.calls kj3 _ _ t252 _ _ t259 t262 _ ?side1 ?side2 ?side3 ?side4 A33.out).mono ?_); (case side1 => repeat (first | exact (Kd.R_reads' HO254.out).2.2 | (with_reducible refine Kd.C_alloc ?_ _) | (with_reducible refine Kd.C_drewN ?_ _) | (with_reducible refine Kd.C_drew ?_))); (case side2 => exact (Kd.R_reads' HO254.out).2.1); (case side3 => repeat (first | exact (Kd.R_reads' HO261.out).2.2 | (with_reducible refine Kd.C_alloc ?_ _) | (with_reducible refine Kd.C_drewN ?_ _) | (with_reducible refine Kd.C_drew ?_))); (case side4 => exact (Kd.R_reads' HO261.out).2.1); rintro e w' ⟨rfl, ⟨nd, rfl⟩⟩))
                  go_meet
                  case rel => exact ⟨_, (t262), (by first | rfl | (simp; done) | (simp [*]; done)), H', ⟨by have := HJ3.out; first | omega | exact Nat.le_refl _⟩, ⟨by (with_reducible repeat (first | apply Kd.R_alloc | apply Kd.R_drewN | apply Kd.R_drew)); exact Kd.R_mono HO244.out (fun _ hk => ⟨hk.1.1.1.2, hk.1.1.2⟩)⟩, ⟨by (with_reducible repeat (first | apply Kd.R_alloc | apply Kd.R_drewN | apply Kd.R_drew)); exact Kd.R_mono HO251.out (fun _ hk => ⟨hk.1.1.1.2, hk.1.1.2⟩)⟩, ⟨by (with_reducible repeat (first | apply Kd.R_alloc | apply Kd.R_drewN | apply Kd.R_drew)); exact Kd.R_mono HO254.out (fun _ hk => ⟨hk.1.1.1.2, hk.1.1.2⟩)⟩, ⟨by repeat (first | (with_reducible first | exact HB.out | apply below_alloc | apply pw_below_drewN | apply below_drew1) | exact HB.out)⟩⟩
                · replace c31 := Bool.eq_false_iff.mpr c31
                  subst c31
                  have H1 : (triremelaw05_LabelsSet.j1 kj3 l0 y242 t249 t252 false) = some r := by rw [if_neg (show ¬ (false = true) by decide)] at H; exact H
                  clear H
                  have H := H1
                  clear H1
                  have H' := Aside0.mk H
                  clear H
                  go_wp2_with (first | (go_at_call 13; (with_reducible refine (triremeref05_Set.calls kj3 _ _ l0 a1 a2 t255 _ ?side1 ?side2 A29.out).mono ?_); (case side1 => repeat (first | exact (Kd.C_below HR0.out HB.out) | (with_reducible refine Kd.C_alloc ?_ _) | (with_reducible refine Kd.C_drewN ?_ _) | (with_reducible refine Kd.C_drew ?_))); (case side2 => exact HC0.out); rintro e w40 ⟨v256, rfl, ho0, hb⟩; have n0_ := Aside0.mk (Kd.R_elder' (by (with_reducible repeat (first | apply Kd.R_alloc | apply Kd.R_drewN | apply Kd.R_drew)); exact HO244.out) (Kd.R_base ho0) hb); have n1_ := Aside0.mk (Kd.R_elder' (by (with_reducible repeat (first | apply Kd.R_alloc | apply Kd.R_drewN | apply Kd.R_drew)); exact HO251.out) (Kd.R_base ho0) hb); have n2_ := Aside0.mk (Kd.R_elder' (by (with_reducible repeat (first | apply Kd.R_alloc | apply Kd.R_drewN | apply Kd.R_drew)); exact HO254.out) (Kd.R_base ho0) hb); have n3_ := Aside0.mk (Kd.R_lower (Kd.R_new' (Kd.R_new' (Kd.R_new' ho0 (Kd.R_lt (by (with_reducible repeat (first | apply Kd.R_alloc | apply Kd.R_drewN | apply Kd.R_drew)); exact HO244.out))) (Kd.R_lt (by (with_reducible repeat (first | apply Kd.R_alloc | apply Kd.R_drewN | apply Kd.R_drew)); exact HO251.out))) (Kd.R_lt (by (with_reducible repeat (first | apply Kd.R_alloc | apply Kd.R_drewN | apply Kd.R_drew)); exact HO254.out))) (below_size (by repeat (first | (with_reducible first | exact HB.out | apply below_alloc | apply pw_below_drewN | apply below_drew1) | exact HB.out)))); have n4_ := Aside0.mk (below_step (by repeat (first | (with_reducible first | exact HB.out | apply below_alloc | apply pw_below_drewN | apply below_drew1) | exact HB.out)) hb); clear HO244; clear HO251; clear HO254; clear HB; have HO244 := n0_; have HO251 := n1_; have HO254 := n2_; have HO257 := n3_; have HB := n4_; clear n0_ n1_ n2_ n3_ n4_; (try clear hb); (try clear hb2); (try clear hk); (try clear hi); (try clear ho0); obtain ⟨Ao41, co41, eo41⟩ := Kd.R_slice HO251.out; subst eo41; obtain ⟨Ao42, co42, eo42⟩ := Kd.R_slice HO257.out; subst eo42) | (go_at_call 12; (with_reducible refine (triremeref05_Same.calls kj3 _ _ t249 _ _ t255 false _ ?side1 ?side2 ?side3 ?side4 A30.out).mono ?_); (case side1 => repeat (first | exact (Kd.R_reads' HO251.out).2.2 | (with_reducible refine Kd.C_alloc ?_ _) | (with_reducible refine Kd.C_drewN ?_ _) | (with_reducible refine Kd.C_drew ?_))); (case side2 => exact (Kd.R_reads' HO251.out).2.1); (case side3 => repeat (first | exact (Kd.R_reads' HO257.out).2.2 | (with_reducible refine Kd.C_alloc ?_ _) | (with_reducible refine Kd.C_drewN ?_ _) | (with_reducible refine Kd.C_drew ?_))); (case side4 => exact (Kd.R_reads' HO257.out).2.1); rintro e w' ⟨rfl, ⟨nd, rfl⟩⟩))
                  go_meet
                  case rel => exact ⟨_, (false), (by first | rfl | (simp; done) | (simp [*]; done)), H', ⟨by have := HJ3.out; first | omega | exact Nat.le_refl _⟩, ⟨by (with_reducible repeat (first | apply Kd.R_alloc | apply Kd.R_drewN | apply Kd.R_drew)); exact Kd.R_mono HO244.out (fun _ hk => ⟨hk.1.1.2, hk.1.2⟩)⟩, ⟨by (with_reducible repeat (first | apply Kd.R_alloc | apply Kd.R_drewN | apply Kd.R_drew)); exact Kd.R_mono HO251.out (fun _ hk => ⟨hk.1.1.2, hk.1.2⟩)⟩, ⟨by (with_reducible repeat (first | apply Kd.R_alloc | apply Kd.R_drewN | apply Kd.R_drew)); exact Kd.R_mono HO254.out (fun _ hk => ⟨hk.1.1.2, hk.1.2⟩)⟩, ⟨by repeat (first | (with_reducible first | exact HB.out | apply below_alloc | apply pw_below_drewN | apply below_drew1) | exact HB.out)⟩⟩
              · rw [if_neg c28] at H
                have c28b0 : (t246 == t248) = false := by simpa using c28
                (try (have c28b1 : decide (t246 = t248) = false := by simpa using c28))
                (try (have c28b2 : (t246 == t248) = false := by simpa using c28))
                (try (have c28b3 : ¬ (t246 = t248) := by simpa using c28))
                clear c28
                have H' := Aside0.mk H
                clear H
                go_wp2
                go_meet
                case rel => exact ⟨_, (false), (by first | rfl | (simp; done) | (simp [*]; done)), H', ⟨by have := HJ3.out; first | omega | exact Nat.le_refl _⟩, ⟨by (with_reducible repeat (first | apply Kd.R_alloc | apply Kd.R_drewN | apply Kd.R_drew)); exact Kd.R_mono HO244.out (fun _ hk => ⟨hk.1.2, hk.2⟩)⟩, ⟨by (with_reducible repeat (first | apply Kd.R_alloc | apply Kd.R_drewN | apply Kd.R_drew)); exact Kd.R_mono HO251.out (fun _ hk => ⟨hk.1.2, hk.2⟩)⟩, ⟨by (with_reducible repeat (first | apply Kd.R_alloc | apply Kd.R_drewN | apply Kd.R_drew)); exact Kd.R_mono HO254.out (fun _ hk => ⟨hk.1.2, hk.2⟩)⟩, ⟨by repeat (first | (with_reducible first | exact HB.out | apply below_alloc | apply pw_below_drewN | apply below_drew1) | exact HB.out)⟩⟩
            · rw [if_neg c27] at H
              have c27b0 : (t245.toList == t247.toList) = false := beq_eq_false_iff_ne.mpr c27
              have c27b1 : (t245.toList != t247.toList) = true := bne_iff_ne.mpr c27
              (first | rw [c27b0] | (simp only [i64_w, i32_w]; rw [c27b0]) | skip)
              have H' := Aside0.mk H
              clear H
              go_wp2
              go_meet
              case rel => exact ⟨_, (false), (by first | rfl | (simp; done) | (simp [*]; done)), H', ⟨by have := HJ3.out; first | omega | exact Nat.le_refl _⟩, ⟨by (with_reducible repeat (first | apply Kd.R_alloc | apply Kd.R_drewN | apply Kd.R_drew)); exact Kd.R_mono HO244.out (fun _ hk => ⟨hk.1.2, hk.2⟩)⟩, ⟨by (with_reducible repeat (first | apply Kd.R_alloc | apply Kd.R_drewN | apply Kd.R_drew)); exact Kd.R_mono HO251.out (fun _ hk => ⟨hk.1.2, hk.2⟩)⟩, ⟨by (with_reducible repeat (first | apply Kd.R_alloc | apply Kd.R_drewN | apply Kd.R_drew)); exact Kd.R_mono HO254.out (fun _ hk => ⟨hk.1.2, hk.2⟩)⟩, ⟨by repeat (first | (with_reducible first | exact HB.out | apply below_alloc | apply pw_below_drewN | apply below_drew1) | exact HB.out)⟩⟩
          case rest =>
            clear HC19
            try clear c1
            try clear c2
            try clear p2
            try clear c3
            try clear c5
            try clear c6
            try clear c7
            try clear c7b0
            try clear c7b1
            try clear c8
            try clear c8b0
            try clear c8b1
            try clear c9
            try clear c10
            try clear c11
            try clear c14
            try clear c27
            try clear c27b0
            try clear c27b1
            try clear c28
            try clear c28b0
            try clear c28b1
            try clear c28b2
            try clear c31
            try clear p2
            obtain ⟨kq, x14_18, rfl, HA, HJ18, HO_7, HO_12, HO_13, HB⟩ := hcut
            cases kq with
            | zero => exact absurd HA.out (by simp [triremelaw05_LabelsSet.j1])
            | succ kj18 =>
              have H := HA.out
              clear HA
              simp only [triremelaw05_LabelsSet.j1] at H
              have H' := Aside0.mk H
              clear H
              go_wp2
              go_loopg [15] kj18 (fun kq v15 w' => ∃ (x12_3 : List (S31)) (x15_3 : Int), v15 = .int .i64 x15_3 ∧ Aside0 (triremelaw05_LabelsSet.l0 kq l0 y242 x12_3 t252 x14_18 x15_3 = some r) ∧ Aside0 (kq ≤ kj18) ∧ Aside0 (Kd.R k31 31 w' w.heap.size (fun k_ => some k_ ≠ (v250 : Value).ownBlock ∧ some k_ ≠ (v253 : Value).ownBlock) (.slice Ao23 y242.length co23) y242) ∧ Aside0 (Kd.R k31 31 w' w.heap.size (fun k_ => some k_ ≠ ((.slice Ao23 y242.length co23) : Value).ownBlock ∧ some k_ ≠ (v253 : Value).ownBlock) v250 x12_3) ∧ Aside0 (Kd.R k31 31 w' w.heap.size (fun k_ => some k_ ≠ ((.slice Ao23 y242.length co23) : Value).ownBlock ∧ some k_ ≠ (v250 : Value).ownBlock) v253 t252) ∧ Aside0 (Below w.heap.size w w'))
              case atStart => exact ⟨(t249), (0), (by first | rfl | (simp; done) | (simp [*]; done)), H', ⟨Nat.le_refl _⟩, ⟨by (with_reducible repeat (first | apply Kd.R_alloc | apply Kd.R_drewN | apply Kd.R_drew)); exact HO_7.out⟩, ⟨by (with_reducible repeat (first | apply Kd.R_alloc | apply Kd.R_drewN | apply Kd.R_drew)); exact HO_12.out⟩, ⟨by (with_reducible repeat (first | apply Kd.R_alloc | apply Kd.R_drewN | apply Kd.R_drew)); exact HO_13.out⟩, ⟨by repeat (first | (with_reducible first | exact HB.out | apply below_alloc | apply pw_below_drewN | apply below_drew1) | exact HB.out)⟩⟩
              case round =>
                clear H'
                try clear c1
                try clear c2
                try clear p2
                try clear c3
                try clear c5
                try clear c6
                try clear c7
                try clear c7b0
                try clear c7b1
                try clear c8
                try clear c8b0
                try clear c8b1
                try clear c9
                try clear c10
                try clear c11
                try clear c14
                try clear c27
                try clear c27b0
                try clear c27b1
                try clear c28
                try clear c28b0
                try clear c28b1
                try clear c28b2
                try clear c31
                try clear p2
                obtain ⟨x12_3, x15_3, rfl, HA, HK3, HO_7, HO_12, HO_13, HB⟩ := hrel
                cases gk with
                | zero => exact absurd HA.out (by simp [triremelaw05_LabelsSet.l0])
                | succ k3 =>
                  have H := HA.out
                  clear HA
                  simp only [triremelaw05_LabelsSet.l0] at H
                  by_cases c43 : x15_3 < (x12_3.length : Int)
                  · rw [if_pos c43] at H
                    have c43b0 : decide (x15_3 < (x12_3.length : Int)) = true := decide_eq_true c43
                    clear c43
                    by_cases c44 : 0 ≤ x15_3
                    · rw [if_pos c44] at H
                      have c44b0 : decide (0 ≤ x15_3) = true := decide_eq_true c44
                      clear c44
                      obtain ⟨y263, hy263⟩ : ∃ y_ : List (S31), y_ = (x12_3.set (x15_3 : Int).toNat (⟨(rd_T31 x12_3 x15_3).f0, (⟨#[115, 112, 111, 105, 108, 116]⟩ : ByteArray)⟩ : S31)) := ⟨_, rfl⟩
                      replace H : (triremelaw05_LabelsSet.l0 k3 l0 y242 y263 t252 x14_18 (wrap64 (x15_3 + 1))) = some r := by first | (rw [hy263]; with_reducible exact H) | (have H2_ := (Option.bind_some _ _).symm.trans H; rw [hy263]; with_reducible exact H2_) | (have H2_ := (Option.bind_some _ _).symm.trans H; with_reducible exact H2_) | with_reducible exact H | (rw [hy263]; exact H) | exact H
                      have Ny263 := Aside0.mk hy263
                      clear hy263
                      have H' := Aside0.mk H
                      clear H
                      obtain ⟨Ao46, co46, eo46⟩ := Kd.R_slice HO_12.out
                      subst eo46
                      have p45 : 0 ≤ (x15_3 : Int) := of_decide_eq_true (by first | (with_reducible assumption) | assumption)
                      have q45 : (x15_3 : Int) < ((x12_3.length : Int) : Int) := of_decide_eq_true (by first | (with_reducible assumption) | assumption)
                      obtain ⟨go45, co45, eo45, gb45, gl45, cl45, HG45⟩ := Kd.R_form HO_12.out (by omega)
                      (first | cases eo45 | (injection eo45 with ea_ en_ ec_; (first | subst ea_ | (injection ea_ with ea_; subst ea_)); subst ec_; clear en_))
                      have GB45 := Aside0.mk gb45
                      have GG45 := Aside0.mk HG45
                      clear gb45 gl45 HG45
                      obtain ⟨ce45, hcl45, hM45, hcc45, hfr45⟩ := Kd.R_elem HO_12.out z31 (x15_3 : Int) p45 q45
                      obtain rfl := k31_openM hM45
                      have hx45_0 : wr.cell? ⟨go45, (x15_3 : Int).toNat * 2, none⟩ = some (.string ((rd_T31 x12_3 x15_3).f0)) := hcc45 0 _ rfl
                      have hx45_1 : wr.cell? ⟨go45, (x15_3 : Int).toNat * 2 + 1, none⟩ = some (.string ((rd_T31 x12_3 x15_3).f1)) := hcc45 1 _ rfl
                      have hf45_0 : wr.frozen? ⟨go45, (x15_3 : Int).toNat * 2, none⟩ = false := hfr45 0
                      have hf45_1 : wr.frozen? ⟨go45, (x15_3 : Int).toNat * 2 + 1, none⟩ = false := hfr45 1
                      clear hcl45 hcc45 hfr45 hM45
                      replace p45 := eq_true p45
                      replace q45 := eq_true q45
                      have HX47 := Aside0.mk (show Kd.R k31 31 wr w.heap.size (fun k_ => some k_ ≠ (.slice Ao23 y242.length co23 : Value).ownBlock ∧ some k_ ≠ (v253 : Value).ownBlock) (.slice (some ⟨go45, 0, none⟩) x12_3.length co46) x12_3 from (by (with_reducible repeat (first | apply Kd.R_alloc | apply Kd.R_drewN | apply Kd.R_drew)); exact HO_12.out))
                      obtain ⟨ce47, hcl47, hM47, hcc47, hfr47⟩ := Kd.R_elem HX47.out z31 (x15_3 : Int) (of_decide_eq_true (by first | (with_reducible assumption) | assumption)) (by have h_ : (x15_3 : Int) < ((x12_3.length : Int) : Int) := of_decide_eq_true (by first | (with_reducible assumption) | assumption); first | exact h_ | (have e_ := (Kd.R_reads' HO_12.out).1; omega) | simpa using h_)
                      obtain rfl := k31_openM hM47
                      have HP47 := Kd.R_seg HX47.out (x15_3 : Int) (of_decide_eq_true (by first | (with_reducible assumption) | assumption)) (by have h_ : (x15_3 : Int) < ((x12_3.length : Int) : Int) := of_decide_eq_true (by first | (with_reducible assumption) | assumption); first | exact h_ | (have e_ := (Kd.R_reads' HO_12.out).1; omega) | simpa using h_) (seg := [.string (⟨#[115, 112, 111, 105, 108, 116]⟩ : ByteArray)]) (j := 1) hcl47 hcc47 (show 2 ≤ 2 from by decide) (x' := (⟨(rd_T31 x12_3 x15_3).f0, (⟨#[115, 112, 111, 105, 108, 116]⟩ : ByteArray)⟩ : S31)) (k31_mkM _ _ _ (⟨(rd_T31 x12_3 x15_3).f0, (⟨#[115, 112, 111, 105, 108, 116]⟩ : ByteArray)⟩ : S31) ) (fun _ hk => hk)
                      have hx47_1 := hcc47 1 _ rfl
                      (try simp only [show (k31).sz = 2 from rfl, Nat.mul_one, Nat.add_zero] at hx47_1)
                      have hf47_1 := hfr47 1
                      (try simp only [show (k31).sz = 2 from rfl, Nat.mul_one, Nat.add_zero] at hf47_1)
                      clear hcl47 hcc47 hfr47 hM47
                      go_wp2_with (first | ((with_reducible refine gate_store (t := 9) (p := 90) rfl ?_); refine store_event (t := 9) (p := 90) (v := ?vo_w48) (w1 := (wr.setCell ⟨go45, (x15_3 : Int).toNat * 2 + 1, none⟩ (.string (⟨#[115, 112, 111, 105, 108, 116]⟩ : ByteArray)))) ?hg ?ho ?hn ?hr ?_; (case ho => rfl); (case hg => rfl); (case hn => rfl); (case hr => first | (go_simp; done) | (go_simp; rfl)); intro w48 hw; have hg : wr.grownBy w48 (some go45) := (by rw [hw]; exact HP47.2); have hp_ : Kd.R k31 31 w48 w.heap.size (fun k_ => some k_ ≠ (.slice Ao23 y242.length co23 : Value).ownBlock ∧ some k_ ≠ (v253 : Value).ownBlock) (.slice (some ⟨go45, 0, none⟩) x12_3.length co46) y263 := (by rw [hw, Ny263.out]; exact HP47.1); clear HP47; have n0_ := Aside0.mk (Kd.R_after (v := (.slice (some ⟨go45, 0, none⟩) x12_3.length co46)) (v1 := (.slice (some ⟨go45, 0, none⟩) x12_3.length co46)) (ok := (fun k_ => some k_ ≠ (v253 : Value).ownBlock)) (by (with_reducible repeat (first | apply Kd.R_alloc | apply Kd.R_drewN | apply Kd.R_drew)); exact Kd.R_mono HO_7.out (fun _ hk => ⟨hk.2, hk.1⟩)) hg (.inl rfl)); have n1_ := Aside0.mk (hp_); have n2_ := Aside0.mk (Kd.R_after (v := (.slice (some ⟨go45, 0, none⟩) x12_3.length co46)) (v1 := (.slice (some ⟨go45, 0, none⟩) x12_3.length co46)) (ok := (fun k_ => some k_ ≠ (.slice Ao23 y242.length co23 : Value).ownBlock)) (by (with_reducible repeat (first | apply Kd.R_alloc | apply Kd.R_drewN | apply Kd.R_drew)); exact HO_13.out) hg (.inl rfl)); have n3_ := Aside0.mk ((by rw [hw]; exact below_set (HB.out) GB45.out : Below w.heap.size w w48)); clear HO_7; clear HO_12; clear HO_13; clear HB; have HO_7 := n0_; have HO_12 := n1_; have HO_13 := n2_; have HB := n3_; clear n0_ n1_ n2_ n3_; clear hg hw hp_))
                      go_roundg k3
                      case measure => have := HJ3.out; have := HJ18.out; have := HK3.out; omega
                      case rel => exact ⟨(y263), (wrap64 (x15_3 + 1)), (by first | rfl | (simp; done) | (simp [*]; done)), H', ⟨by have := HJ3.out; have := HJ18.out; have := HK3.out; omega⟩, ⟨by (with_reducible repeat (first | apply Kd.R_alloc | apply Kd.R_drewN | apply Kd.R_drew)); exact Kd.R_mono HO_7.out (fun _ hk => ⟨hk.2, hk.1⟩)⟩, ⟨by (with_reducible repeat (first | apply Kd.R_alloc | apply Kd.R_drewN | apply Kd.R_drew)); exact HO_12.out⟩, ⟨by (with_reducible repeat (first | apply Kd.R_alloc | apply Kd.R_drewN | apply Kd.R_drew)); exact HO_13.out⟩, ⟨by repeat (first | (with_reducible first | exact HB.out | apply below_alloc | apply pw_below_drewN | apply below_drew1) | exact HB.out)⟩⟩
                    · rw [if_neg c44] at H
                      exact absurd H (by simp)
                  · rw [if_neg c43] at H
                    have c43b0 : decide (x15_3 < (x12_3.length : Int)) = false := decide_eq_false c43
                    clear c43
                    have H' := Aside0.mk H
                    clear H
                    obtain ⟨Ao49, co49, eo49⟩ := Kd.R_slice HO_12.out
                    subst eo49
                    go_wp2
                    go_loopg [16] k3 (fun kq v16 w' => ∃ (x13_4 : List (S31)) (x16_4 : Int), v16 = .int .i64 x16_4 ∧ Aside0 (triremelaw05_LabelsSet.l1 kq l0 y242 x13_4 x14_18 x16_4 = some r) ∧ Aside0 (kq ≤ k3) ∧ Aside0 (Kd.R k31 31 w' w.heap.size (fun k_ => some k_ ≠ (v253 : Value).ownBlock) (.slice Ao23 y242.length co23) y242) ∧ Aside0 (Kd.R k31 31 w' w.heap.size (fun k_ => some k_ ≠ ((.slice Ao23 y242.length co23) : Value).ownBlock) v253 x13_4) ∧ Aside0 (Below w.heap.size w w'))
                    case atStart => exact ⟨(t252), (0), (by first | rfl | (simp; done) | (simp [*]; done)), H', ⟨Nat.le_refl _⟩, ⟨by (with_reducible repeat (first | apply Kd.R_alloc | apply Kd.R_drewN | apply Kd.R_drew)); exact Kd.R_mono HO_7.out (fun _ hk => hk.2)⟩, ⟨by (with_reducible repeat (first | apply Kd.R_alloc | apply Kd.R_drewN | apply Kd.R_drew)); exact Kd.R_mono HO_13.out (fun _ hk => hk.1)⟩, ⟨by repeat (first | (with_reducible first | exact HB.out | apply below_alloc | apply pw_below_drewN | apply below_drew1) | exact HB.out)⟩⟩
                    case round =>
                      clear H'
                      try clear c1
                      try clear c2
                      try clear p2
                      try clear c3
                      try clear c4
                      try clear p4
                      try clear q4
                      try clear hx4
                      try clear hf4
                      try clear c5
                      try clear c6
                      try clear p6
                      try clear c7
                      try clear c7b0
                      try clear c7b1
                      try clear c8
                      try clear c8b0
                      try clear c8b1
                      try clear c9
                      try clear c10
                      try clear c11
                      try clear c14
                      try clear c27
                      try clear c27b0
                      try clear c27b1
                      try clear c28
                      try clear c28b0
                      try clear c28b1
                      try clear c28b2
                      try clear c31
                      try clear c43
                      try clear c43b0
                      try clear c44
                      try clear c44b0
                      try clear c45
                      try clear p45
                      try clear q45
                      try clear hx45
                      try clear hf45
                      try clear c47
                      try clear hx47
                      try clear hf47
                      try clear hx45_0
                      try clear hx45_1
                      try clear hx47_1
                      try clear p2
                      try clear p45
                      try clear q45
                      obtain ⟨x13_4, x16_4, rfl, HA, HK4, HO_7, HO_13, HB⟩ := hrel
                      cases gk with
                      | zero => exact absurd HA.out (by simp [triremelaw05_LabelsSet.l1])
                      | succ k4 =>
                        have H := HA.out
                        clear HA
                        simp only [triremelaw05_LabelsSet.l1] at H
                        by_cases c50 : x16_4 < (x13_4.length : Int)
                        · rw [if_pos c50] at H
                          have c50b0 : decide (x16_4 < (x13_4.length : Int)) = true := decide_eq_true c50
                          clear c50
                          by_cases c51 : 0 ≤ x16_4
                          · rw [if_pos c51] at H
                            have c51b0 : decide (0 ≤ x16_4) = true := decide_eq_true c51
                            clear c51
                            obtain ⟨y264, hy264⟩ : ∃ y_ : List (S31), y_ = (x13_4.set (x16_4 : Int).toNat (⟨(rd_T31 x13_4 x16_4).f0, (⟨#[115, 112, 111, 105, 108, 116]⟩ : ByteArray)⟩ : S31)) := ⟨_, rfl⟩
                            replace H : (triremelaw05_LabelsSet.l1 k4 l0 y242 y264 x14_18 (wrap64 (x16_4 + 1))) = some r := by first | (rw [hy264]; with_reducible exact H) | (have H2_ := (Option.bind_some _ _).symm.trans H; rw [hy264]; with_reducible exact H2_) | (have H2_ := (Option.bind_some _ _).symm.trans H; with_reducible exact H2_) | with_reducible exact H | (rw [hy264]; exact H) | exact H
                            have Ny264 := Aside0.mk hy264
                            clear hy264
                            have H' := Aside0.mk H
                            clear H
                            obtain ⟨Ao53, co53, eo53⟩ := Kd.R_slice HO_13.out
                            subst eo53
                            have p52 : 0 ≤ (x16_4 : Int) := of_decide_eq_true (by first | (with_reducible assumption) | assumption)
                            have q52 : (x16_4 : Int) < ((x13_4.length : Int) : Int) := of_decide_eq_true (by first | (with_reducible assumption) | assumption)
                            obtain ⟨go52, co52, eo52, gb52, gl52, cl52, HG52⟩ := Kd.R_form HO_13.out (by omega)
                            (first | cases eo52 | (injection eo52 with ea_ en_ ec_; (first | subst ea_ | (injection ea_ with ea_; subst ea_)); subst ec_; clear en_))
                            have GB52 := Aside0.mk gb52
                            have GG52 := Aside0.mk HG52
                            clear gb52 gl52 HG52
                            obtain ⟨ce52, hcl52, hM52, hcc52, hfr52⟩ := Kd.R_elem HO_13.out z31 (x16_4 : Int) p52 q52
                            obtain rfl := k31_openM hM52
                            have hx52_0 : wr.cell? ⟨go52, (x16_4 : Int).toNat * 2, none⟩ = some (.string ((rd_T31 x13_4 x16_4).f0)) := hcc52 0 _ rfl
                            have hx52_1 : wr.cell? ⟨go52, (x16_4 : Int).toNat * 2 + 1, none⟩ = some (.string ((rd_T31 x13_4 x16_4).f1)) := hcc52 1 _ rfl
                            have hf52_0 : wr.frozen? ⟨go52, (x16_4 : Int).toNat * 2, none⟩ = false := hfr52 0
                            have hf52_1 : wr.frozen? ⟨go52, (x16_4 : Int).toNat * 2 + 1, none⟩ = false := hfr52 1
                            clear hcl52 hcc52 hfr52 hM52
                            replace p52 := eq_true p52
                            replace q52 := eq_true q52
                            have HX54 := Aside0.mk (show Kd.R k31 31 wr w.heap.size (fun k_ => some k_ ≠ (.slice Ao23 y242.length co23 : Value).ownBlock) (.slice (some ⟨go52, 0, none⟩) x13_4.length co53) x13_4 from (by (with_reducible repeat (first | apply Kd.R_alloc | apply Kd.R_drewN | apply Kd.R_drew)); exact HO_13.out))
                            obtain ⟨ce54, hcl54, hM54, hcc54, hfr54⟩ := Kd.R_elem HX54.out z31 (x16_4 : Int) (of_decide_eq_true (by first | (with_reducible assumption) | assumption)) (by have h_ : (x16_4 : Int) < ((x13_4.length : Int) : Int) := of_decide_eq_true (by first | (with_reducible assumption) | assumption); first | exact h_ | (have e_ := (Kd.R_reads' HO_13.out).1; omega) | simpa using h_)
                            obtain rfl := k31_openM hM54
                            have HP54 := Kd.R_seg HX54.out (x16_4 : Int) (of_decide_eq_true (by first | (with_reducible assumption) | assumption)) (by have h_ : (x16_4 : Int) < ((x13_4.length : Int) : Int) := of_decide_eq_true (by first | (with_reducible assumption) | assumption); first | exact h_ | (have e_ := (Kd.R_reads' HO_13.out).1; omega) | simpa using h_) (seg := [.string (⟨#[115, 112, 111, 105, 108, 116]⟩ : ByteArray)]) (j := 1) hcl54 hcc54 (show 2 ≤ 2 from by decide) (x' := (⟨(rd_T31 x13_4 x16_4).f0, (⟨#[115, 112, 111, 105, 108, 116]⟩ : ByteArray)⟩ : S31)) (k31_mkM _ _ _ (⟨(rd_T31 x13_4 x16_4).f0, (⟨#[115, 112, 111, 105, 108, 116]⟩ : ByteArray)⟩ : S31) ) (fun _ hk => hk)
                            have hx54_1 := hcc54 1 _ rfl
                            (try simp only [show (k31).sz = 2 from rfl, Nat.mul_one, Nat.add_zero] at hx54_1)
                            have hf54_1 := hfr54 1
                            (try simp only [show (k31).sz = 2 from rfl, Nat.mul_one, Nat.add_zero] at hf54_1)
                            clear hcl54 hcc54 hfr54 hM54
                            go_wp2_with (first | ((with_reducible refine gate_store (t := 9) (p := 100) rfl ?_); refine store_event (t := 9) (p := 100) (v := ?vo_w55) (w1 := (wr.setCell ⟨go52, (x16_4 : Int).toNat * 2 + 1, none⟩ (.string (⟨#[115, 112, 111, 105, 108, 116]⟩ : ByteArray)))) ?hg ?ho ?hn ?hr ?_; (case ho => rfl); (case hg => rfl); (case hn => rfl); (case hr => first | (go_simp; done) | (go_simp; rfl)); intro w55 hw; have hg : wr.grownBy w55 (some go52) := (by rw [hw]; exact HP54.2); have hp_ : Kd.R k31 31 w55 w.heap.size (fun k_ => some k_ ≠ (.slice Ao23 y242.length co23 : Value).ownBlock) (.slice (some ⟨go52, 0, none⟩) x13_4.length co53) y264 := (by rw [hw, Ny264.out]; exact HP54.1); clear HP54; have n0_ := Aside0.mk (Kd.R_after (v := (.slice (some ⟨go52, 0, none⟩) x13_4.length co53)) (v1 := (.slice (some ⟨go52, 0, none⟩) x13_4.length co53)) (ok := (fun _ => True)) (by (with_reducible repeat (first | apply Kd.R_alloc | apply Kd.R_drewN | apply Kd.R_drew)); exact Kd.R_mono HO_7.out (fun _ hk => ⟨trivial, hk⟩)) hg (.inl rfl)); have n1_ := Aside0.mk (hp_); have n2_ := Aside0.mk ((by rw [hw]; exact below_set (HB.out) GB52.out : Below w.heap.size w w55)); clear HO_7; clear HO_13; clear HB; have HO_7 := n0_; have HO_13 := n1_; have HB := n2_; clear n0_ n1_ n2_; clear hg hw hp_))
                            go_roundg k4
                            case measure => have := HJ3.out; have := HJ18.out; have := HK3.out; have := HK4.out; omega
                            case rel => exact ⟨(y264), (wrap64 (x16_4 + 1)), (by first | rfl | (simp; done) | (simp [*]; done)), H', ⟨by have := HJ3.out; have := HJ18.out; have := HK3.out; have := HK4.out; omega⟩, ⟨by (with_reducible repeat (first | apply Kd.R_alloc | apply Kd.R_drewN | apply Kd.R_drew)); exact Kd.R_mono HO_7.out (fun _ hk => hk.2)⟩, ⟨by (with_reducible repeat (first | apply Kd.R_alloc | apply Kd.R_drewN | apply Kd.R_drew)); exact HO_13.out⟩, ⟨by repeat (first | (with_reducible first | exact HB.out | apply below_alloc | apply pw_below_drewN | apply below_drew1) | exact HB.out)⟩⟩
                          · rw [if_neg c51] at H
                            exact absurd H (by simp)
                        · rw [if_neg c50] at H
                          have c50b0 : decide (x16_4 < (x13_4.length : Int)) = false := decide_eq_false c50
                          clear c50
                          by_cases c56 : x14_18 = true
                          · subst c56
                            have H1 : ((triremeref05_Same.f k4 y242 l0).bind fun t265 => (if t265 = true then ((triremelaw05_known.f).bind fun t266 => (some t266)) else (some false))) = some r := by rw [if_pos rfl] at H; exact H
                            clear H
                            have H := H1
                            clear H1
                            replace H := Option.bind_eq_some_iff.mp H
                            obtain ⟨t265, A570, H⟩ := H
                            replace H : (if t265 = true then ((triremelaw05_known.f).bind fun t266 => (some t266)) else (some false)) = some r := H
                            have A57 := Aside0.mk A570
                            clear A570
                            by_cases c58 : t265 = true
                            · subst c58
                              have H1 : ((triremelaw05_known.f).bind fun t266 => (some t266)) = some r := by rw [if_pos rfl] at H; exact H
                              clear H
                              have H := H1
                              clear H1
                              replace H := Option.bind_eq_some_iff.mp H
                              obtain ⟨t266, A590, H⟩ := H
                              replace H : (some t266) = some r := H
                              have A59 := Aside0.mk A590
                              clear A590
                              obtain rfl := Option.some.inj H
                              obtain ⟨Ao60, co60, eo60⟩ := Kd.R_slice HO_13.out
                              subst eo60
                              go_wp2_with (first | (go_at_call 12; (with_reducible refine (triremeref05_Same.calls k4 _ _ y242 _ _ l0 true _ ?side1 ?side2 ?side3 ?side4 A57.out).mono ?_); (case side1 => repeat (first | exact (Kd.R_reads' HO_7.out).2.2 | (with_reducible refine Kd.C_alloc ?_ _) | (with_reducible refine Kd.C_drewN ?_ _) | (with_reducible refine Kd.C_drew ?_))); (case side2 => exact (Kd.R_reads' HO_7.out).2.1); (case side3 => repeat (first | exact (Kd.C_below HR0.out HB.out) | (with_reducible refine Kd.C_alloc ?_ _) | (with_reducible refine Kd.C_drewN ?_ _) | (with_reducible refine Kd.C_drew ?_))); (case side4 => exact HC0.out); rintro e w' ⟨rfl, ⟨nd, rfl⟩⟩) | (go_at_call 7; (with_reducible refine (triremelaw05_known.calls  t266 _ A59.out).mono ?_); rintro e w61 ⟨rfl, hb⟩; have n0_ := Aside0.mk (Kd.R_below (by (with_reducible repeat (first | apply Kd.R_alloc | apply Kd.R_drewN | apply Kd.R_drew)); exact HO_7.out) hb); have n1_ := Aside0.mk (Kd.R_below (by (with_reducible repeat (first | apply Kd.R_alloc | apply Kd.R_drewN | apply Kd.R_drew)); exact HO_13.out) hb); have n2_ := Aside0.mk (below_step (by repeat (first | (with_reducible first | exact HB.out | apply below_alloc | apply pw_below_drewN | apply below_drew1) | exact HB.out)) hb); clear HO_7; clear HO_13; clear HB; have HO_7 := n0_; have HO_13 := n1_; have HB := n2_; clear n0_ n1_ n2_; (try clear hb); (try clear hb2); (try clear hk); (try clear hi)))
                              go_ret
                              exact ⟨by first | rfl | (simp [errW_none, errW_some] <;> rfl) | (simp [*, errW_none, errW_some] <;> rfl), by repeat (first | (with_reducible first | exact HB.out | apply below_alloc | apply pw_below_drewN | apply below_drew1) | exact HB.out)⟩
                            · replace c58 := Bool.eq_false_iff.mpr c58
                              subst c58
                              have H1 : (some false) = some r := by rw [if_neg (show ¬ (false = true) by decide)] at H; exact H
                              clear H
                              have H := H1
                              clear H1
                              obtain rfl := Option.some.inj H
                              obtain ⟨Ao62, co62, eo62⟩ := Kd.R_slice HO_13.out
                              subst eo62
                              go_wp2_with (first | (go_at_call 12; (with_reducible refine (triremeref05_Same.calls k4 _ _ y242 _ _ l0 false _ ?side1 ?side2 ?side3 ?side4 A57.out).mono ?_); (case side1 => repeat (first | exact (Kd.R_reads' HO_7.out).2.2 | (with_reducible refine Kd.C_alloc ?_ _) | (with_reducible refine Kd.C_drewN ?_ _) | (with_reducible refine Kd.C_drew ?_))); (case side2 => exact (Kd.R_reads' HO_7.out).2.1); (case side3 => repeat (first | exact (Kd.C_below HR0.out HB.out) | (with_reducible refine Kd.C_alloc ?_ _) | (with_reducible refine Kd.C_drewN ?_ _) | (with_reducible refine Kd.C_drew ?_))); (case side4 => exact HC0.out); rintro e w' ⟨rfl, ⟨nd, rfl⟩⟩))
                              go_ret
                              exact ⟨by first | rfl | (simp [errW_none, errW_some] <;> rfl) | (simp [*, errW_none, errW_some] <;> rfl), by repeat (first | (with_reducible first | exact HB.out | apply below_alloc | apply pw_below_drewN | apply below_drew1) | exact HB.out)⟩
                          · replace c56 := Bool.eq_false_iff.mpr c56
                            subst c56
                            have H1 : (some false) = some r := by rw [if_neg (show ¬ (false = true) by decide)] at H; exact H
                            clear H
                            have H := H1
                            clear H1
                            obtain rfl := Option.some.inj H
                            obtain ⟨Ao63, co63, eo63⟩ := Kd.R_slice HO_13.out
                            subst eo63
                            go_wp2
                            go_ret
                            exact ⟨by first | rfl | (simp [errW_none, errW_some] <;> rfl) | (simp [*, errW_none, errW_some] <;> rfl), by repeat (first | (with_reducible first | exact HB.out | apply below_alloc | apply pw_below_drewN | apply below_drew1) | exact HB.out)⟩
        · rw [if_neg c14] at H
          exact absurd H (by simp)
end Go.Proofs.Ytcnaefnlnjfjkaa.H
end
section
namespace Go.Proofs.Ytcnaefnlnjfjkaa.H
open Go.RowKit Go.Proofs.YtcnaefnlnjfjkaaW.PrintWords Go.Proofs.YtcnaefnlnjfjkaaW.PrintLast Go.Proofs.YtcnaefnlnjfjkaaW.PrintMore
attribute [local go_sem] max2_int min2_int max_two min_two max_three min_three max_four min_four   -- for this text's walks alone
set_option linter.unusedVariables false
set_option linter.unusedSimpArgs false
def Opens (P : Program) (t : TypeId) {α : Type} (d : Kd α) (ok : α → Prop) : Prop :=
  ∀ {H : Type} (enc : TypeId × Value → H) (w : World) (base fuel : Nat) (held : Bool) (cs : List Value) (x : DataW H × List MemPlace), DataW.trod enc P w base (fun _ => true) held fuel t cs = some x → (∀ n ∈ x.1.weights P t, n ≤ reachBytes) → ∃ y : α, d.K w y cs ∧ ok y
section
open Go.ChangeShapes Go.WideShapes
variable {P : Program}
theorem opens_string {t : TypeId} (ht : P.underlying t = some .string) : Opens P t Kd.string (fun s => s.size ≤ 140737488351232) := by
  intro H enc w base fuel held cs x h hw
  obtain ⟨s, rfl, rfl, _⟩ := DataW.trod_string ht h
  refine ⟨s, rfl, ?_⟩
  have := hw s.data.toList.length (by simp [DataW.weights])
  rw [Array.length_toList] at this
  exact this
theorem list_of_lt {α : Type} {p : Nat → α → Prop} : ∀ n : Nat, (∀ i, i < n → ∃ y, p i y) → ∃ ys : List α, ys.length = n ∧ ∀ i y, ys[i]? = some y → p i y
  | 0, _ => ⟨[], rfl, fun i y h => by simp at h⟩
  | n + 1, h => by
    obtain ⟨ys, hl, hp⟩ := list_of_lt n (fun i hi => h i (Nat.lt_succ_of_lt hi))
    obtain ⟨y, hy⟩ := h n (Nat.lt_succ_self n)
    refine ⟨ys ++ [y], by simp [hl], fun i z hz => ?_⟩
    rcases Nat.lt_or_ge i ys.length with hi | hi
    · rw [List.getElem?_append_left hi] at hz
      exact hp i z hz
    · have hlt := (List.getElem?_eq_some_iff.1 hz).1
      rw [List.length_append, List.length_singleton] at hlt
      have e : i = ys.length := by omega
      subst e
      rw [List.getElem?_append_right (Nat.le_refl _)] at hz
      simp at hz
      rw [← hz, hl]
      exact hy
theorem weightsAll_in {H : Type} {e : TypeId} {d : DataW H} : ∀ {l : List (DataW H)}, d ∈ l → ∀ n ∈ d.weights P e, n ∈ DataW.weightsAll P e l
  | [], h, _, _ => by cases h
  | x :: l, h, n, hn => by
    unfold DataW.weightsAll
    rcases List.mem_cons.1 h with rfl | h
    · exact List.mem_append_left _ hn
    · exact List.mem_append_right _ (weightsAll_in h n hn)
theorem opens_slice {α : Type} {d : Kd α} {ok : α → Prop} {t e : TypeId} {B : Nat} (ht : P.underlying t = some (.slice e)) (hc : P.cellsOf e = d.sz) (hB : P.bytesOf e = B) (he : Opens P e d ok) :
    Opens P t (Kd.slice e d) (fun l => l.length * B ≤ 140737488351232 ∧ ∀ y ∈ l, ok y) := by
  intro H enc w base fuel held cs x h hw
  rcases Go.Deep.open_slice ht h with ⟨rfl, rfl⟩ | ⟨a, len, cap, m, n, D, Pl, rfl, _, hl, hm, hmm, rfl, hx⟩
  · exact ⟨[], ⟨none, 0, rfl, Nat.zero_le _, Kd.C_nil _ _⟩, by simp, fun y hy => by cases hy⟩
  · have hmm' : m = cap := by rw [hmm]; rfl
    have hwt : (DataW.slice ((List.range len).map D) ((List.range (m - len)).map fun j => D (len + j))).weights P t = (((List.range len).map D).length + ((List.range (m - len)).map fun j => D (len + j)).length) * P.bytesOf e :: (DataW.weightsAll P e ((List.range len).map D) ++ DataW.weightsAll P e ((List.range (m - len)).map fun j => D (len + j))) := by
      simp [DataW.weights, ht]
    obtain ⟨ys, hyl, hy⟩ := list_of_lt (p := fun i (y : α) => (∃ cs' : List Value, w.cells? base (a.add (i * P.cellsOf e)) (P.cellsOf e) = some cs' ∧ d.K w y cs') ∧ ok y) len (fun i hi => by
      obtain ⟨cs', h1, h2⟩ := hx i (by omega)
      obtain ⟨y, h3, h4⟩ := he enc w base n held cs' _ h2 (fun q hq => hw q (by
        rw [hwt]
        exact List.mem_cons_of_mem _ (List.mem_append_left _ (weightsAll_in (List.mem_map.2 ⟨i, List.mem_range.2 hi, rfl⟩) q hq))))
      exact ⟨y, ⟨cs', h1, h3⟩, h4⟩)
    have hsz := hw ((((List.range len).map D).length + ((List.range (m - len)).map fun j => D (len + j)).length) * P.bytesOf e) (by rw [hwt]; exact List.mem_cons_self)
    rw [List.length_map, List.length_range, hB] at hsz
    have hsz2 : len * B ≤ 140737488351232 := Nat.le_trans (Nat.mul_le_mul_right _ (Nat.le_add_right _ _)) hsz
    refine ⟨ys, ⟨some a, cap, by rw [hyl], by rw [hyl]; exact hl, hyl ▸ rfl, by rw [hyl]; unfold maxLen at hm; omega, fun _ => ⟨a, rfl, fun j p hj => ?_⟩⟩, by rw [hyl]; exact hsz2, fun y hy' => ?_⟩
    · obtain ⟨⟨cs', h1, h2⟩, _⟩ := hy j p hj
      obtain ⟨_, hlen, hcell⟩ := World.cells?_some h1
      refine ⟨cs', hlen.trans hc, h2, fun i u hu => ?_⟩
      have hi : i < P.cellsOf e := by
        have := (List.getElem?_eq_some_iff.1 hu).1
        omega
      have h3 := hcell i hi
      rw [Go.Deep.add_add, hu, hc] at h3
      exact h3
    · obtain ⟨i, hi, hy'⟩ := List.mem_iff_getElem.1 hy'
      exact (hy i y (by rw [List.getElem?_eq_getElem hi, hy'])).2
theorem split_step (cs : List Value) (a s : Nat) : cs.drop a = (cs.drop a).take s ++ cs.drop (a + s) := by
  rw [← List.drop_drop]
  exact (List.take_append_drop s (cs.drop a)).symm
theorem split_last (cs : List Value) (a s : Nat) (h : cs.length ≤ a + s) : (cs.drop a).take s = cs.drop a := List.take_of_length_le (by rw [List.length_drop]; omega)
end
end Go.Proofs.Ytcnaefnlnjfjkaa.H
end
section
namespace Go.Proofs.Ytcnaefnlnjfjkaa.H
open Go.RowKit Go.Proofs.YtcnaefnlnjfjkaaW.PrintWords Go.Proofs.YtcnaefnlnjfjkaaW.PrintLast
theorem wrap_small {i : Int} (h0 : -1000000000000000000 ≤ i) (h1 : i ≤ 1000000000000000000) : wrap64 i = i := by unfold wrap64; omega
theorem get_bt (s : ByteArray) (i k : Nat) (h : i + k < s.size) : ((s.get! (i + k)).toNat : Int) = bt s ((i : Int) + (k : Int)) := by
  have e : ((i : Int) + (k : Int)).toNat = i + k := by omega
  have e2 : s.get! (i + k) = s[i + k]'h := by
    show s.get! (i + k) = _
    simp [ByteArray.get!, getElem!_pos, h]
    rfl
  rw [e2]
  unfold bt
  simp only [e]
  rw [dif_pos h]
def moreB (s : ByteArray) (i : Int) : Bool := decide (i < s.size) && (decide (bt s i ≥ 128) && decide (bt s i < 192))
theorem more_f (s : ByteArray) (i : Int) (h : 0 ≤ i) : triremeref01_more.f s i = some (moreB s i) := by
  unfold triremeref01_more.f moreB
  by_cases h1 : i < (s.size : Int) <;> by_cases h2 : bt s i ≥ 128 <;> simp [h, h1, h2]
/-- What the reference's Rune tells. -/
def runeR (s : ByteArray) (i : Int) : Int × Int :=
  let c := bt s i
  if c < 128 then (c, 1)
  else if 192 ≤ c ∧ c < 224 ∧ moreB s (i + 1) = true then
    (if (c - 192) * 64 + bt s (i + 1) - 128 ≥ 128 then ((c - 192) * 64 + bt s (i + 1) - 128, 2) else (0, 0))
  else if 224 ≤ c ∧ c < 240 ∧ moreB s (i + 1) = true ∧ moreB s (i + 2) = true then
    (if (c - 224) * 4096 + (bt s (i + 1) - 128) * 64 + bt s (i + 2) - 128 ≥ 2048 ∧ ((c - 224) * 4096 + (bt s (i + 1) - 128) * 64 + bt s (i + 2) - 128 < 55296 ∨ (c - 224) * 4096 + (bt s (i + 1) - 128) * 64 + bt s (i + 2) - 128 > 57343)
      then ((c - 224) * 4096 + (bt s (i + 1) - 128) * 64 + bt s (i + 2) - 128, 3) else (0, 0))
  else if 240 ≤ c ∧ c < 248 ∧ moreB s (i + 1) = true ∧ moreB s (i + 2) = true ∧ moreB s (i + 3) = true then
    (if (c - 240) * 262144 + (bt s (i + 1) - 128) * 4096 + (bt s (i + 2) - 128) * 64 + bt s (i + 3) - 128 ≥ 65536 ∧ (c - 240) * 262144 + (bt s (i + 1) - 128) * 4096 + (bt s (i + 2) - 128) * 64 + bt s (i + 3) - 128 ≤ 1114111
      then ((c - 240) * 262144 + (bt s (i + 1) - 128) * 4096 + (bt s (i + 2) - 128) * 64 + bt s (i + 3) - 128, 4) else (0, 0))
  else (0, 0)
theorem moreB_lt {s : ByteArray} {i : Int} (h : moreB s i = true) : i < (s.size : Int) ∧ 128 ≤ bt s i ∧ bt s i < 192 := by
  unfold moreB at h
  simp at h
  omega
theorem rune_j2 (s : ByteArray) (i c : Int) (b : Bool) (h0 : 0 ≤ i) (hs : i + 3 < 1000000000000) (hc : 0 ≤ c) (hc2 : c < 256) (hb : b = true → i + 3 < (s.size : Int)) (k : Nat) :
    triremeref01_Rune.j2 (k + 1) s i c b = some (if b = true then (if (c - 240) * 262144 + (bt s (i + 1) - 128) * 4096 + (bt s (i + 2) - 128) * 64 + bt s (i + 3) - 128 ≥ 65536 ∧ (c - 240) * 262144 + (bt s (i + 1) - 128) * 4096 + (bt s (i + 2) - 128) * 64 + bt s (i + 3) - 128 ≤ 1114111
      then ((c - 240) * 262144 + (bt s (i + 1) - 128) * 4096 + (bt s (i + 2) - 128) * 64 + bt s (i + 3) - 128, 4) else (0, 0)) else (0, 0)) := by
  have b1 := bt_range s (i + 1)
  have b2 := bt_range s (i + 2)
  have b3 := bt_range s (i + 3)
  rw [triremeref01_Rune.j2]
  cases b with
  | false => simp
  | true =>
    have h3 := hb rfl
    simp (disch := omega) only [wrap_small]
    simp only [if_true]
    rw [if_pos (by omega), if_pos (by omega), if_pos (by omega), if_pos (by omega), if_pos (by omega), if_pos (by omega)]
    repeat' split
    all_goals first | rfl | (exfalso; omega)
theorem rune_j1 (s : ByteArray) (i c : Int) (b : Bool) (h0 : 0 ≤ i) (hs : i + 3 < 1000000000000) (hc : 0 ≤ c) (hc2 : c < 256) (hb : b = true → i + 2 < (s.size : Int)) (k : Nat) :
    triremeref01_Rune.j1 (k + 2) s i c b = some (if b = true then (if (c - 224) * 4096 + (bt s (i + 1) - 128) * 64 + bt s (i + 2) - 128 ≥ 2048 ∧ ((c - 224) * 4096 + (bt s (i + 1) - 128) * 64 + bt s (i + 2) - 128 < 55296 ∨ (c - 224) * 4096 + (bt s (i + 1) - 128) * 64 + bt s (i + 2) - 128 > 57343)
      then ((c - 224) * 4096 + (bt s (i + 1) - 128) * 64 + bt s (i + 2) - 128, 3) else (0, 0))
      else if 240 ≤ c ∧ c < 248 ∧ moreB s (i + 1) = true ∧ moreB s (i + 2) = true ∧ moreB s (i + 3) = true then (if (c - 240) * 262144 + (bt s (i + 1) - 128) * 4096 + (bt s (i + 2) - 128) * 64 + bt s (i + 3) - 128 ≥ 65536 ∧ (c - 240) * 262144 + (bt s (i + 1) - 128) * 4096 + (bt s (i + 2) - 128) * 64 + bt s (i + 3) - 128 ≤ 1114111
      then ((c - 240) * 262144 + (bt s (i + 1) - 128) * 4096 + (bt s (i + 2) - 128) * 64 + bt s (i + 3) - 128, 4) else (0, 0)) else (0, 0)) := by
  have b1 := bt_range s (i + 1)
  have b2 := bt_range s (i + 2)
  rw [triremeref01_Rune.j1]
  cases b with
  | true =>
    have h3 := hb rfl
    simp (disch := omega) only [wrap_small]
    simp only [if_true]
    rw [if_pos (by omega), if_pos (by omega), if_pos (by omega), if_pos (by omega)]
    repeat' split
    all_goals first | rfl | (exfalso; omega)
  | false =>
    simp (disch := omega) only [wrap_small]
    rw [more_f s (i + 1) (by omega), more_f s (i + 2) (by omega), more_f s (i + 3) (by omega)]
    simp only [Option.bind_some, Bool.false_eq_true, if_false]
    by_cases g1 : c ≥ 240
    · rw [if_pos g1]
      by_cases g2 : c < 248
      · rw [if_pos g2]
        cases m1 : moreB s (i + 1) <;> cases m2 : moreB s (i + 2) <;> cases m3 : moreB s (i + 3) <;> simp only [Bool.false_eq_true, if_false, if_true, and_false, false_and, and_true, g2]
        all_goals rw [rune_j2 s i c _ h0 hs hc hc2 (by first | (intro h; cases h; done) | (intro _; exact (moreB_lt m3).1))]
        all_goals simp [g1]
      · rw [if_neg g2, rune_j2 s i c _ h0 hs hc hc2 (by intro h; cases h)]
        simp only [Bool.false_eq_true, if_false]
        rw [if_neg (by omega)]
    · rw [if_neg g1, rune_j2 s i c _ h0 hs hc hc2 (by intro h; cases h)]
      simp only [Bool.false_eq_true, if_false]
      rw [if_neg (by omega)]
theorem rune_f (s : ByteArray) (i : Int) (h0 : 0 ≤ i) (h1 : i < (s.size : Int)) (hs : (s.size : Int) < 100000000000) (k : Nat) : triremeref01_Rune.f (k + 3) s i = some (runeR s i) := by
  have b0 := bt_range s i
  have b1 := bt_range s (i + 1)
  unfold triremeref01_Rune.f runeR
  rw [if_pos h0, if_pos h1]
  simp (disch := omega) only [wrap_small]
  rw [more_f s (i + 1) (by omega)]
  simp only [Option.bind_some]
  by_cases g0 : bt s i < 128
  · rw [if_pos g0]; simp [g0]
  rw [if_neg g0]
  simp only [g0, if_false]
  have key : ∀ b : Bool, (b = true ↔ (192 ≤ bt s i ∧ bt s i < 224 ∧ moreB s (i + 1) = true)) → triremeref01_Rune.j0 (k + 3) s i (bt s i) b = some (if 192 ≤ bt s i ∧ bt s i < 224 ∧ moreB s (i + 1) = true then
    (if (bt s i - 192) * 64 + bt s (i + 1) - 128 ≥ 128 then ((bt s i - 192) * 64 + bt s (i + 1) - 128, 2) else (0, 0))
  else if 224 ≤ bt s i ∧ bt s i < 240 ∧ moreB s (i + 1) = true ∧ moreB s (i + 2) = true then
    (if (bt s i - 224) * 4096 + (bt s (i + 1) - 128) * 64 + bt s (i + 2) - 128 ≥ 2048 ∧ ((bt s i - 224) * 4096 + (bt s (i + 1) - 128) * 64 + bt s (i + 2) - 128 < 55296 ∨ (bt s i - 224) * 4096 + (bt s (i + 1) - 128) * 64 + bt s (i + 2) - 128 > 57343)
      then ((bt s i - 224) * 4096 + (bt s (i + 1) - 128) * 64 + bt s (i + 2) - 128, 3) else (0, 0))
  else if 240 ≤ bt s i ∧ bt s i < 248 ∧ moreB s (i + 1) = true ∧ moreB s (i + 2) = true ∧ moreB s (i + 3) = true then
    (if (bt s i - 240) * 262144 + (bt s (i + 1) - 128) * 4096 + (bt s (i + 2) - 128) * 64 + bt s (i + 3) - 128 ≥ 65536 ∧ (bt s i - 240) * 262144 + (bt s (i + 1) - 128) * 4096 + (bt s (i + 2) - 128) * 64 + bt s (i + 3) - 128 ≤ 1114111
      then ((bt s i - 240) * 262144 + (bt s (i + 1) - 128) * 4096 + (bt s (i + 2) - 128) * 64 + bt s (i + 3) - 128, 4) else (0, 0))
  else (0, 0)) := by
    intro b hb
    rw [triremeref01_Rune.j0]
    cases b with
    | true =>
      obtain ⟨g1, g2, g3⟩ := hb.1 rfl
      have hm := moreB_lt g3
      simp (disch := omega) only [wrap_small]
      simp only [if_true]
      rw [if_pos (by omega), if_pos (by omega), if_pos (show 192 ≤ bt s i ∧ bt s i < 224 ∧ moreB s (i + 1) = true from ⟨g1, g2, g3⟩)]
      split <;> rfl
    | false =>
      have hn : ¬ (192 ≤ bt s i ∧ bt s i < 224 ∧ moreB s (i + 1) = true) := fun h => by simpa using hb.2 h
      rw [if_neg hn]
      simp (disch := omega) only [wrap_small]
      rw [more_f s (i + 1) (by omega), more_f s (i + 2) (by omega)]
      simp only [Option.bind_some, Bool.false_eq_true, if_false]
      by_cases g1 : bt s i ≥ 224
      · rw [if_pos g1]
        by_cases g2 : bt s i < 240
        · rw [if_pos g2]
          have g4 : ¬ bt s i ≥ 240 := by omega
          cases m1 : moreB s (i + 1) <;> cases m2 : moreB s (i + 2) <;> simp only [Bool.false_eq_true, if_false, if_true, and_false, false_and, and_true, g2]
          all_goals rw [rune_j1 s i (bt s i) _ h0 (by omega) (by omega) (by omega) (by first | (intro h; cases h; done) | (intro _; exact (moreB_lt m2).1))]
          all_goals simp [g1, g4, m1, m2]
        · rw [if_neg g2, rune_j1 s i (bt s i) _ h0 (by omega) (by omega) (by omega) (by intro h; cases h)]
          simp only [Bool.false_eq_true, if_false]
          rw [if_neg (show ¬ (224 ≤ bt s i ∧ bt s i < 240 ∧ moreB s (i + 1) = true ∧ moreB s (i + 2) = true) by omega)]
      · rw [if_neg g1, rune_j1 s i (bt s i) _ h0 (by omega) (by omega) (by omega) (by intro h; cases h)]
        simp only [Bool.false_eq_true, if_false]
        rw [if_neg (show ¬ (224 ≤ bt s i ∧ bt s i < 240 ∧ moreB s (i + 1) = true ∧ moreB s (i + 2) = true) by omega)]
  by_cases g1 : bt s i ≥ 192
  · rw [if_pos g1]
    by_cases g2 : bt s i < 224
    · rw [if_pos g2]
      exact key _ ⟨fun h => ⟨g1, g2, h⟩, fun h => h.2.2⟩
    · rw [if_neg g2]
      exact key _ ⟨fun h => by simp at h, fun h => by omega⟩
  · rw [if_neg g1]
    exact key _ ⟨fun h => by simp at h, fun h => by omega⟩
/-- A rune that is right lies within the text. -/
theorem runeR_in (s : ByteArray) (i : Int) (h1 : i < (s.size : Int)) : (runeR s i).2 = 0 ∨ 1 ≤ (runeR s i).2 ∧ i + (runeR s i).2 ≤ s.size := by
  unfold runeR
  simp only []
  by_cases c0 : bt s i < 128
  · rw [if_pos c0]; right; exact ⟨by simp, by simp; omega⟩
  rw [if_neg c0]
  by_cases c1 : 192 ≤ bt s i ∧ bt s i < 224 ∧ moreB s (i + 1) = true
  · rw [if_pos c1]
    have h2 := moreB_lt c1.2.2
    split
    · right; exact ⟨by simp, by simp; omega⟩
    · left; rfl
  rw [if_neg c1]
  by_cases c2 : 224 ≤ bt s i ∧ bt s i < 240 ∧ moreB s (i + 1) = true ∧ moreB s (i + 2) = true
  · rw [if_pos c2]
    have h2 := moreB_lt c2.2.2.2
    split
    · right; exact ⟨by simp, by simp; omega⟩
    · left; rfl
  rw [if_neg c2]
  by_cases c3 : 240 ≤ bt s i ∧ bt s i < 248 ∧ moreB s (i + 1) = true ∧ moreB s (i + 2) = true ∧ moreB s (i + 3) = true
  · rw [if_pos c3]
    have h2 := moreB_lt c3.2.2.2.2
    split
    · right; exact ⟨by simp, by simp; omega⟩
    · left; rfl
  rw [if_neg c3]
  left; rfl
end Go.Proofs.Ytcnaefnlnjfjkaa.H
end
section
namespace Go.Proofs.Ytcnaefnlnjfjkaa.H
open Go.RowKit Go.Proofs.YtcnaefnlnjfjkaaW.PrintWords Go.Proofs.YtcnaefnlnjfjkaaW.PrintLast
def nb (s : ByteArray) (i : Nat) : Nat := (bt s (i : Int)).toNat
theorem nb_cast (s : ByteArray) (i : Nat) : (nb s i : Int) = bt s i := by unfold nb; have := bt_range s i; omega
theorem nb_lt (s : ByteArray) (i : Nat) : nb s i < 256 := by unfold nb; have := bt_range s i; omega
theorem get_nb (s : ByteArray) (i k : Nat) (h : i + k < s.size) : (s.get! (i + k)).toNat = nb s (i + k) := by
  have := get_bt s i k h
  have h2 := nb_cast s (i + k)
  push_cast at h2
  omega
theorem moreB_nb (s : ByteArray) (i : Nat) : moreB s (i : Int) = (decide (i < s.size) && (nb s i / 64 == 2)) := by
  have h := nb_cast s i
  unfold moreB
  rw [← h]
  by_cases h1 : i < s.size
  · have h2 : ((i : Int) < (s.size : Int)) := by omega
    simp only [h1, h2, decide_true, Bool.true_and]
    rw [Bool.eq_iff_iff]
    simp
    omega
  · have h2 : ¬ ((i : Int) < (s.size : Int)) := by omega
    simp [h1, h2]
theorem cont_nb (s : ByteArray) (i k : Nat) : (decide (i + k < s.size) && ((s.get! (i + k)).toNat / 64 == 2)) = moreB s ((i + k : Nat) : Int) := by
  rw [moreB_nb]
  by_cases h : i + k < s.size
  · rw [get_nb s i k h]
  · simp [h]
/-- The model's own decoder, by the bytes. -/
theorem decode_nb (s : ByteArray) (i : Nat) (hi : i < s.size) : Utf8.decode s i =
    (if nb s i < 128 then (nb s i, 1)
    else if (nb s i / 32 == 6 && moreB s ((i + 1 : Nat) : Int)) = true then
      (if (nb s i % 32) * 64 + nb s (i + 1) % 64 ≥ 128 then ((nb s i % 32) * 64 + nb s (i + 1) % 64, 2) else (65533, 1))
    else if (nb s i / 16 == 14 && moreB s ((i + 1 : Nat) : Int) && moreB s ((i + 2 : Nat) : Int)) = true then
      (if (decide ((nb s i % 16) * 4096 + (nb s (i + 1) % 64) * 64 + nb s (i + 2) % 64 ≥ 2048) && Utf8.valid (((nb s i % 16) * 4096 + (nb s (i + 1) % 64) * 64 + nb s (i + 2) % 64 : Nat) : Int)) = true then ((nb s i % 16) * 4096 + (nb s (i + 1) % 64) * 64 + nb s (i + 2) % 64, 3) else (65533, 1))
    else if (nb s i / 8 == 30 && moreB s ((i + 1 : Nat) : Int) && moreB s ((i + 2 : Nat) : Int) && moreB s ((i + 3 : Nat) : Int)) = true then
      (if (decide ((nb s i % 8) * 262144 + (nb s (i + 1) % 64) * 4096 + (nb s (i + 2) % 64) * 64 + nb s (i + 3) % 64 ≥ 65536) && Utf8.valid (((nb s i % 8) * 262144 + (nb s (i + 1) % 64) * 4096 + (nb s (i + 2) % 64) * 64 + nb s (i + 3) % 64 : Nat) : Int)) = true then ((nb s i % 8) * 262144 + (nb s (i + 1) % 64) * 4096 + (nb s (i + 2) % 64) * 64 + nb s (i + 3) % 64, 4) else (65533, 1))
    else (65533, 1)) := by
  have g0 := get_nb s i 0 hi
  simp only [Nat.add_zero] at g0
  unfold Utf8.decode
  simp only [cont_nb, g0, Nat.add_zero, Utf8.runeError]
  by_cases h1 : i + 1 < s.size
  · have g1 := get_nb s i 1 h1
    by_cases h2 : i + 2 < s.size
    · have g2 := get_nb s i 2 h2
      by_cases h3 : i + 3 < s.size
      · have g3 := get_nb s i 3 h3
        simp only [g1, g2, g3]
      · have m3 : moreB s ((i + 3 : Nat) : Int) = false := by rw [moreB_nb]; simp [h3]
        simp only [g1, g2, m3, Bool.and_false, Bool.false_eq_true, if_false]
    · have m2 : moreB s ((i + 2 : Nat) : Int) = false := by rw [moreB_nb]; simp [h2]
      simp only [g1, m2, Bool.and_false, Bool.false_and, Bool.false_eq_true, if_false]
  · have m1 : moreB s ((i + 1 : Nat) : Int) = false := by rw [moreB_nb]; simp [h1]
    simp only [m1, Bool.and_false, Bool.false_and, Bool.false_eq_true, if_false]
theorem valid_iff (c : Nat) : Utf8.valid (c : Int) = (decide (c < 55296) || (decide (57344 ≤ c) && decide (c ≤ 1114111))) := by
  unfold Utf8.valid
  rw [Bool.eq_iff_iff]
  simp
  omega
/-- Arithmetic alone: the model's decoder, and the reference's. -/
theorem rune_arith (b0 b1 b2 b3 : Nat) (m1 m2 m3 in2 : Bool) (h0 : b0 < 256) (h1 : m1 = true → 128 ≤ b1 ∧ b1 < 192) (h2 : m2 = true → 128 ≤ b2 ∧ b2 < 192) (h3 : m3 = true → 128 ≤ b3 ∧ b3 < 192)
    (hin : in2 = true → b1 = 191 → m1 = true) (hin2 : in2 = true → b2 = 189 → m2 = true) (hin3 : m2 = true → in2 = true)
    (d : Nat × Nat) (hd : d = (if b0 < 128 then (b0, 1)
    else if (b0 / 32 == 6 && m1) = true then (if (b0 % 32) * 64 + b1 % 64 ≥ 128 then ((b0 % 32) * 64 + b1 % 64, 2) else (65533, 1))
    else if (b0 / 16 == 14 && m1 && m2) = true then
      (if (decide ((b0 % 16) * 4096 + (b1 % 64) * 64 + b2 % 64 ≥ 2048) && Utf8.valid (((b0 % 16) * 4096 + (b1 % 64) * 64 + b2 % 64 : Nat) : Int)) = true then ((b0 % 16) * 4096 + (b1 % 64) * 64 + b2 % 64, 3) else (65533, 1))
    else if (b0 / 8 == 30 && m1 && m2 && m3) = true then
      (if (decide ((b0 % 8) * 262144 + (b1 % 64) * 4096 + (b2 % 64) * 64 + b3 % 64 ≥ 65536) && Utf8.valid (((b0 % 8) * 262144 + (b1 % 64) * 4096 + (b2 % 64) * 64 + b3 % 64 : Nat) : Int)) = true then ((b0 % 8) * 262144 + (b1 % 64) * 4096 + (b2 % 64) * 64 + b3 % 64, 4) else (65533, 1))
    else (65533, 1)))
    (q : Int × Int) (hq : q = (if (b0 : Int) < 128 then ((b0 : Int), 1)
  else if 192 ≤ (b0 : Int) ∧ (b0 : Int) < 224 ∧ m1 = true then (if ((b0 : Int) - 192) * 64 + (b1 : Int) - 128 ≥ 128 then (((b0 : Int) - 192) * 64 + (b1 : Int) - 128, 2) else (0, 0))
  else if 224 ≤ (b0 : Int) ∧ (b0 : Int) < 240 ∧ m1 = true ∧ m2 = true then
    (if ((b0 : Int) - 224) * 4096 + ((b1 : Int) - 128) * 64 + (b2 : Int) - 128 ≥ 2048 ∧ (((b0 : Int) - 224) * 4096 + ((b1 : Int) - 128) * 64 + (b2 : Int) - 128 < 55296 ∨ ((b0 : Int) - 224) * 4096 + ((b1 : Int) - 128) * 64 + (b2 : Int) - 128 > 57343)
      then (((b0 : Int) - 224) * 4096 + ((b1 : Int) - 128) * 64 + (b2 : Int) - 128, 3) else (0, 0))
  else if 240 ≤ (b0 : Int) ∧ (b0 : Int) < 248 ∧ m1 = true ∧ m2 = true ∧ m3 = true then
    (if ((b0 : Int) - 240) * 262144 + ((b1 : Int) - 128) * 4096 + ((b2 : Int) - 128) * 64 + (b3 : Int) - 128 ≥ 65536 ∧ ((b0 : Int) - 240) * 262144 + ((b1 : Int) - 128) * 4096 + ((b2 : Int) - 128) * 64 + (b3 : Int) - 128 ≤ 1114111
      then (((b0 : Int) - 240) * 262144 + ((b1 : Int) - 128) * 4096 + ((b2 : Int) - 128) * 64 + (b3 : Int) - 128, 4) else (0, 0))
  else (0, 0))) (rt : Prop) (hrt : rt ↔ (d.1 ≠ 65533 ∨ in2 = true ∧ b0 = 239 ∧ b1 = 191 ∧ b2 = 189)) :
    (rt → q = ((d.1 : Int), (d.2 : Int))) ∧ (¬ rt → q.2 = 0) := by
  by_cases c0 : b0 < 128
  · rw [if_pos c0] at hd
    rw [if_pos (by omega)] at hq
    subst hd hq
    exact ⟨fun _ => rfl, fun h => absurd (hrt.2 (Or.inl (by simp; omega))) h⟩
  rw [if_neg c0] at hd
  rw [if_neg (by omega)] at hq
  by_cases c1 : 192 ≤ b0 ∧ b0 < 224 ∧ m1 = true
  · have e1 : (b0 / 32 == 6 && m1) = true := by simp [c1.2.2]; omega
    rw [if_pos e1] at hd
    rw [if_pos (by exact ⟨by omega, by omega, c1.2.2⟩)] at hq
    have g1 := h1 c1.2.2
    by_cases k1 : (b0 % 32) * 64 + b1 % 64 ≥ 128
    · rw [if_pos k1] at hd
      rw [if_pos (by omega)] at hq
      subst hd hq
      exact ⟨fun _ => by simp; omega, fun h => absurd (hrt.2 (Or.inl (by simp; omega))) h⟩
    · rw [if_neg k1] at hd
      rw [if_neg (by omega)] at hq
      subst hd hq
      exact ⟨fun h => by have := hrt.1 h; simp at this; omega, fun _ => rfl⟩
  have e1 : ¬ (b0 / 32 == 6 && m1) = true := by simp; intro h; cases m1 <;> simp_all; omega
  rw [if_neg e1] at hd
  rw [if_neg (by intro h; exact c1 ⟨by omega, by omega, h.2.2⟩)] at hq
  by_cases c2 : 224 ≤ b0 ∧ b0 < 240 ∧ m1 = true ∧ m2 = true
  · have e2 : (b0 / 16 == 14 && m1 && m2) = true := by simp [c2.2.2]; omega
    rw [if_pos e2] at hd
    rw [if_pos (by exact ⟨by omega, by omega, c2.2.2⟩)] at hq
    have g1 := h1 c2.2.2.1
    have g2 := h2 c2.2.2.2
    have g3 := hin3 c2.2.2.2
    rw [valid_iff] at hd
    by_cases k1 : (b0 % 16) * 4096 + (b1 % 64) * 64 + b2 % 64 ≥ 2048 ∧ ((b0 % 16) * 4096 + (b1 % 64) * 64 + b2 % 64 < 55296 ∨ 57344 ≤ (b0 % 16) * 4096 + (b1 % 64) * 64 + b2 % 64)
    · rw [if_pos (by simp; omega)] at hd
      rw [if_pos (by omega)] at hq
      subst hd hq
      refine ⟨fun _ => by simp; omega, fun h => absurd (hrt.2 ?_) h⟩
      by_cases k2 : (b0 % 16) * 4096 + (b1 % 64) * 64 + b2 % 64 = 65533
      · exact Or.inr ⟨g3, by omega, by omega, by omega⟩
      · exact Or.inl k2
    · rw [if_neg (by simp; omega)] at hd
      rw [if_neg (by omega)] at hq
      subst hd hq
      exact ⟨fun h => by have := hrt.1 h; simp at this; omega, fun _ => rfl⟩
  have e2 : ¬ (b0 / 16 == 14 && m1 && m2) = true := by simp; intro h; cases m1 <;> cases m2 <;> simp_all; omega
  rw [if_neg e2] at hd
  rw [if_neg (by intro h; exact c2 ⟨by omega, by omega, h.2.2⟩)] at hq
  by_cases c3 : 240 ≤ b0 ∧ b0 < 248 ∧ m1 = true ∧ m2 = true ∧ m3 = true
  · have e3 : (b0 / 8 == 30 && m1 && m2 && m3) = true := by simp [c3.2.2]; omega
    rw [if_pos e3] at hd
    rw [if_pos (by exact ⟨by omega, by omega, c3.2.2⟩)] at hq
    have g1 := h1 c3.2.2.1
    have g2 := h2 c3.2.2.2.1
    have g3 := h3 c3.2.2.2.2
    rw [valid_iff] at hd
    by_cases k1 : (b0 % 8) * 262144 + (b1 % 64) * 4096 + (b2 % 64) * 64 + b3 % 64 ≥ 65536 ∧ (b0 % 8) * 262144 + (b1 % 64) * 4096 + (b2 % 64) * 64 + b3 % 64 ≤ 1114111
    · rw [if_pos (by simp; omega)] at hd
      rw [if_pos (by omega)] at hq
      subst hd hq
      exact ⟨fun _ => by simp; omega, fun h => absurd (hrt.2 (Or.inl (by simp; omega))) h⟩
    · rw [if_neg (by simp; omega)] at hd
      rw [if_neg (by omega)] at hq
      subst hd hq
      exact ⟨fun h => by have := hrt.1 h; simp at this; omega, fun _ => rfl⟩
  have e3 : ¬ (b0 / 8 == 30 && m1 && m2 && m3) = true := by simp; intro h; cases m1 <;> cases m2 <;> cases m3 <;> simp_all; omega
  rw [if_neg e3] at hd
  rw [if_neg (by intro h; exact c3 ⟨by omega, by omega, h.2.2⟩)] at hq
  subst hd hq
  refine ⟨fun h => ?_, fun _ => rfl⟩
  rcases hrt.1 h with h | ⟨g1, g2, g3, g4⟩
  · simp at h
  · exact absurd ⟨by omega, by omega, hin g1 g3, hin2 g1 g4⟩ c2
theorem runeR_decode (s : ByteArray) (i : Nat) (hi : i < s.size) :
    (lexRightB s i = true → runeR s i = (((Utf8.decode s i).1 : Int), ((Utf8.decode s i).2 : Int))) ∧ (lexRightB s i = false → (runeR s i).2 = 0) := by
  have e0 := nb_cast s i
  have e1 := nb_cast s (i + 1)
  have e2 := nb_cast s (i + 2)
  have e3 := nb_cast s (i + 3)
  have p1 : ((i + 1 : Nat) : Int) = (i : Int) + 1 := by omega
  have p2 : ((i + 2 : Nat) : Int) = (i : Int) + 2 := by omega
  have p3 : ((i + 3 : Nat) : Int) = (i : Int) + 3 := by omega
  have m1 := @moreB_lt s ((i + 1 : Nat) : Int)
  have m2 := @moreB_lt s ((i + 2 : Nat) : Int)
  have m3 := @moreB_lt s ((i + 3 : Nat) : Int)
  have b1 := moreB_nb s (i + 1)
  have b2 := moreB_nb s (i + 2)
  have hd := decode_nb s i hi
  have key := rune_arith (nb s i) (nb s (i + 1)) (nb s (i + 2)) (nb s (i + 3)) (moreB s ((i + 1 : Nat) : Int)) (moreB s ((i + 2 : Nat) : Int)) (moreB s ((i + 3 : Nat) : Int)) (decide (i + 2 < s.size))
    (nb_lt s i) (fun h => by have := m1 h; omega) (fun h => by have := m2 h; omega) (fun h => by have := m3 h; omega)
    (fun h1 h2 => by simp at h1; rw [b1, h2]; simp; omega) (fun h1 h2 => by simp at h1; rw [b2, h2]; simp; omega) (fun h => by have := m2 h; simp; omega)
    (Utf8.decode s i) hd (runeR s i) (by unfold runeR; simp only [← p1, ← p2, ← p3, ← e0, ← e1, ← e2, ← e3]) (lexRightB s i = true) (by
      unfold lexRightB
      rw [← p1, ← p2, ← e0, ← e1, ← e2]
      simp
      omega)
  refine ⟨key.1, fun h => key.2 (by rw [h]; simp)⟩
theorem plain_f (c : Int) : triremeref01_plain.f c = some (lexPlainB c) := by
  unfold lexPlainB triremeref01_plain.f lex_plain.f
  by_cases h0 : c > 32 <;> by_cases h1 : c = 40 <;> by_cases h2 : c = 41 <;> by_cases h3 : c = 34 <;> by_cases h4 : c = 59 <;> by_cases h5 : c = 127 <;> simp [h0, h1, h2, h3, h4, h5]
  all_goals omega
theorem lexHead_ok (s : ByteArray) : ∀ (b i : Nat) (n : Int), (lexHead s b i).2 = true → (lexHead s b i).1 = (s.size : Int) → n ≤ lexRunes s b i n
  | 0, _, _, _, _ => by simp [lexRunes]
  | b + 1, i, n, h1, h2 => by
    unfold lexHead at h1 h2
    unfold lexRunes
    by_cases hi : i < s.size
    · rw [if_pos hi] at h1 h2 ⊢
      cases hr : lexRightB s i with
      | false => rw [hr] at h1; simp at h1
      | true =>
        rw [hr] at h1 h2
        simp only [if_true] at h1 h2 ⊢
        cases hp : lexPlainB ((Utf8.decode s i).1 : Int) with
        | false => rw [hp] at h2; simp at h2; omega
        | true =>
          rw [hp] at h1 h2
          simp only [if_true] at h1 h2
          have := lexHead_ok s b _ (n + 1) h1 h2
          omega
    · rw [if_neg hi]
      exact Int.le_refl _
theorem word_l0 (s : ByteArray) (hs : s.size ≤ 1000000000) : ∀ (b i : Nat) (n : Int), i ≤ s.size → s.size ≤ i + b → 0 ≤ n → n ≤ i → Ev (fun k => triremeref01_Word.l0 k s n (i : Int))
    ((lexHead s b i).2 && ((lexHead s b i).1 == (s.size : Int) && (decide (lexRunes s b i n ≥ 1) && decide (lexRunes s b i n ≤ 64)))) := by
  intro b
  induction b with
  | zero =>
    intro i n hi hb h0 h1
    refine Ev.step (fun k => by rw [triremeref01_Word.l0]) ?_
    have h2 : ¬ ((i : Int) < (s.size : Int)) := by omega
    simp only [h2, if_false]
    by_cases h3 : n ≥ 1 <;> simp only [h3, if_true, if_false, lexHead, lexRunes, BEq.rfl, Bool.true_and, decide_true, decide_false, Bool.false_and] <;> exact Ev.now _
  | succ b ih =>
    intro i n hi hb h0 h1
    refine Ev.step (fun k => by rw [triremeref01_Word.l0]) ?_
    by_cases h2 : i < s.size
    · have h3 : (i : Int) < (s.size : Int) := by omega
      simp only [h3, if_true]
      refine Ev.bind (a := runeR s i) ⟨3, fun k hk => by
        obtain ⟨m, rfl⟩ : ∃ m, k = m + 3 := ⟨k - 3, by omega⟩
        exact rune_f s i (by omega) h3 (by omega) m⟩ ?_
      have hd := runeR_decode s i h2
      unfold lexHead lexRunes
      rw [if_pos h2, if_pos h2]
      cases hr : lexRightB s i with
      | false =>
        simp only [hd.2 hr, if_true, Bool.false_eq_true, if_false]
        exact Ev.now _
      | true =>
        have hq := hd.1 hr
        have hw := lex_width s i h2
        have hin := runeR_in s i h3
        rw [hq] at hin
        simp only at hin
        simp only [hq, if_true]
        have hw0 : ¬ (((Utf8.decode s i).2 : Int) = 0) := by omega
        simp only [hw0, if_false]
        rw [plain_f]
        simp only [Option.bind_some]
        cases hp : lexPlainB ((Utf8.decode s i).1 : Int) with
        | false =>
          simp only [Bool.false_eq_true, if_false]
          have h4 : ((i : Int) == (s.size : Int)) = false := by simp; omega
          simp only [h4, Bool.false_and, Bool.and_false]
          exact Ev.now _
        | true =>
          simp only [if_true]
          have w1 : wrap64 (n + 1) = n + 1 := wrap_small (by omega) (by omega)
          have w2 : wrap64 ((i : Int) + ((Utf8.decode s i).2 : Int)) = ((i + (Utf8.decode s i).2 : Nat) : Int) := by rw [wrap_small (by omega) (by omega)]; push_cast; rfl
          rw [w1, w2]
          exact ih _ _ (by omega) (by omega) (by omega) (by omega)
    · have h3 : ¬ ((i : Int) < (s.size : Int)) := by omega
      simp only [h3, if_false]
      unfold lexHead lexRunes
      rw [if_neg h2, if_neg h2]
      by_cases h4 : n ≥ 1 <;> simp only [h4, if_true, if_false, BEq.rfl, Bool.true_and, decide_true, decide_false, Bool.false_and] <;> exact Ev.now _
/-- The two answers on what is a word are one. -/
theorem word_ev (s : ByteArray) (hs : s.size ≤ 1000000000) : Ev (fun k => triremeref01_Word.f k s) (lexWordB s) := by
  have h := word_l0 s hs s.size 0 0 (by omega) (by omega) (by omega) (by omega)
  have e : lexWordB s = ((lexHead s s.size 0).2 && ((lexHead s s.size 0).1 == (s.size : Int) && (decide (lexRunes s s.size 0 0 ≥ 1) && decide (lexRunes s s.size 0 0 ≤ 64)))) := by
    unfold lexWordB
    cases h1 : (lexHead s s.size 0).2 with
    | false => rfl
    | true =>
      by_cases h2 : (lexHead s s.size 0).1 = (s.size : Int)
      · have h3 : ((lexHead s s.size 0).1 == (s.size : Int)) = true := by simp [h2]
        rw [h3, h2]
        simp only [Bool.true_and]
        congr 1
        rw [Bool.eq_iff_iff]
        simp only [decide_eq_true_eq]
        by_cases h4 : 0 < s.size
        · constructor
          · intro _
            obtain ⟨b, hb⟩ : ∃ b, s.size = b + 1 := ⟨s.size - 1, by omega⟩
            rw [hb] at h1 h2 ⊢
            unfold lexHead at h1 h2
            unfold lexRunes
            rw [if_pos h4] at h1 h2 ⊢
            cases hr : lexRightB s 0 with
            | false => rw [hr] at h1; simp at h1
            | true =>
              rw [hr] at h1 h2
              simp only [if_true] at h1 h2 ⊢
              cases hp : lexPlainB ((Utf8.decode s 0).1 : Int) with
              | false => rw [hp] at h2; simp at h2; omega
              | true =>
                rw [hp] at h1 h2
                simp only [if_true] at h1 h2
                have := lexHead_ok s b _ (0 + 1) h1 (by rw [h2, hb])
                omega
          · intro _; omega
        · have h5 : s.size = 0 := by omega
          rw [h5]
          simp [lexRunes]
      · have h3 : ((lexHead s s.size 0).1 == (s.size : Int)) = false := by simp [h2]
        rw [h3]; rfl
  rw [e]
  exact h
end Go.Proofs.Ytcnaefnlnjfjkaa.H
end
section
namespace Go.Proofs.Ytcnaefnlnjfjkaa.H
open Go.RowKit Go.Proofs.YtcnaefnlnjfjkaaW.PrintWords Go.Proofs.YtcnaefnlnjfjkaaW.PrintLast
theorem bl_irrefl : ∀ a : List UInt8, Op.bytesLess a a = false
  | [] => rfl
  | a :: x => by simp [Op.bytesLess, bl_irrefl x]
theorem bl_trans : ∀ a b c : List UInt8, Op.bytesLess a b = true → Op.bytesLess b c = true → Op.bytesLess a c = true
  | _, [], _, h, _ => by simp [Op.bytesLess] at h
  | _, _ :: _, [], _, h => by simp [Op.bytesLess] at h
  | [], _ :: _, _ :: _, _, _ => rfl
  | a :: x, b :: y, c :: z, h, k => by
    simp only [Op.bytesLess, Bool.or_eq_true, Bool.and_eq_true, decide_eq_true_eq, beq_iff_eq] at h k ⊢
    rcases h with h | ⟨h, h2⟩ <;> rcases k with k | ⟨k, k2⟩
    · exact Or.inl (UInt8.lt_trans h k)
    · subst k; exact Or.inl h
    · subst h; exact Or.inl k
    · subst h; subst k; exact Or.inr ⟨rfl, bl_trans x y z h2 k2⟩
theorem bl_total : ∀ a b : List UInt8, Op.bytesLess a b = false → Op.bytesLess b a = false → a = b
  | [], [], _, _ => rfl
  | [], _ :: _, h, _ => by simp [Op.bytesLess] at h
  | _ :: _, [], _, h => by simp [Op.bytesLess] at h
  | a :: x, b :: y, h, k => by
    simp only [Op.bytesLess, Bool.or_eq_false_iff, Bool.and_eq_false_iff, decide_eq_false_iff_not, beq_eq_false_iff_ne] at h k
    have e : a = b := by
      have h1 := h.1; have h2 := k.1
      rw [UInt8.not_lt] at h1 h2
      exact UInt8.le_antisymm h2 h1
    subst e
    rw [bl_total x y (by simpa using h.2) (by simpa using k.2)]
def lt (a b : ByteArray) : Bool := Op.bytesLess a.toList b.toList
theorem toList_inj {a b : ByteArray} (h : a.toList = b.toList) : a = b := by
  rw [ByteArray.toList_eq, ByteArray.toList_eq] at h
  exact bytes_inj h
theorem drop_bt (s : ByteArray) (i : Nat) (h : i < s.size) : s.toList.drop i = (s[i]'h) :: s.toList.drop (i + 1) := by
  rw [ByteArray.toList_eq]
  rw [List.drop_eq_getElem_cons (by simpa using h)]
  rfl
theorem bt_nat (s : ByteArray) (i : Nat) (h : i < s.size) : bt s (i : Int) = ((s[i]'h).toNat : Int) := by
  unfold bt
  simp only [Int.toNat_natCast]
  rw [dif_pos h]
theorem less_l0 (a b : ByteArray) (ha : a.size ≤ 1000000000) (hb : b.size ≤ 1000000000) : ∀ (d i : Nat), a.size - i = d → i ≤ a.size → i ≤ b.size → Ev (fun k => triremeref05_Less.l0 k a b (i : Int)) (Op.bytesLess (a.toList.drop i) (b.toList.drop i)) := by
  have la : a.toList.length = a.size := by rw [ByteArray.toList_eq]; rfl
  have lb : b.toList.length = b.size := by rw [ByteArray.toList_eq]; rfl
  intro d
  induction d with
  | zero =>
    intro i hd h1 h2
    refine Ev.step (fun k => by rw [triremeref05_Less.l0]) ?_
    have h3 : ¬ ((i : Int) < (a.size : Int)) := by omega
    simp only [h3, if_false]
    refine Ev.step (fun k => by rw [triremeref05_Less.j1]) ?_
    simp only [Bool.false_eq_true, if_false]
    have e : i = a.size := by omega
    rw [List.drop_eq_nil_of_le (by omega)]
    by_cases h4 : i < b.size
    · rw [drop_bt b i h4]
      have h5 : ((a.size : Int) < (b.size : Int)) := by omega
      simp only [h5, decide_true, Op.bytesLess]
      exact Ev.now _
    · rw [List.drop_eq_nil_of_le (by omega)]
      have h5 : ¬ ((a.size : Int) < (b.size : Int)) := by omega
      simp only [h5, decide_false, Op.bytesLess]
      exact Ev.now _
  | succ d ih =>
    intro i hd h1 h2
    refine Ev.step (fun k => by rw [triremeref05_Less.l0]) ?_
    have h3 : i < a.size := by omega
    have h3' : (i : Int) < (a.size : Int) := by omega
    simp only [h3', if_true]
    refine Ev.step (fun k => by rw [triremeref05_Less.j1]) ?_
    rw [drop_bt a i h3]
    by_cases h4 : i < b.size
    · have h4' : (i : Int) < (b.size : Int) := by omega
      have h5 : (0 : Int) ≤ (i : Int) := by omega
      simp only [h4', h3', h5, decide_true, if_true]
      rw [drop_bt b i h4, bt_nat a i h3, bt_nat b i h4]
      by_cases h6 : (a[i]'h3) = (b[i]'h4)
      · rw [h6]
        simp only [if_true, Op.bytesLess, UInt8.lt_irrefl, decide_false, BEq.rfl, Bool.true_and, Bool.false_or]
        rw [wrap_small (by omega) (by omega)]
        exact ih (i + 1) (by omega) (by omega) (by omega)
      · have h7 : ¬ (((a[i]'h3).toNat : Int) = ((b[i]'h4).toNat : Int)) := fun e => h6 (UInt8.toNat_inj.1 (by omega))
        simp only [h7, if_false, Op.bytesLess]
        have h8 : ((a[i]'h3) == (b[i]'h4)) = false := by simp [h6]
        rw [h8]
        simp only [Bool.false_and, Bool.or_false]
        have h9 : decide (((a[i]'h3).toNat : Int) < ((b[i]'h4).toNat : Int)) = decide ((a[i]'h3) < (b[i]'h4)) := by
          rw [decide_eq_decide, UInt8.lt_iff_toNat_lt]
          omega
        rw [h9]
        exact Ev.now _
    · have h4' : ¬ ((i : Int) < (b.size : Int)) := by omega
      simp only [h4', decide_false, Bool.false_eq_true, if_false]
      rw [show b.toList.drop i = [] from List.drop_eq_nil_of_le (by omega)]
      have h5 : ¬ ((a.size : Int) < (b.size : Int)) := by omega
      simp only [h5, decide_false, Op.bytesLess]
      exact Ev.now _
theorem less_ev (a b : ByteArray) (ha : a.size ≤ 1000000000) (hb : b.size ≤ 1000000000) : Ev (fun k => triremeref05_Less.f k a b) (lt a b) := by
  have h := less_l0 a b ha hb _ 0 rfl (by omega) (by omega)
  exact h
theorem rd_nat (xs : List S31) (i : Nat) (h : i < xs.length) : rd_T31 xs (i : Int) = xs[i] := by
  unfold rd_T31
  simp [List.getD_eq_getElem?_getD, h]
theorem ev_if {α : Type} {c : Prop} [Decidable c] {f g : Nat → Option α} {r : α} (h1 : c → Ev f r) (h2 : ¬ c → Ev g r) : Ev (fun k => if c then f k else g k) r := by
  by_cases h : c
  · simp only [h, if_true]; exact h1 h
  · simp only [h, if_false]; exact h2 h
def lightB (xs : List S31) : Bool := xs.all (fun x => decide (x.f0.size ≤ 300) && decide (x.f1.size ≤ 300))
theorem light_l0 (xs : List S31) (hl : xs.length ≤ 1000) : ∀ d i : Nat, i + d = xs.length → Ev (fun k => triremeref05_Light.l0 k xs (i : Int)) (lightB (xs.drop i)) := by
  intro d
  induction d with
  | zero =>
    intro i h
    refine Ev.step (fun k => by rw [triremeref05_Light.l0]) ?_
    rw [List.drop_eq_nil_of_le (by omega)]
    have h3 : ¬ ((i : Int) < (xs.length : Int)) := by omega
    simp only [h3, if_false]
    exact Ev.now _
  | succ d ih =>
    intro i h
    refine Ev.step (fun k => by rw [triremeref05_Light.l0]) ?_
    have h3 : ((i : Int) < (xs.length : Int)) := by omega
    have h4 : (0 : Int) ≤ (i : Int) := by omega
    have h5 : i < xs.length := by omega
    simp only [h3, h4, if_true]
    rw [wrap_small (by omega) (by omega), rd_nat xs i h5, List.drop_eq_getElem_cons h5]
    refine ev_if (fun h6 => ?_) (fun h6 => ev_if (fun h7 => ?_) (fun h7 => ?_))
    · have : lightB (xs[i] :: xs.drop (i + 1)) = false := by
        unfold lightB
        rw [List.all_cons, show decide (xs[i].f0.size ≤ 300) = false from decide_eq_false (by omega)]; rfl
      rw [this]; exact Ev.now _
    · have : lightB (xs[i] :: xs.drop (i + 1)) = false := by
        unfold lightB
        rw [List.all_cons, show decide (xs[i].f1.size ≤ 300) = false from decide_eq_false (by omega)]; simp
      rw [this]; exact Ev.now _
    · have : lightB (xs[i] :: xs.drop (i + 1)) = lightB (xs.drop (i + 1)) := by
        unfold lightB
        rw [List.all_cons]
        have e1 : xs[i].f0.size ≤ 300 := by omega
        have e2 : xs[i].f1.size ≤ 300 := by omega
        simp [e1, e2]
      rw [this]
      exact ih (i + 1) (by omega)
theorem light_ev (xs : List S31) : Ev (fun k => triremeref05_Light.f k xs) (decide (xs.length ≤ 40) && lightB xs) := by
  unfold triremeref05_Light.f
  by_cases h : xs.length ≤ 40
  · have h3 : ¬ ((xs.length : Int) > 40) := by omega
    simp only [h3, if_false, h, decide_true, Bool.true_and]
    have := light_l0 xs (by omega) xs.length 0 (by omega)
    simpa using this
  · have h3 : ((xs.length : Int) > 40) := by omega
    simp only [h3, if_true, h, decide_false, Bool.false_and]
    exact Ev.now _
theorem light_at {xs : List S31} (h : lightB xs = true) : ∀ x ∈ xs, x.f0.size ≤ 300 ∧ x.f1.size ≤ 300 := by
  intro x hx
  have := List.all_eq_true.1 h x hx
  simpa using this
/-- What is right by the reference: as it goes through. -/
def refMaybe (s : ByteArray) : Bool := if s.toList = [] then true else lexWordB s
theorem refMaybe_ev (s : ByteArray) (h : s.size ≤ 1000000000) : Ev (fun k => triremeref05_maybe.f k s) (refMaybe s) := by
  unfold triremeref05_maybe.f refMaybe
  by_cases h1 : s.toList = ([] : List UInt8)
  · simp only [h1, if_true]; exact Ev.now _
  · simp only [h1, if_false]
    exact Ev.bind (word_ev s h) (Ev.now _)
def rightGo : Option ByteArray → List S31 → Bool
  | _, [] => true
  | p, x :: xs => lexWordB x.f0 && (refMaybe x.f1 && ((match p with | none => true | some q => lt q x.f0) && rightGo (some x.f0) xs))
theorem right_l0 (xs : List S31) (hl : xs.length ≤ 1000) (hx : ∀ x ∈ xs, x.f0.size ≤ 300 ∧ x.f1.size ≤ 300) : ∀ d i : Nat, i + d = xs.length → Ev (fun k => triremeref05_Right.l0 k xs (i : Int)) (rightGo (if i = 0 then none else (xs[i - 1]?).map (·.f0)) (xs.drop i)) := by
  intro d
  induction d with
  | zero =>
    intro i h
    refine Ev.step (fun k => by rw [triremeref05_Right.l0]) ?_
    rw [List.drop_eq_nil_of_le (by omega)]
    have h3 : ¬ ((i : Int) < (xs.length : Int)) := by omega
    simp only [h3, if_false, rightGo]
    exact Ev.now _
  | succ d ih =>
    intro i h
    refine Ev.step (fun k => by rw [triremeref05_Right.l0]) ?_
    have h3 : ((i : Int) < (xs.length : Int)) := by omega
    have h4 : (0 : Int) ≤ (i : Int) := by omega
    have h5 : i < xs.length := by omega
    have hxi := hx xs[i] (List.getElem_mem h5)
    simp only [h3, h4, if_true]
    rw [wrap_small (i := (i : Int) + 1) (by omega) (by omega), rd_nat xs i h5, List.drop_eq_getElem_cons h5]
    refine Ev.bind (word_ev _ (by omega)) ?_
    simp only [rightGo]
    cases hw : lexWordB xs[i].f0 with
    | false => simp only [Bool.false_eq_true, if_false, Bool.false_and]; exact Ev.now _
    | true =>
      simp only [if_true, Bool.true_and]
      refine Ev.bind (refMaybe_ev _ (by omega)) ?_
      cases hm : refMaybe xs[i].f1 with
      | false => simp only [Bool.false_eq_true, if_false, Bool.false_and]; exact Ev.now _
      | true =>
        simp only [if_true, Bool.true_and]
        have ih' := ih (i + 1) (by omega)
        have e0 : ¬ (i + 1 = 0) := by omega
        rw [if_neg e0, Nat.add_sub_cancel, List.getElem?_eq_getElem h5] at ih'
        simp only [Option.map_some] at ih'
        refine ev_if (fun h6 => ?_) (fun h6 => ?_)
        · have h7 : i - 1 < xs.length := by omega
          have h8 : (0 : Int) ≤ (i : Int) - 1 := by omega
          have h9 : (i : Int) - 1 < (xs.length : Int) := by omega
          have h10 : ¬ (i = 0) := by omega
          have hxj := hx xs[i - 1] (List.getElem_mem h7)
          rw [wrap_small (i := (i : Int) - 1) (by omega) (by omega)]
          simp only [h8, h9, if_true]
          have e1 : (i : Int) - 1 = ((i - 1 : Nat) : Int) := by omega
          rw [e1, rd_nat xs (i - 1) h7, if_neg h10, List.getElem?_eq_getElem h7]
          simp only [Option.map_some]
          refine Ev.bind (less_ev _ _ (by omega) (by omega)) ?_
          cases hlt : lt xs[i - 1].f0 xs[i].f0 with
          | false => simp only [Bool.false_eq_true, if_false, Bool.false_and]; exact Ev.now _
          | true => simp only [if_true, Bool.true_and]; exact ih'
        · have h10 : i = 0 := by omega
          rw [if_pos h10]
          simp only [Bool.true_and]
          exact ih'
def refRight (xs : List S31) : Bool := decide (xs.length ≤ 16) && rightGo none xs
theorem right_ev (xs : List S31) (hl : xs.length ≤ 1000) (hx : ∀ x ∈ xs, x.f0.size ≤ 300 ∧ x.f1.size ≤ 300) : Ev (fun k => triremeref05_Right.f k xs) (refRight xs) := by
  unfold triremeref05_Right.f refRight
  by_cases h : xs.length ≤ 16
  · have h3 : ¬ ((xs.length : Int) > 16) := by omega
    simp only [h3, if_false, h, decide_true, Bool.true_and]
    have := right_l0 xs hl hx xs.length 0 (by omega)
    simpa using this
  · have h3 : ((xs.length : Int) > 16) := by omega
    simp only [h3, if_true, h, decide_false, Bool.false_and]
    exact Ev.now _
/-- Keys rise. -/
def Rises (xs : List S31) : Prop := xs.Pairwise (fun x y => lt x.f0 y.f0 = true)
theorem lt_trans {a b c : ByteArray} (h : lt a b = true) (k : lt b c = true) : lt a c = true := bl_trans _ _ _ h k
theorem lt_irrefl (a : ByteArray) : lt a a = false := bl_irrefl _
theorem lt_asymm {a b : ByteArray} (h : lt a b = true) : lt b a = false := by
  cases k : lt b a with
  | false => rfl
  | true => have := lt_trans h k; rw [lt_irrefl] at this; cases this
theorem lt_total {a b : ByteArray} (h : lt a b = false) (k : lt b a = false) : a = b := toList_inj (bl_total _ _ h k)
theorem rightGo_above : ∀ (xs : List S31) (p : ByteArray), rightGo (some p) xs = true → (∀ x ∈ xs, lt p x.f0 = true) ∧ Rises xs
  | [], _, _ => ⟨(fun _ h => by cases h), List.Pairwise.nil⟩
  | x :: xs, p, h => by
    simp only [rightGo, Bool.and_eq_true] at h
    obtain ⟨_, _, h1, h2⟩ := h
    have ih := rightGo_above xs x.f0 h2
    refine ⟨fun y hy => ?_, List.pairwise_cons.2 ⟨ih.1, ih.2⟩⟩
    rcases List.mem_cons.1 hy with rfl | hy
    · exact h1
    · exact lt_trans h1 (ih.1 y hy)
theorem refRight_rises {xs : List S31} (h : refRight xs = true) : xs.length ≤ 16 ∧ Rises xs := by
  simp only [refRight, Bool.and_eq_true, decide_eq_true_eq] at h
  refine ⟨h.1, ?_⟩
  cases xs with
  | nil => exact List.Pairwise.nil
  | cons x xs =>
    have := h.2
    simp only [rightGo, Bool.and_eq_true] at this
    have ih := rightGo_above xs x.f0 this.2.2.2
    exact List.pairwise_cons.2 ⟨ih.1, ih.2⟩
def posr (key : ByteArray) : List S31 → Nat → Int × Bool
  | [], i => ((i : Int), false)
  | x :: xs, i => if lt x.f0 key = true then posr key xs (i + 1) else ((i : Int), x.f0.toList == key.toList)
theorem at_l0 (xs : List S31) (key : ByteArray) (hl : xs.length ≤ 1000) : ∀ d i : Nat, i + d = xs.length → Ev (fun k => labels_at.l0 k xs key xs (xs.length : Int) (i : Int)) (posr key (xs.drop i) i) := by
  intro d
  induction d with
  | zero =>
    intro i h
    refine Ev.step (fun k => by rw [labels_at.l0]) ?_
    rw [List.drop_eq_nil_of_le (by omega)]
    have h3 : ¬ ((i : Int) < (xs.length : Int)) := by omega
    have h4 : i = xs.length := by omega
    simp only [h3, if_false, posr]
    rw [h4]
    exact Ev.now _
  | succ d ih =>
    intro i h
    refine Ev.step (fun k => by rw [labels_at.l0]) ?_
    have h3 : ((i : Int) < (xs.length : Int)) := by omega
    have h4 : (0 : Int) ≤ (i : Int) := by omega
    have h5 : i < xs.length := by omega
    simp only [h3, h4, if_true]
    rw [wrap_small (i := (i : Int) + 1) (by omega) (by omega), rd_nat xs i h5, List.drop_eq_getElem_cons h5]
    simp only [posr]
    show Ev (fun k => if lt xs[i].f0 key = true then _ else _) _
    cases hlt : lt xs[i].f0 key with
    | false => simp only [Bool.false_eq_true, if_false]; exact Ev.now _
    | true => simp only [if_true]; exact ih (i + 1) (by omega)
theorem at_ev (xs : List S31) (key : ByteArray) (hl : xs.length ≤ 1000) : Ev (fun k => labels_at.f k xs key) (posr key xs 0) := by
  have := at_l0 xs key hl xs.length 0 (by omega)
  rw [List.drop_zero] at this
  exact this
/-- What lies ahead of a key, and what from it on. -/
def ahead (key : ByteArray) (xs : List S31) : List S31 := xs.takeWhile (fun x => lt x.f0 key)
def onward (key : ByteArray) (xs : List S31) : List S31 := xs.dropWhile (fun x => lt x.f0 key)
theorem ahead_onward (key : ByteArray) (xs : List S31) : ahead key xs ++ onward key xs = xs := List.takeWhile_append_dropWhile
theorem ahead_lt (key : ByteArray) (xs : List S31) : ∀ x ∈ ahead key xs, lt x.f0 key = true := by
  intro x hx
  have := List.all_takeWhile (p := fun x : S31 => lt x.f0 key) (l := xs)
  exact List.all_eq_true.1 this x hx
theorem onward_not (key : ByteArray) (xs : List S31) : ∀ y ys, onward key xs = y :: ys → lt y.f0 key = false := by
  intro y ys h
  unfold onward at h
  have := List.head?_dropWhile_not (fun x : S31 => lt x.f0 key) xs
  rw [h] at this
  simpa using this
theorem posr_eq (key : ByteArray) : ∀ (xs : List S31) (i : Nat), posr key xs i = (((i + (ahead key xs).length : Nat) : Int), match onward key xs with | [] => false | y :: _ => y.f0.toList == key.toList)
  | [], i => by simp [posr, ahead, onward]
  | x :: xs, i => by
    unfold posr ahead onward
    rw [List.takeWhile_cons, List.dropWhile_cons]
    cases h : lt x.f0 key with
    | false => simp
    | true =>
      simp only [if_true]
      rw [posr_eq key xs (i + 1)]
      unfold ahead onward
      simp only [List.length_cons]
      congr 2
      omega
/-- In what rises, all behind the first that isn't ahead are not it. -/
theorem onward_rest {key : ByteArray} {xs : List S31} (hr : Rises xs) {y : S31} {ys : List S31} (h : onward key xs = y :: ys) : ∀ z ∈ ys, lt key z.f0 = true := by
  intro z hz
  have hr2 : Rises (onward key xs) := by
    have e := ahead_onward key xs
    unfold Rises at hr
    rw [← e] at hr
    exact (List.pairwise_append.1 hr).2.1
  rw [h] at hr2
  have h1 := (List.pairwise_cons.1 hr2).1 z hz
  have h2 := onward_not key xs y ys h
  cases h3 : lt key y.f0 with
  | true => exact lt_trans h3 h1
  | false => rw [← lt_total h2 h3]; exact h1
theorem lt_ne {a b : ByteArray} (h : lt a b = true) : a ≠ b := fun e => by rw [e, lt_irrefl] at h; cases h
/-- The same key, told by the first that isn't ahead. -/
def isAt (key : ByteArray) (xs : List S31) : Bool := match onward key xs with | [] => false | y :: _ => y.f0.toList == key.toList
theorem filter_ne (key : ByteArray) (xs : List S31) (hr : Rises xs) : xs.filter (fun x => !(x.f0.toList == key.toList)) = ahead key xs ++ (if isAt key xs = true then (onward key xs).drop 1 else onward key xs) := by
  have hne : ∀ z : S31, (lt z.f0 key = true ∨ lt key z.f0 = true) → (!(z.f0.toList == key.toList)) = true := by
    intro z hz
    have : z.f0 ≠ key := by rcases hz with h | h; exact lt_ne h; exact (lt_ne h).symm
    simp
    exact fun e => this (toList_inj e)
  conv => lhs; rw [← ahead_onward key xs]
  rw [List.filter_append, List.filter_eq_self.2 (fun z hz => hne z (Or.inl (ahead_lt key xs z hz)))]
  congr 1
  unfold isAt
  cases h : onward key xs with
  | nil => rfl
  | cons y ys =>
    have h1 := onward_rest hr h
    simp only [List.drop_succ_cons, List.drop_zero]
    rw [List.filter_cons]
    cases h2 : (y.f0.toList == key.toList) with
    | true => simp only [Bool.not_true, Bool.false_eq_true, if_false, if_true]; exact List.filter_eq_self.2 (fun z hz => hne z (Or.inr (h1 z hz)))
    | false => simp only [Bool.not_false, Bool.false_eq_true, if_false, if_true]; rw [List.filter_eq_self.2 (fun z hz => hne z (Or.inr (h1 z hz)))]
theorem posr_at (key : ByteArray) (xs : List S31) : posr key xs 0 = (((ahead key xs).length : Int), isAt key xs) := by
  rw [posr_eq]
  unfold isAt
  simp
def getB (key : ByteArray) (xs : List S31) : ByteArray × Bool := match onward key xs with | [] => (⟨#[]⟩, false) | y :: _ => if y.f0.toList = key.toList then (y.f1, true) else (⟨#[]⟩, false)
theorem ahead_len (key : ByteArray) (xs : List S31) : (ahead key xs).length ≤ xs.length := by
  have := congrArg List.length (ahead_onward key xs)
  rw [List.length_append] at this
  omega
theorem onward_get {key : ByteArray} {xs : List S31} {y : S31} {ys : List S31} (h : onward key xs = y :: ys) : ∃ hh : (ahead key xs).length < xs.length, xs[(ahead key xs).length] = y := by
  have e := ahead_onward key xs
  rw [h] at e
  have hl : (ahead key xs).length < xs.length := by
    have := congrArg List.length e
    rw [List.length_append, List.length_cons] at this
    omega
  refine ⟨hl, ?_⟩
  have : (ahead key xs ++ y :: ys)[(ahead key xs).length]? = some y := by
    rw [List.getElem?_append_right (Nat.le_refl _)]
    simp
  rw [e] at this
  rw [List.getElem?_eq_getElem hl] at this
  injection this
theorem get_ev (xs : List S31) (key : ByteArray) (hl : xs.length ≤ 1000) : Ev (fun k => labels_Get.f k xs key) (getB key xs) := by
  unfold labels_Get.f
  refine Ev.bind (at_ev xs key hl) ?_
  rw [posr_at]
  have hal := ahead_len key xs
  unfold isAt getB
  cases h : onward key xs with
  | nil => simp only [Bool.false_eq_true, if_false]; exact Ev.now _
  | cons y ys =>
    obtain ⟨h1, h2⟩ := onward_get h
    simp only [beq_iff_eq]
    refine ev_if (fun h3 => ?_) (fun h3 => ?_)
    · have h4 : (0 : Int) ≤ ((ahead key xs).length : Int) := by omega
      have h5 : ((ahead key xs).length : Int) < (xs.length : Int) := by omega
      simp only [h4, h5, if_true]
      rw [rd_nat xs _ h1, h2, if_pos h3]
      exact Ev.now _
    · rw [if_neg h3]
      exact Ev.now _
def refGet (key : ByteArray) : List S31 → ByteArray × Bool
  | [] => (⟨#[]⟩, false)
  | x :: xs => if x.f0.toList = key.toList then (x.f1, true) else refGet key xs
theorem refGet_l0 (xs : List S31) (key : ByteArray) (hl : xs.length ≤ 1000) : ∀ d i : Nat, i + d = xs.length → Ev (fun k => triremeref05_Get.l0 k xs key (i : Int)) (refGet key (xs.drop i)) := by
  intro d
  induction d with
  | zero =>
    intro i h
    refine Ev.step (fun k => by rw [triremeref05_Get.l0]) ?_
    rw [List.drop_eq_nil_of_le (by omega)]
    have h3 : ¬ ((i : Int) < (xs.length : Int)) := by omega
    simp only [h3, if_false]
    exact Ev.now _
  | succ d ih =>
    intro i h
    refine Ev.step (fun k => by rw [triremeref05_Get.l0]) ?_
    have h3 : ((i : Int) < (xs.length : Int)) := by omega
    have h4 : (0 : Int) ≤ (i : Int) := by omega
    have h5 : i < xs.length := by omega
    simp only [h3, h4, if_true]
    rw [wrap_small (i := (i : Int) + 1) (by omega) (by omega), rd_nat xs i h5, List.drop_eq_getElem_cons h5]
    simp only [refGet]
    refine ev_if (fun h6 => ?_) (fun h6 => ?_)
    · rw [if_pos h6]; exact Ev.now _
    · rw [if_neg h6]; exact ih (i + 1) (by omega)
theorem refGet_ev (xs : List S31) (key : ByteArray) (hl : xs.length ≤ 1000) : Ev (fun k => triremeref05_Get.f k xs key) (refGet key xs) := by
  have := refGet_l0 xs key hl xs.length 0 (by omega)
  rw [List.drop_zero] at this
  exact this
theorem refGet_none {key : ByteArray} : ∀ {xs : List S31}, (∀ x ∈ xs, x.f0.toList ≠ key.toList) → refGet key xs = (⟨#[]⟩, false)
  | [], _ => rfl
  | x :: xs, h => by
    unfold refGet
    rw [if_neg (h x List.mem_cons_self)]
    exact refGet_none (fun y hy => h y (List.mem_cons_of_mem _ hy))
theorem refGet_append {key : ByteArray} {ys : List S31} : ∀ {xs : List S31}, (∀ x ∈ xs, x.f0.toList ≠ key.toList) → refGet key (xs ++ ys) = refGet key ys
  | [], _ => rfl
  | x :: xs, h => by
    rw [List.cons_append]
    conv => lhs; unfold refGet
    rw [if_neg (h x List.mem_cons_self)]
    exact refGet_append (fun y hy => h y (List.mem_cons_of_mem _ hy))
theorem ne_toList {a b : ByteArray} (h : a ≠ b) : a.toList ≠ b.toList := fun e => h (toList_inj e)
theorem get_alike (key : ByteArray) (xs : List S31) (hr : Rises xs) : refGet key xs = getB key xs := by
  conv => lhs; rw [← ahead_onward key xs]
  rw [refGet_append (fun x hx => ne_toList (lt_ne (ahead_lt key xs x hx)))]
  unfold getB
  cases h : onward key xs with
  | nil => rfl
  | cons y ys =>
    simp only [refGet]
    by_cases h1 : y.f0.toList = key.toList
    · rw [if_pos h1, if_pos h1]
    · rw [if_neg h1, if_neg h1]
      exact refGet_none (fun z hz => ne_toList (lt_ne (onward_rest hr h z hz)).symm)
theorem join_f (xs ys : List S31) (i j : Nat) (hi : i ≤ xs.length) (hj : j ≤ xs.length) (hl : xs.length ≤ 1000) (hy : ys.length ≤ 1000) : labels_join.f xs (i : Int) (j : Int) ys = some (xs.take i ++ ys ++ xs.drop j) := by
  unfold labels_join.f
  have h1 : (0 : Int) ≤ (i : Int) := by omega
  have h2 : (i : Int) ≤ (xs.length : Int) := by omega
  have h3 : (0 : Int) ≤ (j : Int) := by omega
  have h4 : (j : Int) ≤ (xs.length : Int) := by omega
  simp only [h1, h2, h3, h4, if_true, Option.bind_some, Int.toNat_natCast, List.nil_append, List.length_nil, Nat.zero_add, List.length_append, List.length_take, List.length_drop]
  rw [if_pos (by omega), if_pos (by omega), if_pos (by omega)]
def setB (key val : ByteArray) (xs : List S31) : List S31 := ahead key xs ++ [⟨key, val⟩] ++ (if isAt key xs = true then (onward key xs).drop 1 else onward key xs)
def dropB (key : ByteArray) (xs : List S31) : List S31 := ahead key xs ++ (if isAt key xs = true then (onward key xs).drop 1 else onward key xs)
theorem take_ahead (key : ByteArray) (xs : List S31) : xs.take (ahead key xs).length = ahead key xs := by
  conv => lhs; arg 2; rw [← ahead_onward key xs]
  exact List.take_left
theorem drop_ahead (key : ByteArray) (xs : List S31) (n : Nat) : xs.drop ((ahead key xs).length + n) = (onward key xs).drop n := by
  conv => lhs; arg 2; rw [← ahead_onward key xs]
  rw [List.drop_append]
  simp
theorem isAt_lt {key : ByteArray} {xs : List S31} (h : isAt key xs = true) : (ahead key xs).length < xs.length := by
  unfold isAt at h
  cases h1 : onward key xs with
  | nil => rw [h1] at h; cases h
  | cons y ys => exact (onward_get h1).1
theorem set_ev (xs : List S31) (key val : ByteArray) (hl : xs.length ≤ 1000) : Ev (fun k => labels_Set.f k xs key val) (setB key val xs) := by
  unfold labels_Set.f
  refine Ev.bind (at_ev xs key hl) ?_
  rw [posr_at]
  have hal := ahead_len key xs
  simp only []
  unfold setB
  refine ev_if (fun h => ?_) (fun h => ?_)
  · have h1 := isAt_lt h
    rw [wrap_small (by omega) (by omega), show ((ahead key xs).length : Int) + 1 = (((ahead key xs).length + 1 : Nat) : Int) by push_cast; rfl]
    rw [join_f xs [⟨key, val⟩] _ _ hal (by omega) hl (by simp), if_pos h, take_ahead, drop_ahead]
    exact Ev.now _
  · rw [join_f xs [⟨key, val⟩] _ _ hal hal hl (by simp), if_neg h, take_ahead]
    have := drop_ahead key xs 0
    rw [Nat.add_zero, List.drop_zero] at this
    rw [this]
    exact Ev.now _
theorem drop_ev (xs : List S31) (key : ByteArray) (hl : xs.length ≤ 1000) : Ev (fun k => labels_Drop.f k xs key) (dropB key xs) := by
  unfold labels_Drop.f
  refine Ev.bind (at_ev xs key hl) ?_
  rw [posr_at]
  have hal := ahead_len key xs
  simp only []
  unfold dropB
  refine ev_if (fun h => ?_) (fun h => ?_)
  · have h1 := isAt_lt h
    rw [wrap_small (by omega) (by omega), show ((ahead key xs).length : Int) + 1 = (((ahead key xs).length + 1 : Nat) : Int) by push_cast; rfl]
    rw [join_f xs [] _ _ hal (by omega) hl (by simp), if_pos h, take_ahead, drop_ahead, List.append_nil]
    exact Ev.now _
  · have := join_f xs [] 0 0 (Nat.zero_le _) (Nat.zero_le _) hl (by simp)
    rw [show ((0 : Nat) : Int) = 0 from rfl] at this
    rw [this, if_neg h, ahead_onward]
    exact Ev.now _
theorem refDrop_l0 (xs : List S31) (key : ByteArray) (hl : xs.length ≤ 1000) : ∀ (d i : Nat) (acc : List S31), i + d = xs.length → acc.length ≤ i → Ev (fun k => triremeref05_Drop.l0 k xs key acc (i : Int)) (acc ++ (xs.drop i).filter (fun x => !(x.f0.toList == key.toList))) := by
  intro d
  induction d with
  | zero =>
    intro i acc h ha
    refine Ev.step (fun k => by rw [triremeref05_Drop.l0]) ?_
    rw [List.drop_eq_nil_of_le (by omega)]
    have h3 : ¬ ((i : Int) < (xs.length : Int)) := by omega
    simp only [h3, if_false, List.filter_nil, List.append_nil]
    exact Ev.now _
  | succ d ih =>
    intro i acc h ha
    refine Ev.step (fun k => by rw [triremeref05_Drop.l0]) ?_
    have h3 : ((i : Int) < (xs.length : Int)) := by omega
    have h4 : (0 : Int) ≤ (i : Int) := by omega
    have h5 : i < xs.length := by omega
    have h8 : acc.length < 4398046511104 := by omega
    simp only [h3, h4, h8, if_true]
    rw [wrap_small (i := (i : Int) + 1) (by omega) (by omega), rd_nat xs i h5, List.drop_eq_getElem_cons h5, List.filter_cons]
    refine ev_if (fun h6 => ?_) (fun h6 => ?_)
    · have : (!(xs[i].f0.toList == key.toList)) = false := by simp [h6]
      rw [this]
      simp only [Bool.false_eq_true, if_false]
      exact ih (i + 1) acc (by omega) (by omega)
    · have : (!(xs[i].f0.toList == key.toList)) = true := by simp [h6]
      rw [this]
      simp only [if_true]
      have := ih (i + 1) (acc ++ [xs[i]]) (by omega) (by simp; omega)
      rw [List.append_assoc] at this
      exact this
theorem refDrop_ev (xs : List S31) (key : ByteArray) (hl : xs.length ≤ 1000) : Ev (fun k => triremeref05_Drop.f k xs key) (xs.filter (fun x => !(x.f0.toList == key.toList))) := by
  have := refDrop_l0 xs key hl xs.length 0 [] (by omega) (by simp)
  rw [List.drop_zero, List.nil_append] at this
  exact this
theorem refSet_l0 (xs : List S31) (key val : ByteArray) (hl : xs.length ≤ 1000) (hk : key.size ≤ 1000000000) (hx : ∀ x ∈ xs, x.f0.size ≤ 1000000000) : ∀ (d i : Nat) (acc : List S31), i + d = xs.length → acc.length ≤ i →
    Ev (fun k => triremeref05_Set.l0 k xs key val acc (i : Int)) (acc ++ ahead key (xs.drop i) ++ [⟨key, val⟩] ++ onward key (xs.drop i)) := by
  intro d
  induction d with
  | zero =>
    intro i acc h ha
    refine Ev.step (fun k => by rw [triremeref05_Set.l0]) ?_
    have h3 : ¬ ((i : Int) < (xs.length : Int)) := by omega
    have h4 : (0 : Int) ≤ (i : Int) := by omega
    have h5 : (i : Int) ≤ (xs.length : Int) := by omega
    have h8 : acc.length < 4398046511104 := by omega
    simp only [h3, h4, h5, h8, if_false, if_true, Option.bind_some, Int.toNat_natCast]
    rw [List.drop_eq_nil_of_le (by omega)]
    have h9 : (acc ++ [(⟨key, val⟩ : S31)]).length + ([] : List S31).length < 4398046511104 := by simp; omega
    simp only [h9, if_true, ahead, onward, List.takeWhile_nil, List.dropWhile_nil, List.append_nil]
    exact Ev.now _
  | succ d ih =>
    intro i acc h ha
    refine Ev.step (fun k => by rw [triremeref05_Set.l0]) ?_
    have h3 : ((i : Int) < (xs.length : Int)) := by omega
    have h4 : (0 : Int) ≤ (i : Int) := by omega
    have h5 : i < xs.length := by omega
    have h6 : (i : Int) ≤ (xs.length : Int) := by omega
    have h8 : acc.length < 4398046511104 := by omega
    simp only [h3, h4, h6, h8, if_true, Option.bind_some, Int.toNat_natCast]
    rw [wrap_small (i := (i : Int) + 1) (by omega) (by omega), rd_nat xs i h5]
    refine Ev.bind (less_ev _ _ (hx _ (List.getElem_mem h5)) hk) ?_
    have hd := List.drop_eq_getElem_cons h5
    unfold ahead onward
    rw [hd, List.takeWhile_cons, List.dropWhile_cons]
    cases hlt : lt xs[i].f0 key with
    | true =>
      simp only [if_true]
      have := ih (i + 1) (acc ++ [xs[i]]) (by omega) (by simp; omega)
      unfold ahead onward at this
      simp only [List.append_assoc, List.cons_append, List.nil_append] at this ⊢
      exact this
    | false =>
      simp only [Bool.false_eq_true, if_false]
      have h9 : (acc ++ [(⟨key, val⟩ : S31)]).length + (xs[i] :: xs.drop (i + 1)).length < 4398046511104 := by simp; omega
      rw [if_pos h9, List.append_nil]
      exact Ev.now _
theorem refSet_ev (xs : List S31) (key val : ByteArray) (hl : xs.length ≤ 1000) (hk : key.size ≤ 1000000000) (hx : ∀ x ∈ xs, x.f0.size ≤ 1000000000) (hr : Rises xs) : Ev (fun k => triremeref05_Set.f k xs key val) (setB key val xs) := by
  unfold triremeref05_Set.f
  refine Ev.bind (refDrop_ev xs key hl) ?_
  have hll : (xs.filter (fun x => !(x.f0.toList == key.toList))).length ≤ xs.length := List.length_filter_le _ _
  have h := refSet_l0 (xs.filter (fun x => !(x.f0.toList == key.toList))) key val (by omega) hk (fun x hx' => hx x (List.mem_filter.1 hx').1) _ 0 [] (by rw [Nat.zero_add]) (by simp)
  rw [List.drop_zero, List.nil_append] at h
  have e1 : ∀ q : List S31, (∀ y ys, q = y :: ys → lt y.f0 key = false) → ahead key (ahead key xs ++ q) = ahead key xs ∧ onward key (ahead key xs ++ q) = q := by
    intro q hq
    have h0 := ahead_lt key xs
    unfold ahead onward at *
    constructor
    · rw [List.takeWhile_append_of_pos h0]
      cases q with
      | nil => simp
      | cons y ys => rw [List.takeWhile_cons, hq y ys rfl]; simp
    · rw [List.dropWhile_append_of_pos h0]
      cases q with
      | nil => simp
      | cons y ys => rw [List.dropWhile_cons, hq y ys rfl]; simp
  rw [filter_ne key xs hr] at h ⊢
  have e2 := e1 (if isAt key xs = true then (onward key xs).drop 1 else onward key xs) (by
    intro y ys hy
    cases ho : onward key xs with
    | nil => rw [ho] at hy; simp at hy
    | cons z zs =>
      rw [ho] at hy
      by_cases ha : isAt key xs = true
      · rw [if_pos ha] at hy
        simp only [List.drop_succ_cons, List.drop_zero] at hy
        subst hy
        exact lt_asymm (onward_rest hr ho y List.mem_cons_self)
      · rw [if_neg ha] at hy
        injection hy with h1 _
        rw [← h1]
        exact onward_not key xs z zs ho)
  rw [e2.1, e2.2] at h
  exact h
end Go.Proofs.Ytcnaefnlnjfjkaa.H
end
section
namespace Go.Proofs.Ytcnaefnlnjfjkaa.H
open Go.RowKit Go.Proofs.YtcnaefnlnjfjkaaW.PrintWords Go.Proofs.YtcnaefnlnjfjkaaW.PrintLast
theorem same_l0 (xs : List S31) (hl : xs.length ≤ 1000000) : ∀ d i : Nat, i + d = xs.length → Ev (fun k => triremeref05_Same.l0 k xs xs (i : Int)) true := by
  intro d
  induction d with
  | zero =>
    intro i h
    refine Ev.step (fun k => by rw [triremeref05_Same.l0]) ?_
    have h3 : ¬ ((i : Int) < (xs.length : Int)) := by omega
    simp only [h3, if_false]
    exact Ev.now _
  | succ d ih =>
    intro i h
    refine Ev.step (fun k => by rw [triremeref05_Same.l0]) ?_
    have h3 : ((i : Int) < (xs.length : Int)) := by omega
    have h4 : (0 : Int) ≤ (i : Int) := by omega
    simp only [h3, h4, if_true, BEq.rfl, Bool.not_true, Bool.or_self, Bool.false_eq_true, if_false]
    rw [wrap_small (i := (i : Int) + 1) (by omega) (by omega)]
    exact ih (i + 1) (by omega)
theorem same_ev (xs : List S31) (hl : xs.length ≤ 1000000) : Ev (fun k => triremeref05_Same.f k xs xs) true := by
  unfold triremeref05_Same.f
  simp only [if_true]
  exact same_l0 xs hl xs.length 0 (by omega)
theorem spoil_l1 (xs ys : List S31) (hs : Ev (fun k => triremeref05_Same.f k ys xs) true) : ∀ (d i : Nat) (q : List S31), i + d = q.length → q.length ≤ 1000000 → Ev (fun k => triremelaw05_LabelsSet.l1 k xs ys q true (i : Int)) true := by
  intro d
  induction d with
  | zero =>
    intro i q h hq
    refine Ev.step (fun k => by rw [triremelaw05_LabelsSet.l1]) ?_
    have h3 : ¬ ((i : Int) < (q.length : Int)) := by omega
    simp only [h3, if_false, if_true]
    refine Ev.bind hs ?_
    simp only [if_true, triremelaw05_known.f, Option.bind_some]
    exact Ev.now _
  | succ d ih =>
    intro i q h hq
    refine Ev.step (fun k => by rw [triremelaw05_LabelsSet.l1]) ?_
    have h3 : ((i : Int) < (q.length : Int)) := by omega
    have h4 : (0 : Int) ≤ (i : Int) := by omega
    simp only [h3, h4, if_true]
    rw [wrap_small (i := (i : Int) + 1) (by omega) (by omega)]
    exact ih (i + 1) _ (by rw [List.length_set]; omega) (by rw [List.length_set]; omega)
theorem spoil_l0 (xs ys p : List S31) (hs : Ev (fun k => triremeref05_Same.f k ys xs) true) (hp : p.length ≤ 1000000) : ∀ (d i : Nat) (q : List S31), i + d = q.length → q.length ≤ 1000000 → Ev (fun k => triremelaw05_LabelsSet.l0 k xs ys q p true (i : Int)) true := by
  intro d
  induction d with
  | zero =>
    intro i q h hq
    refine Ev.step (fun k => by rw [triremelaw05_LabelsSet.l0]) ?_
    have h3 : ¬ ((i : Int) < (q.length : Int)) := by omega
    simp only [h3, if_false]
    exact spoil_l1 xs ys hs p.length 0 p (by omega) hp
  | succ d ih =>
    intro i q h hq
    refine Ev.step (fun k => by rw [triremelaw05_LabelsSet.l0]) ?_
    have h3 : ((i : Int) < (q.length : Int)) := by omega
    have h4 : (0 : Int) ≤ (i : Int) := by omega
    simp only [h3, h4, if_true]
    rw [wrap_small (i := (i : Int) + 1) (by omega) (by omega)]
    exact ih (i + 1) _ (by rw [List.length_set]; omega) (by rw [List.length_set]; omega)
theorem law_j0_true (xs : List S31) (key val : ByteArray) : Ev (fun k => triremelaw05_LabelsSet.j0 k xs key val true) true := by
  refine Ev.step (fun k => by rw [triremelaw05_LabelsSet.j0]) ?_
  simp only [if_true, triremelaw05_known.f, Option.bind_some]
  exact Ev.now _
theorem setB_len (key val : ByteArray) (xs : List S31) : (setB key val xs).length ≤ xs.length + 1 := by
  have h := congrArg List.length (ahead_onward key xs)
  unfold setB
  rw [List.length_append] at h
  split <;> simp <;> omega
theorem dropB_len (key : ByteArray) (xs : List S31) : (dropB key xs).length ≤ xs.length := by
  have h := congrArg List.length (ahead_onward key xs)
  unfold dropB
  rw [List.length_append] at h
  split <;> simp <;> omega
theorem law_j0_false (xs : List S31) (key val : ByteArray) (hl : xs.length ≤ 40) (hk : key.size ≤ 300) (hx : ∀ x ∈ xs, x.f0.size ≤ 300 ∧ x.f1.size ≤ 300) (hr : Rises xs) : Ev (fun k => triremelaw05_LabelsSet.j0 k xs key val false) true := by
  refine Ev.step (fun k => by rw [triremelaw05_LabelsSet.j0]) ?_
  have h1 : ([] : List S31).length + xs.length < 4398046511104 := by simp; omega
  simp only [Bool.false_eq_true, if_false, Option.bind_some, h1, if_true, List.nil_append]
  refine Ev.bind (get_ev xs key (by omega)) ?_
  refine Ev.bind (refGet_ev xs key (by omega)) ?_
  refine Ev.bind (set_ev xs key val (by omega)) ?_
  refine Ev.bind (drop_ev xs key (by omega)) ?_
  rw [get_alike key xs hr]
  simp only [if_true, BEq.rfl]
  refine Ev.bind (refSet_ev xs key val (by omega) (by omega) (fun x h => by have := hx x h; omega) hr) ?_
  have hsl := setB_len key val xs
  have hdl := dropB_len key xs
  refine Ev.bind (same_ev _ (by omega)) ?_
  simp only [if_true]
  refine Ev.bind (refDrop_ev xs key (by omega)) ?_
  rw [filter_ne key xs hr]
  refine Ev.bind (show Ev (fun k => triremeref05_Same.f k (dropB key xs) (dropB key xs)) true from same_ev _ (by omega)) ?_
  refine Ev.step (fun k => by rw [triremelaw05_LabelsSet.j1]) ?_
  exact spoil_l0 xs xs (dropB key xs) (same_ev xs (by omega)) (by omega) (setB key val xs).length 0 _ (by omega) (by omega)
/-- What is to be shown of the law, without the machine. -/
theorem LabelsSet_pure (xs : List S31) (key val : ByteArray) : ∃ k, triremelaw05_LabelsSet.f k xs key val = some true := by
  refine Ev.rounds ?_
  unfold triremelaw05_LabelsSet.f
  refine Ev.bind (light_ev xs) ?_
  cases hlt : (decide (xs.length ≤ 40) && lightB xs) with
  | false =>
    simp only [Bool.false_eq_true, if_false]
    exact law_j0_true xs key val
  | true =>
    simp only [Bool.and_eq_true, decide_eq_true_eq] at hlt
    simp only [if_true]
    refine ev_if (fun _ => law_j0_true xs key val) (fun h1 => ev_if (fun _ => law_j0_true xs key val) (fun h2 => ?_))
    have hx := light_at hlt.2
    refine Ev.bind (right_ev xs (by omega) hx) ?_
    cases hr : refRight xs with
    | false => exact law_j0_true xs key val
    | true => exact law_j0_false xs key val hlt.1 (by omega) hx (refRight_rises hr).2
end Go.Proofs.Ytcnaefnlnjfjkaa.H
end
section
namespace Go.Proofs.Ytcnaefnlnjfjkaa.labelsSet
open Go.ChangeShapes Go.WideShapes Go.ChangeAt Go.RowKit Go.Proofs.YtcnaefnlnjfjkaaW.PrintWords Go.Proofs.YtcnaefnlnjfjkaaW.PrintLast Go.Proofs.Ytcnaefnlnjfjkaa.H
open Go.ChangeMaps (open_string shut_string)
set_option linter.unusedVariables false
set_option maxRecDepth 100000
def ok9 (s : ByteArray) : Prop := s.size ≤ 140737488351232
theorem opens9 : Opens Try.prog 9 Kd.string ok9 := opens_string Try.underlying9
def ok31 (y : S31) : Prop := ok9 y.f0 ∧ ok9 y.f1
theorem opens31 : Opens Try.prog 31 k31 ok31 := by
  intro H enc w base fuel held cs x h hw
  obtain ⟨xs, n, _, rfl, hl, hxl, hf⟩ := DataW.trod_struct Try.underlying31 h
  have hl' : cs.length = 2 := hl.trans (by kernel_rfl)
  have g0 := hf 0 _ rfl
  obtain ⟨x0, e0⟩ : ∃ z, xs[0]? = some z := ⟨_, List.getElem?_eq_getElem (by rw [hxl]; decide)⟩
  rw [e0] at g0
  obtain ⟨y0, q0, o0⟩ := opens9 enc w base n held ((cs.drop 0).take 1) x0 (by rw [← g0]; rfl) (fun m hm => hw m (DataW.weights_mem_each (j := 0) rfl (by rw [List.getElem?_map, e0]; rfl) m hm))
  have g1 := hf 1 _ rfl
  obtain ⟨x1, e1⟩ : ∃ z, xs[1]? = some z := ⟨_, List.getElem?_eq_getElem (by rw [hxl]; decide)⟩
  rw [e1] at g1
  obtain ⟨y1, q1, o1⟩ := opens9 enc w base n held ((cs.drop 1).take 1) x1 (by rw [← g1]; rfl) (fun m hm => hw m (DataW.weights_mem_each (j := 1) rfl (by rw [List.getElem?_map, e1]; rfl) m hm))
  rw [split_last cs 1 1 (by omega)] at q1
  exact ⟨⟨y0, y1⟩, ⟨_, _, split_step cs 0 1, q0, q1⟩, o0, o1⟩
theorem bytes22 : Try.prog.bytesOf 31 = 32 := by kernel_rfl
def ok22 (l : List S31) : Prop := l.length * 32 ≤ 140737488351232 ∧ ∀ y ∈ l, ok31 y
theorem opens22 : Opens Try.prog 22 (Kd.slice 31 k31) ok22 := opens_slice Try.underlying22 (by kernel_rfl) bytes22 opens31
theorem own : ownKnob Try.prog.godebug = none := by kernel_rfl
theorem laidOut : laidOutB Try.prog = true := by kernel_rfl
set_option maxRecDepth 100000 in
theorem lifted (os : Os) (started : os.Started) (H : Type) (enc : TypeId × Value → H) :
    ReturnsInHanded {} Try.checked os 3 .any (Rows.labelsSetSpec.pre6 enc Try.prog Try.f3 Rows.labelsSetRow.domain false) (Rows.labelsSetSpec.post enc Try.prog Try.f3 false true false false) := by
  refine returnsInHanded_of_change_sized (C := Try.checked) own started (by kernel_rfl) Try.func3
    (ChangeSpec.witness6 (enc := enc) (C := Try.checked) false ⟨#[], #[.slice none 0 0, .string ByteArray.empty, .string ByteArray.empty], []⟩ 8 (by kernel_rfl) (by kernel_rfl) (by kernel_rfl) (by kernel_rfl)) ?_
  intro W base args ds gs before hval0 hW hcnd hsz0 _
  have hsz : (DataW.weightsEach Try.prog (Try.f3.params.toList ++ Rows.labelsSetSpec.plain.varTypes Try.prog) (ds ++ gs)).all (· ≤ reachBytes) = true := hsz0
  have hval : ∀ (j : Nat) t v, Try.f3.params[j]? = some t → args[j]? = some v → Value.okWide Try.prog W .any base t v := hval0
  have hW' := hW
  obtain ⟨p, q, hA0, hV, rfl, hfz, hnd⟩ := hW
  have hA : DataW.TrodAll enc Try.prog W 0 (fun _ => true) true Try.f3.params.toList args.toList ds p := hA0
  rw [Try.params3] at hA hval hsz
  obtain ⟨v0, vs0, d0, ds0, p0, q0, hargs, rfl, rfl, h0, r0⟩ := trodAll_cons hA
  obtain ⟨v1, vs1, d1, ds1, p1, q1, rfl, rfl, rfl, h1, r1⟩ := trodAll_cons r0
  obtain ⟨v2, vs2, d2, ds2, p2, q2, rfl, rfl, rfl, h2, r2⟩ := trodAll_cons r1
  obtain ⟨rfl, rfl, rfl⟩ := trodAll_nil r2
  obtain rfl : args = #[v0, v1, v2] := by cases args; simp_all
  obtain ⟨rfl, rfl⟩ := trodVars_none hV
  have tr0 := h0
  have lt0 : ∀ x ∈ p0, x.block < W.heap.size := by obtain ⟨m, hm⟩ := tr0; exact DataW.trod_lt m _ _ _ hm
  obtain ⟨a0, len0, cap0, rfl⟩ := okWide_slice Try.underlying22 (hval 0 22 v0 rfl rfl)
  obtain ⟨m0, hm0⟩ := h0
  obtain ⟨l0, kk0, okk0⟩ := opens22 enc W 0 m0 true _ _ hm0 (fun m hm => of_decide_eq_true (List.all_eq_true.1 hsz m (DataW.weights_mem_each (j := 0) rfl rfl m hm)))
  obtain ⟨A0, c0, e0, hc0, hr0⟩ := kk0
  simp only [Value.cells, List.cons.injEq, and_true, Value.slice.injEq] at e0
  obtain ⟨rfl, rfl, rfl⟩ := e0
  obtain ⟨a1, rfl, rfl, rfl, y1⟩ := open_string Try.underlying9 (hval 1 9 v1 rfl rfl) h1
  have okk1 : ok9 a1 := by
    have z := sized_string hsz (j := 1) (t := 9) rfl rfl
    rw [Array.length_toList] at z
    exact z
  obtain ⟨a2, rfl, rfl, rfl, y2⟩ := open_string Try.underlying9 (hval 2 9 v2 rfl rfl) h2
  have okk2 : ok9 a2 := by
    have z := sized_string hsz (j := 2) (t := 9) rfl rfl
    rw [Array.length_toList] at z
    exact z
  clear hA0 hval0 hsz0 hsz
  obtain ⟨k, hp⟩ := LabelsSet_pure l0 a1 a2
  refine (triremelaw05_LabelsSet.calls k _ _ l0 a1 a2 true W hr0 hc0 hp).mono fun e W' ⟨he, bel⟩ => ?_
  subst he
  exact ⟨_, rfl, _, _, _, [], _, [], hW', trodAll_mk1 (shut_bool Try.underlying4 _), (trodAll_cons_mk (Below.trod laidOut (by kernel_rfl) (of_decide_eq_true (by kernel_rfl)) tr0 bel lt0) (trodAll_cons_mk (shut_string Try.underlying9 y1) (trodAll_cons_mk (shut_string Try.underlying9 y2) trodAll_mk0))), rfl, bel.frame _, fun h => by cases h⟩
theorem over : Rows.labelsSetRow.holds Try.pinned (OpenSpec.ofChange Rows.labelsSetSpec) :=
  OpenClaim.holds_of_wide 3 Try.f3 rfl rfl rfl rfl rfl rfl rfl ⟨rfl, rfl, rfl, rfl, rfl⟩ rfl rfl rfl rfl rfl (by kernel_rfl) Try.func3 (by kernel_rfl)
    (of_decide_eq_true (by kernel_rfl)) (by unfold Func.isWrapper; first | (rw [if_pos (by decide +kernel)]; kernel_rfl) | (rw [if_neg (by decide +kernel)]; exact ⟨rfl, rfl⟩))
    (fun os started H enc _ => lifted os started H enc)
theorem proved : Rows.LabelsSetSaid := over
end Go.Proofs.Ytcnaefnlnjfjkaa.labelsSet
namespace Go.Proofs.Ytcnaefnlnjfjkaa
/-- LabelsSet, as the given rows state it. -/
theorem labelsSet_holds : Rows.LabelsSetSaid := labelsSet.proved
end Go.Proofs.Ytcnaefnlnjfjkaa
end
