/- Any number, and any number of thousandths, is shown as the reference shows it; and the fixed calls answer what the law names. -/
import Derived.Test.YtpmmiabcfnejmaaRows
import Derived.WalkKit
import Derived.ProofKit
import Derived.OpenShut
import Derived.ShutString
import Derived.ChangeOld
import Derived.Below
import Derived.SizedLaws
import Derived.Laws.BitsLemmas
import Derived.Lib.EndianBits
import Derived.Test.YtpmmiabcfnejmaaCQuantShows0
import Derived.Test.YtpmmiabcfnejmaaCQuantShows1
section
namespace Go.Proofs.Ytpmmiabcfnejmaa.H
open Go.RowKit Go.Proofs.YtpmmiabcfnejmaaW.PrintWords Go.Proofs.YtpmmiabcfnejmaaW.PrintLast Go.Proofs.YtpmmiabcfnejmaaW.PrintMore
attribute [local go_sem] max2_int min2_int max_two min_two max_three min_three max_four min_four   -- for this text's walks alone
set_option linter.unusedVariables false
set_option linter.unusedSimpArgs false
mutual
def triremeref03_Show.j0 : Nat → Int → Bool → Option (ByteArray)
  | 0, _, _ => none
  | k + 1, x0, x11 => if x11 = true then (some (⟨#[]⟩ : ByteArray)) else (triremeref03_Show.l0 k x0 (([(⟨#[84, 105]⟩ : ByteArray), (⟨#[71, 105]⟩ : ByteArray), (⟨#[77, 105]⟩ : ByteArray), (⟨#[75, 105]⟩ : ByteArray)] : List ByteArray)) 0)
def triremeref03_Show.l0 : Nat → Int → List ByteArray → Int → Option (ByteArray)
  | 0, _, _, _ => none
  | k + 1, x0, x3, x4 => if x4 < 4 then (if 0 ≤ (IntKind.u64.wrap (wrap64 (40 - (wrap64 (10 * x4))))) then (if x0 > 0 then (if (shl .i64 1 (IntKind.u64.wrap (wrap64 (40 - (wrap64 (10 * x4)))))) = 0 then (none) else (if (Int.tmod x0 (shl .i64 1 (IntKind.u64.wrap (wrap64 (40 - (wrap64 (10 * x4))))))) = 0 then ((triremeref01_Digits.f k (wrap64 (Int.tdiv x0 (shl .i64 1 (IntKind.u64.wrap (wrap64 (40 - (wrap64 (10 * x4))))))))).bind fun t152 => (if 0 ≤ x4 then (if x4 < (x3.length : Int) then (if t152.size + (rdOf ByteArray.empty x3 x4).size ≤ 9223372036854775807 then (some (t152 ++ (rdOf ByteArray.empty x3 x4))) else (none)) else (none)) else (none))) else (triremeref03_Show.l0 k x0 x3 (wrap64 (x4 + 1))))) else (triremeref03_Show.l0 k x0 x3 (wrap64 (x4 + 1)))) else (none)) else ((triremeref01_Digits.f k x0).bind fun t154 => (some t154))
end
def triremeref03_Show.f (k : Nat) (a0 : Int) : Option (ByteArray) := if a0 < 0 then (triremeref03_Show.j0 k a0 true) else (triremeref03_Show.j0 k a0 (decide (a0 > 1125899906842624)))
theorem triremeref03_Show.mono_l : ∀ k, (∀ y0 y1, LeO (triremeref03_Show.j0 k y0 y1) (triremeref03_Show.j0 (k + 1) y0 y1)) ∧ (∀ y0 y1 y2, LeO (triremeref03_Show.l0 k y0 y1 y2) (triremeref03_Show.l0 (k + 1) y0 y1 y2))
  | 0 => ⟨fun _ _ r h => by simp [triremeref03_Show.j0] at h, fun _ _ _ r h => by simp [triremeref03_Show.l0] at h⟩
  | k + 1 => by
    obtain ⟨ih0, ih1⟩ := triremeref03_Show.mono_l k
    refine ⟨?_, ?_⟩
    · intro y0 y1
      unfold triremeref03_Show.j0
      repeat' first
      | (with_reducible exact ih0 _ _)
      | (with_reducible exact ih1 _ _ _)
      | (with_reducible exact triremeref01_Digits.mono _ _)
      | (with_reducible exact LeO.refl _)
      | (with_reducible exact LeO.none _)
      | (with_reducible refine LeO.ite ?_ ?_)
      | (with_reducible refine LeO.bind ?_ (fun _ => ?_))
      | exact ih0 _ _
      | exact ih1 _ _ _
      | exact triremeref01_Digits.mono _ _
      | exact LeO.none _
      | refine LeO.ite ?_ ?_
      | refine LeO.bind ?_ (fun _ => ?_)
    · intro y0 y1 y2
      unfold triremeref03_Show.l0
      repeat' first
      | (with_reducible exact ih0 _ _)
      | (with_reducible exact ih1 _ _ _)
      | (with_reducible exact triremeref01_Digits.mono _ _)
      | (with_reducible exact LeO.refl _)
      | (with_reducible exact LeO.none _)
      | (with_reducible refine LeO.ite ?_ ?_)
      | (with_reducible refine LeO.bind ?_ (fun _ => ?_))
      | exact ih0 _ _
      | exact ih1 _ _ _
      | exact triremeref01_Digits.mono _ _
      | exact LeO.none _
      | refine LeO.ite ?_ ?_
      | refine LeO.bind ?_ (fun _ => ?_)
theorem triremeref03_Show.mono : ∀ a0 k, LeO (triremeref03_Show.f k a0) (triremeref03_Show.f (k + 1) a0) := by
  intro a0 k
  obtain ⟨ih0, ih1⟩ := triremeref03_Show.mono_l k
  unfold triremeref03_Show.f
  repeat' first
      | (with_reducible exact ih0 _ _)
      | (with_reducible exact ih1 _ _ _)
      | (with_reducible exact triremeref01_Digits.mono _ _)
      | (with_reducible exact LeO.refl _)
      | (with_reducible exact LeO.none _)
      | (with_reducible refine LeO.ite ?_ ?_)
      | (with_reducible refine LeO.bind ?_ (fun _ => ?_))
      | exact ih0 _ _
      | exact ih1 _ _ _
      | exact triremeref01_Digits.mono _ _
      | exact LeO.none _
      | refine LeO.ite ?_ ?_
      | refine LeO.bind ?_ (fun _ => ?_)
def triremeref03_Show.T9 : Bool × List (List Nat × List Nat) := (true, [([], []), ([], []), ([0, 1], [0, 1]), ([2], [2]), ([], []), ([], []), ([4, 5], [4, 5]), ([6], [6]), ([3, 7], [3, 7]), ([8, 3, 0, 1, 2, 3, 4, 5, 6, 7, 8], [8])])
def triremeref03_Show.B9 : List Nat := [0, 0, 3, 7, 0, 0, 48, 112, 255, 511]
theorem triremeref03_Show.tab9 : rtab .any (opsOf Try.f16 9) = triremeref03_Show.T9 := by kernel_rfl
theorem triremeref03_Show.bits9 : waitsOk triremeref03_Show.T9.2 triremeref03_Show.B9 = true := by kernel_rfl
set_option maxHeartbeats 8000000 in
set_option maxRecDepth 100000 in
theorem triremeref03_Show.calls (k : Nat) (a0 : Int) (r : ByteArray) (w : World) (h : triremeref03_Show.f k a0 = some r) :
    Calls Try.prog 16 #[.int .i64 a0] w fun e w' => e = .returned (.string r) ∧ Below w.heap.size w w' := by
  have HB := Aside0.mk (Below.refl w.heap.size w)
  have H : (if a0 < 0 then (triremeref03_Show.j0 k a0 true) else (triremeref03_Show.j0 k a0 (decide (a0 > 1125899906842624)))) = some r := h
  clear h
  have HC2 := Aside0.mk H
  clear H
  go_enter Try.func16, Try.ntmps16
  go_upto_region 1 with (fail)
  go_cut [11] (fun v11 wc => ∃ (kq : Nat) (x11_1 : Bool), v11 = .bool x11_1 ∧ Aside0 (triremeref03_Show.j0 kq a0 x11_1 = some r) ∧ Aside0 (kq ≤ k) ∧ Aside0 (Below w.heap.size w wc))
  case first =>
    have H := HC2.out
    clear HC2
    by_cases c3 : a0 < 0
    · rw [if_pos c3] at H
      have c3b0 : decide (a0 < 0) = true := decide_eq_true c3
      clear c3
      (first | rw [c3b0] | (simp only [i64_w, i32_w]; rw [c3b0]) | skip)
      have H' := Aside0.mk H
      clear H
      go_wp2
      go_meet
      case rel => exact ⟨_, (true), (by first | rfl | (simp; done) | (simp [*]; done)), H', ⟨by first | omega | exact Nat.le_refl _⟩, ⟨by repeat (first | (with_reducible first | exact HB.out | apply below_alloc | apply pw_below_drewN | apply below_drew1) | exact HB.out)⟩⟩
    · rw [if_neg c3] at H
      have c3b0 : decide (a0 < 0) = false := decide_eq_false c3
      clear c3
      (first | rw [c3b0] | (simp only [i64_w, i32_w]; rw [c3b0]) | skip)
      have H' := Aside0.mk H
      clear H
      go_wp2
      go_meet
      case rel => exact ⟨_, (decide (a0 > 1125899906842624)), (by first | rfl | (simp; done) | (simp [*]; done)), H', ⟨by first | omega | exact Nat.le_refl _⟩, ⟨by repeat (first | (with_reducible first | exact HB.out | apply below_alloc | apply pw_below_drewN | apply below_drew1) | exact HB.out)⟩⟩
  case rest =>
    clear HC2
    try clear c1
    try clear p2
    try clear c3
    try clear c3b0
    obtain ⟨kq, x11_1, rfl, HA, HJ1, HB⟩ := hcut
    cases kq with
    | zero => exact absurd HA.out (by simp [triremeref03_Show.j0])
    | succ kj1 =>
      have H := HA.out
      clear HA
      simp only [triremeref03_Show.j0] at H
      by_cases c4 : x11_1 = true
      · subst c4
        have H1 : (some (⟨#[]⟩ : ByteArray)) = some r := by rw [if_pos rfl] at H; exact H
        clear H
        have H := H1
        clear H1
        obtain rfl := Option.some.inj H
        go_wp2
        go_ret
        exact ⟨by first | rfl | (simp [errW_none, errW_some] <;> rfl) | (simp [*, errW_none, errW_some] <;> rfl), by repeat (first | (with_reducible first | exact HB.out | apply below_alloc | apply pw_below_drewN | apply below_drew1) | exact HB.out)⟩
      · replace c4 := Bool.eq_false_iff.mpr c4
        subst c4
        have H1 : (triremeref03_Show.l0 kj1 a0 (([(⟨#[84, 105]⟩ : ByteArray), (⟨#[71, 105]⟩ : ByteArray), (⟨#[77, 105]⟩ : ByteArray), (⟨#[75, 105]⟩ : ByteArray)] : List ByteArray)) 0) = some r := by rw [if_neg (show ¬ (false = true) by decide)] at H; exact H
        clear H
        have H := H1
        clear H1
        obtain ⟨y149, hy149⟩ : ∃ y_ : List ByteArray, y_ = (([(⟨#[84, 105]⟩ : ByteArray), (⟨#[71, 105]⟩ : ByteArray), (⟨#[77, 105]⟩ : ByteArray), (⟨#[75, 105]⟩ : ByteArray)] : List ByteArray)) := ⟨_, rfl⟩
        replace H : (triremeref03_Show.l0 kj1 a0 y149 0) = some r := by first | (rw [hy149]; with_reducible exact H) | (have H2_ := (Option.bind_some _ _).symm.trans H; rw [hy149]; with_reducible exact H2_) | (have H2_ := (Option.bind_some _ _).symm.trans H; with_reducible exact H2_) | with_reducible exact H | (rw [hy149]; exact H) | exact H
        have Ny149 := Aside0.mk hy149
        clear hy149
        have H' := Aside0.mk H
        clear H
        go_wp2_with (first | ((with_reducible refine gate_dst (N := 12) rfl ?_); refine Kd.R_lit Kd.string _ 9 ?hg (N := 12) ?hd (xs := ([(⟨#[84, 105]⟩ : ByteArray), (⟨#[71, 105]⟩ : ByteArray), (⟨#[77, 105]⟩ : ByteArray), (⟨#[75, 105]⟩ : ByteArray)] : List ByteArray)) (inner := [.string (⟨#[84, 105]⟩ : ByteArray), .string (⟨#[71, 105]⟩ : ByteArray), .string (⟨#[77, 105]⟩ : ByteArray), .string (⟨#[75, 105]⟩ : ByteArray)]) (ok := fun _ => True) (okp := fun _ => True) ?hr ?hp (fun _ hk => hk) trivial (Below.refl _ _) (Nat.le_refl _) (by simp) ?_; (case hd => rfl); (case hg => rfl); (case hr => first | (go_simp; done) | (go_simp; rfl)); (case hp => exact (Reps.one (show Kd.M Kd.string _ _ _ (⟨#[84, 105]⟩ : ByteArray) [.string (⟨#[84, 105]⟩ : ByteArray)] from rfl) (Reps.one (show Kd.M Kd.string _ _ _ (⟨#[71, 105]⟩ : ByteArray) [.string (⟨#[71, 105]⟩ : ByteArray)] from rfl) (Reps.one (show Kd.M Kd.string _ _ _ (⟨#[77, 105]⟩ : ByteArray) [.string (⟨#[77, 105]⟩ : ByteArray)] from rfl) (Reps.one (show Kd.M Kd.string _ _ _ (⟨#[75, 105]⟩ : ByteArray) [.string (⟨#[75, 105]⟩ : ByteArray)] from rfl) (Reps.none _ _)))))); intro v150 w5 ho6 hb hg_ hnew_; clear hg_ hnew_; (first | rw [← Ny149.out] at ho6 | (simp only [Int.reduceToNat] at ho6; rw [← Ny149.out] at ho6)); have n0_ := Aside0.mk (Kd.R_lower ho6 (below_size (by repeat (first | (with_reducible first | exact HB.out | apply below_alloc | apply pw_below_drewN | apply below_drew1) | exact HB.out)))); have n1_ := Aside0.mk (below_step (by repeat (first | (with_reducible first | exact HB.out | apply below_alloc | apply pw_below_drewN | apply below_drew1) | exact HB.out)) hb); clear HB; have HO151 := n0_; have HB := n1_; clear n0_ n1_; clear hb ho6))
        go_loopg [4] kj1 (fun kq v4 w' => ∃ (x4_2 : Int), v4 = .int .i64 x4_2 ∧ Aside0 (triremeref03_Show.l0 kq a0 y149 x4_2 = some r) ∧ Aside0 (kq ≤ kj1) ∧ Aside0 (Kd.R Kd.string 9 w' w.heap.size (fun _ => True) v150 y149) ∧ Aside0 (Below w.heap.size w w'))
        case atStart => exact ⟨(0), (by first | rfl | (simp; done) | (simp [*]; done)), H', ⟨Nat.le_refl _⟩, ⟨by (with_reducible repeat (first | apply Kd.R_alloc | apply Kd.R_drewN | apply Kd.R_drew)); exact HO151.out⟩, ⟨by repeat (first | (with_reducible first | exact HB.out | apply below_alloc | apply pw_below_drewN | apply below_drew1) | exact HB.out)⟩⟩
        case round =>
          clear H'
          try clear c1
          try clear p2
          try clear c3
          try clear c3b0
          try clear c4
          try clear p2
          obtain ⟨x4_2, rfl, HA, HK2, HO_3, HB⟩ := hrel
          cases gk with
          | zero => exact absurd HA.out (by simp [triremeref03_Show.l0])
          | succ k2 =>
            have H := HA.out
            clear HA
            simp only [triremeref03_Show.l0] at H
            by_cases c7 : x4_2 < 4
            · rw [if_pos c7] at H
              have c7b0 : decide (x4_2 < 4) = true := decide_eq_true c7
              clear c7
              obtain ⟨ji8, hji8⟩ : ∃ j_ : Int, (IntKind.u64.wrap (wrap64 (40 - (wrap64 (10 * x4_2))))) = j_ := ⟨_, rfl⟩
              replace H : (if 0 ≤ (ji8) then (if a0 > 0 then (if (shl .i64 1 (ji8)) = 0 then (none) else (if (Int.tmod a0 (shl .i64 1 (ji8))) = 0 then ((triremeref01_Digits.f k2 (wrap64 (Int.tdiv a0 (shl .i64 1 (ji8))))).bind fun t152 => (if 0 ≤ x4_2 then (if x4_2 < (y149.length : Int) then (if t152.size + (rdOf ByteArray.empty y149 x4_2).size ≤ 9223372036854775807 then (some (t152 ++ (rdOf ByteArray.empty y149 x4_2))) else (none)) else (none)) else (none))) else (triremeref03_Show.l0 k2 a0 y149 (wrap64 (x4_2 + 1))))) else (triremeref03_Show.l0 k2 a0 y149 (wrap64 (x4_2 + 1)))) else (none)) = some r := by first | (rw [hji8] at H; exact H) | (simp only [hji8] at H ⊢; exact H)
              by_cases c9 : 0 ≤ (ji8)
              · rw [if_pos c9] at H
                have c9b0 := eq_true c9
                (try (have c9z := c9b0; rw [ByteArray.size_extract, Nat.min_self] at c9z))
                have c9b1 : decide (0 ≤ (ji8)) = true := decide_eq_true c9
                clear c9
                obtain ⟨ji10, hji10⟩ : ∃ j_ : Int, (shl .i64 1 (ji8)) = j_ := ⟨_, rfl⟩
                replace H : (if a0 > 0 then (if (ji10) = 0 then (none) else (if (Int.tmod a0 (ji10)) = 0 then ((triremeref01_Digits.f k2 (wrap64 (Int.tdiv a0 (ji10)))).bind fun t152 => (if 0 ≤ x4_2 then (if x4_2 < (y149.length : Int) then (if t152.size + (rdOf ByteArray.empty y149 x4_2).size ≤ 9223372036854775807 then (some (t152 ++ (rdOf ByteArray.empty y149 x4_2))) else (none)) else (none)) else (none))) else (triremeref03_Show.l0 k2 a0 y149 (wrap64 (x4_2 + 1))))) else (triremeref03_Show.l0 k2 a0 y149 (wrap64 (x4_2 + 1)))) = some r := by first | (rw [hji10] at H; exact H) | (simp only [hji10] at H ⊢; exact H)
                have hji10_ : (IntKind.i64.wrap (1 * 2 ^ min (ji8).toNat 64)) = ji10 := hji10
                have hji10z : (ji8) ≤ 64 → (IntKind.i64.wrap (1 * 2 ^ (ji8).toNat)) = ji10 := shl_small hji10
                have hji10u : (IntKind.i64.wrap (2 ^ min (ji8).toNat 64)) = ji10 := by have h_ := hji10_; rw [Int.one_mul] at h_; exact h_
                have hji10v : (ji8) ≤ 64 → (IntKind.i64.wrap (2 ^ (ji8).toNat)) = ji10 := fun hle_ => by have h_ := hji10z hle_; rw [Int.one_mul] at h_; exact h_
                have hji10y : (wrap64 (1 * 2 ^ min (ji8).toNat 64)) = ji10 := (i64_w _).symm.trans hji10_
                have hji10x : (ji8) ≤ 64 → (wrap64 (1 * 2 ^ (ji8).toNat)) = ji10 := fun h_ => (i64_w _).symm.trans (hji10z h_)
                by_cases c11 : a0 > 0
                · rw [if_pos c11] at H
                  have c11b0 : decide (0 < a0) = true := decide_eq_true c11
                  clear c11
                  by_cases c12 : (ji10) = 0
                  · rw [if_pos c12] at H
                    exact absurd H (by simp)
                  · rw [if_neg c12] at H
                    have c12b0 : ((ji10) == 0) = false := beq_eq_false_iff_ne.mpr c12
                    have c12b1 : ((ji10) != 0) = true := bne_iff_ne.mpr c12
                    by_cases c13 : (Int.tmod a0 (ji10)) = 0
                    · rw [if_pos c13] at H
                      have c13b0 : ((Int.tmod a0 (ji10)) == 0) = true := beq_iff_eq.mpr c13
                      have c13b1 : ((Int.tmod a0 (ji10)) != 0) = false := bne_eq_false_iff_eq.mpr c13
                      clear c13
                      replace H := Option.bind_eq_some_iff.mp H
                      obtain ⟨t152, A140, H⟩ := H
                      replace H : (if 0 ≤ x4_2 then (if x4_2 < (y149.length : Int) then (if t152.size + (rdOf ByteArray.empty y149 x4_2).size ≤ 9223372036854775807 then (some (t152 ++ (rdOf ByteArray.empty y149 x4_2))) else (none)) else (none)) else (none)) = some r := H
                      have A14 := Aside0.mk A140
                      clear A140
                      by_cases c15 : 0 ≤ x4_2
                      · rw [if_pos c15] at H
                        have c15b0 : decide (0 ≤ x4_2) = true := decide_eq_true c15
                        clear c15
                        by_cases c16 : x4_2 < (y149.length : Int)
                        · rw [if_pos c16] at H
                          have c16b0 : decide (x4_2 < (y149.length : Int)) = true := decide_eq_true c16
                          clear c16
                          by_cases c17 : t152.size + (rdOf ByteArray.empty y149 x4_2).size ≤ 9223372036854775807
                          · rw [if_pos c17] at H
                            have c17b0 := eq_true c17
                            (try (have c17z := c17b0; rw [ByteArray.size_extract, Nat.min_self] at c17z))
                            have c17b1 : decide (t152.size + (rdOf ByteArray.empty y149 x4_2).size ≤ 9223372036854775807) = true := decide_eq_true c17
                            try have c17b2 : (9223372036854775807 < t152.size + (rdOf ByteArray.empty y149 x4_2).size) = False := eq_false (Nat.not_lt.2 c17)
                            obtain rfl := Option.some.inj H
                            try go_wp2
                            have n0_ := Aside0.mk (Kd.R_drew HO_3.out)
                            have n1_ := Aside0.mk (below_drew1 HB.out)
                            clear HO_3
                            clear HB
                            have HO_3 := n0_
                            have HB := n1_
                            clear n0_ n1_
                            obtain ⟨Ao19, co19, eo19⟩ := Kd.R_slice HO_3.out
                            (first | subst eo19 | (injection eo19 with f1_ f2_ f3_; have f4_ := f1_.symm; have f5_ := f3_.symm; clear f1_ f2_ f3_; subst f4_; subst f5_))
                            have p153 : 0 ≤ (x4_2 : Int) := of_decide_eq_true (by first | (with_reducible assumption) | assumption)
                            have q153 : x4_2 < (y149.length : Int) := of_decide_eq_true (by first | (with_reducible assumption) | assumption)
                            obtain ⟨ad153, e153, hx153_0⟩ := Kd.at_string (Kd.R_reads' HO_3.out).2.2 x4_2 p153 q153
                            cases e153
                            replace p153 := eq_true p153
                            replace q153 := eq_true q153
                            (try (have qz153 := q153; rw [ByteArray.size_extract, Nat.min_self] at qz153))
                            refine start_ (n := 10) (S := fun w' => w'.cell? (ad153.add (x4_2).toNat) = some (.string (rdOf ByteArray.empty y149 x4_2))) (ds := []) #[false, false, false, false, false, false, false, false, false, false] (by kernel_rfl) rfl rfl (hx153_0) (fun hHeld => ?_); refine with_tabW triremeref03_Show.tab9 triremeref03_Show.bits9 (fun HT_ HW_ => ?_)
                            generalize wr.drew = w18 at HO_3 HB hx153_0 hHeld ⊢
                            refine pure_ (i := 0) (N := some 30) (v := ?_) (a' := ?_) #[true, false, false, false, false, false, false, false, false, false] rfl rfl (any_of HT_.out (by kernel_rfl)) (fun _ _ _ h => h) (Or.inl ⟨by rfl, ?_⟩) ?_ ?_
                            rotate_left
                            · intro w'
                              go_simp
                              with_reducible rfl
                            rotate_left
                            · simp only [Act.put, List.setIfInBounds_toArray, List.set_cons_zero, List.set_cons_succ, i64_w, i32_w]
                              rfl
                            refine pure_ (i := 1) (N := some 31) (v := ?_) (a' := ?_) #[true, true, false, false, false, false, false, false, false, false] rfl rfl (any_of HT_.out (by kernel_rfl)) (fun _ _ _ h => h) (Or.inl ⟨by rfl, ?_⟩) ?_ ?_
                            rotate_left
                            · intro w'
                              go_simp
                              with_reducible rfl
                            rotate_left
                            · simp only [Act.put, List.setIfInBounds_toArray, List.set_cons_zero, List.set_cons_succ, i64_w, i32_w]
                              rfl
                            refine pure_ (i := 2) (N := some 32) (v := ?_) (a' := ?_) #[true, true, true, false, false, false, false, false, false, false] rfl rfl (any_of HT_.out (by kernel_rfl)) (fun _ _ _ h => h) (Or.inl ⟨by rfl, ?_⟩) ?_ ?_
                            rotate_left
                            · intro w'
                              go_simp
                              with_reducible rfl
                            rotate_left
                            · simp only [Act.put, List.setIfInBounds_toArray, List.set_cons_zero, List.set_cons_succ, i64_w, i32_w]
                              rfl
                            refine pure_ (i := 4) (N := some 34) (v := ?_) (a' := ?_) #[true, true, true, false, true, false, false, false, false, false] rfl rfl (any_of HT_.out (by kernel_rfl)) (fun _ _ _ h => h) (Or.inl ⟨by rfl, ?_⟩) ?_ ?_
                            rotate_left
                            · intro w'
                              go_simp
                              with_reducible rfl
                            rotate_left
                            · simp only [Act.put, List.setIfInBounds_toArray, List.set_cons_zero, List.set_cons_succ, i64_w, i32_w]
                              rfl
                            refine pure_ (i := 5) (N := some 35) (v := ?_) (a' := ?_) #[true, true, true, false, true, true, false, false, false, false] rfl rfl (any_of HT_.out (by kernel_rfl)) (fun _ _ _ h => h) (Or.inl ⟨by rfl, ?_⟩) ?_ ?_
                            rotate_left
                            · intro w'
                              go_simp
                              with_reducible rfl
                            rotate_left
                            · simp only [Act.put, List.setIfInBounds_toArray, List.set_cons_zero, List.set_cons_succ, i64_w, i32_w]
                              rfl
                            refine pure_ (i := 6) (N := some 36) (v := ?_) (a' := ?_) #[true, true, true, false, true, true, true, false, false, false] rfl rfl (any_of HT_.out (by kernel_rfl)) (fun _ _ _ h => h) (Or.inl ⟨by rfl, ?_⟩) ?_ ?_
                            rotate_left
                            · intro w'
                              go_simp
                              with_reducible rfl
                            rotate_left
                            · simp only [Act.put, List.setIfInBounds_toArray, List.set_cons_zero, List.set_cons_succ, i64_w, i32_w]
                              rfl
                            refine take_ (i := 7) (N := some 37) (v := ?_) (a' := ?_) #[true, true, true, false, true, true, true, true, false, false] rfl rfl (take_ofW HT_.out HW_.out (by kernel_rfl)) (fun _ _ _ h => h) (Or.inl ⟨by rfl, ?_⟩) hHeld ?_ ?_
                            rotate_left
                            · intro w' s0
                              go_simp
                              with_reducible rfl
                            rotate_left
                            · simp only [Act.put, List.setIfInBounds_toArray, List.set_cons_zero, List.set_cons_succ, i64_w, i32_w]
                              rfl
                            refine one_ (i := 3) (N := some 33) #[true, true, true, true, true, true, true, true, false, false] rfl rfl (one_of HT_.out (by kernel_rfl)) (by decide) (fun K hK => ?_)
                            refine goes_ Try.func19 (by kernel_rfl) rfl #[.int .i64 (wrap64 (Int.tdiv a0 (ji10)))] (by rfl) rfl rfl (by (try simp only [List.map_toArray, List.map_cons, List.map_nil]); first | done | (simp only [hji10]; rfl) | rfl | (simp only [List.length_drop, List.length_take]; rfl)) ?_
                            with_reducible refine (triremeref01_Digits.calls k2 (wrap64 (Int.tdiv a0 (ji10))) t152 _ A14.out).mono ?_
                            rintro e w20 ⟨rfl, hb⟩
                            have HS0_ := (hb.cell (World.block_lt_of_cell? _ _ (hHeld))).trans (hHeld)
                            refine ⟨_, rfl, ?_⟩
                            have n0_ := Aside0.mk (Kd.R_below (by (with_reducible repeat (first | apply Kd.R_alloc | apply Kd.R_drewN | apply Kd.R_drew)); exact HO_3.out) hb)
                            have n1_ := Aside0.mk (below_step (by repeat (first | (with_reducible first | exact HB.out | apply below_alloc | apply pw_below_drewN | apply below_drew1) | exact HB.out)) hb)
                            clear HO_3
                            clear HB
                            have HO_3 := n0_
                            have HB := n1_
                            clear n0_ n1_
                            (try clear hb)
                            (try clear hb2)
                            (try clear hk)
                            (try clear hi)
                            refine hK.out _ _ (HS0_) (fun hHeld => ?_)
                            clear hK K
                            refine norm_ (a' := ?_) ?_ ?_
                            rotate_left
                            · show Act.put _ (some 33) _ = _
                              simp only [Act.put, List.setIfInBounds_toArray, List.set_cons_zero, List.set_cons_succ, i64_w, i32_w]
                              rfl
                            refine pure_ (i := 8) (N := some 38) (v := ?_) (a' := ?_) #[true, true, true, true, true, true, true, true, true, false] rfl rfl (any_of HT_.out (by kernel_rfl)) (fun _ _ _ h => h) (Or.inl ⟨by rfl, ?_⟩) ?_ ?_
                            rotate_left
                            · intro w'
                              go_simp
                              with_reducible rfl
                            rotate_left
                            · simp only [Act.put, List.setIfInBounds_toArray, List.set_cons_zero, List.set_cons_succ, i64_w, i32_w]
                              rfl
                            refine pure_ (i := 9) (N := some 2) (v := ?_) (a' := ?_) #[true, true, true, true, true, true, true, true, true, true] rfl rfl (any_of HT_.out (by kernel_rfl)) (fun _ _ _ h => h) (Or.inl ⟨by rfl, ?_⟩) ?_ ?_
                            rotate_left
                            · intro w'
                              go_simp
                              with_reducible rfl
                            rotate_left
                            · simp only [Act.put, List.setIfInBounds_toArray, List.set_cons_zero, List.set_cons_succ, i64_w, i32_w]
                              rfl
                            refine done_ (done_of HT_.out (by kernel_rfl)) ?_
                            try go_wp2
                            go_ret
                            exact ⟨by first | rfl | (simp [errW_none, errW_some] <;> rfl) | (simp only [← hji8, ← hji10]; first | rfl | (simp [errW_none, errW_some] <;> rfl)) | (simp [*, errW_none, errW_some] <;> rfl), by repeat (first | (with_reducible first | exact HB.out | apply below_alloc | apply pw_below_drewN | apply below_drew1) | exact HB.out)⟩
                          · rw [if_neg c17] at H
                            exact absurd H (by simp)
                        · rw [if_neg c16] at H
                          exact absurd H (by simp)
                      · rw [if_neg c15] at H
                        exact absurd H (by simp)
                    · rw [if_neg c13] at H
                      have c13b0 : ((Int.tmod a0 (ji10)) == 0) = false := beq_eq_false_iff_ne.mpr c13
                      have c13b1 : ((Int.tmod a0 (ji10)) != 0) = true := bne_iff_ne.mpr c13
                      have H' := Aside0.mk H
                      clear H
                      go_wp2
                      go_roundg k2
                      case measure => have := HJ1.out; have := HK2.out; omega
                      case rel => exact ⟨(wrap64 (x4_2 + 1)), (by first | rfl | (simp; done) | (simp [*]; done)), H', ⟨by have := HJ1.out; have := HK2.out; omega⟩, ⟨by (with_reducible repeat (first | apply Kd.R_alloc | apply Kd.R_drewN | apply Kd.R_drew)); exact HO_3.out⟩, ⟨by repeat (first | (with_reducible first | exact HB.out | apply below_alloc | apply pw_below_drewN | apply below_drew1) | exact HB.out)⟩⟩
                · rw [if_neg c11] at H
                  have c11b0 : decide (0 < a0) = false := decide_eq_false c11
                  clear c11
                  have H' := Aside0.mk H
                  clear H
                  go_wp2
                  go_roundg k2
                  case measure => have := HJ1.out; have := HK2.out; omega
                  case rel => exact ⟨(wrap64 (x4_2 + 1)), (by first | rfl | (simp; done) | (simp [*]; done)), H', ⟨by have := HJ1.out; have := HK2.out; omega⟩, ⟨by (with_reducible repeat (first | apply Kd.R_alloc | apply Kd.R_drewN | apply Kd.R_drew)); exact HO_3.out⟩, ⟨by repeat (first | (with_reducible first | exact HB.out | apply below_alloc | apply pw_below_drewN | apply below_drew1) | exact HB.out)⟩⟩
              · rw [if_neg c9] at H
                exact absurd H (by simp)
            · rw [if_neg c7] at H
              have c7b0 : decide (x4_2 < 4) = false := decide_eq_false c7
              clear c7
              replace H := Option.bind_eq_some_iff.mp H
              obtain ⟨t154, A210, H⟩ := H
              replace H : (some t154) = some r := H
              have A21 := Aside0.mk A210
              clear A210
              obtain rfl := Option.some.inj H
              go_wp2_with (first | ((first | ((with_reducible refine gate_callee (f := 19) rfl ?_); refine goesL_ (some 40) rfl rfl Try.func19 (by kernel_rfl) rfl #[.int .i64 a0] rfl (by (try simp only [List.map_toArray, List.map_cons, List.map_nil]); first | done | rfl | (simp only [List.length_drop, List.length_take]; rfl)) ?_; (with_reducible refine (triremeref01_Digits.calls k2 a0 t154 _ A21.out).mono ?_); rintro e w22 ⟨rfl, hb⟩; refine ⟨_, rfl, ?_⟩) | (go_at_call 19; (with_reducible refine (triremeref01_Digits.calls k2 a0 t154 _ A21.out).mono ?_); rintro e w22 ⟨rfl, hb⟩)); have n0_ := Aside0.mk (Kd.R_below (by (with_reducible repeat (first | apply Kd.R_alloc | apply Kd.R_drewN | apply Kd.R_drew)); exact HO_3.out) hb); have n1_ := Aside0.mk (below_step (by repeat (first | (with_reducible first | exact HB.out | apply below_alloc | apply pw_below_drewN | apply below_drew1) | exact HB.out)) hb); clear HO_3; clear HB; have HO_3 := n0_; have HB := n1_; clear n0_ n1_; (try clear hb); (try clear hb2); (try clear hk); (try clear hi)))
              go_ret
              exact ⟨by first | rfl | (simp [errW_none, errW_some] <;> rfl) | (simp [*, errW_none, errW_some] <;> rfl), by repeat (first | (with_reducible first | exact HB.out | apply below_alloc | apply pw_below_drewN | apply below_drew1) | exact HB.out)⟩
end Go.Proofs.Ytpmmiabcfnejmaa.H
end
section
namespace Go.Proofs.Ytpmmiabcfnejmaa.H
open Go.RowKit Go.Proofs.YtpmmiabcfnejmaaW.PrintWords Go.Proofs.YtpmmiabcfnejmaaW.PrintLast Go.Proofs.YtpmmiabcfnejmaaW.PrintMore
attribute [local go_sem] max2_int min2_int max_two min_two max_three min_three max_four min_four   -- for this text's walks alone
set_option linter.unusedVariables false
set_option linter.unusedSimpArgs false
def triremeref03_ShowMilli.j0 : Nat → Int → Bool → Option (ByteArray)
  | 0, _, _ => none
  | k + 1, x0, x8 => if x8 = true then (some (⟨#[]⟩ : ByteArray)) else (if (Int.tmod x0 1000) = 0 then ((triremeref01_Digits.f k (wrap64 (Int.tdiv x0 1000))).bind fun t155 => (some t155)) else ((triremeref01_Digits.f k x0).bind fun t156 => (if t156.size + 1 ≤ 9223372036854775807 then (some (t156 ++ (⟨#[109]⟩ : ByteArray))) else (none))))
def triremeref03_ShowMilli.f (k : Nat) (a0 : Int) : Option (ByteArray) := if a0 < 0 then (triremeref03_ShowMilli.j0 k a0 true) else (triremeref03_ShowMilli.j0 k a0 (decide (a0 > 1125899906842624)))
theorem triremeref03_ShowMilli.mono_l : ∀ k, (∀ y0 y1, LeO (triremeref03_ShowMilli.j0 k y0 y1) (triremeref03_ShowMilli.j0 (k + 1) y0 y1))
  | 0 => fun _ _ r h => by simp [triremeref03_ShowMilli.j0] at h
  | k + 1 => by
    have ih0 := triremeref03_ShowMilli.mono_l k
    · intro y0 y1
      unfold triremeref03_ShowMilli.j0
      repeat' first
      | (with_reducible exact ih0 _ _)
      | (with_reducible exact triremeref01_Digits.mono _ _)
      | (with_reducible exact LeO.refl _)
      | (with_reducible exact LeO.none _)
      | (with_reducible refine LeO.ite ?_ ?_)
      | (with_reducible refine LeO.bind ?_ (fun _ => ?_))
      | exact ih0 _ _
      | exact triremeref01_Digits.mono _ _
      | exact LeO.none _
      | refine LeO.ite ?_ ?_
      | refine LeO.bind ?_ (fun _ => ?_)
theorem triremeref03_ShowMilli.mono : ∀ a0 k, LeO (triremeref03_ShowMilli.f k a0) (triremeref03_ShowMilli.f (k + 1) a0) := by
  intro a0 k
  have ih0 := triremeref03_ShowMilli.mono_l k
  unfold triremeref03_ShowMilli.f
  repeat' first
      | (with_reducible exact ih0 _ _)
      | (with_reducible exact triremeref01_Digits.mono _ _)
      | (with_reducible exact LeO.refl _)
      | (with_reducible exact LeO.none _)
      | (with_reducible refine LeO.ite ?_ ?_)
      | (with_reducible refine LeO.bind ?_ (fun _ => ?_))
      | exact ih0 _ _
      | exact triremeref01_Digits.mono _ _
      | exact LeO.none _
      | refine LeO.ite ?_ ?_
      | refine LeO.bind ?_ (fun _ => ?_)
set_option maxHeartbeats 8000000 in
set_option maxRecDepth 100000 in
theorem triremeref03_ShowMilli.calls (k : Nat) (a0 : Int) (r : ByteArray) (w : World) (h : triremeref03_ShowMilli.f k a0 = some r) :
    Calls Try.prog 18 #[.int .i64 a0] w fun e w' => e = .returned (.string r) ∧ Below w.heap.size w w' := by
  have HB := Aside0.mk (Below.refl w.heap.size w)
  have H : (if a0 < 0 then (triremeref03_ShowMilli.j0 k a0 true) else (triremeref03_ShowMilli.j0 k a0 (decide (a0 > 1125899906842624)))) = some r := h
  clear h
  have HC2 := Aside0.mk H
  clear H
  go_enter Try.func18, Try.ntmps18
  go_upto_region 1 with (fail)
  go_cut [8] (fun v8 wc => ∃ (kq : Nat) (x8_1 : Bool), v8 = .bool x8_1 ∧ Aside0 (triremeref03_ShowMilli.j0 kq a0 x8_1 = some r) ∧ Aside0 (kq ≤ k) ∧ Aside0 (Below w.heap.size w wc))
  case first =>
    have H := HC2.out
    clear HC2
    by_cases c3 : a0 < 0
    · rw [if_pos c3] at H
      have c3b0 : decide (a0 < 0) = true := decide_eq_true c3
      clear c3
      (first | rw [c3b0] | (simp only [i64_w, i32_w]; rw [c3b0]) | skip)
      have H' := Aside0.mk H
      clear H
      go_wp2
      go_meet
      case rel => exact ⟨_, (true), (by first | rfl | (simp; done) | (simp [*]; done)), H', ⟨by first | omega | exact Nat.le_refl _⟩, ⟨by repeat (first | (with_reducible first | exact HB.out | apply below_alloc | apply pw_below_drewN | apply below_drew1) | exact HB.out)⟩⟩
    · rw [if_neg c3] at H
      have c3b0 : decide (a0 < 0) = false := decide_eq_false c3
      clear c3
      (first | rw [c3b0] | (simp only [i64_w, i32_w]; rw [c3b0]) | skip)
      have H' := Aside0.mk H
      clear H
      go_wp2
      go_meet
      case rel => exact ⟨_, (decide (a0 > 1125899906842624)), (by first | rfl | (simp; done) | (simp [*]; done)), H', ⟨by first | omega | exact Nat.le_refl _⟩, ⟨by repeat (first | (with_reducible first | exact HB.out | apply below_alloc | apply pw_below_drewN | apply below_drew1) | exact HB.out)⟩⟩
  case rest =>
    clear HC2
    try clear c1
    try clear p2
    try clear c3
    try clear c3b0
    obtain ⟨kq, x8_1, rfl, HA, HJ1, HB⟩ := hcut
    cases kq with
    | zero => exact absurd HA.out (by simp [triremeref03_ShowMilli.j0])
    | succ kj1 =>
      have H := HA.out
      clear HA
      simp only [triremeref03_ShowMilli.j0] at H
      by_cases c4 : x8_1 = true
      · subst c4
        have H1 : (some (⟨#[]⟩ : ByteArray)) = some r := by rw [if_pos rfl] at H; exact H
        clear H
        have H := H1
        clear H1
        obtain rfl := Option.some.inj H
        go_wp2
        go_ret
        exact ⟨by first | rfl | (simp [errW_none, errW_some] <;> rfl) | (simp [*, errW_none, errW_some] <;> rfl), by repeat (first | (with_reducible first | exact HB.out | apply below_alloc | apply pw_below_drewN | apply below_drew1) | exact HB.out)⟩
      · replace c4 := Bool.eq_false_iff.mpr c4
        subst c4
        have H1 : (if (Int.tmod a0 1000) = 0 then ((triremeref01_Digits.f kj1 (wrap64 (Int.tdiv a0 1000))).bind fun t155 => (some t155)) else ((triremeref01_Digits.f kj1 a0).bind fun t156 => (if t156.size + 1 ≤ 9223372036854775807 then (some (t156 ++ (⟨#[109]⟩ : ByteArray))) else (none)))) = some r := by rw [if_neg (show ¬ (false = true) by decide)] at H; exact H
        clear H
        have H := H1
        clear H1
        by_cases c5 : (Int.tmod a0 1000) = 0
        · rw [if_pos c5] at H
          have c5b0 : ((Int.tmod a0 1000) == 0) = true := beq_iff_eq.mpr c5
          have c5b1 : ((Int.tmod a0 1000) != 0) = false := bne_eq_false_iff_eq.mpr c5
          clear c5
          replace H := Option.bind_eq_some_iff.mp H
          obtain ⟨t155, A60, H⟩ := H
          replace H : (some t155) = some r := H
          have A6 := Aside0.mk A60
          clear A60
          obtain rfl := Option.some.inj H
          go_wp2_with (first | ((first | ((with_reducible refine gate_callee (f := 19) rfl ?_); refine goesL_ (some 14) rfl rfl Try.func19 (by kernel_rfl) rfl #[.int .i64 (wrap64 (Int.tdiv a0 1000))] rfl (by (try simp only [List.map_toArray, List.map_cons, List.map_nil]); first | done | rfl | (simp only [List.length_drop, List.length_take]; rfl)) ?_; (with_reducible refine (triremeref01_Digits.calls kj1 (wrap64 (Int.tdiv a0 1000)) t155 _ A6.out).mono ?_); rintro e w7 ⟨rfl, hb⟩; refine ⟨_, rfl, ?_⟩) | (go_at_call 19; (with_reducible refine (triremeref01_Digits.calls kj1 (wrap64 (Int.tdiv a0 1000)) t155 _ A6.out).mono ?_); rintro e w7 ⟨rfl, hb⟩)); have n0_ := Aside0.mk (below_step (by repeat (first | (with_reducible first | exact HB.out | apply below_alloc | apply pw_below_drewN | apply below_drew1) | exact HB.out)) hb); clear HB; have HB := n0_; clear n0_; (try clear hb); (try clear hb2); (try clear hk); (try clear hi)))
          go_ret
          exact ⟨by first | rfl | (simp [errW_none, errW_some] <;> rfl) | (simp [*, errW_none, errW_some] <;> rfl), by repeat (first | (with_reducible first | exact HB.out | apply below_alloc | apply pw_below_drewN | apply below_drew1) | exact HB.out)⟩
        · rw [if_neg c5] at H
          have c5b0 : ((Int.tmod a0 1000) == 0) = false := beq_eq_false_iff_ne.mpr c5
          have c5b1 : ((Int.tmod a0 1000) != 0) = true := bne_iff_ne.mpr c5
          replace H := Option.bind_eq_some_iff.mp H
          obtain ⟨t156, A80, H⟩ := H
          replace H : (if t156.size + 1 ≤ 9223372036854775807 then (some (t156 ++ (⟨#[109]⟩ : ByteArray))) else (none)) = some r := H
          have A8 := Aside0.mk A80
          clear A80
          by_cases c9 : t156.size + 1 ≤ 9223372036854775807
          · rw [if_pos c9] at H
            have c9b0 := eq_true c9
            (try (have c9z := c9b0; rw [ByteArray.size_extract, Nat.min_self] at c9z))
            have c9b1 : decide (t156.size + 1 ≤ 9223372036854775807) = true := decide_eq_true c9
            try have c9b2 : (9223372036854775807 < t156.size + 1) = False := eq_false (Nat.not_lt.2 c9)
            obtain rfl := Option.some.inj H
            go_wp2_with (first | ((first | ((with_reducible refine gate_callee (f := 19) rfl ?_); refine goesL_ (some 16) rfl rfl Try.func19 (by kernel_rfl) rfl #[.int .i64 a0] rfl (by (try simp only [List.map_toArray, List.map_cons, List.map_nil]); first | done | rfl | (simp only [List.length_drop, List.length_take]; rfl)) ?_; (with_reducible refine (triremeref01_Digits.calls kj1 a0 t156 _ A8.out).mono ?_); rintro e w10 ⟨rfl, hb⟩; refine ⟨_, rfl, ?_⟩) | (go_at_call 19; (with_reducible refine (triremeref01_Digits.calls kj1 a0 t156 _ A8.out).mono ?_); rintro e w10 ⟨rfl, hb⟩)); have n0_ := Aside0.mk (below_step (by repeat (first | (with_reducible first | exact HB.out | apply below_alloc | apply pw_below_drewN | apply below_drew1) | exact HB.out)) hb); clear HB; have HB := n0_; clear n0_; (try clear hb); (try clear hb2); (try clear hk); (try clear hi)))
            go_ret
            exact ⟨by first | rfl | (simp [errW_none, errW_some] <;> rfl) | (simp [*, errW_none, errW_some] <;> rfl), by repeat (first | (with_reducible first | exact HB.out | apply below_alloc | apply pw_below_drewN | apply below_drew1) | exact HB.out)⟩
          · rw [if_neg c9] at H
            exact absurd H (by simp)
end Go.Proofs.Ytpmmiabcfnejmaa.H
end
section
namespace Go.Proofs.Ytpmmiabcfnejmaa.H
open Go.RowKit Go.Proofs.YtpmmiabcfnejmaaW.PrintWords Go.Proofs.YtpmmiabcfnejmaaW.PrintLast Go.Proofs.YtpmmiabcfnejmaaW.PrintMore
attribute [local go_sem] max2_int min2_int max_two min_two max_three min_three max_four min_four   -- for this text's walks alone
set_option linter.unusedVariables false
set_option linter.unusedSimpArgs false
def triremelaw03_QuantShows.f (k : Nat) (a0 : Int) : Option (Bool) := (quant_Show.f a0).bind fun t157 => ((triremeref03_Show.f k a0).bind fun t158 => (if t157.toList = t158.toList then ((quant_ShowMilli.f k a0).bind fun t159 => ((triremeref03_ShowMilli.f k a0).bind fun t160 => (if t159.toList = t160.toList then ((triremelaw03_known.f k).bind fun t161 => (some t161)) else (some false)))) else (some false)))
theorem triremelaw03_QuantShows.mono : ∀ a0 k, LeO (triremelaw03_QuantShows.f k a0) (triremelaw03_QuantShows.f (k + 1) a0) := by
  intro a0 k
  unfold triremelaw03_QuantShows.f
  repeat' first
      | (with_reducible exact quant_ShowMilli.mono _ _)
      | (with_reducible exact triremelaw03_known.mono _)
      | (with_reducible exact triremeref03_Show.mono _ _)
      | (with_reducible exact triremeref03_ShowMilli.mono _ _)
      | (with_reducible exact LeO.refl _)
      | (with_reducible exact LeO.none _)
      | (with_reducible refine LeO.ite ?_ ?_)
      | (with_reducible refine LeO.bind ?_ (fun _ => ?_))
      | exact quant_ShowMilli.mono _ _
      | exact triremelaw03_known.mono _
      | exact triremeref03_Show.mono _ _
      | exact triremeref03_ShowMilli.mono _ _
      | exact LeO.none _
      | refine LeO.ite ?_ ?_
      | refine LeO.bind ?_ (fun _ => ?_)
set_option maxHeartbeats 8000000 in
set_option maxRecDepth 100000 in
theorem triremelaw03_QuantShows.calls (k : Nat) (a0 : Int) (r : Bool) (w : World) (h : triremelaw03_QuantShows.f k a0 = some r) :
    Calls Try.prog 4 #[.int .i64 a0] w fun e w' => e = .returned (.bool r) ∧ Below w.heap.size w w' := by
  have HB := Aside0.mk (Below.refl w.heap.size w)
  have H : ((quant_Show.f a0).bind fun t157 => ((triremeref03_Show.f k a0).bind fun t158 => (if t157.toList = t158.toList then ((quant_ShowMilli.f k a0).bind fun t159 => ((triremeref03_ShowMilli.f k a0).bind fun t160 => (if t159.toList = t160.toList then ((triremelaw03_known.f k).bind fun t161 => (some t161)) else (some false)))) else (some false)))) = some r := h
  clear h
  replace H := Option.bind_eq_some_iff.mp H
  obtain ⟨t157, A20, H⟩ := H
  replace H : ((triremeref03_Show.f k a0).bind fun t158 => (if t157.toList = t158.toList then ((quant_ShowMilli.f k a0).bind fun t159 => ((triremeref03_ShowMilli.f k a0).bind fun t160 => (if t159.toList = t160.toList then ((triremelaw03_known.f k).bind fun t161 => (some t161)) else (some false)))) else (some false))) = some r := H
  have A2 := Aside0.mk A20
  clear A20
  replace H := Option.bind_eq_some_iff.mp H
  obtain ⟨t158, A30, H⟩ := H
  replace H : (if t157.toList = t158.toList then ((quant_ShowMilli.f k a0).bind fun t159 => ((triremeref03_ShowMilli.f k a0).bind fun t160 => (if t159.toList = t160.toList then ((triremelaw03_known.f k).bind fun t161 => (some t161)) else (some false)))) else (some false)) = some r := H
  have A3 := Aside0.mk A30
  clear A30
  by_cases c4 : t157.toList = t158.toList
  · rw [if_pos c4] at H
    have c4b0 : (t157.toList == t158.toList) = true := beq_iff_eq.mpr c4
    have c4b1 : (t157.toList != t158.toList) = false := bne_eq_false_iff_eq.mpr c4
    clear c4
    replace H := Option.bind_eq_some_iff.mp H
    obtain ⟨t159, A50, H⟩ := H
    replace H : ((triremeref03_ShowMilli.f k a0).bind fun t160 => (if t159.toList = t160.toList then ((triremelaw03_known.f k).bind fun t161 => (some t161)) else (some false))) = some r := H
    have A5 := Aside0.mk A50
    clear A50
    replace H := Option.bind_eq_some_iff.mp H
    obtain ⟨t160, A60, H⟩ := H
    replace H : (if t159.toList = t160.toList then ((triremelaw03_known.f k).bind fun t161 => (some t161)) else (some false)) = some r := H
    have A6 := Aside0.mk A60
    clear A60
    by_cases c7 : t159.toList = t160.toList
    · rw [if_pos c7] at H
      have c7b0 : (t159.toList == t160.toList) = true := beq_iff_eq.mpr c7
      have c7b1 : (t159.toList != t160.toList) = false := bne_eq_false_iff_eq.mpr c7
      clear c7
      replace H := Option.bind_eq_some_iff.mp H
      obtain ⟨t161, A80, H⟩ := H
      replace H : (some t161) = some r := H
      have A8 := Aside0.mk A80
      clear A80
      obtain rfl := Option.some.inj H
      go_enter Try.func4, Try.ntmps4
      go_wp2_with (first | ((first | ((with_reducible refine gate_callee (f := 15) rfl ?_); refine goesL_ (some 4) rfl rfl Try.func15 (by kernel_rfl) rfl #[.int .i64 a0] rfl (by (try simp only [List.map_toArray, List.map_cons, List.map_nil]); first | done | rfl | (simp only [List.length_drop, List.length_take]; rfl)) ?_; (with_reducible refine (quant_Show.calls a0 t157 _ A2.out).mono ?_); rintro e w9 ⟨rfl, hb⟩; refine ⟨_, rfl, ?_⟩) | (go_at_call 15; (with_reducible refine (quant_Show.calls a0 t157 _ A2.out).mono ?_); rintro e w9 ⟨rfl, hb⟩)); have n0_ := Aside0.mk (below_step (by repeat (first | (with_reducible first | exact HB.out | apply below_alloc | apply pw_below_drewN | apply below_drew1) | exact HB.out)) hb); clear HB; have HB := n0_; clear n0_; (try clear hb); (try clear hb2); (try clear hk); (try clear hi)) | ((first | ((with_reducible refine gate_callee (f := 16) rfl ?_); refine goesL_ (some 6) rfl rfl Try.func16 (by kernel_rfl) rfl #[.int .i64 a0] rfl (by (try simp only [List.map_toArray, List.map_cons, List.map_nil]); first | done | rfl | (simp only [List.length_drop, List.length_take]; rfl)) ?_; (with_reducible refine (triremeref03_Show.calls k a0 t158 _ A3.out).mono ?_); rintro e w10 ⟨rfl, hb⟩; refine ⟨_, rfl, ?_⟩) | (go_at_call 16; (with_reducible refine (triremeref03_Show.calls k a0 t158 _ A3.out).mono ?_); rintro e w10 ⟨rfl, hb⟩)); have n0_ := Aside0.mk (below_step (by repeat (first | (with_reducible first | exact HB.out | apply below_alloc | apply pw_below_drewN | apply below_drew1) | exact HB.out)) hb); clear HB; have HB := n0_; clear n0_; (try clear hb); (try clear hb2); (try clear hk); (try clear hi)) | (go_at_call 17; (with_reducible refine (quant_ShowMilli.calls k a0 t159 _ A5.out).mono ?_); rintro e w11 ⟨rfl, hb⟩; have n0_ := Aside0.mk (below_step (by repeat (first | (with_reducible first | exact HB.out | apply below_alloc | apply pw_below_drewN | apply below_drew1) | exact HB.out)) hb); clear HB; have HB := n0_; clear n0_; (try clear hb); (try clear hb2); (try clear hk); (try clear hi)) | (go_at_call 18; (with_reducible refine (triremeref03_ShowMilli.calls k a0 t160 _ A6.out).mono ?_); rintro e w12 ⟨rfl, hb⟩; have n0_ := Aside0.mk (below_step (by repeat (first | (with_reducible first | exact HB.out | apply below_alloc | apply pw_below_drewN | apply below_drew1) | exact HB.out)) hb); clear HB; have HB := n0_; clear n0_; (try clear hb); (try clear hb2); (try clear hk); (try clear hi)) | (go_at_call 8; (with_reducible refine (triremelaw03_known.calls k  t161 _ A8.out).mono ?_); rintro e w13 ⟨rfl, hb⟩; have n0_ := Aside0.mk (below_step (by repeat (first | (with_reducible first | exact HB.out | apply below_alloc | apply pw_below_drewN | apply below_drew1) | exact HB.out)) hb); clear HB; have HB := n0_; clear n0_; (try clear hb); (try clear hb2); (try clear hk); (try clear hi)))
      go_ret
      exact ⟨by first | rfl | (simp [errW_none, errW_some] <;> rfl) | (simp [*, errW_none, errW_some] <;> rfl), by repeat (first | (with_reducible first | exact HB.out | apply below_alloc | apply pw_below_drewN | apply below_drew1) | exact HB.out)⟩
    · rw [if_neg c7] at H
      have c7b0 : (t159.toList == t160.toList) = false := beq_eq_false_iff_ne.mpr c7
      have c7b1 : (t159.toList != t160.toList) = true := bne_iff_ne.mpr c7
      obtain rfl := Option.some.inj H
      go_enter Try.func4, Try.ntmps4
      go_wp2_with (first | ((first | ((with_reducible refine gate_callee (f := 15) rfl ?_); refine goesL_ (some 4) rfl rfl Try.func15 (by kernel_rfl) rfl #[.int .i64 a0] rfl (by (try simp only [List.map_toArray, List.map_cons, List.map_nil]); first | done | rfl | (simp only [List.length_drop, List.length_take]; rfl)) ?_; (with_reducible refine (quant_Show.calls a0 t157 _ A2.out).mono ?_); rintro e w14 ⟨rfl, hb⟩; refine ⟨_, rfl, ?_⟩) | (go_at_call 15; (with_reducible refine (quant_Show.calls a0 t157 _ A2.out).mono ?_); rintro e w14 ⟨rfl, hb⟩)); have n0_ := Aside0.mk (below_step (by repeat (first | (with_reducible first | exact HB.out | apply below_alloc | apply pw_below_drewN | apply below_drew1) | exact HB.out)) hb); clear HB; have HB := n0_; clear n0_; (try clear hb); (try clear hb2); (try clear hk); (try clear hi)) | ((first | ((with_reducible refine gate_callee (f := 16) rfl ?_); refine goesL_ (some 6) rfl rfl Try.func16 (by kernel_rfl) rfl #[.int .i64 a0] rfl (by (try simp only [List.map_toArray, List.map_cons, List.map_nil]); first | done | rfl | (simp only [List.length_drop, List.length_take]; rfl)) ?_; (with_reducible refine (triremeref03_Show.calls k a0 t158 _ A3.out).mono ?_); rintro e w15 ⟨rfl, hb⟩; refine ⟨_, rfl, ?_⟩) | (go_at_call 16; (with_reducible refine (triremeref03_Show.calls k a0 t158 _ A3.out).mono ?_); rintro e w15 ⟨rfl, hb⟩)); have n0_ := Aside0.mk (below_step (by repeat (first | (with_reducible first | exact HB.out | apply below_alloc | apply pw_below_drewN | apply below_drew1) | exact HB.out)) hb); clear HB; have HB := n0_; clear n0_; (try clear hb); (try clear hb2); (try clear hk); (try clear hi)) | (go_at_call 17; (with_reducible refine (quant_ShowMilli.calls k a0 t159 _ A5.out).mono ?_); rintro e w16 ⟨rfl, hb⟩; have n0_ := Aside0.mk (below_step (by repeat (first | (with_reducible first | exact HB.out | apply below_alloc | apply pw_below_drewN | apply below_drew1) | exact HB.out)) hb); clear HB; have HB := n0_; clear n0_; (try clear hb); (try clear hb2); (try clear hk); (try clear hi)) | (go_at_call 18; (with_reducible refine (triremeref03_ShowMilli.calls k a0 t160 _ A6.out).mono ?_); rintro e w17 ⟨rfl, hb⟩; have n0_ := Aside0.mk (below_step (by repeat (first | (with_reducible first | exact HB.out | apply below_alloc | apply pw_below_drewN | apply below_drew1) | exact HB.out)) hb); clear HB; have HB := n0_; clear n0_; (try clear hb); (try clear hb2); (try clear hk); (try clear hi)))
      go_ret
      exact ⟨by first | rfl | (simp [errW_none, errW_some] <;> rfl) | (simp [*, errW_none, errW_some] <;> rfl), by repeat (first | (with_reducible first | exact HB.out | apply below_alloc | apply pw_below_drewN | apply below_drew1) | exact HB.out)⟩
  · rw [if_neg c4] at H
    have c4b0 : (t157.toList == t158.toList) = false := beq_eq_false_iff_ne.mpr c4
    have c4b1 : (t157.toList != t158.toList) = true := bne_iff_ne.mpr c4
    obtain rfl := Option.some.inj H
    go_enter Try.func4, Try.ntmps4
    go_wp2_with (first | ((first | ((with_reducible refine gate_callee (f := 15) rfl ?_); refine goesL_ (some 4) rfl rfl Try.func15 (by kernel_rfl) rfl #[.int .i64 a0] rfl (by (try simp only [List.map_toArray, List.map_cons, List.map_nil]); first | done | rfl | (simp only [List.length_drop, List.length_take]; rfl)) ?_; (with_reducible refine (quant_Show.calls a0 t157 _ A2.out).mono ?_); rintro e w18 ⟨rfl, hb⟩; refine ⟨_, rfl, ?_⟩) | (go_at_call 15; (with_reducible refine (quant_Show.calls a0 t157 _ A2.out).mono ?_); rintro e w18 ⟨rfl, hb⟩)); have n0_ := Aside0.mk (below_step (by repeat (first | (with_reducible first | exact HB.out | apply below_alloc | apply pw_below_drewN | apply below_drew1) | exact HB.out)) hb); clear HB; have HB := n0_; clear n0_; (try clear hb); (try clear hb2); (try clear hk); (try clear hi)) | ((first | ((with_reducible refine gate_callee (f := 16) rfl ?_); refine goesL_ (some 6) rfl rfl Try.func16 (by kernel_rfl) rfl #[.int .i64 a0] rfl (by (try simp only [List.map_toArray, List.map_cons, List.map_nil]); first | done | rfl | (simp only [List.length_drop, List.length_take]; rfl)) ?_; (with_reducible refine (triremeref03_Show.calls k a0 t158 _ A3.out).mono ?_); rintro e w19 ⟨rfl, hb⟩; refine ⟨_, rfl, ?_⟩) | (go_at_call 16; (with_reducible refine (triremeref03_Show.calls k a0 t158 _ A3.out).mono ?_); rintro e w19 ⟨rfl, hb⟩)); have n0_ := Aside0.mk (below_step (by repeat (first | (with_reducible first | exact HB.out | apply below_alloc | apply pw_below_drewN | apply below_drew1) | exact HB.out)) hb); clear HB; have HB := n0_; clear n0_; (try clear hb); (try clear hb2); (try clear hk); (try clear hi)))
    go_ret
    exact ⟨by first | rfl | (simp [errW_none, errW_some] <;> rfl) | (simp [*, errW_none, errW_some] <;> rfl), by repeat (first | (with_reducible first | exact HB.out | apply below_alloc | apply pw_below_drewN | apply below_drew1) | exact HB.out)⟩
/-- THE ONE PURE STATEMENT of triremelaw03_QuantShows: yours. -/
def triremelaw03_QuantShows.Pure : Prop := ∀ (a0 : Int), (Lit.int .i64 a0).wf = true → ∃ k, triremelaw03_QuantShows.f k a0 = some true
theorem triremelaw03_QuantShows.walk (P : triremelaw03_QuantShows.Pure) (a0 : Int) (w : World) (w0 : (Lit.int .i64 a0).wf = true) :
    Calls Try.prog 4 #[.int .i64 a0] w fun e w' => e = .returned (.bool true) ∧ Below w.heap.size w w' := by
  obtain ⟨k, h⟩ := P a0 w0
  refine (triremelaw03_QuantShows.calls k a0 true w h).mono ?_
  rintro e w' ⟨rfl, hd⟩
  exact ⟨rfl, hd⟩
end Go.Proofs.Ytpmmiabcfnejmaa.H
end
section
namespace Go.Proofs.Ytpmmiabcfnejmaa.H
open Go.RowKit Go.Proofs.YtpmmiabcfnejmaaW.PrintWords Go.Proofs.YtpmmiabcfnejmaaW.PrintLast Go.Proofs.YtpmmiabcfnejmaaW.PrintMore
attribute [local go_sem] max2_int min2_int max_two min_two max_three min_three max_four min_four   -- for this text's walks alone
set_option linter.unusedVariables false
set_option linter.unusedSimpArgs false
def triremeref03_digit.f (a0 : Int) : Option (Bool) := if a0 ≥ 48 then (some (decide (a0 ≤ 57))) else (some false)
set_option maxHeartbeats 8000000 in
set_option maxRecDepth 100000 in
theorem triremeref03_digit.calls (a0 : Int) (r : Bool) (w : World) (h : triremeref03_digit.f a0 = some r) :
    Calls Try.prog 34 #[.int .u8 a0] w fun e w' => e = .returned (.bool r) ∧ Drawn0 w w' := by
  have H : (if a0 ≥ 48 then (some (decide (a0 ≤ 57))) else (some false)) = some r := h
  clear h
  by_cases c2 : a0 ≥ 48
  · rw [if_pos c2] at H
    have c2b0 : decide (48 ≤ a0) = true := decide_eq_true c2
    clear c2
    obtain rfl := Option.some.inj H
    go_enter Try.func34, Try.ntmps34
    go_wp2
    go_ret
    exact ⟨by first | rfl | (simp; done) | (simp [*]; done), by repeat (first | exact Drawn0.refl _ | apply Drawn0.step)⟩
  · rw [if_neg c2] at H
    have c2b0 : decide (48 ≤ a0) = false := decide_eq_false c2
    clear c2
    obtain rfl := Option.some.inj H
    go_enter Try.func34, Try.ntmps34
    go_wp2
    go_ret
    exact ⟨by first | rfl | (simp; done) | (simp [*]; done), by repeat (first | exact Drawn0.refl _ | apply Drawn0.step)⟩
end Go.Proofs.Ytpmmiabcfnejmaa.H
end
section
namespace Go.Proofs.Ytpmmiabcfnejmaa.H
open Go.RowKit Go.Proofs.YtpmmiabcfnejmaaW.PrintWords Go.Proofs.YtpmmiabcfnejmaaW.PrintLast Go.Proofs.YtpmmiabcfnejmaaW.PrintMore
attribute [local go_sem] max2_int min2_int max_two min_two max_three min_three max_four min_four   -- for this text's walks alone
set_option linter.unusedVariables false
set_option linter.unusedSimpArgs false
def triremeref03_digits.l0 : Nat → ByteArray → Int → Option (Int)
  | 0, _, _ => none
  | k + 1, x0, x3 => if x3 < (x0.size : Int) then (if 0 ≤ x3 then ((triremeref03_digit.f (bt x0 x3)).bind fun t162 => (if t162 = true then (triremeref03_digits.l0 k x0 (wrap64 (x3 + 1))) else (some x3))) else (none)) else (some x3)
def triremeref03_digits.f (k : Nat) (a0 : ByteArray) : Option (Int) := triremeref03_digits.l0 k a0 0
theorem triremeref03_digits.mono_l : ∀ k, (∀ y0 y1, LeO (triremeref03_digits.l0 k y0 y1) (triremeref03_digits.l0 (k + 1) y0 y1))
  | 0 => fun _ _ r h => by simp [triremeref03_digits.l0] at h
  | k + 1 => by
    have ih0 := triremeref03_digits.mono_l k
    · intro y0 y1
      unfold triremeref03_digits.l0
      repeat' first
      | (with_reducible exact ih0 _ _)
      | (with_reducible exact LeO.refl _)
      | (with_reducible exact LeO.none _)
      | (with_reducible refine LeO.ite ?_ ?_)
      | (with_reducible refine LeO.bind ?_ (fun _ => ?_))
      | exact ih0 _ _
      | exact LeO.none _
      | refine LeO.ite ?_ ?_
      | refine LeO.bind ?_ (fun _ => ?_)
theorem triremeref03_digits.mono : ∀ a0 k, LeO (triremeref03_digits.f k a0) (triremeref03_digits.f (k + 1) a0) := by
  intro a0 k
  have ih0 := triremeref03_digits.mono_l k
  unfold triremeref03_digits.f
  repeat' first
      | (with_reducible exact ih0 _ _)
      | (with_reducible exact LeO.refl _)
      | (with_reducible exact LeO.none _)
      | (with_reducible refine LeO.ite ?_ ?_)
      | (with_reducible refine LeO.bind ?_ (fun _ => ?_))
      | exact ih0 _ _
      | exact LeO.none _
      | refine LeO.ite ?_ ?_
      | refine LeO.bind ?_ (fun _ => ?_)
set_option maxHeartbeats 8000000 in
set_option maxRecDepth 100000 in
theorem triremeref03_digits.calls (k : Nat) (a0 : ByteArray) (r : Int) (w : World) (h : triremeref03_digits.f k a0 = some r) :
    Calls Try.prog 24 #[.string a0] w fun e w' => e = .returned (.int .i64 r) ∧ Drawn0 w w' := by
  have H : (triremeref03_digits.l0 k a0 0) = some r := h
  clear h
  have H' := Aside0.mk H
  clear H
  go_enter Try.func24, Try.ntmps24
  go_wp2
  go_loopg [3] k (fun kq v3 w' => ∃ (x3_1 : Int), v3 = .int .i64 x3_1 ∧ Aside0 (triremeref03_digits.l0 kq a0 x3_1 = some r) ∧ Aside0 (kq ≤ k) ∧ Drawn0 w w')
  case atStart => exact ⟨(0), (by first | rfl | (simp; done) | (simp [*]; done)), H', ⟨Nat.le_refl _⟩, by repeat (first | exact Drawn0.refl _ | apply Drawn0.step)⟩
  case round =>
    clear H'
    obtain ⟨x3_1, rfl, HA, HK1, ⟨m1, rfl⟩⟩ := hrel
    cases gk with
    | zero => exact absurd HA.out (by simp [triremeref03_digits.l0])
    | succ k1 =>
      have H := HA.out
      clear HA
      simp only [triremeref03_digits.l0] at H
      by_cases c2 : x3_1 < (a0.size : Int)
      · rw [if_pos c2] at H
        have c2b0 : decide (x3_1 < (a0.size : Int)) = true := decide_eq_true c2
        clear c2
        by_cases c3 : 0 ≤ x3_1
        · rw [if_pos c3] at H
          have c3b0 : decide (0 ≤ x3_1) = true := decide_eq_true c3
          clear c3
          replace H := Option.bind_eq_some_iff.mp H
          obtain ⟨t162, A50, H⟩ := H
          replace H : (if t162 = true then (triremeref03_digits.l0 k1 a0 (wrap64 (x3_1 + 1))) else (some x3_1)) = some r := H
          have A5 := Aside0.mk A50
          clear A50
          by_cases c6 : t162 = true
          · subst c6
            have H1 : (triremeref03_digits.l0 k1 a0 (wrap64 (x3_1 + 1))) = some r := by rw [if_pos rfl] at H; exact H
            clear H
            have H := H1
            clear H1
            have H' := Aside0.mk H
            clear H
            have p4 : 0 ≤ (x3_1 : Int) := of_decide_eq_true (by first | (with_reducible assumption) | assumption)
            have q4 : x3_1 < (a0.size : Int) := of_decide_eq_true (by first | (with_reducible assumption) | assumption)
            have hx4 := bt_at a0 x3_1
            replace p4 := eq_true p4
            replace q4 := eq_true q4
            (try (have qz4 := q4; rw [ByteArray.size_extract, Nat.min_self] at qz4))
            go_wp2_with (first | (go_at_call 34; (with_reducible refine (triremeref03_digit.calls (bt a0 x3_1) true _ A5.out).mono ?_); rintro e w' ⟨rfl, ⟨nd, rfl⟩⟩))
            go_roundg k1
            case measure => have := HK1.out; omega
            case rel => exact ⟨(wrap64 (x3_1 + 1)), (by first | rfl | (simp; done) | (simp [*]; done)), H', ⟨by have := HK1.out; omega⟩, by repeat (first | exact Drawn0.refl _ | apply Drawn0.step)⟩
          · replace c6 := Bool.eq_false_iff.mpr c6
            subst c6
            have H1 : (some x3_1) = some r := by rw [if_neg (show ¬ (false = true) by decide)] at H; exact H
            clear H
            have H := H1
            clear H1
            obtain rfl := Option.some.inj H
            have p4 : 0 ≤ (x3_1 : Int) := of_decide_eq_true (by first | (with_reducible assumption) | assumption)
            have q4 : x3_1 < (a0.size : Int) := of_decide_eq_true (by first | (with_reducible assumption) | assumption)
            have hx4 := bt_at a0 x3_1
            replace p4 := eq_true p4
            replace q4 := eq_true q4
            (try (have qz4 := q4; rw [ByteArray.size_extract, Nat.min_self] at qz4))
            go_wp2_with (first | (go_at_call 34; (with_reducible refine (triremeref03_digit.calls (bt a0 x3_1) false _ A5.out).mono ?_); rintro e w' ⟨rfl, ⟨nd, rfl⟩⟩))
            go_ret
            exact ⟨by first | rfl | (simp; done) | (simp [*]; done), by repeat (first | exact Drawn0.refl _ | apply Drawn0.step)⟩
        · rw [if_neg c3] at H
          exact absurd H (by simp)
      · rw [if_neg c2] at H
        have c2b0 : decide (x3_1 < (a0.size : Int)) = false := decide_eq_false c2
        clear c2
        obtain rfl := Option.some.inj H
        go_wp2
        go_ret
        exact ⟨by first | rfl | (simp; done) | (simp [*]; done), by repeat (first | exact Drawn0.refl _ | apply Drawn0.step)⟩
end Go.Proofs.Ytpmmiabcfnejmaa.H
end
section
namespace Go.Proofs.Ytpmmiabcfnejmaa.H
open Go.RowKit Go.Proofs.YtpmmiabcfnejmaaW.PrintWords Go.Proofs.YtpmmiabcfnejmaaW.PrintLast Go.Proofs.YtpmmiabcfnejmaaW.PrintMore
attribute [local go_sem] max2_int min2_int max_two min_two max_three min_three max_four min_four   -- for this text's walks alone
set_option linter.unusedVariables false
set_option linter.unusedSimpArgs false
def triremeref03_value.l0 : Nat → ByteArray → Int → Int → Option (Int)
  | 0, _, _, _ => none
  | k + 1, x0, x3, x4 => if x4 < (x0.size : Int) then (if 0 ≤ x4 then (triremeref03_value.l0 k x0 (mn (wrap64 ((wrap64 (10 * x3)) + (((bt x0 x4) - 48) % 256))) 1125899906842625) (wrap64 (x4 + 1))) else (none)) else (some x3)
def triremeref03_value.f (k : Nat) (a0 : ByteArray) : Option (Int) := triremeref03_value.l0 k a0 0 0
theorem triremeref03_value.mono_l : ∀ k, (∀ y0 y1 y2, LeO (triremeref03_value.l0 k y0 y1 y2) (triremeref03_value.l0 (k + 1) y0 y1 y2))
  | 0 => fun _ _ _ r h => by simp [triremeref03_value.l0] at h
  | k + 1 => by
    have ih0 := triremeref03_value.mono_l k
    · intro y0 y1 y2
      unfold triremeref03_value.l0
      repeat' first
      | (with_reducible exact ih0 _ _ _)
      | (with_reducible exact LeO.refl _)
      | (with_reducible exact LeO.none _)
      | (with_reducible refine LeO.ite ?_ ?_)
      | (with_reducible refine LeO.bind ?_ (fun _ => ?_))
      | exact ih0 _ _ _
      | exact LeO.none _
      | refine LeO.ite ?_ ?_
      | refine LeO.bind ?_ (fun _ => ?_)
theorem triremeref03_value.mono : ∀ a0 k, LeO (triremeref03_value.f k a0) (triremeref03_value.f (k + 1) a0) := by
  intro a0 k
  have ih0 := triremeref03_value.mono_l k
  unfold triremeref03_value.f
  repeat' first
      | (with_reducible exact ih0 _ _ _)
      | (with_reducible exact LeO.refl _)
      | (with_reducible exact LeO.none _)
      | (with_reducible refine LeO.ite ?_ ?_)
      | (with_reducible refine LeO.bind ?_ (fun _ => ?_))
      | exact ih0 _ _ _
      | exact LeO.none _
      | refine LeO.ite ?_ ?_
      | refine LeO.bind ?_ (fun _ => ?_)
set_option maxHeartbeats 8000000 in
set_option maxRecDepth 100000 in
theorem triremeref03_value.calls (k : Nat) (a0 : ByteArray) (r : Int) (w : World) (h : triremeref03_value.f k a0 = some r) :
    Calls Try.prog 25 #[.string a0] w fun e w' => e = .returned (.int .i64 r) ∧ Below w.heap.size w w' := by
  have HB := Aside0.mk (Below.refl w.heap.size w)
  have H : (triremeref03_value.l0 k a0 0 0) = some r := h
  clear h
  have H' := Aside0.mk H
  clear H
  go_enter Try.func25, Try.ntmps25
  go_wp2
  go_loopg [3, 4] k (fun kq v3 v4 w' => ∃ (x3_1 : Int) (x4_1 : Int), v3 = .int .i64 x3_1 ∧ v4 = .int .i64 x4_1 ∧ Aside0 (triremeref03_value.l0 kq a0 x3_1 x4_1 = some r) ∧ Aside0 (kq ≤ k) ∧ Aside0 (Below w.heap.size w w'))
  case atStart => exact ⟨(0), (0), (by first | rfl | (simp; done) | (simp [*]; done)), (by first | rfl | (simp; done) | (simp [*]; done)), H', ⟨Nat.le_refl _⟩, ⟨by repeat (first | (with_reducible first | exact HB.out | apply below_alloc | apply pw_below_drewN | apply below_drew1) | exact HB.out)⟩⟩
  case round =>
    clear H'
    obtain ⟨x3_1, x4_1, rfl, rfl, HA, HK1, HB⟩ := hrel
    cases gk with
    | zero => exact absurd HA.out (by simp [triremeref03_value.l0])
    | succ k1 =>
      have H := HA.out
      clear HA
      simp only [triremeref03_value.l0] at H
      by_cases c2 : x4_1 < (a0.size : Int)
      · rw [if_pos c2] at H
        have c2b0 : decide (x4_1 < (a0.size : Int)) = true := decide_eq_true c2
        clear c2
        by_cases c3 : 0 ≤ x4_1
        · rw [if_pos c3] at H
          have c3b0 : decide (0 ≤ x4_1) = true := decide_eq_true c3
          clear c3
          obtain ⟨ji5, hji5⟩ : ∃ j_ : Int, (mn (wrap64 ((wrap64 (10 * x3_1)) + (((bt a0 x4_1) - 48) % 256))) 1125899906842625) = j_ := ⟨_, rfl⟩
          replace H : (triremeref03_value.l0 k1 a0 ji5 (wrap64 (x4_1 + 1))) = some r := by first | (rw [hji5] at H; exact H) | (simp only [hji5] at H ⊢; exact H)
          have hji5_ : (if 1125899906842625 < (wrap64 ((wrap64 (10 * x3_1)) + (((bt a0 x4_1) - 48) % 256))) then 1125899906842625 else (wrap64 ((wrap64 (10 * x3_1)) + (((bt a0 x4_1) - 48) % 256)))) = ji5 := hji5
          have H' := Aside0.mk H
          clear H
          have p4 : 0 ≤ (x4_1 : Int) := of_decide_eq_true (by first | (with_reducible assumption) | assumption)
          have q4 : x4_1 < (a0.size : Int) := of_decide_eq_true (by first | (with_reducible assumption) | assumption)
          have hx4 := bt_at a0 x4_1
          replace p4 := eq_true p4
          replace q4 := eq_true q4
          (try (have qz4 := q4; rw [ByteArray.size_extract, Nat.min_self] at qz4))
          go_wp2
          go_roundg k1
          case measure => have := HK1.out; omega
          case rel => exact ⟨(ji5), (wrap64 (x4_1 + 1)), (by first | rfl | (simp; done) | (simp only [← hji5] <;> (first | rfl | simp)) | (simp [*]; done)), (by first | rfl | (simp; done) | (simp [*]; done)), H', ⟨by have := HK1.out; omega⟩, ⟨by repeat (first | (with_reducible first | exact HB.out | apply below_alloc | apply pw_below_drewN | apply below_drew1) | exact HB.out)⟩⟩
        · rw [if_neg c3] at H
          exact absurd H (by simp)
      · rw [if_neg c2] at H
        have c2b0 : decide (x4_1 < (a0.size : Int)) = false := decide_eq_false c2
        clear c2
        obtain rfl := Option.some.inj H
        go_wp2
        go_ret
        exact ⟨by first | rfl | (simp [errW_none, errW_some] <;> rfl) | (simp [*, errW_none, errW_some] <;> rfl), by repeat (first | (with_reducible first | exact HB.out | apply below_alloc | apply pw_below_drewN | apply below_drew1) | exact HB.out)⟩
end Go.Proofs.Ytpmmiabcfnejmaa.H
end
section
namespace Go.Proofs.Ytpmmiabcfnejmaa.H
open Go.RowKit Go.Proofs.YtpmmiabcfnejmaaW.PrintWords Go.Proofs.YtpmmiabcfnejmaaW.PrintLast Go.Proofs.YtpmmiabcfnejmaaW.PrintMore
attribute [local go_sem] max2_int min2_int max_two min_two max_three min_three max_four min_four   -- for this text's walks alone
set_option linter.unusedVariables false
set_option linter.unusedSimpArgs false
def triremeref03_Number.j0 : Nat → ByteArray → Bool → Option (Int × Int)
  | 0, _, _ => none
  | k + 1, x0, x14 => if x14 = true then (some (0, 8)) else ((triremeref03_value.f k x0).bind fun t174 => (if t174 > 1125899906842624 then (some (0, 10)) else (some (t174, 0))))
def triremeref03_Number.f (k : Nat) (a0 : ByteArray) : Option (Int × Int) := if (a0.size : Int) = 0 then (triremeref03_Number.j0 k a0 true) else ((triremeref03_digits.f k a0).bind fun t173 => (triremeref03_Number.j0 k a0 (decide (t173 < (a0.size : Int)))))
theorem triremeref03_Number.mono_l : ∀ k, (∀ y0 y1, LeO (triremeref03_Number.j0 k y0 y1) (triremeref03_Number.j0 (k + 1) y0 y1))
  | 0 => fun _ _ r h => by simp [triremeref03_Number.j0] at h
  | k + 1 => by
    have ih0 := triremeref03_Number.mono_l k
    · intro y0 y1
      unfold triremeref03_Number.j0
      repeat' first
      | (with_reducible exact ih0 _ _)
      | (with_reducible exact triremeref03_digits.mono _ _)
      | (with_reducible exact triremeref03_value.mono _ _)
      | (with_reducible exact LeO.refl _)
      | (with_reducible exact LeO.none _)
      | (with_reducible refine LeO.ite ?_ ?_)
      | (with_reducible refine LeO.bind ?_ (fun _ => ?_))
      | exact ih0 _ _
      | exact triremeref03_digits.mono _ _
      | exact triremeref03_value.mono _ _
      | exact LeO.none _
      | refine LeO.ite ?_ ?_
      | refine LeO.bind ?_ (fun _ => ?_)
theorem triremeref03_Number.mono : ∀ a0 k, LeO (triremeref03_Number.f k a0) (triremeref03_Number.f (k + 1) a0) := by
  intro a0 k
  have ih0 := triremeref03_Number.mono_l k
  unfold triremeref03_Number.f
  repeat' first
      | (with_reducible exact ih0 _ _)
      | (with_reducible exact triremeref03_digits.mono _ _)
      | (with_reducible exact triremeref03_value.mono _ _)
      | (with_reducible exact LeO.refl _)
      | (with_reducible exact LeO.none _)
      | (with_reducible refine LeO.ite ?_ ?_)
      | (with_reducible refine LeO.bind ?_ (fun _ => ?_))
      | exact ih0 _ _
      | exact triremeref03_digits.mono _ _
      | exact triremeref03_value.mono _ _
      | exact LeO.none _
      | refine LeO.ite ?_ ?_
      | refine LeO.bind ?_ (fun _ => ?_)
set_option maxHeartbeats 8000000 in
set_option maxRecDepth 100000 in
theorem triremeref03_Number.calls (k : Nat) (a0 : ByteArray) (r1 : Int) (r2 : Int) (w : World) (h : triremeref03_Number.f k a0 = some (r1, r2)) :
    Calls Try.prog 14 #[.string a0] w fun e w' => e = .returned (.tuple #[.int .i64 r1, .int .i64 r2]) ∧ Below w.heap.size w w' := by
  have HB := Aside0.mk (Below.refl w.heap.size w)
  have H : (if (a0.size : Int) = 0 then (triremeref03_Number.j0 k a0 true) else ((triremeref03_digits.f k a0).bind fun t173 => (triremeref03_Number.j0 k a0 (decide (t173 < (a0.size : Int)))))) = some (r1, r2) := h
  clear h
  have HC2 := Aside0.mk H
  clear H
  go_enter Try.func14, Try.ntmps14
  go_upto_region 1 with (fail)
  go_cut [14] (fun v14 wc => ∃ (kq : Nat) (x14_1 : Bool), v14 = .bool x14_1 ∧ Aside0 (triremeref03_Number.j0 kq a0 x14_1 = some (r1, r2)) ∧ Aside0 (kq ≤ k) ∧ Aside0 (Below w.heap.size w wc))
  case first =>
    have H := HC2.out
    clear HC2
    by_cases c3 : (a0.size : Int) = 0
    · rw [if_pos c3] at H
      have c3b0 : ((a0.size : Int) == 0) = true := beq_iff_eq.mpr c3
      have c3b1 : ((a0.size : Int) != 0) = false := bne_eq_false_iff_eq.mpr c3
      clear c3
      (first | rw [c3b0] | (simp only [i64_w, i32_w]; rw [c3b0]) | skip)
      have H' := Aside0.mk H
      clear H
      go_wp2
      go_meet
      case rel => exact ⟨_, (true), (by first | rfl | (simp; done) | (simp [*]; done)), H', ⟨by first | omega | exact Nat.le_refl _⟩, ⟨by repeat (first | (with_reducible first | exact HB.out | apply below_alloc | apply pw_below_drewN | apply below_drew1) | exact HB.out)⟩⟩
    · rw [if_neg c3] at H
      have c3b0 : ((a0.size : Int) == 0) = false := beq_eq_false_iff_ne.mpr c3
      have c3b1 : ((a0.size : Int) != 0) = true := bne_iff_ne.mpr c3
      (first | rw [c3b0] | (simp only [i64_w, i32_w]; rw [c3b0]) | skip)
      replace H := Option.bind_eq_some_iff.mp H
      obtain ⟨t173, A40, H⟩ := H
      replace H : (triremeref03_Number.j0 k a0 (decide (t173 < (a0.size : Int)))) = some (r1, r2) := H
      have A4 := Aside0.mk A40
      clear A40
      have H' := Aside0.mk H
      clear H
      go_wp2_with (first | (go_at_call 24; (with_reducible refine (triremeref03_digits.calls k a0 t173 _ A4.out).mono ?_); rintro e w' ⟨rfl, ⟨nd, rfl⟩⟩))
      go_meet
      case rel => exact ⟨_, (decide (t173 < (a0.size : Int))), (by first | rfl | (simp; done) | (simp [*]; done)), H', ⟨by first | omega | exact Nat.le_refl _⟩, ⟨by repeat (first | (with_reducible first | exact HB.out | apply below_alloc | apply pw_below_drewN | apply below_drew1) | exact HB.out)⟩⟩
  case rest =>
    clear HC2
    try clear c1
    try clear p2
    try clear c3
    try clear c3b0
    try clear c3b1
    obtain ⟨kq, x14_1, rfl, HA, HJ1, HB⟩ := hcut
    cases kq with
    | zero => exact absurd HA.out (by simp [triremeref03_Number.j0])
    | succ kj1 =>
      have H := HA.out
      clear HA
      simp only [triremeref03_Number.j0] at H
      by_cases c5 : x14_1 = true
      · subst c5
        have H1 : (some (0, 8)) = some (r1, r2) := by rw [if_pos rfl] at H; exact H
        clear H
        have H := H1
        clear H1
        simp only [Option.some.injEq, Prod.mk.injEq] at H
        obtain ⟨rfl, rfl⟩ := H
        go_wp2
        go_ret2
        exact ⟨by first | rfl | (simp [errW_none, errW_some] <;> rfl) | (simp [*, errW_none, errW_some] <;> rfl), by repeat (first | (with_reducible first | exact HB.out | apply below_alloc | apply pw_below_drewN | apply below_drew1) | exact HB.out)⟩
      · replace c5 := Bool.eq_false_iff.mpr c5
        subst c5
        have H1 : ((triremeref03_value.f kj1 a0).bind fun t174 => (if t174 > 1125899906842624 then (some (0, 10)) else (some (t174, 0)))) = some (r1, r2) := by rw [if_neg (show ¬ (false = true) by decide)] at H; exact H
        clear H
        have H := H1
        clear H1
        replace H := Option.bind_eq_some_iff.mp H
        obtain ⟨t174, A60, H⟩ := H
        replace H : (if t174 > 1125899906842624 then (some (0, 10)) else (some (t174, 0))) = some (r1, r2) := H
        have A6 := Aside0.mk A60
        clear A60
        by_cases c7 : t174 > 1125899906842624
        · rw [if_pos c7] at H
          have c7b0 : decide (1125899906842624 < t174) = true := decide_eq_true c7
          clear c7
          simp only [Option.some.injEq, Prod.mk.injEq] at H
          obtain ⟨rfl, rfl⟩ := H
          go_wp2_with (first | ((first | ((with_reducible refine gate_callee (f := 25) rfl ?_); refine goesL_ (some 16) rfl rfl Try.func25 (by kernel_rfl) rfl #[.string a0] rfl (by (try simp only [List.map_toArray, List.map_cons, List.map_nil]); first | done | rfl | (simp only [List.length_drop, List.length_take]; rfl)) ?_; (with_reducible refine (triremeref03_value.calls kj1 a0 t174 _ A6.out).mono ?_); rintro e w8 ⟨rfl, hb⟩; refine ⟨_, rfl, ?_⟩) | (go_at_call 25; (with_reducible refine (triremeref03_value.calls kj1 a0 t174 _ A6.out).mono ?_); rintro e w8 ⟨rfl, hb⟩)); have n0_ := Aside0.mk (below_step (by repeat (first | (with_reducible first | exact HB.out | apply below_alloc | apply pw_below_drewN | apply below_drew1) | exact HB.out)) hb); clear HB; have HB := n0_; clear n0_; (try clear hb); (try clear hb2); (try clear hk); (try clear hi)))
          go_ret2
          exact ⟨by first | rfl | (simp [errW_none, errW_some] <;> rfl) | (simp [*, errW_none, errW_some] <;> rfl), by repeat (first | (with_reducible first | exact HB.out | apply below_alloc | apply pw_below_drewN | apply below_drew1) | exact HB.out)⟩
        · rw [if_neg c7] at H
          have c7b0 : decide (1125899906842624 < t174) = false := decide_eq_false c7
          clear c7
          simp only [Option.some.injEq, Prod.mk.injEq] at H
          obtain ⟨rfl, rfl⟩ := H
          go_wp2_with (first | ((first | ((with_reducible refine gate_callee (f := 25) rfl ?_); refine goesL_ (some 16) rfl rfl Try.func25 (by kernel_rfl) rfl #[.string a0] rfl (by (try simp only [List.map_toArray, List.map_cons, List.map_nil]); first | done | rfl | (simp only [List.length_drop, List.length_take]; rfl)) ?_; (with_reducible refine (triremeref03_value.calls kj1 a0 t174 _ A6.out).mono ?_); rintro e w9 ⟨rfl, hb⟩; refine ⟨_, rfl, ?_⟩) | (go_at_call 25; (with_reducible refine (triremeref03_value.calls kj1 a0 t174 _ A6.out).mono ?_); rintro e w9 ⟨rfl, hb⟩)); have n0_ := Aside0.mk (below_step (by repeat (first | (with_reducible first | exact HB.out | apply below_alloc | apply pw_below_drewN | apply below_drew1) | exact HB.out)) hb); clear HB; have HB := n0_; clear n0_; (try clear hb); (try clear hb2); (try clear hk); (try clear hi)))
          go_ret2
          exact ⟨by first | rfl | (simp [errW_none, errW_some] <;> rfl) | (simp [*, errW_none, errW_some] <;> rfl), by repeat (first | (with_reducible first | exact HB.out | apply below_alloc | apply pw_below_drewN | apply below_drew1) | exact HB.out)⟩
end Go.Proofs.Ytpmmiabcfnejmaa.H
end
section
namespace Go.Proofs.Ytpmmiabcfnejmaa.H
open Go.RowKit Go.Proofs.YtpmmiabcfnejmaaW.PrintWords Go.Proofs.YtpmmiabcfnejmaaW.PrintLast Go.Proofs.YtpmmiabcfnejmaaW.PrintMore
theorem wrap_small {i : Int} (h0 : -9223372036854775808 ≤ i) (h1 : i ≤ 9223372036854775807) : wrap64 i = i := by unfold wrap64; omega
theorem bytes_inj {a b : ByteArray} (h : a.data.toList = b.data.toList) : a = b := by
  cases a; cases b
  simp only at h
  rw [Array.toList_inj.mp h]
theorem toList_inj {a b : ByteArray} (h : a.toList = b.toList) : a = b := by
  rw [ByteArray.toList_eq, ByteArray.toList_eq] at h
  exact bytes_inj h
theorem ev_if {α : Type} {c : Prop} [Decidable c] {f g : Nat → Option α} {r : α} (h1 : c → Ev f r) (h2 : ¬ c → Ev g r) : Ev (fun k => if c then f k else g k) r := by
  by_cases h : c
  · simp only [h, if_true]; exact h1 h
  · simp only [h, if_false]; exact h2 h
theorem toList_len (s : ByteArray) : s.toList.length = s.size := by rw [ByteArray.toList_eq]; rfl
end Go.Proofs.Ytpmmiabcfnejmaa.H
end
section
namespace Go.Proofs.Ytpmmiabcfnejmaa.H
open Go.RowKit Go.Proofs.YtpmmiabcfnejmaaW.PrintWords Go.Proofs.YtpmmiabcfnejmaaW.PrintLast Go.Proofs.YtpmmiabcfnejmaaW.PrintMore
set_option linter.unusedVariables false
set_option linter.unusedSimpArgs false
theorem wrap_nat (n : Nat) (h : n ≤ 9223372036854775807) : wrap64 (n : Int) = (n : Int) := wrap_small (by omega) (by omega)
end Go.Proofs.Ytpmmiabcfnejmaa.H
end
section
namespace Go.Proofs.Ytpmmiabcfnejmaa.H
open Go.RowKit Go.Proofs.YtpmmiabcfnejmaaW.PrintWords Go.Proofs.YtpmmiabcfnejmaaW.PrintLast Go.Proofs.YtpmmiabcfnejmaaW.PrintMore
set_option linter.unusedVariables false
set_option linter.unusedSimpArgs false
theorem toList_nil {s : ByteArray} (h : s.size = 0) : s.toList = [] := List.eq_nil_of_length_eq_zero (by rw [toList_len]; exact h)
theorem append_toList (a b : ByteArray) : (a ++ b).toList = a.toList ++ b.toList := by
  rw [ByteArray.toList_eq, ByteArray.toList_eq, ByteArray.toList_eq, ByteArray.data_append, Array.toList_append]
end Go.Proofs.Ytpmmiabcfnejmaa.H
end
section
namespace Go.Proofs.Ytpmmiabcfnejmaa.H
open Go.RowKit Go.Proofs.YtpmmiabcfnejmaaW.PrintWords Go.Proofs.YtpmmiabcfnejmaaW.PrintLast Go.Proofs.YtpmmiabcfnejmaaW.PrintMore
attribute [local go_sem] max2_int min2_int max_two min_two max_three min_three max_four min_four   -- for this text's walks alone
set_option linter.unusedVariables false
set_option linter.unusedSimpArgs false
def triremeref03_unit.f (a0 : ByteArray) : Option (Int) := if a0.toList = ([] : List UInt8) then (some 1000) else (if a0.toList = ([109] : List UInt8) then (some 1) else (if a0.toList = ([75, 105] : List UInt8) then (some 1024000) else (if a0.toList = ([77, 105] : List UInt8) then (some 1048576000) else (if a0.toList = ([71, 105] : List UInt8) then (some 1073741824000) else (if a0.toList = ([84, 105] : List UInt8) then (some 1099511627776000) else (if a0.toList = ([107] : List UInt8) then (some 1000000) else (if a0.toList = ([77] : List UInt8) then (some 1000000000) else (if a0.toList = ([71] : List UInt8) then (some 1000000000000) else (if a0.toList = ([84] : List UInt8) then (some 1000000000000000) else (some 0))))))))))
set_option maxHeartbeats 8000000 in
set_option maxRecDepth 100000 in
theorem triremeref03_unit.calls (a0 : ByteArray) (r : Int) (w : World) (h : triremeref03_unit.f a0 = some r) :
    Calls Try.prog 31 #[.string a0] w fun e w' => e = .returned (.int .i64 r) ∧ Drawn0 w w' := by
  have H : (if a0.toList = ([] : List UInt8) then (some 1000) else (if a0.toList = ([109] : List UInt8) then (some 1) else (if a0.toList = ([75, 105] : List UInt8) then (some 1024000) else (if a0.toList = ([77, 105] : List UInt8) then (some 1048576000) else (if a0.toList = ([71, 105] : List UInt8) then (some 1073741824000) else (if a0.toList = ([84, 105] : List UInt8) then (some 1099511627776000) else (if a0.toList = ([107] : List UInt8) then (some 1000000) else (if a0.toList = ([77] : List UInt8) then (some 1000000000) else (if a0.toList = ([71] : List UInt8) then (some 1000000000000) else (if a0.toList = ([84] : List UInt8) then (some 1000000000000000) else (some 0))))))))))) = some r := h
  clear h
  by_cases c2 : a0.toList = ([] : List UInt8)
  · rw [if_pos c2] at H
    have c2b0 : (a0.toList == ([] : List UInt8)) = true := beq_iff_eq.mpr c2
    have c2b1 : (a0.toList != ([] : List UInt8)) = false := bne_eq_false_iff_eq.mpr c2
    clear c2
    obtain rfl := Option.some.inj H
    go_enter Try.func31, Try.ntmps31
    go_wp2
    go_ret
    exact ⟨by first | rfl | (simp; done) | (simp [*]; done), by repeat (first | exact Drawn0.refl _ | apply Drawn0.step)⟩
  · rw [if_neg c2] at H
    have c2b0 : (a0.toList == ([] : List UInt8)) = false := beq_eq_false_iff_ne.mpr c2
    have c2b1 : (a0.toList != ([] : List UInt8)) = true := bne_iff_ne.mpr c2
    by_cases c3 : a0.toList = ([109] : List UInt8)
    · rw [if_pos c3] at H
      have c3b0 : (a0.toList == ([109] : List UInt8)) = true := beq_iff_eq.mpr c3
      have c3b1 : (a0.toList != ([109] : List UInt8)) = false := bne_eq_false_iff_eq.mpr c3
      clear c3
      obtain rfl := Option.some.inj H
      go_enter Try.func31, Try.ntmps31
      go_wp2
      go_ret
      exact ⟨by first | rfl | (simp; done) | (simp [*]; done), by repeat (first | exact Drawn0.refl _ | apply Drawn0.step)⟩
    · rw [if_neg c3] at H
      have c3b0 : (a0.toList == ([109] : List UInt8)) = false := beq_eq_false_iff_ne.mpr c3
      have c3b1 : (a0.toList != ([109] : List UInt8)) = true := bne_iff_ne.mpr c3
      by_cases c4 : a0.toList = ([75, 105] : List UInt8)
      · rw [if_pos c4] at H
        have c4b0 : (a0.toList == ([75, 105] : List UInt8)) = true := beq_iff_eq.mpr c4
        have c4b1 : (a0.toList != ([75, 105] : List UInt8)) = false := bne_eq_false_iff_eq.mpr c4
        clear c4
        obtain rfl := Option.some.inj H
        go_enter Try.func31, Try.ntmps31
        go_wp2
        go_ret
        exact ⟨by first | rfl | (simp; done) | (simp [*]; done), by repeat (first | exact Drawn0.refl _ | apply Drawn0.step)⟩
      · rw [if_neg c4] at H
        have c4b0 : (a0.toList == ([75, 105] : List UInt8)) = false := beq_eq_false_iff_ne.mpr c4
        have c4b1 : (a0.toList != ([75, 105] : List UInt8)) = true := bne_iff_ne.mpr c4
        by_cases c5 : a0.toList = ([77, 105] : List UInt8)
        · rw [if_pos c5] at H
          have c5b0 : (a0.toList == ([77, 105] : List UInt8)) = true := beq_iff_eq.mpr c5
          have c5b1 : (a0.toList != ([77, 105] : List UInt8)) = false := bne_eq_false_iff_eq.mpr c5
          clear c5
          obtain rfl := Option.some.inj H
          go_enter Try.func31, Try.ntmps31
          go_wp2
          go_ret
          exact ⟨by first | rfl | (simp; done) | (simp [*]; done), by repeat (first | exact Drawn0.refl _ | apply Drawn0.step)⟩
        · rw [if_neg c5] at H
          have c5b0 : (a0.toList == ([77, 105] : List UInt8)) = false := beq_eq_false_iff_ne.mpr c5
          have c5b1 : (a0.toList != ([77, 105] : List UInt8)) = true := bne_iff_ne.mpr c5
          by_cases c6 : a0.toList = ([71, 105] : List UInt8)
          · rw [if_pos c6] at H
            have c6b0 : (a0.toList == ([71, 105] : List UInt8)) = true := beq_iff_eq.mpr c6
            have c6b1 : (a0.toList != ([71, 105] : List UInt8)) = false := bne_eq_false_iff_eq.mpr c6
            clear c6
            obtain rfl := Option.some.inj H
            go_enter Try.func31, Try.ntmps31
            go_wp2
            go_ret
            exact ⟨by first | rfl | (simp; done) | (simp [*]; done), by repeat (first | exact Drawn0.refl _ | apply Drawn0.step)⟩
          · rw [if_neg c6] at H
            have c6b0 : (a0.toList == ([71, 105] : List UInt8)) = false := beq_eq_false_iff_ne.mpr c6
            have c6b1 : (a0.toList != ([71, 105] : List UInt8)) = true := bne_iff_ne.mpr c6
            by_cases c7 : a0.toList = ([84, 105] : List UInt8)
            · rw [if_pos c7] at H
              have c7b0 : (a0.toList == ([84, 105] : List UInt8)) = true := beq_iff_eq.mpr c7
              have c7b1 : (a0.toList != ([84, 105] : List UInt8)) = false := bne_eq_false_iff_eq.mpr c7
              clear c7
              obtain rfl := Option.some.inj H
              go_enter Try.func31, Try.ntmps31
              go_wp2
              go_ret
              exact ⟨by first | rfl | (simp; done) | (simp [*]; done), by repeat (first | exact Drawn0.refl _ | apply Drawn0.step)⟩
            · rw [if_neg c7] at H
              have c7b0 : (a0.toList == ([84, 105] : List UInt8)) = false := beq_eq_false_iff_ne.mpr c7
              have c7b1 : (a0.toList != ([84, 105] : List UInt8)) = true := bne_iff_ne.mpr c7
              by_cases c8 : a0.toList = ([107] : List UInt8)
              · rw [if_pos c8] at H
                have c8b0 : (a0.toList == ([107] : List UInt8)) = true := beq_iff_eq.mpr c8
                have c8b1 : (a0.toList != ([107] : List UInt8)) = false := bne_eq_false_iff_eq.mpr c8
                clear c8
                obtain rfl := Option.some.inj H
                go_enter Try.func31, Try.ntmps31
                go_wp2
                go_ret
                exact ⟨by first | rfl | (simp; done) | (simp [*]; done), by repeat (first | exact Drawn0.refl _ | apply Drawn0.step)⟩
              · rw [if_neg c8] at H
                have c8b0 : (a0.toList == ([107] : List UInt8)) = false := beq_eq_false_iff_ne.mpr c8
                have c8b1 : (a0.toList != ([107] : List UInt8)) = true := bne_iff_ne.mpr c8
                by_cases c9 : a0.toList = ([77] : List UInt8)
                · rw [if_pos c9] at H
                  have c9b0 : (a0.toList == ([77] : List UInt8)) = true := beq_iff_eq.mpr c9
                  have c9b1 : (a0.toList != ([77] : List UInt8)) = false := bne_eq_false_iff_eq.mpr c9
                  clear c9
                  obtain rfl := Option.some.inj H
                  go_enter Try.func31, Try.ntmps31
                  go_wp2
                  go_ret
                  exact ⟨by first | rfl | (simp; done) | (simp [*]; done), by repeat (first | exact Drawn0.refl _ | apply Drawn0.step)⟩
                · rw [if_neg c9] at H
                  have c9b0 : (a0.toList == ([77] : List UInt8)) = false := beq_eq_false_iff_ne.mpr c9
                  have c9b1 : (a0.toList != ([77] : List UInt8)) = true := bne_iff_ne.mpr c9
                  by_cases c10 : a0.toList = ([71] : List UInt8)
                  · rw [if_pos c10] at H
                    have c10b0 : (a0.toList == ([71] : List UInt8)) = true := beq_iff_eq.mpr c10
                    have c10b1 : (a0.toList != ([71] : List UInt8)) = false := bne_eq_false_iff_eq.mpr c10
                    clear c10
                    obtain rfl := Option.some.inj H
                    go_enter Try.func31, Try.ntmps31
                    go_wp2
                    go_ret
                    exact ⟨by first | rfl | (simp; done) | (simp [*]; done), by repeat (first | exact Drawn0.refl _ | apply Drawn0.step)⟩
                  · rw [if_neg c10] at H
                    have c10b0 : (a0.toList == ([71] : List UInt8)) = false := beq_eq_false_iff_ne.mpr c10
                    have c10b1 : (a0.toList != ([71] : List UInt8)) = true := bne_iff_ne.mpr c10
                    by_cases c11 : a0.toList = ([84] : List UInt8)
                    · rw [if_pos c11] at H
                      have c11b0 : (a0.toList == ([84] : List UInt8)) = true := beq_iff_eq.mpr c11
                      have c11b1 : (a0.toList != ([84] : List UInt8)) = false := bne_eq_false_iff_eq.mpr c11
                      clear c11
                      obtain rfl := Option.some.inj H
                      go_enter Try.func31, Try.ntmps31
                      go_wp2
                      go_ret
                      exact ⟨by first | rfl | (simp; done) | (simp [*]; done), by repeat (first | exact Drawn0.refl _ | apply Drawn0.step)⟩
                    · rw [if_neg c11] at H
                      have c11b0 : (a0.toList == ([84] : List UInt8)) = false := beq_eq_false_iff_ne.mpr c11
                      have c11b1 : (a0.toList != ([84] : List UInt8)) = true := bne_iff_ne.mpr c11
                      obtain rfl := Option.some.inj H
                      go_enter Try.func31, Try.ntmps31
                      go_wp2
                      go_ret
                      exact ⟨by first | rfl | (simp; done) | (simp [*]; done), by repeat (first | exact Drawn0.refl _ | apply Drawn0.step)⟩
end Go.Proofs.Ytpmmiabcfnejmaa.H
end
section
namespace Go.Proofs.Ytpmmiabcfnejmaa.H
open Go.RowKit Go.Proofs.YtpmmiabcfnejmaaW.PrintWords Go.Proofs.YtpmmiabcfnejmaaW.PrintLast Go.Proofs.YtpmmiabcfnejmaaW.PrintMore
attribute [local go_sem] max2_int min2_int max_two min_two max_three min_three max_four min_four   -- for this text's walks alone
set_option linter.unusedVariables false
set_option linter.unusedSimpArgs false
mutual
def triremeref03_product.l0 : Nat → ByteArray → Int → ByteArray → Int → Int → Option (ByteArray)
  | 0, _, _, _, _, _ => none
  | k + 1, x0, x1, x5, x6, x7 => if x7 ≥ 0 then (triremeref03_product.j1 k x0 x1 x5 x6 x7 true) else (triremeref03_product.j1 k x0 x1 x5 x6 x7 (decide (x6 > 0)))
def triremeref03_product.j1 : Nat → ByteArray → Int → ByteArray → Int → Int → Bool → Option (ByteArray)
  | 0, _, _, _, _, _, _ => none
  | k + 1, x0, x1, x5, x6, x7, x16 => if x16 = true then (if x7 ≥ 0 then (if 0 ≤ x7 then (if x7 < (x0.size : Int) then ((some (([(wrap64 (48 + (Int.tmod (wrap64 (x6 + (wrap64 ((((bt x0 x7) - 48) % 256) * x1)))) 10))) % 256] : List Int) : List Int)).bind fun y163 => (if (strOfNums y163).size + x5.size ≤ 9223372036854775807 then (triremeref03_product.l0 k x0 x1 ((strOfNums y163) ++ x5) (wrap64 (Int.tdiv (wrap64 (x6 + (wrap64 ((((bt x0 x7) - 48) % 256) * x1)))) 10)) (wrap64 (x7 - 1))) else (none))) else (none)) else (none)) else ((some (([(wrap64 (48 + (Int.tmod x6 10))) % 256] : List Int) : List Int)).bind fun y166 => (if (strOfNums y166).size + x5.size ≤ 9223372036854775807 then (triremeref03_product.l0 k x0 x1 ((strOfNums y166) ++ x5) (wrap64 (Int.tdiv x6 10)) (wrap64 (x7 - 1))) else (none)))) else (some x5)
end
def triremeref03_product.f (k : Nat) (a0 : ByteArray) (a1 : Int) : Option (ByteArray) := triremeref03_product.l0 k a0 a1 (⟨#[]⟩ : ByteArray) 0 (wrap64 ((a0.size : Int) - 1))
theorem triremeref03_product.mono_l : ∀ k, (∀ y0 y1 y2 y3 y4, LeO (triremeref03_product.l0 k y0 y1 y2 y3 y4) (triremeref03_product.l0 (k + 1) y0 y1 y2 y3 y4)) ∧ (∀ y0 y1 y2 y3 y4 y5, LeO (triremeref03_product.j1 k y0 y1 y2 y3 y4 y5) (triremeref03_product.j1 (k + 1) y0 y1 y2 y3 y4 y5))
  | 0 => ⟨fun _ _ _ _ _ r h => by simp [triremeref03_product.l0] at h, fun _ _ _ _ _ _ r h => by simp [triremeref03_product.j1] at h⟩
  | k + 1 => by
    obtain ⟨ih0, ih1⟩ := triremeref03_product.mono_l k
    refine ⟨?_, ?_⟩
    · intro y0 y1 y2 y3 y4
      unfold triremeref03_product.l0
      repeat' first
      | (with_reducible exact ih0 _ _ _ _ _)
      | (with_reducible exact ih1 _ _ _ _ _ _)
      | (with_reducible exact LeO.refl _)
      | (with_reducible exact LeO.none _)
      | (with_reducible refine LeO.ite ?_ ?_)
      | (with_reducible refine LeO.bind ?_ (fun _ => ?_))
      | exact ih0 _ _ _ _ _
      | exact ih1 _ _ _ _ _ _
      | exact LeO.none _
      | refine LeO.ite ?_ ?_
      | refine LeO.bind ?_ (fun _ => ?_)
    · intro y0 y1 y2 y3 y4 y5
      unfold triremeref03_product.j1
      repeat' first
      | (with_reducible exact ih0 _ _ _ _ _)
      | (with_reducible exact ih1 _ _ _ _ _ _)
      | (with_reducible exact LeO.refl _)
      | (with_reducible exact LeO.none _)
      | (with_reducible refine LeO.ite ?_ ?_)
      | (with_reducible refine LeO.bind ?_ (fun _ => ?_))
      | exact ih0 _ _ _ _ _
      | exact ih1 _ _ _ _ _ _
      | exact LeO.none _
      | refine LeO.ite ?_ ?_
      | refine LeO.bind ?_ (fun _ => ?_)
theorem triremeref03_product.mono : ∀ a0 a1 k, LeO (triremeref03_product.f k a0 a1) (triremeref03_product.f (k + 1) a0 a1) := by
  intro a0 a1 k
  obtain ⟨ih0, ih1⟩ := triremeref03_product.mono_l k
  unfold triremeref03_product.f
  repeat' first
      | (with_reducible exact ih0 _ _ _ _ _)
      | (with_reducible exact ih1 _ _ _ _ _ _)
      | (with_reducible exact LeO.refl _)
      | (with_reducible exact LeO.none _)
      | (with_reducible refine LeO.ite ?_ ?_)
      | (with_reducible refine LeO.bind ?_ (fun _ => ?_))
      | exact ih0 _ _ _ _ _
      | exact ih1 _ _ _ _ _ _
      | exact LeO.none _
      | refine LeO.ite ?_ ?_
      | refine LeO.bind ?_ (fun _ => ?_)
set_option maxHeartbeats 8000000 in
set_option maxRecDepth 100000 in
theorem triremeref03_product.calls (k : Nat) (a0 : ByteArray) (a1 : Int) (r : ByteArray) (w : World) (h : triremeref03_product.f k a0 a1 = some r) :
    Calls Try.prog 32 #[.string a0, .int .i64 a1] w fun e w' => e = .returned (.string r) ∧ Below w.heap.size w w' := by
  have HB := Aside0.mk (Below.refl w.heap.size w)
  have H : (triremeref03_product.l0 k a0 a1 (⟨#[]⟩ : ByteArray) 0 (wrap64 ((a0.size : Int) - 1))) = some r := h
  clear h
  have H' := Aside0.mk H
  clear H
  go_enter Try.func32, Try.ntmps32
  go_wp2
  go_loopg [5, 6, 7] k (fun kq v5 v6 v7 w' => ∃ (x5_1 : ByteArray) (x6_1 : Int) (x7_1 : Int), v5 = .string x5_1 ∧ v6 = .int .i64 x6_1 ∧ v7 = .int .i64 x7_1 ∧ Aside0 (triremeref03_product.l0 kq a0 a1 x5_1 x6_1 x7_1 = some r) ∧ Aside0 (kq ≤ k) ∧ Aside0 (Below w.heap.size w w'))
  case atStart => exact ⟨((⟨#[]⟩ : ByteArray)), (0), (wrap64 ((a0.size : Int) - 1)), (by first | rfl | (simp; done) | (simp [*]; done)), (by first | rfl | (simp; done) | (simp [*]; done)), (by first | rfl | (simp; done) | (simp [*]; done)), H', ⟨Nat.le_refl _⟩, ⟨by repeat (first | (with_reducible first | exact HB.out | apply below_alloc | apply pw_below_drewN | apply below_drew1) | exact HB.out)⟩⟩
  case round =>
    clear H'
    try clear p2
    obtain ⟨x5_1, x6_1, x7_1, rfl, rfl, rfl, HA, HK1, HB⟩ := hrel
    cases gk with
    | zero => exact absurd HA.out (by simp [triremeref03_product.l0])
    | succ k1 =>
      have H := HA.out
      clear HA
      simp only [triremeref03_product.l0] at H
      have HC3 := Aside0.mk H
      clear H
      go_upto_region 4 with (fail)
      go_cut [16] (fun v16 wc => ∃ (kq : Nat) (x16_2 : Bool), v16 = .bool x16_2 ∧ Aside0 (triremeref03_product.j1 kq a0 a1 x5_1 x6_1 x7_1 x16_2 = some r) ∧ Aside0 (kq ≤ k1) ∧ Aside0 (Below w.heap.size w wc))
      case first =>
        have H := HC3.out
        clear HC3
        by_cases c4 : x7_1 ≥ 0
        · rw [if_pos c4] at H
          have c4b0 : decide (0 ≤ x7_1) = true := decide_eq_true c4
          clear c4
          (first | rw [c4b0] | (simp only [i64_w, i32_w]; rw [c4b0]) | skip)
          have H' := Aside0.mk H
          clear H
          go_wp2
          go_meet
          case rel => exact ⟨_, (true), (by first | rfl | (simp; done) | (simp [*]; done)), H', ⟨by have := HK1.out; first | omega | exact Nat.le_refl _⟩, ⟨by repeat (first | (with_reducible first | exact HB.out | apply below_alloc | apply pw_below_drewN | apply below_drew1) | exact HB.out)⟩⟩
        · rw [if_neg c4] at H
          have c4b0 : decide (0 ≤ x7_1) = false := decide_eq_false c4
          clear c4
          (first | rw [c4b0] | (simp only [i64_w, i32_w]; rw [c4b0]) | skip)
          have H' := Aside0.mk H
          clear H
          go_wp2
          go_meet
          case rel => exact ⟨_, (decide (x6_1 > 0)), (by first | rfl | (simp; done) | (simp [*]; done)), H', ⟨by have := HK1.out; first | omega | exact Nat.le_refl _⟩, ⟨by repeat (first | (with_reducible first | exact HB.out | apply below_alloc | apply pw_below_drewN | apply below_drew1) | exact HB.out)⟩⟩
      case rest =>
        clear HC3
        try clear p2
        try clear c3
        try clear c4
        try clear c4b0
        try clear p2
        obtain ⟨kq, x16_2, rfl, HA, HJ2, HB⟩ := hcut
        cases kq with
        | zero => exact absurd HA.out (by simp [triremeref03_product.j1])
        | succ kj2 =>
          have H := HA.out
          clear HA
          simp only [triremeref03_product.j1] at H
          by_cases c5 : x16_2 = true
          · subst c5
            have H1 : (if x7_1 ≥ 0 then (if 0 ≤ x7_1 then (if x7_1 < (a0.size : Int) then ((some (([(wrap64 (48 + (Int.tmod (wrap64 (x6_1 + (wrap64 ((((bt a0 x7_1) - 48) % 256) * a1)))) 10))) % 256] : List Int) : List Int)).bind fun y163 => (if (strOfNums y163).size + x5_1.size ≤ 9223372036854775807 then (triremeref03_product.l0 kj2 a0 a1 ((strOfNums y163) ++ x5_1) (wrap64 (Int.tdiv (wrap64 (x6_1 + (wrap64 ((((bt a0 x7_1) - 48) % 256) * a1)))) 10)) (wrap64 (x7_1 - 1))) else (none))) else (none)) else (none)) else ((some (([(wrap64 (48 + (Int.tmod x6_1 10))) % 256] : List Int) : List Int)).bind fun y166 => (if (strOfNums y166).size + x5_1.size ≤ 9223372036854775807 then (triremeref03_product.l0 kj2 a0 a1 ((strOfNums y166) ++ x5_1) (wrap64 (Int.tdiv x6_1 10)) (wrap64 (x7_1 - 1))) else (none)))) = some r := by rw [if_pos rfl] at H; exact H
            clear H
            have H := H1
            clear H1
            by_cases c6 : x7_1 ≥ 0
            · rw [if_pos c6] at H
              have c6b0 : decide (0 ≤ x7_1) = true := decide_eq_true c6
              clear c6
              by_cases c7 : 0 ≤ x7_1
              · rw [if_pos c7] at H
                have c7b0 : decide (0 ≤ x7_1) = true := decide_eq_true c7
                clear c7
                by_cases c8 : x7_1 < (a0.size : Int)
                · rw [if_pos c8] at H
                  have c8b0 : decide (x7_1 < (a0.size : Int)) = true := decide_eq_true c8
                  clear c8
                  obtain ⟨y163, hy163⟩ : ∃ y_ : List Int, y_ = (([(wrap64 (48 + (Int.tmod (wrap64 (x6_1 + (wrap64 ((((bt a0 x7_1) - 48) % 256) * a1)))) 10))) % 256] : List Int)) := ⟨_, rfl⟩
                  replace H : (if (strOfNums y163).size + x5_1.size ≤ 9223372036854775807 then (triremeref03_product.l0 kj2 a0 a1 ((strOfNums y163) ++ x5_1) (wrap64 (Int.tdiv (wrap64 (x6_1 + (wrap64 ((((bt a0 x7_1) - 48) % 256) * a1)))) 10)) (wrap64 (x7_1 - 1))) else (none)) = some r := by first | (rw [hy163]; with_reducible exact H) | (have H2_ := (Option.bind_some _ _).symm.trans H; rw [hy163]; with_reducible exact H2_) | (have H2_ := (Option.bind_some _ _).symm.trans H; with_reducible exact H2_) | with_reducible exact H | (rw [hy163]; exact H) | exact H
                  have Ny163 := Aside0.mk hy163
                  clear hy163
                  by_cases c10 : (strOfNums y163).size + x5_1.size ≤ 9223372036854775807
                  · rw [if_pos c10] at H
                    have c10b0 := eq_true c10
                    (try (have c10z := c10b0; rw [ByteArray.size_extract, Nat.min_self] at c10z))
                    have c10b1 : decide ((strOfNums y163).size + x5_1.size ≤ 9223372036854775807) = true := decide_eq_true c10
                    try have c10b2 : (9223372036854775807 < (strOfNums y163).size + x5_1.size) = False := eq_false (Nat.not_lt.2 c10)
                    have H' := Aside0.mk H
                    clear H
                    have p9 : 0 ≤ (x7_1 : Int) := of_decide_eq_true (by first | (with_reducible assumption) | assumption)
                    have q9 : x7_1 < (a0.size : Int) := of_decide_eq_true (by first | (with_reducible assumption) | assumption)
                    have hx9 := bt_at a0 x7_1
                    replace p9 := eq_true p9
                    replace q9 := eq_true q9
                    (try (have qz9 := q9; rw [ByteArray.size_extract, Nat.min_self] at qz9))
                    go_wp2_with (first | ((with_reducible refine gate_dst (N := 34) rfl ?_); refine Kd.R_lit (Kd.int .u8) _ 5 ?hg (N := 34) ?hd (xs := ([(wrap64 (48 + (Int.tmod (wrap64 (x6_1 + (wrap64 ((((bt a0 x7_1) - 48) % 256) * a1)))) 10))) % 256] : List Int)) (inner := [.int .u8 ((wrap64 (48 + (Int.tmod (wrap64 (x6_1 + (wrap64 ((((bt a0 x7_1) - 48) % 256) * a1)))) 10))) % 256)]) (ok := fun _ => True) (okp := fun _ => True) ?hr ?hp (fun _ hk => hk) trivial (Below.refl _ _) (Nat.le_refl _) (by simp) ?_; (case hd => rfl); (case hg => rfl); (case hr => first | (go_simp; done) | (go_simp; rfl)); (case hp => exact (Reps.one (show Kd.M (Kd.int .u8) _ _ _ ((wrap64 (48 + (Int.tmod (wrap64 (x6_1 + (wrap64 ((((bt a0 x7_1) - 48) % 256) * a1)))) 10))) % 256) [.int .u8 ((wrap64 (48 + (Int.tmod (wrap64 (x6_1 + (wrap64 ((((bt a0 x7_1) - 48) % 256) * a1)))) 10))) % 256)] from rfl) (Reps.none _ _))); intro v164 w11 ho12 hb hg_ hnew_; clear hg_ hnew_; (first | rw [← Ny163.out] at ho12 | (simp only [Int.reduceToNat] at ho12; rw [← Ny163.out] at ho12)); have n0_ := Aside0.mk (Kd.R_lower ho12 (below_size (by repeat (first | (with_reducible first | exact HB.out | apply below_alloc | apply pw_below_drewN | apply below_drew1) | exact HB.out)))); have n1_ := Aside0.mk (below_step (by repeat (first | (with_reducible first | exact HB.out | apply below_alloc | apply pw_below_drewN | apply below_drew1) | exact HB.out)) hb); clear HB; have HO165 := n0_; have HB := n1_; clear n0_ n1_; clear hb ho12; have hcv13 := own_string (P := Try.prog) Try.underlying39 Try.underlying5 Try.underlying9 (Kd.own_of_R HO165.out)))
                    go_roundg kj2
                    case measure => have := HK1.out; have := HJ2.out; omega
                    case rel => exact ⟨((strOfNums y163) ++ x5_1), (wrap64 (Int.tdiv (wrap64 (x6_1 + (wrap64 ((((bt a0 x7_1) - 48) % 256) * a1)))) 10)), (wrap64 (x7_1 - 1)), (by first | rfl | (simp; done) | (simp [*]; done)), (by first | rfl | (simp; done) | (simp [*]; done)), (by first | rfl | (simp; done) | (simp [*]; done)), H', ⟨by have := HK1.out; have := HJ2.out; omega⟩, ⟨by repeat (first | (with_reducible first | exact HB.out | apply below_alloc | apply pw_below_drewN | apply below_drew1) | exact HB.out)⟩⟩
                  · rw [if_neg c10] at H
                    exact absurd H (by simp)
                · rw [if_neg c8] at H
                  exact absurd H (by simp)
              · rw [if_neg c7] at H
                exact absurd H (by simp)
            · rw [if_neg c6] at H
              have c6b0 : decide (0 ≤ x7_1) = false := decide_eq_false c6
              clear c6
              obtain ⟨y166, hy166⟩ : ∃ y_ : List Int, y_ = (([(wrap64 (48 + (Int.tmod x6_1 10))) % 256] : List Int)) := ⟨_, rfl⟩
              replace H : (if (strOfNums y166).size + x5_1.size ≤ 9223372036854775807 then (triremeref03_product.l0 kj2 a0 a1 ((strOfNums y166) ++ x5_1) (wrap64 (Int.tdiv x6_1 10)) (wrap64 (x7_1 - 1))) else (none)) = some r := by first | (rw [hy166]; with_reducible exact H) | (have H2_ := (Option.bind_some _ _).symm.trans H; rw [hy166]; with_reducible exact H2_) | (have H2_ := (Option.bind_some _ _).symm.trans H; with_reducible exact H2_) | with_reducible exact H | (rw [hy166]; exact H) | exact H
              have Ny166 := Aside0.mk hy166
              clear hy166
              by_cases c14 : (strOfNums y166).size + x5_1.size ≤ 9223372036854775807
              · rw [if_pos c14] at H
                have c14b0 := eq_true c14
                (try (have c14z := c14b0; rw [ByteArray.size_extract, Nat.min_self] at c14z))
                have c14b1 : decide ((strOfNums y166).size + x5_1.size ≤ 9223372036854775807) = true := decide_eq_true c14
                try have c14b2 : (9223372036854775807 < (strOfNums y166).size + x5_1.size) = False := eq_false (Nat.not_lt.2 c14)
                have H' := Aside0.mk H
                clear H
                go_wp2_with (first | ((with_reducible refine gate_dst (N := 34) rfl ?_); refine Kd.R_lit (Kd.int .u8) _ 5 ?hg (N := 34) ?hd (xs := ([(wrap64 (48 + (Int.tmod x6_1 10))) % 256] : List Int)) (inner := [.int .u8 ((wrap64 (48 + (Int.tmod x6_1 10))) % 256)]) (ok := fun _ => True) (okp := fun _ => True) ?hr ?hp (fun _ hk => hk) trivial (Below.refl _ _) (Nat.le_refl _) (by simp) ?_; (case hd => rfl); (case hg => rfl); (case hr => first | (go_simp; done) | (go_simp; rfl)); (case hp => exact (Reps.one (show Kd.M (Kd.int .u8) _ _ _ ((wrap64 (48 + (Int.tmod x6_1 10))) % 256) [.int .u8 ((wrap64 (48 + (Int.tmod x6_1 10))) % 256)] from rfl) (Reps.none _ _))); intro v167 w15 ho16 hb hg_ hnew_; clear hg_ hnew_; (first | rw [← Ny166.out] at ho16 | (simp only [Int.reduceToNat] at ho16; rw [← Ny166.out] at ho16)); have n0_ := Aside0.mk (Kd.R_lower ho16 (below_size (by repeat (first | (with_reducible first | exact HB.out | apply below_alloc | apply pw_below_drewN | apply below_drew1) | exact HB.out)))); have n1_ := Aside0.mk (below_step (by repeat (first | (with_reducible first | exact HB.out | apply below_alloc | apply pw_below_drewN | apply below_drew1) | exact HB.out)) hb); clear HB; have HO168 := n0_; have HB := n1_; clear n0_ n1_; clear hb ho16; have hcv17 := own_string (P := Try.prog) Try.underlying39 Try.underlying5 Try.underlying9 (Kd.own_of_R HO168.out)))
                go_roundg kj2
                case measure => have := HK1.out; have := HJ2.out; omega
                case rel => exact ⟨((strOfNums y166) ++ x5_1), (wrap64 (Int.tdiv x6_1 10)), (wrap64 (x7_1 - 1)), (by first | rfl | (simp; done) | (simp [*]; done)), (by first | rfl | (simp; done) | (simp [*]; done)), (by first | rfl | (simp; done) | (simp [*]; done)), H', ⟨by have := HK1.out; have := HJ2.out; omega⟩, ⟨by repeat (first | (with_reducible first | exact HB.out | apply below_alloc | apply pw_below_drewN | apply below_drew1) | exact HB.out)⟩⟩
              · rw [if_neg c14] at H
                exact absurd H (by simp)
          · replace c5 := Bool.eq_false_iff.mpr c5
            subst c5
            have H1 : (some x5_1) = some r := by rw [if_neg (show ¬ (false = true) by decide)] at H; exact H
            clear H
            have H := H1
            clear H1
            obtain rfl := Option.some.inj H
            go_wp2
            go_ret
            exact ⟨by first | rfl | (simp [errW_none, errW_some] <;> rfl) | (simp [*, errW_none, errW_some] <;> rfl), by repeat (first | (with_reducible first | exact HB.out | apply below_alloc | apply pw_below_drewN | apply below_drew1) | exact HB.out)⟩
end Go.Proofs.Ytpmmiabcfnejmaa.H
end
section
namespace Go.Proofs.Ytpmmiabcfnejmaa.H
open Go.RowKit Go.Proofs.YtpmmiabcfnejmaaW.PrintWords Go.Proofs.YtpmmiabcfnejmaaW.PrintLast Go.Proofs.YtpmmiabcfnejmaaW.PrintMore
attribute [local go_sem] max2_int min2_int max_two min_two max_three min_three max_four min_four   -- for this text's walks alone
set_option linter.unusedVariables false
set_option linter.unusedSimpArgs false
def triremeref03_zeros.l0 : Nat → ByteArray → Int → Option (Bool)
  | 0, _, _ => none
  | k + 1, x0, x3 => if x3 < (x0.size : Int) then (if 0 ≤ x3 then (if (bt x0 x3) = 48 then (triremeref03_zeros.l0 k x0 (wrap64 (x3 + 1))) else (some false)) else (none)) else (some true)
def triremeref03_zeros.f (k : Nat) (a0 : ByteArray) : Option (Bool) := triremeref03_zeros.l0 k a0 0
theorem triremeref03_zeros.mono_l : ∀ k, (∀ y0 y1, LeO (triremeref03_zeros.l0 k y0 y1) (triremeref03_zeros.l0 (k + 1) y0 y1))
  | 0 => fun _ _ r h => by simp [triremeref03_zeros.l0] at h
  | k + 1 => by
    have ih0 := triremeref03_zeros.mono_l k
    · intro y0 y1
      unfold triremeref03_zeros.l0
      repeat' first
      | (with_reducible exact ih0 _ _)
      | (with_reducible exact LeO.refl _)
      | (with_reducible exact LeO.none _)
      | (with_reducible refine LeO.ite ?_ ?_)
      | (with_reducible refine LeO.bind ?_ (fun _ => ?_))
      | exact ih0 _ _
      | exact LeO.none _
      | refine LeO.ite ?_ ?_
      | refine LeO.bind ?_ (fun _ => ?_)
theorem triremeref03_zeros.mono : ∀ a0 k, LeO (triremeref03_zeros.f k a0) (triremeref03_zeros.f (k + 1) a0) := by
  intro a0 k
  have ih0 := triremeref03_zeros.mono_l k
  unfold triremeref03_zeros.f
  repeat' first
      | (with_reducible exact ih0 _ _)
      | (with_reducible exact LeO.refl _)
      | (with_reducible exact LeO.none _)
      | (with_reducible refine LeO.ite ?_ ?_)
      | (with_reducible refine LeO.bind ?_ (fun _ => ?_))
      | exact ih0 _ _
      | exact LeO.none _
      | refine LeO.ite ?_ ?_
      | refine LeO.bind ?_ (fun _ => ?_)
set_option maxHeartbeats 8000000 in
set_option maxRecDepth 100000 in
theorem triremeref03_zeros.calls (k : Nat) (a0 : ByteArray) (r : Bool) (w : World) (h : triremeref03_zeros.f k a0 = some r) :
    Calls Try.prog 33 #[.string a0] w fun e w' => e = .returned (.bool r) ∧ Drawn0 w w' := by
  have H : (triremeref03_zeros.l0 k a0 0) = some r := h
  clear h
  have H' := Aside0.mk H
  clear H
  go_enter Try.func33, Try.ntmps33
  go_wp2
  go_loopg [3] k (fun kq v3 w' => ∃ (x3_1 : Int), v3 = .int .i64 x3_1 ∧ Aside0 (triremeref03_zeros.l0 kq a0 x3_1 = some r) ∧ Aside0 (kq ≤ k) ∧ Drawn0 w w')
  case atStart => exact ⟨(0), (by first | rfl | (simp; done) | (simp [*]; done)), H', ⟨Nat.le_refl _⟩, by repeat (first | exact Drawn0.refl _ | apply Drawn0.step)⟩
  case round =>
    clear H'
    obtain ⟨x3_1, rfl, HA, HK1, ⟨m1, rfl⟩⟩ := hrel
    cases gk with
    | zero => exact absurd HA.out (by simp [triremeref03_zeros.l0])
    | succ k1 =>
      have H := HA.out
      clear HA
      simp only [triremeref03_zeros.l0] at H
      by_cases c2 : x3_1 < (a0.size : Int)
      · rw [if_pos c2] at H
        have c2b0 : decide (x3_1 < (a0.size : Int)) = true := decide_eq_true c2
        clear c2
        by_cases c3 : 0 ≤ x3_1
        · rw [if_pos c3] at H
          have c3b0 : decide (0 ≤ x3_1) = true := decide_eq_true c3
          clear c3
          by_cases c5 : (bt a0 x3_1) = 48
          · rw [if_pos c5] at H
            have c5b0 : ((bt a0 x3_1) == 48) = true := beq_iff_eq.mpr c5
            have c5b1 : ((bt a0 x3_1) != 48) = false := bne_eq_false_iff_eq.mpr c5
            clear c5
            have H' := Aside0.mk H
            clear H
            have p4 : 0 ≤ (x3_1 : Int) := of_decide_eq_true (by first | (with_reducible assumption) | assumption)
            have q4 : x3_1 < (a0.size : Int) := of_decide_eq_true (by first | (with_reducible assumption) | assumption)
            have hx4 := bt_at a0 x3_1
            replace p4 := eq_true p4
            replace q4 := eq_true q4
            (try (have qz4 := q4; rw [ByteArray.size_extract, Nat.min_self] at qz4))
            go_wp2
            go_roundg k1
            case measure => have := HK1.out; omega
            case rel => exact ⟨(wrap64 (x3_1 + 1)), (by first | rfl | (simp; done) | (simp [*]; done)), H', ⟨by have := HK1.out; omega⟩, by repeat (first | exact Drawn0.refl _ | apply Drawn0.step)⟩
          · rw [if_neg c5] at H
            have c5b0 : ((bt a0 x3_1) == 48) = false := beq_eq_false_iff_ne.mpr c5
            have c5b1 : ((bt a0 x3_1) != 48) = true := bne_iff_ne.mpr c5
            obtain rfl := Option.some.inj H
            have p4 : 0 ≤ (x3_1 : Int) := of_decide_eq_true (by first | (with_reducible assumption) | assumption)
            have q4 : x3_1 < (a0.size : Int) := of_decide_eq_true (by first | (with_reducible assumption) | assumption)
            have hx4 := bt_at a0 x3_1
            replace p4 := eq_true p4
            replace q4 := eq_true q4
            (try (have qz4 := q4; rw [ByteArray.size_extract, Nat.min_self] at qz4))
            go_wp2
            go_ret
            exact ⟨by first | rfl | (simp; done) | (simp [*]; done), by repeat (first | exact Drawn0.refl _ | apply Drawn0.step)⟩
        · rw [if_neg c3] at H
          exact absurd H (by simp)
      · rw [if_neg c2] at H
        have c2b0 : decide (x3_1 < (a0.size : Int)) = false := decide_eq_false c2
        clear c2
        obtain rfl := Option.some.inj H
        go_wp2
        go_ret
        exact ⟨by first | rfl | (simp; done) | (simp [*]; done), by repeat (first | exact Drawn0.refl _ | apply Drawn0.step)⟩
end Go.Proofs.Ytpmmiabcfnejmaa.H
end
section
namespace Go.Proofs.Ytpmmiabcfnejmaa.H
open Go.RowKit Go.Proofs.YtpmmiabcfnejmaaW.PrintWords Go.Proofs.YtpmmiabcfnejmaaW.PrintLast Go.Proofs.YtpmmiabcfnejmaaW.PrintMore
attribute [local go_sem] max2_int min2_int max_two min_two max_three min_three max_four min_four   -- for this text's walks alone
set_option linter.unusedVariables false
set_option linter.unusedSimpArgs false
def ramTail (k : Nat) (a0 : ByteArray) (a1 n : Int) (part rest : ByteArray) : Option (Int × Int) :=
  (triremeref03_unit.f rest).bind fun u => if u = 0 then some (0, 9) else
    if part.size ≤ 3 then (triremeref03_product.f k (a0.extract 0 n.toNat ++ (part ++ ⟨#[48, 48, 48]⟩).extract 0 3) u).bind fun t =>
      if t.size ≤ 1000000000 then (triremeref03_zeros.f k ((⟨#[48, 48, 48, 48, 48, 48]⟩ ++ t).extract ((⟨#[48, 48, 48, 48, 48, 48]⟩ ++ t).size - a1).toNat (⟨#[48, 48, 48, 48, 48, 48]⟩ ++ t).size)).bind fun z =>
        if z = true then (triremeref03_value.f k ((⟨#[48, 48, 48, 48, 48, 48]⟩ ++ t).extract 0 ((⟨#[48, 48, 48, 48, 48, 48]⟩ ++ t).size - a1).toNat)).bind fun o => if o > 1125899906842624 then some (0, 10) else some (o, 0)
        else some (0, 8)
      else none
    else none
def triremeref03_amount.f (k : Nat) (a0 : ByteArray) (a1 : Int) : Option (Int × Int) :=
  if a0.size ≤ 1000000 ∧ 0 ≤ a1 ∧ a1 ≤ 6 then
    (triremeref03_digits.f k a0).bind fun n => if n = 0 then some (0, 8) else
      if 0 ≤ n ∧ n ≤ a0.size then
        if 0 < (a0.extract n.toNat a0.size).size then
          if bt (a0.extract n.toNat a0.size) 0 = 46 then
            (triremeref03_digits.f k ((a0.extract n.toNat a0.size).extract 1 (a0.extract n.toNat a0.size).size)).bind fun m =>
              if m < 1 then some (0, 8) else if 3 < m then some (0, 8) else
                if 1 + m ≤ (a0.extract n.toNat a0.size).size then ramTail k a0 a1 n ((a0.extract n.toNat a0.size).extract 1 (1 + m).toNat) ((a0.extract n.toNat a0.size).extract (1 + m).toNat (a0.extract n.toNat a0.size).size) else none
          else ramTail k a0 a1 n ⟨#[]⟩ (a0.extract n.toNat a0.size)
        else ramTail k a0 a1 n ⟨#[]⟩ (a0.extract n.toNat a0.size)
      else none
  else none
theorem ramTail_mono (k : Nat) (a0 : ByteArray) (a1 n : Int) (part rest : ByteArray) : LeO (ramTail k a0 a1 n part rest) (ramTail (k + 1) a0 a1 n part rest) := by
  unfold ramTail
  repeat' first
    | (with_reducible exact triremeref03_product.mono _ _ _)
    | (with_reducible exact triremeref03_zeros.mono _ _)
    | (with_reducible exact triremeref03_value.mono _ _)
    | (with_reducible exact LeO.refl _)
    | (with_reducible refine LeO.ite ?_ ?_)
    | (with_reducible refine LeO.bind ?_ (fun _ => ?_))
theorem triremeref03_amount.mono : ∀ a0 a1 k, LeO (triremeref03_amount.f k a0 a1) (triremeref03_amount.f (k + 1) a0 a1) := by
  intro a0 a1 k
  unfold triremeref03_amount.f
  repeat' first
    | (with_reducible exact ramTail_mono _ _ _ _ _ _)
    | (with_reducible exact triremeref03_digits.mono _ _)
    | (with_reducible exact LeO.refl _)
    | (with_reducible refine LeO.ite ?_ ?_)
    | (with_reducible refine LeO.bind ?_ (fun _ => ?_))
/-- What the tail's steps compute, as facts about texts that stand for themselves. -/
inductive RamTail (k : Nat) (a0 : ByteArray) (a1 n : Int) (part rest : ByteArray) (r1 r2 : Int) : Prop
  | bad (h : triremeref03_unit.f rest = some 0) (h1 : r1 = 0) (h2 : r2 = 9)
  | run (u : Int) (z : Bool) (whole p3 part3 mid t all zs vs : ByteArray) (cut : Int) (hu : triremeref03_unit.f rest = some u) (hu0 : (u == 0) = false)
      (f1 : ∀ W, (Instr.slice 9 (.string a0) none (some (.int .i64 n)) none).run Try.prog W = .ok (.string whole) W)
      (f2 : ∀ W, (Op.stringOp .add part ⟨#[48, 48, 48]⟩).run Try.prog W = .ok (.string p3) W)
      (f3 : ∀ W, (Instr.slice 9 (.string p3) none (some (.int .i64 3)) none).run Try.prog W = .ok (.string part3) W)
      (f4 : ∀ W, (Op.stringOp .add whole part3).run Try.prog W = .ok (.string mid) W)
      (f5 : triremeref03_product.f k mid u = some t)
      (f6 : ∀ W, (Op.stringOp .add ⟨#[48, 48, 48, 48, 48, 48]⟩ t).run Try.prog W = .ok (.string all) W)
      (f7 : wrap64 ((all.size : Int) - a1) = cut)
      (f8 : ∀ W, (Instr.slice 9 (.string all) (some (.int .i64 cut)) none none).run Try.prog W = .ok (.string zs) W)
      (f9 : triremeref03_zeros.f k zs = some z)
      (f10 : ∀ W, (Instr.slice 9 (.string all) none (some (.int .i64 cut)) none).run Try.prog W = .ok (.string vs) W)
      (f11 : z = false ∧ r1 = 0 ∧ r2 = 8 ∨ z = true ∧ ∃ o, triremeref03_value.f k vs = some o ∧ (1125899906842624 < o ∧ r1 = 0 ∧ r2 = 10 ∨ ¬ 1125899906842624 < o ∧ r1 = o ∧ r2 = 0)) : RamTail k a0 a1 n part rest r1 r2
theorem ramTail_run (k : Nat) (a0 : ByteArray) (a1 n : Int) (part rest : ByteArray) (r1 r2 : Int) (ha : a0.size ≤ 1000000) (hn : 0 ≤ n ∧ n ≤ a0.size) (h1 : 0 ≤ a1 ∧ a1 ≤ 6) (h : ramTail k a0 a1 n part rest = some (r1, r2)) : RamTail k a0 a1 n part rest r1 r2 := by
  unfold ramTail at h
  obtain ⟨u, hu, h⟩ := Option.bind_eq_some_iff.mp h
  by_cases hz : u = 0
  · rw [if_pos hz] at h
    simp only [Option.some.injEq, Prod.mk.injEq] at h
    exact .bad (hz ▸ hu) h.1.symm h.2.symm
  · rw [if_neg hz] at h
    split at h
    case isFalse => cases h
    case isTrue hp =>
      obtain ⟨t, ht, h⟩ := Option.bind_eq_some_iff.mp h
      split at h
      case isFalse => cases h
      case isTrue hts =>
        obtain ⟨z, hzz, h⟩ := Option.bind_eq_some_iff.mp h
        have e1 : (a0.extract 0 n.toNat).size = n.toNat := by rw [ByteArray.size_extract]; omega
        have e2 : (part ++ (⟨#[48, 48, 48]⟩ : ByteArray)).size = part.size + 3 := by rw [ByteArray.size_append]; rfl
        have e3 : ((part ++ (⟨#[48, 48, 48]⟩ : ByteArray)).extract 0 3).size = 3 := by rw [ByteArray.size_extract, e2]; omega
        have e4 : ((⟨#[48, 48, 48, 48, 48, 48]⟩ : ByteArray) ++ t).size = 6 + t.size := by rw [ByteArray.size_append]; rfl
        refine .run u z _ _ _ _ t _ _ _ _ hu (beq_eq_false_iff_ne.mpr hz) (fun W => tx_hi W 9 Try.underlying9 a0 n hn.1 hn.2) (fun W => tx_cat W part _ (by show part.size + 3 ≤ _; omega))
          (fun W => tx_hi W 9 Try.underlying9 _ 3 (by omega) (by rw [e2]; omega)) (fun W => tx_cat W _ _ (by rw [e1]; have := e3; show n.toNat + ((part ++ _).extract 0 3).size ≤ _; omega)) ht (fun W => tx_cat W _ t (by show 6 + t.size ≤ _; omega))
          (show wrap64 _ = ((((⟨#[48, 48, 48, 48, 48, 48]⟩ : ByteArray) ++ t).size : Int) - a1) by unfold wrap64; omega) (fun W => tx_lo W 9 Try.underlying9 _ _ (by omega) (by omega)) hzz (fun W => tx_hi W 9 Try.underlying9 _ _ (by omega) (by omega)) ?_
        cases z with
        | false =>
          rw [if_neg (by simp)] at h
          simp only [Option.some.injEq, Prod.mk.injEq] at h
          exact .inl ⟨rfl, h.1.symm, h.2.symm⟩
        | true =>
          rw [if_pos rfl] at h
          obtain ⟨o, ho, h⟩ := Option.bind_eq_some_iff.mp h
          refine .inr ⟨rfl, o, ho, ?_⟩
          split at h
          case isTrue hm =>
            simp only [Option.some.injEq, Prod.mk.injEq] at h
            exact .inl ⟨hm, h.1.symm, h.2.symm⟩
          case isFalse hm =>
            simp only [Option.some.injEq, Prod.mk.injEq] at h
            exact .inr ⟨hm, h.1.symm, h.2.symm⟩
set_option maxHeartbeats 8000000 in
set_option maxRecDepth 100000 in
theorem triremeref03_amount.calls (k : Nat) (a0 : ByteArray) (a1 : Int) (r1 : Int) (r2 : Int) (w : World) (h : triremeref03_amount.f k a0 a1 = some (r1, r2)) :
    Calls Try.prog 21 #[.string a0, .int .i64 a1] w fun e w' => e = .returned (.tuple #[.int .i64 r1, .int .i64 r2]) ∧ Below w.heap.size w w' := by
  unfold triremeref03_amount.f at h
  split at h
  case isFalse => cases h
  case isTrue hg =>
    obtain ⟨hs, hl0, hl6⟩ := hg
    obtain ⟨n, hn, h⟩ := Option.bind_eq_some_iff.mp h
    have HN := Aside0.mk hn
    clear hn
    by_cases hz : n = 0
    · rw [if_pos hz] at h
      subst hz
      simp only [Option.some.injEq, Prod.mk.injEq] at h
      obtain ⟨rfl, rfl⟩ := h
      go_enter Try.func21, Try.ntmps21
      go_wp2_with (first | (go_at_call 24; (with_reducible refine (triremeref03_digits.calls k a0 0 _ HN.out).mono ?_); rintro e w' ⟨rfl, ⟨nd, rfl⟩⟩))
      refine bodyPost_ret (results_list (rs := [.tmp 4, .tmp 5]) rfl (by simp) (.tmp (.tmp .nil))) rfl ?_
      exact ⟨by first | rfl | (simp; done) | (simp [*]; done), by repeat (first | exact HB.out | exact HB2.out | exact Below.refl _ _ | apply pw_below_drewN)⟩
    · rw [if_neg hz] at h
      have hz0 : (n == 0) = false := beq_eq_false_iff_ne.mpr hz
      split at h
      case isFalse => cases h
      case isTrue hn =>
        have g1 := fun W => tx_lo (P := Try.prog) W 9 Try.underlying9 a0 n hn.1 hn.2
        have HSZ : (a0.extract n.toNat a0.size).size ≤ 1000000 := by rw [ByteArray.size_extract]; omega
        generalize a0.extract n.toNat a0.size = rest at h g1 HSZ
        clear hz
        by_cases hr : 0 < rest.size
        · rw [if_pos hr] at h
          have hr1 : decide ((0 : Int) < (rest.size : Int)) = true := decide_eq_true (by omega)
          have hr2 : decide (0 < rest.size) = true := decide_eq_true hr
          have g2 := fun W => tx_at (P := Try.prog) W 9 Try.underlying9 rest 0 (by omega) (by omega)
          by_cases hd : bt rest 0 = 46
          · rw [if_pos hd] at h
            rw [hd] at g2
            have g3 := fun W => tx_lo (P := Try.prog) W 9 Try.underlying9 rest 1 (by omega) (by omega)
            rw [show (1 : Int).toNat = 1 from rfl] at g3
            generalize rest.extract 1 rest.size = rest1 at h g3
            obtain ⟨m, hm, h⟩ := Option.bind_eq_some_iff.mp h
            have HM := Aside0.mk hm
            clear hm
            by_cases h1 : m < 1
            · rw [if_pos h1] at h
              have h1d : decide (m < 1) = true := decide_eq_true h1
              simp only [Option.some.injEq, Prod.mk.injEq] at h
              obtain ⟨rfl, rfl⟩ := h
              clear hr h1 hs hl0 hl6 hn HSZ hd
              go_enter Try.func21, Try.ntmps21
              go_wp2_with (first | (go_at_call 24; first | ((with_reducible refine (triremeref03_digits.calls k a0 n _ HN.out).mono ?_); rintro e w' ⟨rfl, ⟨nd, rfl⟩⟩) | ((with_reducible refine (triremeref03_digits.calls k rest1 m _ HM.out).mono ?_); rintro e w' ⟨rfl, ⟨nd, rfl⟩⟩)))
              refine bodyPost_ret (results_list (rs := [.tmp 4, .tmp 5]) rfl (by simp) (.tmp (.tmp .nil))) rfl ?_
              exact ⟨by first | rfl | (simp; done) | (simp [*]; done), by repeat (first | exact HB.out | exact HB2.out | exact Below.refl _ _ | apply pw_below_drewN)⟩
            · rw [if_neg h1] at h
              have h1d : decide (m < 1) = false := decide_eq_false h1
              by_cases h3 : 3 < m
              · rw [if_pos h3] at h
                have h3d : decide (3 < m) = true := decide_eq_true h3
                simp only [Option.some.injEq, Prod.mk.injEq] at h
                obtain ⟨rfl, rfl⟩ := h
                clear hr h1 h3 hs hl0 hl6 hn HSZ hd
                go_enter Try.func21, Try.ntmps21
                go_wp2_with (first | (go_at_call 24; first | ((with_reducible refine (triremeref03_digits.calls k a0 n _ HN.out).mono ?_); rintro e w' ⟨rfl, ⟨nd, rfl⟩⟩) | ((with_reducible refine (triremeref03_digits.calls k rest1 m _ HM.out).mono ?_); rintro e w' ⟨rfl, ⟨nd, rfl⟩⟩)))
                refine bodyPost_ret (results_list (rs := [.tmp 4, .tmp 5]) rfl (by simp) (.tmp (.tmp .nil))) rfl ?_
                exact ⟨by first | rfl | (simp; done) | (simp [*]; done), by repeat (first | exact HB.out | exact HB2.out | exact Below.refl _ _ | apply pw_below_drewN)⟩
              · rw [if_neg h3] at h
                have h3d : decide (3 < m) = false := decide_eq_false h3
                split at h
                case isFalse => cases h
                case isTrue hb =>
                  have hw : wrap64 (1 + m) = 1 + m := by unfold wrap64; omega
                  have g4 := fun W => run_slice_string (P := Try.prog) W 9 rest .i64 .i64 1 (1 + m) Try.underlying9 (by omega) (by omega) hb
                  have g5 := fun W => tx_lo (P := Try.prog) W 9 Try.underlying9 rest (1 + m) (by omega) hb
                  rw [show (1 : Int).toNat = 1 from rfl] at g4
                  have HT := Aside0.mk (ramTail_run k a0 a1 n _ _ r1 r2 hs hn ⟨hl0, hl6⟩ h)
                  clear h
                  generalize rest.extract 1 (1 + m).toNat = part at HT g4
                  generalize rest.extract (1 + m).toNat rest.size = rest2 at HT g5
                  generalize hq : 1 + m = m1 at g4 g5 HT
                  have hw2 : wrap64 (1 + m) = m1 := by rw [← hq]; exact hw
                  clear hw hq
                  clear hr h1 h3 hs hl0 hl6 hn HSZ hd hb
                  cases HT.out with
                  | bad hu h1 h2 =>
                    subst h1 h2
                    have HU := Aside0.mk hu
                    clear hu HT
                    go_enter Try.func21, Try.ntmps21
                    go_wp2_with (first | (go_at_call 24; first | ((with_reducible refine (triremeref03_digits.calls k a0 n _ HN.out).mono ?_); rintro e w' ⟨rfl, ⟨nd, rfl⟩⟩) | ((with_reducible refine (triremeref03_digits.calls k rest1 m _ HM.out).mono ?_); rintro e w' ⟨rfl, ⟨nd, rfl⟩⟩)) | (go_at_call 31; (with_reducible refine (triremeref03_unit.calls rest2 0 _ HU.out).mono ?_); rintro e w' ⟨rfl, ⟨nd, rfl⟩⟩))
                    refine bodyPost_ret (results_list (rs := [.tmp 4, .tmp 5]) rfl (by simp) (.tmp (.tmp .nil))) rfl ?_
                    exact ⟨by first | rfl | (simp; done) | (simp [*]; done), by repeat (first | exact HB.out | exact HB2.out | exact Below.refl _ _ | apply pw_below_drewN)⟩
                  | run u z whole p3 part3 mid t all zs vs cut hu hu0 f1 f2 f3 f4 f5 f6 f7 f8 f9 f10 f11 =>
                    have HU := Aside0.mk hu
                    have H5 := Aside0.mk f5
                    have H9 := Aside0.mk f9
                    have H11 := Aside0.mk f11
                    clear hu f5 f9 f11 HT
                    go_enter Try.func21, Try.ntmps21
                    go_wp2_with (first | (go_at_call 24; first | ((with_reducible refine (triremeref03_digits.calls k a0 n _ HN.out).mono ?_); rintro e w' ⟨rfl, ⟨nd, rfl⟩⟩) | ((with_reducible refine (triremeref03_digits.calls k rest1 m _ HM.out).mono ?_); rintro e w' ⟨rfl, ⟨nd, rfl⟩⟩)) | (go_at_call 31; (with_reducible refine (triremeref03_unit.calls rest2 u _ HU.out).mono ?_); rintro e w' ⟨rfl, ⟨nd, rfl⟩⟩))
                    (try simp only [Act.put])
                    refine wp_region_bw (by kernel_rfl) (by kernel_rfl) ?_
                    repeat (go_big_quiet_step (first | (go_at_call 32; exact Calls.bw (triremeref03_product.calls k mid u t _ H5.out))))
                    refine wpQuiet_nil ?_
                    intro q
                    have HB := Aside0.mk (below_step (pw_below_drewN (Below.refl w.heap.size w) _) q.2)
                    rcases H11.out with ⟨rfl, rfl, rfl⟩ | ⟨rfl, o, ho, hh⟩
                    · clear H11
                      go_wp2_with (first | (go_at_call 33; (with_reducible refine (triremeref03_zeros.calls k zs false _ H9.out).mono ?_); rintro e w' ⟨rfl, ⟨nd, rfl⟩⟩))
                      refine bodyPost_ret (results_list (rs := [.tmp 4, .tmp 5]) rfl (by simp) (.tmp (.tmp .nil))) rfl ?_
                      exact ⟨by first | rfl | (simp; done) | (simp [*]; done), by repeat (first | exact HB.out | exact HB2.out | exact Below.refl _ _ | apply pw_below_drewN)⟩
                    · clear H11
                      have HO := Aside0.mk ho
                      clear ho
                      rcases hh with ⟨hm, rfl, rfl⟩ | ⟨hm, rfl, rfl⟩
                      · have hd : decide (1125899906842624 < o) = true := decide_eq_true hm
                        clear hm
                        go_wp2_with (first | (go_at_call 33; (with_reducible refine (triremeref03_zeros.calls k zs true _ H9.out).mono ?_); rintro e w' ⟨rfl, ⟨nd, rfl⟩⟩) | (go_at_call 25; (with_reducible refine (triremeref03_value.calls k vs o _ HO.out).mono ?_); rintro e w' ⟨rfl, hb2⟩; have HB2 := Aside0.mk (below_step (pw_below_drewN HB.out _) hb2); clear hb2))
                        refine bodyPost_ret (results_list (rs := [.tmp 4, .tmp 5]) rfl (by simp) (.tmp (.tmp .nil))) rfl ?_
                        exact ⟨by first | rfl | (simp; done) | (simp [*]; done), by repeat (first | exact HB.out | exact HB2.out | exact Below.refl _ _ | apply pw_below_drewN)⟩
                      · have hd : decide (1125899906842624 < r1) = false := decide_eq_false (by omega)
                        clear hm
                        go_wp2_with (first | (go_at_call 33; (with_reducible refine (triremeref03_zeros.calls k zs true _ H9.out).mono ?_); rintro e w' ⟨rfl, ⟨nd, rfl⟩⟩) | (go_at_call 25; (with_reducible refine (triremeref03_value.calls k vs r1 _ HO.out).mono ?_); rintro e w' ⟨rfl, hb2⟩; have HB2 := Aside0.mk (below_step (pw_below_drewN HB.out _) hb2); clear hb2))
                        refine bodyPost_ret (results_list (rs := [.tmp 4, .tmp 5]) rfl (by simp) (.tmp (.tmp .nil))) rfl ?_
                        exact ⟨by first | rfl | (simp; done) | (simp [*]; done), by repeat (first | exact HB.out | exact HB2.out | exact Below.refl _ _ | apply pw_below_drewN)⟩
          · rw [if_neg hd] at h
            have hde : (bt rest 0 == 46) = false := beq_eq_false_iff_ne.mpr hd
            have HT := Aside0.mk (ramTail_run k a0 a1 n _ _ r1 r2 hs hn ⟨hl0, hl6⟩ h)
            clear h
            generalize bt rest 0 = c at *
            clear hr hs hl0 hl6 hn HSZ hd
            cases HT.out with
            | bad hu h1 h2 =>
              subst h1 h2
              have HU := Aside0.mk hu
              clear hu HT
              go_enter Try.func21, Try.ntmps21
              go_wp2_with (first | (go_at_call 24; (with_reducible refine (triremeref03_digits.calls k a0 n _ HN.out).mono ?_); rintro e w' ⟨rfl, ⟨nd, rfl⟩⟩) | (go_at_call 31; (with_reducible refine (triremeref03_unit.calls rest 0 _ HU.out).mono ?_); rintro e w' ⟨rfl, ⟨nd, rfl⟩⟩))
              refine bodyPost_ret (results_list (rs := [.tmp 4, .tmp 5]) rfl (by simp) (.tmp (.tmp .nil))) rfl ?_
              exact ⟨by first | rfl | (simp; done) | (simp [*]; done), by repeat (first | exact HB.out | exact HB2.out | exact Below.refl _ _ | apply pw_below_drewN)⟩
            | run u z whole p3 part3 mid t all zs vs cut hu hu0 f1 f2 f3 f4 f5 f6 f7 f8 f9 f10 f11 =>
              have HU := Aside0.mk hu
              have H5 := Aside0.mk f5
              have H9 := Aside0.mk f9
              have H11 := Aside0.mk f11
              clear hu f5 f9 f11 HT
              go_enter Try.func21, Try.ntmps21
              go_wp2_with (first | (go_at_call 24; (with_reducible refine (triremeref03_digits.calls k a0 n _ HN.out).mono ?_); rintro e w' ⟨rfl, ⟨nd, rfl⟩⟩) | (go_at_call 31; (with_reducible refine (triremeref03_unit.calls rest u _ HU.out).mono ?_); rintro e w' ⟨rfl, ⟨nd, rfl⟩⟩))
              (try simp only [Act.put])
              refine wp_region_bw (by kernel_rfl) (by kernel_rfl) ?_
              repeat (go_big_quiet_step (first | (go_at_call 32; exact Calls.bw (triremeref03_product.calls k mid u t _ H5.out))))
              refine wpQuiet_nil ?_
              intro q
              have HB := Aside0.mk (below_step (pw_below_drewN (Below.refl w.heap.size w) _) q.2)
              rcases H11.out with ⟨rfl, rfl, rfl⟩ | ⟨rfl, o, ho, hh⟩
              · clear H11
                go_wp2_with (first | (go_at_call 33; (with_reducible refine (triremeref03_zeros.calls k zs false _ H9.out).mono ?_); rintro e w' ⟨rfl, ⟨nd, rfl⟩⟩))
                refine bodyPost_ret (results_list (rs := [.tmp 4, .tmp 5]) rfl (by simp) (.tmp (.tmp .nil))) rfl ?_
                exact ⟨by first | rfl | (simp; done) | (simp [*]; done), by repeat (first | exact HB.out | exact HB2.out | exact Below.refl _ _ | apply pw_below_drewN)⟩
              · clear H11
                have HO := Aside0.mk ho
                clear ho
                rcases hh with ⟨hm, rfl, rfl⟩ | ⟨hm, rfl, rfl⟩
                · have hd : decide (1125899906842624 < o) = true := decide_eq_true hm
                  clear hm
                  go_wp2_with (first | (go_at_call 33; (with_reducible refine (triremeref03_zeros.calls k zs true _ H9.out).mono ?_); rintro e w' ⟨rfl, ⟨nd, rfl⟩⟩) | (go_at_call 25; (with_reducible refine (triremeref03_value.calls k vs o _ HO.out).mono ?_); rintro e w' ⟨rfl, hb2⟩; have HB2 := Aside0.mk (below_step (pw_below_drewN HB.out _) hb2); clear hb2))
                  refine bodyPost_ret (results_list (rs := [.tmp 4, .tmp 5]) rfl (by simp) (.tmp (.tmp .nil))) rfl ?_
                  exact ⟨by first | rfl | (simp; done) | (simp [*]; done), by repeat (first | exact HB.out | exact HB2.out | exact Below.refl _ _ | apply pw_below_drewN)⟩
                · have hd : decide (1125899906842624 < r1) = false := decide_eq_false (by omega)
                  clear hm
                  go_wp2_with (first | (go_at_call 33; (with_reducible refine (triremeref03_zeros.calls k zs true _ H9.out).mono ?_); rintro e w' ⟨rfl, ⟨nd, rfl⟩⟩) | (go_at_call 25; (with_reducible refine (triremeref03_value.calls k vs r1 _ HO.out).mono ?_); rintro e w' ⟨rfl, hb2⟩; have HB2 := Aside0.mk (below_step (pw_below_drewN HB.out _) hb2); clear hb2))
                  refine bodyPost_ret (results_list (rs := [.tmp 4, .tmp 5]) rfl (by simp) (.tmp (.tmp .nil))) rfl ?_
                  exact ⟨by first | rfl | (simp; done) | (simp [*]; done), by repeat (first | exact HB.out | exact HB2.out | exact Below.refl _ _ | apply pw_below_drewN)⟩
        · rw [if_neg hr] at h
          have hr1 : decide ((0 : Int) < (rest.size : Int)) = false := decide_eq_false (by omega)
          have hr2 : decide (0 < rest.size) = false := decide_eq_false hr
          have HT := Aside0.mk (ramTail_run k a0 a1 n _ _ r1 r2 hs hn ⟨hl0, hl6⟩ h)
          clear h
          clear hr hs hl0 hl6 hn HSZ
          cases HT.out with
          | bad hu h1 h2 =>
            subst h1 h2
            have HU := Aside0.mk hu
            clear hu HT
            go_enter Try.func21, Try.ntmps21
            go_wp2_with (first | (go_at_call 24; (with_reducible refine (triremeref03_digits.calls k a0 n _ HN.out).mono ?_); rintro e w' ⟨rfl, ⟨nd, rfl⟩⟩) | (go_at_call 31; (with_reducible refine (triremeref03_unit.calls rest 0 _ HU.out).mono ?_); rintro e w' ⟨rfl, ⟨nd, rfl⟩⟩))
            refine bodyPost_ret (results_list (rs := [.tmp 4, .tmp 5]) rfl (by simp) (.tmp (.tmp .nil))) rfl ?_
            exact ⟨by first | rfl | (simp; done) | (simp [*]; done), by repeat (first | exact HB.out | exact HB2.out | exact Below.refl _ _ | apply pw_below_drewN)⟩
          | run u z whole p3 part3 mid t all zs vs cut hu hu0 f1 f2 f3 f4 f5 f6 f7 f8 f9 f10 f11 =>
            have HU := Aside0.mk hu
            have H5 := Aside0.mk f5
            have H9 := Aside0.mk f9
            have H11 := Aside0.mk f11
            clear hu f5 f9 f11 HT
            go_enter Try.func21, Try.ntmps21
            go_wp2_with (first | (go_at_call 24; (with_reducible refine (triremeref03_digits.calls k a0 n _ HN.out).mono ?_); rintro e w' ⟨rfl, ⟨nd, rfl⟩⟩) | (go_at_call 31; (with_reducible refine (triremeref03_unit.calls rest u _ HU.out).mono ?_); rintro e w' ⟨rfl, ⟨nd, rfl⟩⟩))
            (try simp only [Act.put])
            refine wp_region_bw (by kernel_rfl) (by kernel_rfl) ?_
            repeat (go_big_quiet_step (first | (go_at_call 32; exact Calls.bw (triremeref03_product.calls k mid u t _ H5.out))))
            refine wpQuiet_nil ?_
            intro q
            have HB := Aside0.mk (below_step (pw_below_drewN (Below.refl w.heap.size w) _) q.2)
            rcases H11.out with ⟨rfl, rfl, rfl⟩ | ⟨rfl, o, ho, hh⟩
            · clear H11
              go_wp2_with (first | (go_at_call 33; (with_reducible refine (triremeref03_zeros.calls k zs false _ H9.out).mono ?_); rintro e w' ⟨rfl, ⟨nd, rfl⟩⟩))
              refine bodyPost_ret (results_list (rs := [.tmp 4, .tmp 5]) rfl (by simp) (.tmp (.tmp .nil))) rfl ?_
              exact ⟨by first | rfl | (simp; done) | (simp [*]; done), by repeat (first | exact HB.out | exact HB2.out | exact Below.refl _ _ | apply pw_below_drewN)⟩
            · clear H11
              have HO := Aside0.mk ho
              clear ho
              rcases hh with ⟨hm, rfl, rfl⟩ | ⟨hm, rfl, rfl⟩
              · have hd : decide (1125899906842624 < o) = true := decide_eq_true hm
                clear hm
                go_wp2_with (first | (go_at_call 33; (with_reducible refine (triremeref03_zeros.calls k zs true _ H9.out).mono ?_); rintro e w' ⟨rfl, ⟨nd, rfl⟩⟩) | (go_at_call 25; (with_reducible refine (triremeref03_value.calls k vs o _ HO.out).mono ?_); rintro e w' ⟨rfl, hb2⟩; have HB2 := Aside0.mk (below_step (pw_below_drewN HB.out _) hb2); clear hb2))
                refine bodyPost_ret (results_list (rs := [.tmp 4, .tmp 5]) rfl (by simp) (.tmp (.tmp .nil))) rfl ?_
                exact ⟨by first | rfl | (simp; done) | (simp [*]; done), by repeat (first | exact HB.out | exact HB2.out | exact Below.refl _ _ | apply pw_below_drewN)⟩
              · have hd : decide (1125899906842624 < r1) = false := decide_eq_false (by omega)
                clear hm
                go_wp2_with (first | (go_at_call 33; (with_reducible refine (triremeref03_zeros.calls k zs true _ H9.out).mono ?_); rintro e w' ⟨rfl, ⟨nd, rfl⟩⟩) | (go_at_call 25; (with_reducible refine (triremeref03_value.calls k vs r1 _ HO.out).mono ?_); rintro e w' ⟨rfl, hb2⟩; have HB2 := Aside0.mk (below_step (pw_below_drewN HB.out _) hb2); clear hb2))
                refine bodyPost_ret (results_list (rs := [.tmp 4, .tmp 5]) rfl (by simp) (.tmp (.tmp .nil))) rfl ?_
                exact ⟨by first | rfl | (simp; done) | (simp [*]; done), by repeat (first | exact HB.out | exact HB2.out | exact Below.refl _ _ | apply pw_below_drewN)⟩
end Go.Proofs.Ytpmmiabcfnejmaa.H
end
section
namespace Go.Proofs.Ytpmmiabcfnejmaa.H
open Go.RowKit Go.Proofs.YtpmmiabcfnejmaaW.PrintWords Go.Proofs.YtpmmiabcfnejmaaW.PrintLast Go.Proofs.YtpmmiabcfnejmaaW.PrintMore
attribute [local go_sem] max2_int min2_int max_two min_two max_three min_three max_four min_four   -- for this text's walks alone
set_option linter.unusedVariables false
set_option linter.unusedSimpArgs false
def triremeref03_Parse.f (k : Nat) (a0 : ByteArray) : Option (Int × Int) := (triremeref03_amount.f k a0 6).bind fun bt169 => (some (bt169.1, bt169.2))
theorem triremeref03_Parse.mono : ∀ a0 k, LeO (triremeref03_Parse.f k a0) (triremeref03_Parse.f (k + 1) a0) := by
  intro a0 k
  unfold triremeref03_Parse.f
  repeat' first
      | (with_reducible exact triremeref03_amount.mono _ _ _)
      | (with_reducible exact LeO.refl _)
      | (with_reducible exact LeO.none _)
      | (with_reducible refine LeO.ite ?_ ?_)
      | (with_reducible refine LeO.bind ?_ (fun _ => ?_))
      | exact triremeref03_amount.mono _ _ _
      | exact LeO.none _
      | refine LeO.ite ?_ ?_
      | refine LeO.bind ?_ (fun _ => ?_)
set_option maxHeartbeats 8000000 in
set_option maxRecDepth 100000 in
theorem triremeref03_Parse.calls (k : Nat) (a0 : ByteArray) (r1 : Int) (r2 : Int) (w : World) (h : triremeref03_Parse.f k a0 = some (r1, r2)) :
    Calls Try.prog 10 #[.string a0] w fun e w' => e = .returned (.tuple #[.int .i64 r1, .int .i64 r2]) ∧ Below w.heap.size w w' := by
  have HB := Aside0.mk (Below.refl w.heap.size w)
  have H : ((triremeref03_amount.f k a0 6).bind fun bt169 => (some (bt169.1, bt169.2))) = some (r1, r2) := h
  clear h
  replace H := Option.bind_eq_some_iff.mp H
  obtain ⟨⟨t169, t170⟩, A20, H⟩ := H
  replace H : (some (t169, t170)) = some (r1, r2) := H
  have A2 := Aside0.mk A20
  clear A20
  simp only [Option.some.injEq, Prod.mk.injEq] at H
  obtain ⟨rfl, rfl⟩ := H
  go_enter Try.func10, Try.ntmps10
  go_wp2_with (first | ((first | ((with_reducible refine gate_callee (f := 21) rfl ?_); refine goesL_ (some 5) rfl rfl Try.func21 (by kernel_rfl) rfl #[.string a0, .int .i64 6] rfl (by (try simp only [List.map_toArray, List.map_cons, List.map_nil]); first | done | rfl | (simp only [List.length_drop, List.length_take]; rfl)) ?_; (with_reducible refine (triremeref03_amount.calls k a0 6 t169 t170 _ A2.out).mono ?_); rintro e w3 ⟨rfl, hb⟩; refine ⟨_, rfl, ?_⟩) | (go_at_call 21; (with_reducible refine (triremeref03_amount.calls k a0 6 t169 t170 _ A2.out).mono ?_); rintro e w3 ⟨rfl, hb⟩)); have n0_ := Aside0.mk (below_step (by repeat (first | (with_reducible first | exact HB.out | apply below_alloc | apply pw_below_drewN | apply below_drew1) | exact HB.out)) hb); clear HB; have HB := n0_; clear n0_; (try clear hb); (try clear hb2); (try clear hk); (try clear hi)))
  go_ret2
  exact ⟨by first | rfl | (simp [errW_none, errW_some] <;> rfl) | (simp [*, errW_none, errW_some] <;> rfl), by repeat (first | (with_reducible first | exact HB.out | apply below_alloc | apply pw_below_drewN | apply below_drew1) | exact HB.out)⟩
end Go.Proofs.Ytpmmiabcfnejmaa.H
end
section
namespace Go.Proofs.Ytpmmiabcfnejmaa.H
open Go.RowKit Go.Proofs.YtpmmiabcfnejmaaW.PrintWords Go.Proofs.YtpmmiabcfnejmaaW.PrintLast Go.Proofs.YtpmmiabcfnejmaaW.PrintMore
attribute [local go_sem] max2_int min2_int max_two min_two max_three min_three max_four min_four   -- for this text's walks alone
set_option linter.unusedVariables false
set_option linter.unusedSimpArgs false
def triremeref03_Milli.f (k : Nat) (a0 : ByteArray) : Option (Int × Int) := (triremeref03_amount.f k a0 3).bind fun bt171 => (some (bt171.1, bt171.2))
theorem triremeref03_Milli.mono : ∀ a0 k, LeO (triremeref03_Milli.f k a0) (triremeref03_Milli.f (k + 1) a0) := by
  intro a0 k
  unfold triremeref03_Milli.f
  repeat' first
      | (with_reducible exact triremeref03_amount.mono _ _ _)
      | (with_reducible exact LeO.refl _)
      | (with_reducible exact LeO.none _)
      | (with_reducible refine LeO.ite ?_ ?_)
      | (with_reducible refine LeO.bind ?_ (fun _ => ?_))
      | exact triremeref03_amount.mono _ _ _
      | exact LeO.none _
      | refine LeO.ite ?_ ?_
      | refine LeO.bind ?_ (fun _ => ?_)
set_option maxHeartbeats 8000000 in
set_option maxRecDepth 100000 in
theorem triremeref03_Milli.calls (k : Nat) (a0 : ByteArray) (r1 : Int) (r2 : Int) (w : World) (h : triremeref03_Milli.f k a0 = some (r1, r2)) :
    Calls Try.prog 12 #[.string a0] w fun e w' => e = .returned (.tuple #[.int .i64 r1, .int .i64 r2]) ∧ Below w.heap.size w w' := by
  have HB := Aside0.mk (Below.refl w.heap.size w)
  have H : ((triremeref03_amount.f k a0 3).bind fun bt171 => (some (bt171.1, bt171.2))) = some (r1, r2) := h
  clear h
  replace H := Option.bind_eq_some_iff.mp H
  obtain ⟨⟨t171, t172⟩, A20, H⟩ := H
  replace H : (some (t171, t172)) = some (r1, r2) := H
  have A2 := Aside0.mk A20
  clear A20
  simp only [Option.some.injEq, Prod.mk.injEq] at H
  obtain ⟨rfl, rfl⟩ := H
  go_enter Try.func12, Try.ntmps12
  go_wp2_with (first | ((first | ((with_reducible refine gate_callee (f := 21) rfl ?_); refine goesL_ (some 5) rfl rfl Try.func21 (by kernel_rfl) rfl #[.string a0, .int .i64 3] rfl (by (try simp only [List.map_toArray, List.map_cons, List.map_nil]); first | done | rfl | (simp only [List.length_drop, List.length_take]; rfl)) ?_; (with_reducible refine (triremeref03_amount.calls k a0 3 t171 t172 _ A2.out).mono ?_); rintro e w3 ⟨rfl, hb⟩; refine ⟨_, rfl, ?_⟩) | (go_at_call 21; (with_reducible refine (triremeref03_amount.calls k a0 3 t171 t172 _ A2.out).mono ?_); rintro e w3 ⟨rfl, hb⟩)); have n0_ := Aside0.mk (below_step (by repeat (first | (with_reducible first | exact HB.out | apply below_alloc | apply pw_below_drewN | apply below_drew1) | exact HB.out)) hb); clear HB; have HB := n0_; clear n0_; (try clear hb); (try clear hb2); (try clear hk); (try clear hi)))
  go_ret2
  exact ⟨by first | rfl | (simp [errW_none, errW_some] <;> rfl) | (simp [*, errW_none, errW_some] <;> rfl), by repeat (first | (with_reducible first | exact HB.out | apply below_alloc | apply pw_below_drewN | apply below_drew1) | exact HB.out)⟩
end Go.Proofs.Ytpmmiabcfnejmaa.H
end
section
namespace Go.Proofs.Ytpmmiabcfnejmaa.H
open Go.RowKit Go.Proofs.YtpmmiabcfnejmaaW.PrintWords Go.Proofs.YtpmmiabcfnejmaaW.PrintLast Go.Proofs.YtpmmiabcfnejmaaW.PrintMore
set_option linter.unusedVariables false
set_option linter.unusedSimpArgs false
theorem one_size (x : Int) : (strOfNums [x]).size = 1 := rfl
theorem pdig_step (x : Nat) (h : x ≤ 9000000000000000000) : (wrap64 (48 + (Int.tmod (x : Int) 10))) % 256 = ((48 + x % 10 : Nat) : Int) := by
  rw [show Int.tmod (x : Int) 10 = ((x % 10 : Nat) : Int) from rfl, wrap_small (by omega) (by omega)]; omega
theorem pdiv_step (x : Nat) (h : x ≤ 9000000000000000000) : wrap64 (Int.tdiv (x : Int) 10) = ((x / 10 : Nat) : Int) := by
  rw [show Int.tdiv (x : Int) 10 = ((x / 10 : Nat) : Int) from rfl, wrap_small (by omega) (by omega)]
end Go.Proofs.Ytpmmiabcfnejmaa.H
end
section
namespace Go.Proofs.Ytpmmiabcfnejmaa.H
open Go.RowKit Go.Proofs.YtpmmiabcfnejmaaW.PrintWords Go.Proofs.YtpmmiabcfnejmaaW.PrintLast Go.Proofs.YtpmmiabcfnejmaaW.PrintMore
attribute [local go_sem] max2_int min2_int max_two min_two max_three min_three max_four min_four   -- for this text's walks alone
set_option linter.unusedVariables false
set_option linter.unusedSimpArgs false
def triremelaw03_QuantParses.f (k : Nat) (a0 : ByteArray) : Option (Bool) := if (a0.size : Int) > 300 then ((triremelaw03_known.f k).bind fun t175 => (some t175)) else ((quant_Parse.f k a0).bind fun bt176 => ((triremeref03_Parse.f k a0).bind fun bt178 => ((quant_Milli.f k a0).bind fun bt180 => ((triremeref03_Milli.f k a0).bind fun bt182 => ((quant_Number.f k a0).bind fun bt184 => ((triremeref03_Number.f k a0).bind fun bt186 => (if bt176.1 = bt178.1 then (if bt176.2 = bt178.2 then (if bt180.1 = bt182.1 then (if bt180.2 = bt182.2 then (if bt184.1 = bt186.1 then (if bt184.2 = bt186.2 then ((triremelaw03_known.f k).bind fun t188 => (some t188)) else (some false)) else (some false)) else (some false)) else (some false)) else (some false)) else (some false))))))))
theorem triremelaw03_QuantParses.mono : ∀ a0 k, LeO (triremelaw03_QuantParses.f k a0) (triremelaw03_QuantParses.f (k + 1) a0) := by
  intro a0 k
  unfold triremelaw03_QuantParses.f
  repeat' first
      | (with_reducible exact quant_Milli.mono _ _)
      | (with_reducible exact quant_Number.mono _ _)
      | (with_reducible exact quant_Parse.mono _ _)
      | (with_reducible exact triremelaw03_known.mono _)
      | (with_reducible exact triremeref03_Milli.mono _ _)
      | (with_reducible exact triremeref03_Number.mono _ _)
      | (with_reducible exact triremeref03_Parse.mono _ _)
      | (with_reducible exact LeO.refl _)
      | (with_reducible exact LeO.none _)
      | (with_reducible refine LeO.ite ?_ ?_)
      | (with_reducible refine LeO.bind ?_ (fun _ => ?_))
      | exact quant_Milli.mono _ _
      | exact quant_Number.mono _ _
      | exact quant_Parse.mono _ _
      | exact triremelaw03_known.mono _
      | exact triremeref03_Milli.mono _ _
      | exact triremeref03_Number.mono _ _
      | exact triremeref03_Parse.mono _ _
      | exact LeO.none _
      | refine LeO.ite ?_ ?_
      | refine LeO.bind ?_ (fun _ => ?_)
set_option maxHeartbeats 8000000 in
set_option maxRecDepth 100000 in
theorem triremelaw03_QuantParses.calls (k : Nat) (a0 : ByteArray) (r : Bool) (w : World) (h : triremelaw03_QuantParses.f k a0 = some r) :
    Calls Try.prog 3 #[.string a0] w fun e w' => e = .returned (.bool r) ∧ Below w.heap.size w w' := by
  have HB := Aside0.mk (Below.refl w.heap.size w)
  have H : (if (a0.size : Int) > 300 then ((triremelaw03_known.f k).bind fun t175 => (some t175)) else ((quant_Parse.f k a0).bind fun bt176 => ((triremeref03_Parse.f k a0).bind fun bt178 => ((quant_Milli.f k a0).bind fun bt180 => ((triremeref03_Milli.f k a0).bind fun bt182 => ((quant_Number.f k a0).bind fun bt184 => ((triremeref03_Number.f k a0).bind fun bt186 => (if bt176.1 = bt178.1 then (if bt176.2 = bt178.2 then (if bt180.1 = bt182.1 then (if bt180.2 = bt182.2 then (if bt184.1 = bt186.1 then (if bt184.2 = bt186.2 then ((triremelaw03_known.f k).bind fun t188 => (some t188)) else (some false)) else (some false)) else (some false)) else (some false)) else (some false)) else (some false))))))))) = some r := h
  clear h
  by_cases c2 : (a0.size : Int) > 300
  · rw [if_pos c2] at H
    have c2b0 : decide (300 < (a0.size : Int)) = true := decide_eq_true c2
    have c2b1 : decide (300 < a0.size) = true := decide_eq_true (by omega)
    clear c2
    replace H := Option.bind_eq_some_iff.mp H
    obtain ⟨t175, A30, H⟩ := H
    replace H : (some t175) = some r := H
    have A3 := Aside0.mk A30
    clear A30
    obtain rfl := Option.some.inj H
    go_enter Try.func3, Try.ntmps3
    go_wp2_with (first | ((first | ((with_reducible refine gate_callee (f := 8) rfl ?_); refine goesL_ (some 18) rfl rfl Try.func8 (by kernel_rfl) rfl #[] rfl (by (try simp only [List.map_toArray, List.map_cons, List.map_nil]); first | done | rfl | (simp only [List.length_drop, List.length_take]; rfl)) ?_; (with_reducible refine (triremelaw03_known.calls k  t175 _ A3.out).mono ?_); rintro e w4 ⟨rfl, hb⟩; refine ⟨_, rfl, ?_⟩) | (go_at_call 8; (with_reducible refine (triremelaw03_known.calls k  t175 _ A3.out).mono ?_); rintro e w4 ⟨rfl, hb⟩)); have n0_ := Aside0.mk (below_step (by repeat (first | (with_reducible first | exact HB.out | apply below_alloc | apply pw_below_drewN | apply below_drew1) | exact HB.out)) hb); clear HB; have HB := n0_; clear n0_; (try clear hb); (try clear hb2); (try clear hk); (try clear hi)))
    go_ret
    exact ⟨by first | rfl | (simp [errW_none, errW_some] <;> rfl) | (simp [*, errW_none, errW_some] <;> rfl), by repeat (first | (with_reducible first | exact HB.out | apply below_alloc | apply pw_below_drewN | apply below_drew1) | exact HB.out)⟩
  · rw [if_neg c2] at H
    have c2b0 : decide (300 < (a0.size : Int)) = false := decide_eq_false c2
    have c2b1 : decide (300 < a0.size) = false := decide_eq_false (by omega)
    clear c2
    replace H := Option.bind_eq_some_iff.mp H
    obtain ⟨⟨t176, t177⟩, A50, H⟩ := H
    replace H : ((triremeref03_Parse.f k a0).bind fun bt178 => ((quant_Milli.f k a0).bind fun bt180 => ((triremeref03_Milli.f k a0).bind fun bt182 => ((quant_Number.f k a0).bind fun bt184 => ((triremeref03_Number.f k a0).bind fun bt186 => (if t176 = bt178.1 then (if t177 = bt178.2 then (if bt180.1 = bt182.1 then (if bt180.2 = bt182.2 then (if bt184.1 = bt186.1 then (if bt184.2 = bt186.2 then ((triremelaw03_known.f k).bind fun t188 => (some t188)) else (some false)) else (some false)) else (some false)) else (some false)) else (some false)) else (some false))))))) = some r := H
    have A5 := Aside0.mk A50
    clear A50
    replace H := Option.bind_eq_some_iff.mp H
    obtain ⟨⟨t178, t179⟩, A60, H⟩ := H
    replace H : ((quant_Milli.f k a0).bind fun bt180 => ((triremeref03_Milli.f k a0).bind fun bt182 => ((quant_Number.f k a0).bind fun bt184 => ((triremeref03_Number.f k a0).bind fun bt186 => (if t176 = t178 then (if t177 = t179 then (if bt180.1 = bt182.1 then (if bt180.2 = bt182.2 then (if bt184.1 = bt186.1 then (if bt184.2 = bt186.2 then ((triremelaw03_known.f k).bind fun t188 => (some t188)) else (some false)) else (some false)) else (some false)) else (some false)) else (some false)) else (some false)))))) = some r := H
    have A6 := Aside0.mk A60
    clear A60
    replace H := Option.bind_eq_some_iff.mp H
    obtain ⟨⟨t180, t181⟩, A70, H⟩ := H
    replace H : ((triremeref03_Milli.f k a0).bind fun bt182 => ((quant_Number.f k a0).bind fun bt184 => ((triremeref03_Number.f k a0).bind fun bt186 => (if t176 = t178 then (if t177 = t179 then (if t180 = bt182.1 then (if t181 = bt182.2 then (if bt184.1 = bt186.1 then (if bt184.2 = bt186.2 then ((triremelaw03_known.f k).bind fun t188 => (some t188)) else (some false)) else (some false)) else (some false)) else (some false)) else (some false)) else (some false))))) = some r := H
    have A7 := Aside0.mk A70
    clear A70
    replace H := Option.bind_eq_some_iff.mp H
    obtain ⟨⟨t182, t183⟩, A80, H⟩ := H
    replace H : ((quant_Number.f k a0).bind fun bt184 => ((triremeref03_Number.f k a0).bind fun bt186 => (if t176 = t178 then (if t177 = t179 then (if t180 = t182 then (if t181 = t183 then (if bt184.1 = bt186.1 then (if bt184.2 = bt186.2 then ((triremelaw03_known.f k).bind fun t188 => (some t188)) else (some false)) else (some false)) else (some false)) else (some false)) else (some false)) else (some false)))) = some r := H
    have A8 := Aside0.mk A80
    clear A80
    replace H := Option.bind_eq_some_iff.mp H
    obtain ⟨⟨t184, t185⟩, A90, H⟩ := H
    replace H : ((triremeref03_Number.f k a0).bind fun bt186 => (if t176 = t178 then (if t177 = t179 then (if t180 = t182 then (if t181 = t183 then (if t184 = bt186.1 then (if t185 = bt186.2 then ((triremelaw03_known.f k).bind fun t188 => (some t188)) else (some false)) else (some false)) else (some false)) else (some false)) else (some false)) else (some false))) = some r := H
    have A9 := Aside0.mk A90
    clear A90
    replace H := Option.bind_eq_some_iff.mp H
    obtain ⟨⟨t186, t187⟩, A100, H⟩ := H
    replace H : (if t176 = t178 then (if t177 = t179 then (if t180 = t182 then (if t181 = t183 then (if t184 = t186 then (if t185 = t187 then ((triremelaw03_known.f k).bind fun t188 => (some t188)) else (some false)) else (some false)) else (some false)) else (some false)) else (some false)) else (some false)) = some r := H
    have A10 := Aside0.mk A100
    clear A100
    by_cases c11 : t176 = t178
    · rw [if_pos c11] at H
      have c11b0 : (t176 == t178) = true := beq_iff_eq.mpr c11
      have c11b1 : (t176 != t178) = false := bne_eq_false_iff_eq.mpr c11
      clear c11
      by_cases c12 : t177 = t179
      · rw [if_pos c12] at H
        have c12b0 : (t177 == t179) = true := beq_iff_eq.mpr c12
        have c12b1 : (t177 != t179) = false := bne_eq_false_iff_eq.mpr c12
        clear c12
        by_cases c13 : t180 = t182
        · rw [if_pos c13] at H
          have c13b0 : (t180 == t182) = true := beq_iff_eq.mpr c13
          have c13b1 : (t180 != t182) = false := bne_eq_false_iff_eq.mpr c13
          clear c13
          by_cases c14 : t181 = t183
          · rw [if_pos c14] at H
            have c14b0 : (t181 == t183) = true := beq_iff_eq.mpr c14
            have c14b1 : (t181 != t183) = false := bne_eq_false_iff_eq.mpr c14
            clear c14
            by_cases c15 : t184 = t186
            · rw [if_pos c15] at H
              have c15b0 : (t184 == t186) = true := beq_iff_eq.mpr c15
              have c15b1 : (t184 != t186) = false := bne_eq_false_iff_eq.mpr c15
              clear c15
              by_cases c16 : t185 = t187
              · rw [if_pos c16] at H
                have c16b0 : (t185 == t187) = true := beq_iff_eq.mpr c16
                have c16b1 : (t185 != t187) = false := bne_eq_false_iff_eq.mpr c16
                clear c16
                replace H := Option.bind_eq_some_iff.mp H
                obtain ⟨t188, A170, H⟩ := H
                replace H : (some t188) = some r := H
                have A17 := Aside0.mk A170
                clear A170
                obtain rfl := Option.some.inj H
                go_enter Try.func3, Try.ntmps3
                go_wp2_with (first | ((first | ((with_reducible refine gate_callee (f := 9) rfl ?_); refine goesL_ (some 21) rfl rfl Try.func9 (by kernel_rfl) rfl #[.string a0] rfl (by (try simp only [List.map_toArray, List.map_cons, List.map_nil]); first | done | rfl | (simp only [List.length_drop, List.length_take]; rfl)) ?_; (with_reducible refine (quant_Parse.calls k a0 t176 t177 _ A5.out).mono ?_); rintro e w18 ⟨rfl, hb⟩; refine ⟨_, rfl, ?_⟩) | (go_at_call 9; (with_reducible refine (quant_Parse.calls k a0 t176 t177 _ A5.out).mono ?_); rintro e w18 ⟨rfl, hb⟩)); have n0_ := Aside0.mk (below_step (by repeat (first | (with_reducible first | exact HB.out | apply below_alloc | apply pw_below_drewN | apply below_drew1) | exact HB.out)) hb); clear HB; have HB := n0_; clear n0_; (try clear hb); (try clear hb2); (try clear hk); (try clear hi)) | ((first | ((with_reducible refine gate_callee (f := 10) rfl ?_); refine goesL_ (some 26) rfl rfl Try.func10 (by kernel_rfl) rfl #[.string a0] rfl (by (try simp only [List.map_toArray, List.map_cons, List.map_nil]); first | done | rfl | (simp only [List.length_drop, List.length_take]; rfl)) ?_; (with_reducible refine (triremeref03_Parse.calls k a0 t178 t179 _ A6.out).mono ?_); rintro e w19 ⟨rfl, hb⟩; refine ⟨_, rfl, ?_⟩) | (go_at_call 10; (with_reducible refine (triremeref03_Parse.calls k a0 t178 t179 _ A6.out).mono ?_); rintro e w19 ⟨rfl, hb⟩)); have n0_ := Aside0.mk (below_step (by repeat (first | (with_reducible first | exact HB.out | apply below_alloc | apply pw_below_drewN | apply below_drew1) | exact HB.out)) hb); clear HB; have HB := n0_; clear n0_; (try clear hb); (try clear hb2); (try clear hk); (try clear hi)) | ((first | ((with_reducible refine gate_callee (f := 11) rfl ?_); refine goesL_ (some 31) rfl rfl Try.func11 (by kernel_rfl) rfl #[.string a0] rfl (by (try simp only [List.map_toArray, List.map_cons, List.map_nil]); first | done | rfl | (simp only [List.length_drop, List.length_take]; rfl)) ?_; (with_reducible refine (quant_Milli.calls k a0 t180 t181 _ A7.out).mono ?_); rintro e w20 ⟨rfl, hb⟩; refine ⟨_, rfl, ?_⟩) | (go_at_call 11; (with_reducible refine (quant_Milli.calls k a0 t180 t181 _ A7.out).mono ?_); rintro e w20 ⟨rfl, hb⟩)); have n0_ := Aside0.mk (below_step (by repeat (first | (with_reducible first | exact HB.out | apply below_alloc | apply pw_below_drewN | apply below_drew1) | exact HB.out)) hb); clear HB; have HB := n0_; clear n0_; (try clear hb); (try clear hb2); (try clear hk); (try clear hi)) | ((first | ((with_reducible refine gate_callee (f := 12) rfl ?_); refine goesL_ (some 36) rfl rfl Try.func12 (by kernel_rfl) rfl #[.string a0] rfl (by (try simp only [List.map_toArray, List.map_cons, List.map_nil]); first | done | rfl | (simp only [List.length_drop, List.length_take]; rfl)) ?_; (with_reducible refine (triremeref03_Milli.calls k a0 t182 t183 _ A8.out).mono ?_); rintro e w21 ⟨rfl, hb⟩; refine ⟨_, rfl, ?_⟩) | (go_at_call 12; (with_reducible refine (triremeref03_Milli.calls k a0 t182 t183 _ A8.out).mono ?_); rintro e w21 ⟨rfl, hb⟩)); have n0_ := Aside0.mk (below_step (by repeat (first | (with_reducible first | exact HB.out | apply below_alloc | apply pw_below_drewN | apply below_drew1) | exact HB.out)) hb); clear HB; have HB := n0_; clear n0_; (try clear hb); (try clear hb2); (try clear hk); (try clear hi)) | ((first | ((with_reducible refine gate_callee (f := 13) rfl ?_); refine goesL_ (some 41) rfl rfl Try.func13 (by kernel_rfl) rfl #[.string a0] rfl (by (try simp only [List.map_toArray, List.map_cons, List.map_nil]); first | done | rfl | (simp only [List.length_drop, List.length_take]; rfl)) ?_; (with_reducible refine (quant_Number.calls k a0 t184 t185 _ A9.out).mono ?_); rintro e w' ⟨rfl, ⟨nd, rfl⟩⟩; refine ⟨_, rfl, ?_⟩) | (go_at_call 13; (with_reducible refine (quant_Number.calls k a0 t184 t185 _ A9.out).mono ?_); rintro e w' ⟨rfl, ⟨nd, rfl⟩⟩))) | ((first | ((with_reducible refine gate_callee (f := 14) rfl ?_); refine goesL_ (some 46) rfl rfl Try.func14 (by kernel_rfl) rfl #[.string a0] rfl (by (try simp only [List.map_toArray, List.map_cons, List.map_nil]); first | done | rfl | (simp only [List.length_drop, List.length_take]; rfl)) ?_; (with_reducible refine (triremeref03_Number.calls k a0 t186 t187 _ A10.out).mono ?_); rintro e w22 ⟨rfl, hb⟩; refine ⟨_, rfl, ?_⟩) | (go_at_call 14; (with_reducible refine (triremeref03_Number.calls k a0 t186 t187 _ A10.out).mono ?_); rintro e w22 ⟨rfl, hb⟩)); have n0_ := Aside0.mk (below_step (by repeat (first | (with_reducible first | exact HB.out | apply below_alloc | apply pw_below_drewN | apply below_drew1) | exact HB.out)) hb); clear HB; have HB := n0_; clear n0_; (try clear hb); (try clear hb2); (try clear hk); (try clear hi)) | (go_at_call 8; (with_reducible refine (triremelaw03_known.calls k  t188 _ A17.out).mono ?_); rintro e w23 ⟨rfl, hb⟩; have n0_ := Aside0.mk (below_step (by repeat (first | (with_reducible first | exact HB.out | apply below_alloc | apply pw_below_drewN | apply below_drew1) | exact HB.out)) hb); clear HB; have HB := n0_; clear n0_; (try clear hb); (try clear hb2); (try clear hk); (try clear hi)))
                go_ret
                exact ⟨by first | rfl | (simp [errW_none, errW_some] <;> rfl) | (simp [*, errW_none, errW_some] <;> rfl), by repeat (first | (with_reducible first | exact HB.out | apply below_alloc | apply pw_below_drewN | apply below_drew1) | exact HB.out)⟩
              · rw [if_neg c16] at H
                have c16b0 : (t185 == t187) = false := beq_eq_false_iff_ne.mpr c16
                have c16b1 : (t185 != t187) = true := bne_iff_ne.mpr c16
                obtain rfl := Option.some.inj H
                go_enter Try.func3, Try.ntmps3
                go_wp2_with (first | ((first | ((with_reducible refine gate_callee (f := 9) rfl ?_); refine goesL_ (some 21) rfl rfl Try.func9 (by kernel_rfl) rfl #[.string a0] rfl (by (try simp only [List.map_toArray, List.map_cons, List.map_nil]); first | done | rfl | (simp only [List.length_drop, List.length_take]; rfl)) ?_; (with_reducible refine (quant_Parse.calls k a0 t176 t177 _ A5.out).mono ?_); rintro e w24 ⟨rfl, hb⟩; refine ⟨_, rfl, ?_⟩) | (go_at_call 9; (with_reducible refine (quant_Parse.calls k a0 t176 t177 _ A5.out).mono ?_); rintro e w24 ⟨rfl, hb⟩)); have n0_ := Aside0.mk (below_step (by repeat (first | (with_reducible first | exact HB.out | apply below_alloc | apply pw_below_drewN | apply below_drew1) | exact HB.out)) hb); clear HB; have HB := n0_; clear n0_; (try clear hb); (try clear hb2); (try clear hk); (try clear hi)) | ((first | ((with_reducible refine gate_callee (f := 10) rfl ?_); refine goesL_ (some 26) rfl rfl Try.func10 (by kernel_rfl) rfl #[.string a0] rfl (by (try simp only [List.map_toArray, List.map_cons, List.map_nil]); first | done | rfl | (simp only [List.length_drop, List.length_take]; rfl)) ?_; (with_reducible refine (triremeref03_Parse.calls k a0 t178 t179 _ A6.out).mono ?_); rintro e w25 ⟨rfl, hb⟩; refine ⟨_, rfl, ?_⟩) | (go_at_call 10; (with_reducible refine (triremeref03_Parse.calls k a0 t178 t179 _ A6.out).mono ?_); rintro e w25 ⟨rfl, hb⟩)); have n0_ := Aside0.mk (below_step (by repeat (first | (with_reducible first | exact HB.out | apply below_alloc | apply pw_below_drewN | apply below_drew1) | exact HB.out)) hb); clear HB; have HB := n0_; clear n0_; (try clear hb); (try clear hb2); (try clear hk); (try clear hi)) | ((first | ((with_reducible refine gate_callee (f := 11) rfl ?_); refine goesL_ (some 31) rfl rfl Try.func11 (by kernel_rfl) rfl #[.string a0] rfl (by (try simp only [List.map_toArray, List.map_cons, List.map_nil]); first | done | rfl | (simp only [List.length_drop, List.length_take]; rfl)) ?_; (with_reducible refine (quant_Milli.calls k a0 t180 t181 _ A7.out).mono ?_); rintro e w26 ⟨rfl, hb⟩; refine ⟨_, rfl, ?_⟩) | (go_at_call 11; (with_reducible refine (quant_Milli.calls k a0 t180 t181 _ A7.out).mono ?_); rintro e w26 ⟨rfl, hb⟩)); have n0_ := Aside0.mk (below_step (by repeat (first | (with_reducible first | exact HB.out | apply below_alloc | apply pw_below_drewN | apply below_drew1) | exact HB.out)) hb); clear HB; have HB := n0_; clear n0_; (try clear hb); (try clear hb2); (try clear hk); (try clear hi)) | ((first | ((with_reducible refine gate_callee (f := 12) rfl ?_); refine goesL_ (some 36) rfl rfl Try.func12 (by kernel_rfl) rfl #[.string a0] rfl (by (try simp only [List.map_toArray, List.map_cons, List.map_nil]); first | done | rfl | (simp only [List.length_drop, List.length_take]; rfl)) ?_; (with_reducible refine (triremeref03_Milli.calls k a0 t182 t183 _ A8.out).mono ?_); rintro e w27 ⟨rfl, hb⟩; refine ⟨_, rfl, ?_⟩) | (go_at_call 12; (with_reducible refine (triremeref03_Milli.calls k a0 t182 t183 _ A8.out).mono ?_); rintro e w27 ⟨rfl, hb⟩)); have n0_ := Aside0.mk (below_step (by repeat (first | (with_reducible first | exact HB.out | apply below_alloc | apply pw_below_drewN | apply below_drew1) | exact HB.out)) hb); clear HB; have HB := n0_; clear n0_; (try clear hb); (try clear hb2); (try clear hk); (try clear hi)) | ((first | ((with_reducible refine gate_callee (f := 13) rfl ?_); refine goesL_ (some 41) rfl rfl Try.func13 (by kernel_rfl) rfl #[.string a0] rfl (by (try simp only [List.map_toArray, List.map_cons, List.map_nil]); first | done | rfl | (simp only [List.length_drop, List.length_take]; rfl)) ?_; (with_reducible refine (quant_Number.calls k a0 t184 t185 _ A9.out).mono ?_); rintro e w' ⟨rfl, ⟨nd, rfl⟩⟩; refine ⟨_, rfl, ?_⟩) | (go_at_call 13; (with_reducible refine (quant_Number.calls k a0 t184 t185 _ A9.out).mono ?_); rintro e w' ⟨rfl, ⟨nd, rfl⟩⟩))) | ((first | ((with_reducible refine gate_callee (f := 14) rfl ?_); refine goesL_ (some 46) rfl rfl Try.func14 (by kernel_rfl) rfl #[.string a0] rfl (by (try simp only [List.map_toArray, List.map_cons, List.map_nil]); first | done | rfl | (simp only [List.length_drop, List.length_take]; rfl)) ?_; (with_reducible refine (triremeref03_Number.calls k a0 t186 t187 _ A10.out).mono ?_); rintro e w28 ⟨rfl, hb⟩; refine ⟨_, rfl, ?_⟩) | (go_at_call 14; (with_reducible refine (triremeref03_Number.calls k a0 t186 t187 _ A10.out).mono ?_); rintro e w28 ⟨rfl, hb⟩)); have n0_ := Aside0.mk (below_step (by repeat (first | (with_reducible first | exact HB.out | apply below_alloc | apply pw_below_drewN | apply below_drew1) | exact HB.out)) hb); clear HB; have HB := n0_; clear n0_; (try clear hb); (try clear hb2); (try clear hk); (try clear hi)))
                go_ret
                exact ⟨by first | rfl | (simp [errW_none, errW_some] <;> rfl) | (simp [*, errW_none, errW_some] <;> rfl), by repeat (first | (with_reducible first | exact HB.out | apply below_alloc | apply pw_below_drewN | apply below_drew1) | exact HB.out)⟩
            · rw [if_neg c15] at H
              have c15b0 : (t184 == t186) = false := beq_eq_false_iff_ne.mpr c15
              have c15b1 : (t184 != t186) = true := bne_iff_ne.mpr c15
              obtain rfl := Option.some.inj H
              go_enter Try.func3, Try.ntmps3
              go_wp2_with (first | ((first | ((with_reducible refine gate_callee (f := 9) rfl ?_); refine goesL_ (some 21) rfl rfl Try.func9 (by kernel_rfl) rfl #[.string a0] rfl (by (try simp only [List.map_toArray, List.map_cons, List.map_nil]); first | done | rfl | (simp only [List.length_drop, List.length_take]; rfl)) ?_; (with_reducible refine (quant_Parse.calls k a0 t176 t177 _ A5.out).mono ?_); rintro e w29 ⟨rfl, hb⟩; refine ⟨_, rfl, ?_⟩) | (go_at_call 9; (with_reducible refine (quant_Parse.calls k a0 t176 t177 _ A5.out).mono ?_); rintro e w29 ⟨rfl, hb⟩)); have n0_ := Aside0.mk (below_step (by repeat (first | (with_reducible first | exact HB.out | apply below_alloc | apply pw_below_drewN | apply below_drew1) | exact HB.out)) hb); clear HB; have HB := n0_; clear n0_; (try clear hb); (try clear hb2); (try clear hk); (try clear hi)) | ((first | ((with_reducible refine gate_callee (f := 10) rfl ?_); refine goesL_ (some 26) rfl rfl Try.func10 (by kernel_rfl) rfl #[.string a0] rfl (by (try simp only [List.map_toArray, List.map_cons, List.map_nil]); first | done | rfl | (simp only [List.length_drop, List.length_take]; rfl)) ?_; (with_reducible refine (triremeref03_Parse.calls k a0 t178 t179 _ A6.out).mono ?_); rintro e w30 ⟨rfl, hb⟩; refine ⟨_, rfl, ?_⟩) | (go_at_call 10; (with_reducible refine (triremeref03_Parse.calls k a0 t178 t179 _ A6.out).mono ?_); rintro e w30 ⟨rfl, hb⟩)); have n0_ := Aside0.mk (below_step (by repeat (first | (with_reducible first | exact HB.out | apply below_alloc | apply pw_below_drewN | apply below_drew1) | exact HB.out)) hb); clear HB; have HB := n0_; clear n0_; (try clear hb); (try clear hb2); (try clear hk); (try clear hi)) | ((first | ((with_reducible refine gate_callee (f := 11) rfl ?_); refine goesL_ (some 31) rfl rfl Try.func11 (by kernel_rfl) rfl #[.string a0] rfl (by (try simp only [List.map_toArray, List.map_cons, List.map_nil]); first | done | rfl | (simp only [List.length_drop, List.length_take]; rfl)) ?_; (with_reducible refine (quant_Milli.calls k a0 t180 t181 _ A7.out).mono ?_); rintro e w31 ⟨rfl, hb⟩; refine ⟨_, rfl, ?_⟩) | (go_at_call 11; (with_reducible refine (quant_Milli.calls k a0 t180 t181 _ A7.out).mono ?_); rintro e w31 ⟨rfl, hb⟩)); have n0_ := Aside0.mk (below_step (by repeat (first | (with_reducible first | exact HB.out | apply below_alloc | apply pw_below_drewN | apply below_drew1) | exact HB.out)) hb); clear HB; have HB := n0_; clear n0_; (try clear hb); (try clear hb2); (try clear hk); (try clear hi)) | ((first | ((with_reducible refine gate_callee (f := 12) rfl ?_); refine goesL_ (some 36) rfl rfl Try.func12 (by kernel_rfl) rfl #[.string a0] rfl (by (try simp only [List.map_toArray, List.map_cons, List.map_nil]); first | done | rfl | (simp only [List.length_drop, List.length_take]; rfl)) ?_; (with_reducible refine (triremeref03_Milli.calls k a0 t182 t183 _ A8.out).mono ?_); rintro e w32 ⟨rfl, hb⟩; refine ⟨_, rfl, ?_⟩) | (go_at_call 12; (with_reducible refine (triremeref03_Milli.calls k a0 t182 t183 _ A8.out).mono ?_); rintro e w32 ⟨rfl, hb⟩)); have n0_ := Aside0.mk (below_step (by repeat (first | (with_reducible first | exact HB.out | apply below_alloc | apply pw_below_drewN | apply below_drew1) | exact HB.out)) hb); clear HB; have HB := n0_; clear n0_; (try clear hb); (try clear hb2); (try clear hk); (try clear hi)) | ((first | ((with_reducible refine gate_callee (f := 13) rfl ?_); refine goesL_ (some 41) rfl rfl Try.func13 (by kernel_rfl) rfl #[.string a0] rfl (by (try simp only [List.map_toArray, List.map_cons, List.map_nil]); first | done | rfl | (simp only [List.length_drop, List.length_take]; rfl)) ?_; (with_reducible refine (quant_Number.calls k a0 t184 t185 _ A9.out).mono ?_); rintro e w' ⟨rfl, ⟨nd, rfl⟩⟩; refine ⟨_, rfl, ?_⟩) | (go_at_call 13; (with_reducible refine (quant_Number.calls k a0 t184 t185 _ A9.out).mono ?_); rintro e w' ⟨rfl, ⟨nd, rfl⟩⟩))) | ((first | ((with_reducible refine gate_callee (f := 14) rfl ?_); refine goesL_ (some 46) rfl rfl Try.func14 (by kernel_rfl) rfl #[.string a0] rfl (by (try simp only [List.map_toArray, List.map_cons, List.map_nil]); first | done | rfl | (simp only [List.length_drop, List.length_take]; rfl)) ?_; (with_reducible refine (triremeref03_Number.calls k a0 t186 t187 _ A10.out).mono ?_); rintro e w33 ⟨rfl, hb⟩; refine ⟨_, rfl, ?_⟩) | (go_at_call 14; (with_reducible refine (triremeref03_Number.calls k a0 t186 t187 _ A10.out).mono ?_); rintro e w33 ⟨rfl, hb⟩)); have n0_ := Aside0.mk (below_step (by repeat (first | (with_reducible first | exact HB.out | apply below_alloc | apply pw_below_drewN | apply below_drew1) | exact HB.out)) hb); clear HB; have HB := n0_; clear n0_; (try clear hb); (try clear hb2); (try clear hk); (try clear hi)))
              go_ret
              exact ⟨by first | rfl | (simp [errW_none, errW_some] <;> rfl) | (simp [*, errW_none, errW_some] <;> rfl), by repeat (first | (with_reducible first | exact HB.out | apply below_alloc | apply pw_below_drewN | apply below_drew1) | exact HB.out)⟩
          · rw [if_neg c14] at H
            have c14b0 : (t181 == t183) = false := beq_eq_false_iff_ne.mpr c14
            have c14b1 : (t181 != t183) = true := bne_iff_ne.mpr c14
            obtain rfl := Option.some.inj H
            go_enter Try.func3, Try.ntmps3
            go_wp2_with (first | ((first | ((with_reducible refine gate_callee (f := 9) rfl ?_); refine goesL_ (some 21) rfl rfl Try.func9 (by kernel_rfl) rfl #[.string a0] rfl (by (try simp only [List.map_toArray, List.map_cons, List.map_nil]); first | done | rfl | (simp only [List.length_drop, List.length_take]; rfl)) ?_; (with_reducible refine (quant_Parse.calls k a0 t176 t177 _ A5.out).mono ?_); rintro e w34 ⟨rfl, hb⟩; refine ⟨_, rfl, ?_⟩) | (go_at_call 9; (with_reducible refine (quant_Parse.calls k a0 t176 t177 _ A5.out).mono ?_); rintro e w34 ⟨rfl, hb⟩)); have n0_ := Aside0.mk (below_step (by repeat (first | (with_reducible first | exact HB.out | apply below_alloc | apply pw_below_drewN | apply below_drew1) | exact HB.out)) hb); clear HB; have HB := n0_; clear n0_; (try clear hb); (try clear hb2); (try clear hk); (try clear hi)) | ((first | ((with_reducible refine gate_callee (f := 10) rfl ?_); refine goesL_ (some 26) rfl rfl Try.func10 (by kernel_rfl) rfl #[.string a0] rfl (by (try simp only [List.map_toArray, List.map_cons, List.map_nil]); first | done | rfl | (simp only [List.length_drop, List.length_take]; rfl)) ?_; (with_reducible refine (triremeref03_Parse.calls k a0 t178 t179 _ A6.out).mono ?_); rintro e w35 ⟨rfl, hb⟩; refine ⟨_, rfl, ?_⟩) | (go_at_call 10; (with_reducible refine (triremeref03_Parse.calls k a0 t178 t179 _ A6.out).mono ?_); rintro e w35 ⟨rfl, hb⟩)); have n0_ := Aside0.mk (below_step (by repeat (first | (with_reducible first | exact HB.out | apply below_alloc | apply pw_below_drewN | apply below_drew1) | exact HB.out)) hb); clear HB; have HB := n0_; clear n0_; (try clear hb); (try clear hb2); (try clear hk); (try clear hi)) | ((first | ((with_reducible refine gate_callee (f := 11) rfl ?_); refine goesL_ (some 31) rfl rfl Try.func11 (by kernel_rfl) rfl #[.string a0] rfl (by (try simp only [List.map_toArray, List.map_cons, List.map_nil]); first | done | rfl | (simp only [List.length_drop, List.length_take]; rfl)) ?_; (with_reducible refine (quant_Milli.calls k a0 t180 t181 _ A7.out).mono ?_); rintro e w36 ⟨rfl, hb⟩; refine ⟨_, rfl, ?_⟩) | (go_at_call 11; (with_reducible refine (quant_Milli.calls k a0 t180 t181 _ A7.out).mono ?_); rintro e w36 ⟨rfl, hb⟩)); have n0_ := Aside0.mk (below_step (by repeat (first | (with_reducible first | exact HB.out | apply below_alloc | apply pw_below_drewN | apply below_drew1) | exact HB.out)) hb); clear HB; have HB := n0_; clear n0_; (try clear hb); (try clear hb2); (try clear hk); (try clear hi)) | ((first | ((with_reducible refine gate_callee (f := 12) rfl ?_); refine goesL_ (some 36) rfl rfl Try.func12 (by kernel_rfl) rfl #[.string a0] rfl (by (try simp only [List.map_toArray, List.map_cons, List.map_nil]); first | done | rfl | (simp only [List.length_drop, List.length_take]; rfl)) ?_; (with_reducible refine (triremeref03_Milli.calls k a0 t182 t183 _ A8.out).mono ?_); rintro e w37 ⟨rfl, hb⟩; refine ⟨_, rfl, ?_⟩) | (go_at_call 12; (with_reducible refine (triremeref03_Milli.calls k a0 t182 t183 _ A8.out).mono ?_); rintro e w37 ⟨rfl, hb⟩)); have n0_ := Aside0.mk (below_step (by repeat (first | (with_reducible first | exact HB.out | apply below_alloc | apply pw_below_drewN | apply below_drew1) | exact HB.out)) hb); clear HB; have HB := n0_; clear n0_; (try clear hb); (try clear hb2); (try clear hk); (try clear hi)) | ((first | ((with_reducible refine gate_callee (f := 13) rfl ?_); refine goesL_ (some 41) rfl rfl Try.func13 (by kernel_rfl) rfl #[.string a0] rfl (by (try simp only [List.map_toArray, List.map_cons, List.map_nil]); first | done | rfl | (simp only [List.length_drop, List.length_take]; rfl)) ?_; (with_reducible refine (quant_Number.calls k a0 t184 t185 _ A9.out).mono ?_); rintro e w' ⟨rfl, ⟨nd, rfl⟩⟩; refine ⟨_, rfl, ?_⟩) | (go_at_call 13; (with_reducible refine (quant_Number.calls k a0 t184 t185 _ A9.out).mono ?_); rintro e w' ⟨rfl, ⟨nd, rfl⟩⟩))) | ((first | ((with_reducible refine gate_callee (f := 14) rfl ?_); refine goesL_ (some 46) rfl rfl Try.func14 (by kernel_rfl) rfl #[.string a0] rfl (by (try simp only [List.map_toArray, List.map_cons, List.map_nil]); first | done | rfl | (simp only [List.length_drop, List.length_take]; rfl)) ?_; (with_reducible refine (triremeref03_Number.calls k a0 t186 t187 _ A10.out).mono ?_); rintro e w38 ⟨rfl, hb⟩; refine ⟨_, rfl, ?_⟩) | (go_at_call 14; (with_reducible refine (triremeref03_Number.calls k a0 t186 t187 _ A10.out).mono ?_); rintro e w38 ⟨rfl, hb⟩)); have n0_ := Aside0.mk (below_step (by repeat (first | (with_reducible first | exact HB.out | apply below_alloc | apply pw_below_drewN | apply below_drew1) | exact HB.out)) hb); clear HB; have HB := n0_; clear n0_; (try clear hb); (try clear hb2); (try clear hk); (try clear hi)))
            go_ret
            exact ⟨by first | rfl | (simp [errW_none, errW_some] <;> rfl) | (simp [*, errW_none, errW_some] <;> rfl), by repeat (first | (with_reducible first | exact HB.out | apply below_alloc | apply pw_below_drewN | apply below_drew1) | exact HB.out)⟩
        · rw [if_neg c13] at H
          have c13b0 : (t180 == t182) = false := beq_eq_false_iff_ne.mpr c13
          have c13b1 : (t180 != t182) = true := bne_iff_ne.mpr c13
          obtain rfl := Option.some.inj H
          go_enter Try.func3, Try.ntmps3
          go_wp2_with (first | ((first | ((with_reducible refine gate_callee (f := 9) rfl ?_); refine goesL_ (some 21) rfl rfl Try.func9 (by kernel_rfl) rfl #[.string a0] rfl (by (try simp only [List.map_toArray, List.map_cons, List.map_nil]); first | done | rfl | (simp only [List.length_drop, List.length_take]; rfl)) ?_; (with_reducible refine (quant_Parse.calls k a0 t176 t177 _ A5.out).mono ?_); rintro e w39 ⟨rfl, hb⟩; refine ⟨_, rfl, ?_⟩) | (go_at_call 9; (with_reducible refine (quant_Parse.calls k a0 t176 t177 _ A5.out).mono ?_); rintro e w39 ⟨rfl, hb⟩)); have n0_ := Aside0.mk (below_step (by repeat (first | (with_reducible first | exact HB.out | apply below_alloc | apply pw_below_drewN | apply below_drew1) | exact HB.out)) hb); clear HB; have HB := n0_; clear n0_; (try clear hb); (try clear hb2); (try clear hk); (try clear hi)) | ((first | ((with_reducible refine gate_callee (f := 10) rfl ?_); refine goesL_ (some 26) rfl rfl Try.func10 (by kernel_rfl) rfl #[.string a0] rfl (by (try simp only [List.map_toArray, List.map_cons, List.map_nil]); first | done | rfl | (simp only [List.length_drop, List.length_take]; rfl)) ?_; (with_reducible refine (triremeref03_Parse.calls k a0 t178 t179 _ A6.out).mono ?_); rintro e w40 ⟨rfl, hb⟩; refine ⟨_, rfl, ?_⟩) | (go_at_call 10; (with_reducible refine (triremeref03_Parse.calls k a0 t178 t179 _ A6.out).mono ?_); rintro e w40 ⟨rfl, hb⟩)); have n0_ := Aside0.mk (below_step (by repeat (first | (with_reducible first | exact HB.out | apply below_alloc | apply pw_below_drewN | apply below_drew1) | exact HB.out)) hb); clear HB; have HB := n0_; clear n0_; (try clear hb); (try clear hb2); (try clear hk); (try clear hi)) | ((first | ((with_reducible refine gate_callee (f := 11) rfl ?_); refine goesL_ (some 31) rfl rfl Try.func11 (by kernel_rfl) rfl #[.string a0] rfl (by (try simp only [List.map_toArray, List.map_cons, List.map_nil]); first | done | rfl | (simp only [List.length_drop, List.length_take]; rfl)) ?_; (with_reducible refine (quant_Milli.calls k a0 t180 t181 _ A7.out).mono ?_); rintro e w41 ⟨rfl, hb⟩; refine ⟨_, rfl, ?_⟩) | (go_at_call 11; (with_reducible refine (quant_Milli.calls k a0 t180 t181 _ A7.out).mono ?_); rintro e w41 ⟨rfl, hb⟩)); have n0_ := Aside0.mk (below_step (by repeat (first | (with_reducible first | exact HB.out | apply below_alloc | apply pw_below_drewN | apply below_drew1) | exact HB.out)) hb); clear HB; have HB := n0_; clear n0_; (try clear hb); (try clear hb2); (try clear hk); (try clear hi)) | ((first | ((with_reducible refine gate_callee (f := 12) rfl ?_); refine goesL_ (some 36) rfl rfl Try.func12 (by kernel_rfl) rfl #[.string a0] rfl (by (try simp only [List.map_toArray, List.map_cons, List.map_nil]); first | done | rfl | (simp only [List.length_drop, List.length_take]; rfl)) ?_; (with_reducible refine (triremeref03_Milli.calls k a0 t182 t183 _ A8.out).mono ?_); rintro e w42 ⟨rfl, hb⟩; refine ⟨_, rfl, ?_⟩) | (go_at_call 12; (with_reducible refine (triremeref03_Milli.calls k a0 t182 t183 _ A8.out).mono ?_); rintro e w42 ⟨rfl, hb⟩)); have n0_ := Aside0.mk (below_step (by repeat (first | (with_reducible first | exact HB.out | apply below_alloc | apply pw_below_drewN | apply below_drew1) | exact HB.out)) hb); clear HB; have HB := n0_; clear n0_; (try clear hb); (try clear hb2); (try clear hk); (try clear hi)) | ((first | ((with_reducible refine gate_callee (f := 13) rfl ?_); refine goesL_ (some 41) rfl rfl Try.func13 (by kernel_rfl) rfl #[.string a0] rfl (by (try simp only [List.map_toArray, List.map_cons, List.map_nil]); first | done | rfl | (simp only [List.length_drop, List.length_take]; rfl)) ?_; (with_reducible refine (quant_Number.calls k a0 t184 t185 _ A9.out).mono ?_); rintro e w' ⟨rfl, ⟨nd, rfl⟩⟩; refine ⟨_, rfl, ?_⟩) | (go_at_call 13; (with_reducible refine (quant_Number.calls k a0 t184 t185 _ A9.out).mono ?_); rintro e w' ⟨rfl, ⟨nd, rfl⟩⟩))) | ((first | ((with_reducible refine gate_callee (f := 14) rfl ?_); refine goesL_ (some 46) rfl rfl Try.func14 (by kernel_rfl) rfl #[.string a0] rfl (by (try simp only [List.map_toArray, List.map_cons, List.map_nil]); first | done | rfl | (simp only [List.length_drop, List.length_take]; rfl)) ?_; (with_reducible refine (triremeref03_Number.calls k a0 t186 t187 _ A10.out).mono ?_); rintro e w43 ⟨rfl, hb⟩; refine ⟨_, rfl, ?_⟩) | (go_at_call 14; (with_reducible refine (triremeref03_Number.calls k a0 t186 t187 _ A10.out).mono ?_); rintro e w43 ⟨rfl, hb⟩)); have n0_ := Aside0.mk (below_step (by repeat (first | (with_reducible first | exact HB.out | apply below_alloc | apply pw_below_drewN | apply below_drew1) | exact HB.out)) hb); clear HB; have HB := n0_; clear n0_; (try clear hb); (try clear hb2); (try clear hk); (try clear hi)))
          go_ret
          exact ⟨by first | rfl | (simp [errW_none, errW_some] <;> rfl) | (simp [*, errW_none, errW_some] <;> rfl), by repeat (first | (with_reducible first | exact HB.out | apply below_alloc | apply pw_below_drewN | apply below_drew1) | exact HB.out)⟩
      · rw [if_neg c12] at H
        have c12b0 : (t177 == t179) = false := beq_eq_false_iff_ne.mpr c12
        have c12b1 : (t177 != t179) = true := bne_iff_ne.mpr c12
        obtain rfl := Option.some.inj H
        go_enter Try.func3, Try.ntmps3
        go_wp2_with (first | ((first | ((with_reducible refine gate_callee (f := 9) rfl ?_); refine goesL_ (some 21) rfl rfl Try.func9 (by kernel_rfl) rfl #[.string a0] rfl (by (try simp only [List.map_toArray, List.map_cons, List.map_nil]); first | done | rfl | (simp only [List.length_drop, List.length_take]; rfl)) ?_; (with_reducible refine (quant_Parse.calls k a0 t176 t177 _ A5.out).mono ?_); rintro e w44 ⟨rfl, hb⟩; refine ⟨_, rfl, ?_⟩) | (go_at_call 9; (with_reducible refine (quant_Parse.calls k a0 t176 t177 _ A5.out).mono ?_); rintro e w44 ⟨rfl, hb⟩)); have n0_ := Aside0.mk (below_step (by repeat (first | (with_reducible first | exact HB.out | apply below_alloc | apply pw_below_drewN | apply below_drew1) | exact HB.out)) hb); clear HB; have HB := n0_; clear n0_; (try clear hb); (try clear hb2); (try clear hk); (try clear hi)) | ((first | ((with_reducible refine gate_callee (f := 10) rfl ?_); refine goesL_ (some 26) rfl rfl Try.func10 (by kernel_rfl) rfl #[.string a0] rfl (by (try simp only [List.map_toArray, List.map_cons, List.map_nil]); first | done | rfl | (simp only [List.length_drop, List.length_take]; rfl)) ?_; (with_reducible refine (triremeref03_Parse.calls k a0 t178 t179 _ A6.out).mono ?_); rintro e w45 ⟨rfl, hb⟩; refine ⟨_, rfl, ?_⟩) | (go_at_call 10; (with_reducible refine (triremeref03_Parse.calls k a0 t178 t179 _ A6.out).mono ?_); rintro e w45 ⟨rfl, hb⟩)); have n0_ := Aside0.mk (below_step (by repeat (first | (with_reducible first | exact HB.out | apply below_alloc | apply pw_below_drewN | apply below_drew1) | exact HB.out)) hb); clear HB; have HB := n0_; clear n0_; (try clear hb); (try clear hb2); (try clear hk); (try clear hi)) | ((first | ((with_reducible refine gate_callee (f := 11) rfl ?_); refine goesL_ (some 31) rfl rfl Try.func11 (by kernel_rfl) rfl #[.string a0] rfl (by (try simp only [List.map_toArray, List.map_cons, List.map_nil]); first | done | rfl | (simp only [List.length_drop, List.length_take]; rfl)) ?_; (with_reducible refine (quant_Milli.calls k a0 t180 t181 _ A7.out).mono ?_); rintro e w46 ⟨rfl, hb⟩; refine ⟨_, rfl, ?_⟩) | (go_at_call 11; (with_reducible refine (quant_Milli.calls k a0 t180 t181 _ A7.out).mono ?_); rintro e w46 ⟨rfl, hb⟩)); have n0_ := Aside0.mk (below_step (by repeat (first | (with_reducible first | exact HB.out | apply below_alloc | apply pw_below_drewN | apply below_drew1) | exact HB.out)) hb); clear HB; have HB := n0_; clear n0_; (try clear hb); (try clear hb2); (try clear hk); (try clear hi)) | ((first | ((with_reducible refine gate_callee (f := 12) rfl ?_); refine goesL_ (some 36) rfl rfl Try.func12 (by kernel_rfl) rfl #[.string a0] rfl (by (try simp only [List.map_toArray, List.map_cons, List.map_nil]); first | done | rfl | (simp only [List.length_drop, List.length_take]; rfl)) ?_; (with_reducible refine (triremeref03_Milli.calls k a0 t182 t183 _ A8.out).mono ?_); rintro e w47 ⟨rfl, hb⟩; refine ⟨_, rfl, ?_⟩) | (go_at_call 12; (with_reducible refine (triremeref03_Milli.calls k a0 t182 t183 _ A8.out).mono ?_); rintro e w47 ⟨rfl, hb⟩)); have n0_ := Aside0.mk (below_step (by repeat (first | (with_reducible first | exact HB.out | apply below_alloc | apply pw_below_drewN | apply below_drew1) | exact HB.out)) hb); clear HB; have HB := n0_; clear n0_; (try clear hb); (try clear hb2); (try clear hk); (try clear hi)) | ((first | ((with_reducible refine gate_callee (f := 13) rfl ?_); refine goesL_ (some 41) rfl rfl Try.func13 (by kernel_rfl) rfl #[.string a0] rfl (by (try simp only [List.map_toArray, List.map_cons, List.map_nil]); first | done | rfl | (simp only [List.length_drop, List.length_take]; rfl)) ?_; (with_reducible refine (quant_Number.calls k a0 t184 t185 _ A9.out).mono ?_); rintro e w' ⟨rfl, ⟨nd, rfl⟩⟩; refine ⟨_, rfl, ?_⟩) | (go_at_call 13; (with_reducible refine (quant_Number.calls k a0 t184 t185 _ A9.out).mono ?_); rintro e w' ⟨rfl, ⟨nd, rfl⟩⟩))) | ((first | ((with_reducible refine gate_callee (f := 14) rfl ?_); refine goesL_ (some 46) rfl rfl Try.func14 (by kernel_rfl) rfl #[.string a0] rfl (by (try simp only [List.map_toArray, List.map_cons, List.map_nil]); first | done | rfl | (simp only [List.length_drop, List.length_take]; rfl)) ?_; (with_reducible refine (triremeref03_Number.calls k a0 t186 t187 _ A10.out).mono ?_); rintro e w48 ⟨rfl, hb⟩; refine ⟨_, rfl, ?_⟩) | (go_at_call 14; (with_reducible refine (triremeref03_Number.calls k a0 t186 t187 _ A10.out).mono ?_); rintro e w48 ⟨rfl, hb⟩)); have n0_ := Aside0.mk (below_step (by repeat (first | (with_reducible first | exact HB.out | apply below_alloc | apply pw_below_drewN | apply below_drew1) | exact HB.out)) hb); clear HB; have HB := n0_; clear n0_; (try clear hb); (try clear hb2); (try clear hk); (try clear hi)))
        go_ret
        exact ⟨by first | rfl | (simp [errW_none, errW_some] <;> rfl) | (simp [*, errW_none, errW_some] <;> rfl), by repeat (first | (with_reducible first | exact HB.out | apply below_alloc | apply pw_below_drewN | apply below_drew1) | exact HB.out)⟩
    · rw [if_neg c11] at H
      have c11b0 : (t176 == t178) = false := beq_eq_false_iff_ne.mpr c11
      have c11b1 : (t176 != t178) = true := bne_iff_ne.mpr c11
      obtain rfl := Option.some.inj H
      go_enter Try.func3, Try.ntmps3
      go_wp2_with (first | ((first | ((with_reducible refine gate_callee (f := 9) rfl ?_); refine goesL_ (some 21) rfl rfl Try.func9 (by kernel_rfl) rfl #[.string a0] rfl (by (try simp only [List.map_toArray, List.map_cons, List.map_nil]); first | done | rfl | (simp only [List.length_drop, List.length_take]; rfl)) ?_; (with_reducible refine (quant_Parse.calls k a0 t176 t177 _ A5.out).mono ?_); rintro e w49 ⟨rfl, hb⟩; refine ⟨_, rfl, ?_⟩) | (go_at_call 9; (with_reducible refine (quant_Parse.calls k a0 t176 t177 _ A5.out).mono ?_); rintro e w49 ⟨rfl, hb⟩)); have n0_ := Aside0.mk (below_step (by repeat (first | (with_reducible first | exact HB.out | apply below_alloc | apply pw_below_drewN | apply below_drew1) | exact HB.out)) hb); clear HB; have HB := n0_; clear n0_; (try clear hb); (try clear hb2); (try clear hk); (try clear hi)) | ((first | ((with_reducible refine gate_callee (f := 10) rfl ?_); refine goesL_ (some 26) rfl rfl Try.func10 (by kernel_rfl) rfl #[.string a0] rfl (by (try simp only [List.map_toArray, List.map_cons, List.map_nil]); first | done | rfl | (simp only [List.length_drop, List.length_take]; rfl)) ?_; (with_reducible refine (triremeref03_Parse.calls k a0 t178 t179 _ A6.out).mono ?_); rintro e w50 ⟨rfl, hb⟩; refine ⟨_, rfl, ?_⟩) | (go_at_call 10; (with_reducible refine (triremeref03_Parse.calls k a0 t178 t179 _ A6.out).mono ?_); rintro e w50 ⟨rfl, hb⟩)); have n0_ := Aside0.mk (below_step (by repeat (first | (with_reducible first | exact HB.out | apply below_alloc | apply pw_below_drewN | apply below_drew1) | exact HB.out)) hb); clear HB; have HB := n0_; clear n0_; (try clear hb); (try clear hb2); (try clear hk); (try clear hi)) | ((first | ((with_reducible refine gate_callee (f := 11) rfl ?_); refine goesL_ (some 31) rfl rfl Try.func11 (by kernel_rfl) rfl #[.string a0] rfl (by (try simp only [List.map_toArray, List.map_cons, List.map_nil]); first | done | rfl | (simp only [List.length_drop, List.length_take]; rfl)) ?_; (with_reducible refine (quant_Milli.calls k a0 t180 t181 _ A7.out).mono ?_); rintro e w51 ⟨rfl, hb⟩; refine ⟨_, rfl, ?_⟩) | (go_at_call 11; (with_reducible refine (quant_Milli.calls k a0 t180 t181 _ A7.out).mono ?_); rintro e w51 ⟨rfl, hb⟩)); have n0_ := Aside0.mk (below_step (by repeat (first | (with_reducible first | exact HB.out | apply below_alloc | apply pw_below_drewN | apply below_drew1) | exact HB.out)) hb); clear HB; have HB := n0_; clear n0_; (try clear hb); (try clear hb2); (try clear hk); (try clear hi)) | ((first | ((with_reducible refine gate_callee (f := 12) rfl ?_); refine goesL_ (some 36) rfl rfl Try.func12 (by kernel_rfl) rfl #[.string a0] rfl (by (try simp only [List.map_toArray, List.map_cons, List.map_nil]); first | done | rfl | (simp only [List.length_drop, List.length_take]; rfl)) ?_; (with_reducible refine (triremeref03_Milli.calls k a0 t182 t183 _ A8.out).mono ?_); rintro e w52 ⟨rfl, hb⟩; refine ⟨_, rfl, ?_⟩) | (go_at_call 12; (with_reducible refine (triremeref03_Milli.calls k a0 t182 t183 _ A8.out).mono ?_); rintro e w52 ⟨rfl, hb⟩)); have n0_ := Aside0.mk (below_step (by repeat (first | (with_reducible first | exact HB.out | apply below_alloc | apply pw_below_drewN | apply below_drew1) | exact HB.out)) hb); clear HB; have HB := n0_; clear n0_; (try clear hb); (try clear hb2); (try clear hk); (try clear hi)) | ((first | ((with_reducible refine gate_callee (f := 13) rfl ?_); refine goesL_ (some 41) rfl rfl Try.func13 (by kernel_rfl) rfl #[.string a0] rfl (by (try simp only [List.map_toArray, List.map_cons, List.map_nil]); first | done | rfl | (simp only [List.length_drop, List.length_take]; rfl)) ?_; (with_reducible refine (quant_Number.calls k a0 t184 t185 _ A9.out).mono ?_); rintro e w' ⟨rfl, ⟨nd, rfl⟩⟩; refine ⟨_, rfl, ?_⟩) | (go_at_call 13; (with_reducible refine (quant_Number.calls k a0 t184 t185 _ A9.out).mono ?_); rintro e w' ⟨rfl, ⟨nd, rfl⟩⟩))) | ((first | ((with_reducible refine gate_callee (f := 14) rfl ?_); refine goesL_ (some 46) rfl rfl Try.func14 (by kernel_rfl) rfl #[.string a0] rfl (by (try simp only [List.map_toArray, List.map_cons, List.map_nil]); first | done | rfl | (simp only [List.length_drop, List.length_take]; rfl)) ?_; (with_reducible refine (triremeref03_Number.calls k a0 t186 t187 _ A10.out).mono ?_); rintro e w53 ⟨rfl, hb⟩; refine ⟨_, rfl, ?_⟩) | (go_at_call 14; (with_reducible refine (triremeref03_Number.calls k a0 t186 t187 _ A10.out).mono ?_); rintro e w53 ⟨rfl, hb⟩)); have n0_ := Aside0.mk (below_step (by repeat (first | (with_reducible first | exact HB.out | apply below_alloc | apply pw_below_drewN | apply below_drew1) | exact HB.out)) hb); clear HB; have HB := n0_; clear n0_; (try clear hb); (try clear hb2); (try clear hk); (try clear hi)))
      go_ret
      exact ⟨by first | rfl | (simp [errW_none, errW_some] <;> rfl) | (simp [*, errW_none, errW_some] <;> rfl), by repeat (first | (with_reducible first | exact HB.out | apply below_alloc | apply pw_below_drewN | apply below_drew1) | exact HB.out)⟩
/-- THE ONE PURE STATEMENT of triremelaw03_QuantParses: yours. -/
def triremelaw03_QuantParses.Pure : Prop := ∀ (a0 : ByteArray), a0.size ≤ 140737488351232 → ∃ k, triremelaw03_QuantParses.f k a0 = some true
theorem triremelaw03_QuantParses.walk (P : triremelaw03_QuantParses.Pure) (a0 : ByteArray) (w : World) (w0 : a0.size ≤ 140737488351232) :
    Calls Try.prog 3 #[.string a0] w fun e w' => e = .returned (.bool true) ∧ Below w.heap.size w w' := by
  obtain ⟨k, h⟩ := P a0 w0
  refine (triremelaw03_QuantParses.calls k a0 true w h).mono ?_
  rintro e w' ⟨rfl, hd⟩
  exact ⟨rfl, hd⟩
end Go.Proofs.Ytpmmiabcfnejmaa.H
end
section
namespace Go.Proofs.Ytpmmiabcfnejmaa.H
open Go.RowKit Go.Proofs.YtpmmiabcfnejmaaW.PrintWords Go.Proofs.YtpmmiabcfnejmaaW.PrintLast Go.Proofs.YtpmmiabcfnejmaaW.PrintMore
set_option linter.unusedVariables false
set_option linter.unusedSimpArgs false
set_option maxRecDepth 100000 in
theorem known_ev : Ev (fun k => triremelaw03_known.f k) true := Ev.of (fun k => triremelaw03_known.mono k) (k := 60) (by kernel_rfl)
end Go.Proofs.Ytpmmiabcfnejmaa.H
end
section
namespace Go.Proofs.Ytpmmiabcfnejmaa.H
open Go.RowKit Go.Proofs.YtpmmiabcfnejmaaW.PrintWords Go.Proofs.YtpmmiabcfnejmaaW.PrintLast Go.Proofs.YtpmmiabcfnejmaaW.PrintMore
set_option linter.unusedVariables false
set_option linter.unusedSimpArgs false
theorem decGo_app : ∀ (f n : Nat) (acc : List Int), decGo f n acc = decGo f n [] ++ acc
  | 0, _, acc => rfl
  | f + 1, n, acc => by
    simp only [decGo]
    by_cases h : n < 10
    · rw [if_pos h, if_pos h]; rfl
    · rw [if_neg h, if_neg h, decGo_app f _ (_ :: acc), decGo_app f _ [_], List.append_assoc]; rfl
theorem strOfNums_app (a b : List Int) : strOfNums (a ++ b) = strOfNums a ++ strOfNums b := by
  apply toList_inj
  rw [append_toList, ByteArray.toList_eq, ByteArray.toList_eq, ByteArray.toList_eq]
  simp [strOfNums]
theorem strOfNums_size (a : List Int) : (strOfNums a).size = a.length := by simp [strOfNums, ByteArray.size]
theorem one_cast' (d : Nat) : (48 + (d : Int)) = ((48 + d : Nat) : Int) := by omega
theorem digits_ev0 : ∀ (e n : Nat), n < 10 ^ (e + 1) → e + 1 ≤ 20 → n ≤ 9000000000000000000 → Ev (fun k => triremeref01_Digits.f k (n : Int)) (strOfNums (decGo (e + 1) n [])) := by
  intro e
  induction e with
  | zero =>
    intro n h he hn
    refine Ev.step (fun k => by rw [triremeref01_Digits.f]) ?_
    have h1 : n < 10 := by simpa using h
    simp only [decGo, h1, show (n : Int) < 10 by omega, if_true]
    rw [wrap_small (by omega) (by omega), show (48 + (n : Int)) % 256 = 48 + (n : Int) by omega]
    exact Ev.now _
  | succ e ih =>
    intro n h he hn
    refine Ev.step (fun k => by rw [triremeref01_Digits.f]) ?_
    by_cases h1 : n < 10
    · rw [decGo]
      simp only [h1, show (n : Int) < 10 by omega, if_true]
      rw [wrap_small (by omega) (by omega), show (48 + (n : Int)) % 256 = 48 + (n : Int) by omega]
      exact Ev.now _
    · rw [decGo]
      simp only [h1, show ¬ (n : Int) < 10 by omega, if_false]
      have hq : n / 10 < 10 ^ (e + 1) := by rw [Nat.pow_succ] at h; omega
      rw [pdiv_step n hn]
      refine Ev.bind (ih (n / 10) hq (by omega) (by omega)) ?_
      rw [pdig_step n hn, decGo_app _ _ [48 + ((n % 10 : Nat) : Int)], strOfNums_app, one_cast']
      simp only [Option.bind_some]
      refine ev_if (fun _ => Ev.now _) (fun h => absurd ?_ h)
      rw [strOfNums_size, one_size]
      have := decGo_len (e + 1) (n / 10) []
      simp only [List.length_nil] at this
      omega
theorem digits_ev (n : Nat) (hn : n ≤ 9000000000000000000) : Ev (fun k => triremeref01_Digits.f k (n : Int)) (decB (n : Int)) :=
  digits_ev0 19 n (Nat.lt_of_le_of_lt hn (by decide)) (by omega) hn
theorem showGo_eq (n : Nat) : showGo 4 n 0 = if 0 < n ∧ n % 1099511627776 = 0 then (n / 1099511627776, 4) else if 0 < n ∧ n % 1073741824 = 0 then (n / 1073741824, 3) else
    if 0 < n ∧ n % 1048576 = 0 then (n / 1048576, 2) else if 0 < n ∧ n % 1024 = 0 then (n / 1024, 1) else (n, 0) := by
  simp only [showGo, Nat.div_div_eq_div_mul]
  repeat' split
  all_goals first | rfl | (exfalso; omega)
def showL : List ByteArray := [(⟨#[84, 105]⟩ : ByteArray), (⟨#[71, 105]⟩ : ByteArray), (⟨#[77, 105]⟩ : ByteArray), (⟨#[75, 105]⟩ : ByteArray)]
theorem show_l0 (n : Nat) (hn : n ≤ 1125899906842624) (i : Nat) (hi : i < 4) (U : Nat) (hU : 0 < U) (hs : shl .i64 1 (IntKind.u64.wrap (wrap64 (40 - (wrap64 (10 * (i : Int)))))) = (U : Int)) (hs0 : 0 ≤ IntKind.u64.wrap (wrap64 (40 - (wrap64 (10 * (i : Int))))))
    (nm : ByteArray) (hnm : rdOf ByteArray.empty showL (i : Int) = nm) (hnz : nm.size = 2) (r : ByteArray) (h1 : 0 < n ∧ n % U = 0 → r = decB ((n / U : Nat) : Int) ++ nm) (h2 : ¬ (0 < n ∧ n % U = 0) → Ev (fun k => triremeref03_Show.l0 k (n : Int) showL ((i + 1 : Nat) : Int)) r) :
    Ev (fun k => triremeref03_Show.l0 k (n : Int) showL (i : Int)) r := by
  refine Ev.step (fun k => by rw [triremeref03_Show.l0]) ?_
  rw [hs, hnm]
  have hq : n / U ≤ n := Nat.div_le_self _ _
  have em : Int.tmod (n : Int) (U : Int) = ((n % U : Nat) : Int) := rfl
  have ed : Int.tdiv (n : Int) (U : Int) = ((n / U : Nat) : Int) := rfl
  rw [em, ed, wrap_nat _ (by omega), wrap_small (i := (i : Int) + 1) (by omega) (by omega)]
  simp only [show (i : Int) < 4 by omega, hs0, show ¬ (U : Int) = 0 by omega, if_true, if_false]
  have he : ((i : Int) + 1) = ((i + 1 : Nat) : Int) := by push_cast; rfl
  rw [he]
  refine ev_if (fun h3 => ?_) (fun h3 => h2 (by omega))
  refine ev_if (fun h4 => ?_) (fun h4 => h2 (fun h5 => h4 (by rw [h5.2]; rfl)))
  have h5 : n % U = 0 := by omega
  rw [h1 ⟨by omega, h5⟩]
  refine Ev.bind (digits_ev (n / U) (by omega)) ?_
  simp only [show (0 : Int) ≤ (i : Int) by omega, show (i : Int) < (showL.length : Int) by show (i : Int) < 4; omega, if_true]
  refine ev_if (fun _ => Ev.now _) (fun h => absurd ?_ h)
  have := decB_size ((n / U : Nat) : Int)
  omega
theorem show_last (n : Nat) (hn : n ≤ 1125899906842624) : Ev (fun k => triremeref03_Show.l0 k (n : Int) showL ((4 : Nat) : Int)) (decB (n : Int)) := by
  refine Ev.step (fun k => by rw [triremeref03_Show.l0]) ?_
  simp only [show ¬ ((4 : Nat) : Int) < 4 by decide, if_false]
  exact Ev.bind (digits_ev n (by omega)) (Ev.now _)
theorem bempty_app (a : ByteArray) : a ++ (⟨#[]⟩ : ByteArray) = a := by
  apply toList_inj
  rw [append_toList, toList_nil (s := ⟨#[]⟩) rfl, List.append_nil]
set_option maxRecDepth 100000 in
theorem refShow_ev (n : Int) : Ev (fun k => triremeref03_Show.f k n) (if n < 0 ∨ 1125899906842624 < n then ⟨#[]⟩ else showB n.toNat) := by
  unfold triremeref03_Show.f
  by_cases h0 : n < 0
  · simp only [h0, true_or, if_true]
    refine Ev.step (fun k => by rw [triremeref03_Show.j0]) ?_
    simp only [if_true]; exact Ev.now _
  · simp only [h0, false_or, if_false]
    refine Ev.step (fun k => by rw [triremeref03_Show.j0]) ?_
    by_cases h1 : 1125899906842624 < n
    · simp only [h1, gt_iff_lt, decide_true, if_true]; exact Ev.now _
    · simp only [h1, gt_iff_lt, decide_false, if_false, Bool.false_eq_true]
      obtain ⟨m, rfl⟩ : ∃ m : Nat, n = m := ⟨n.toNat, by omega⟩
      rw [Int.toNat_natCast]
      have hm : m ≤ 1125899906842624 := by omega
      clear h0 h1
      have e := showGo_eq m
      refine show_l0 m hm 0 (by omega) 1099511627776 (by decide) (by kernel_rfl) (of_decide_eq_true (by kernel_rfl)) ⟨#[84, 105]⟩ rfl rfl (showB m) (fun h => ?_) (fun g4 => ?_)
      · unfold showB; rw [e, if_pos h]; rfl
      refine show_l0 m hm 1 (by omega) 1073741824 (by decide) (by kernel_rfl) (of_decide_eq_true (by kernel_rfl)) ⟨#[71, 105]⟩ rfl rfl (showB m) (fun h => ?_) (fun g3 => ?_)
      · unfold showB; rw [e, if_neg g4, if_pos h]; rfl
      refine show_l0 m hm 2 (by omega) 1048576 (by decide) (by kernel_rfl) (of_decide_eq_true (by kernel_rfl)) ⟨#[77, 105]⟩ rfl rfl (showB m) (fun h => ?_) (fun g2 => ?_)
      · unfold showB; rw [e, if_neg g4, if_neg g3, if_pos h]; rfl
      refine show_l0 m hm 3 (by omega) 1024 (by decide) (by kernel_rfl) (of_decide_eq_true (by kernel_rfl)) ⟨#[75, 105]⟩ rfl rfl (showB m) (fun h => ?_) (fun g1 => ?_)
      · unfold showB; rw [e, if_neg g4, if_neg g3, if_neg g2, if_pos h]; rfl
      have : showB m = decB (m : Int) := by
        unfold showB; rw [e, if_neg g4, if_neg g3, if_neg g2, if_neg g1]
        exact bempty_app _
      rw [this]
      exact show_last m hm
def milR (n : Int) : ByteArray := if n < 0 ∨ 1125899906842624 < n then ⟨#[]⟩ else if n % 1000 = 0 then decB (n / 1000) else decB n ++ ⟨#[109]⟩
theorem quantDigits_some (n : Nat) (h : n ≤ 9000000000000000000) : quant_digits.f (n : Int) = some (decB (n : Int)) := by
  unfold quant_digits.f; rw [if_pos (by omega)]
theorem tmod1000 (m : Nat) : Int.tmod (m : Int) 1000 = (m : Int) % 1000 := rfl
theorem tdiv1000 (m : Nat) : Int.tdiv (m : Int) 1000 = ((m / 1000 : Nat) : Int) := rfl
theorem showMilli_ev (n : Int) : Ev (fun k => quant_ShowMilli.f k n) (milR n) := by
  unfold quant_ShowMilli.f milR
  by_cases h0 : n < 0
  · simp only [h0, true_or, if_true]
    refine Ev.step (fun k => by rw [quant_ShowMilli.j0]) ?_
    simp only [if_true]; exact Ev.now _
  · simp only [h0, false_or, if_false]
    refine Ev.step (fun k => by rw [quant_ShowMilli.j0]) ?_
    by_cases h1 : 1125899906842624 < n
    · simp only [h1, gt_iff_lt, decide_true, if_true]; exact Ev.now _
    · simp only [h1, gt_iff_lt, decide_false, if_false, Bool.false_eq_true]
      obtain ⟨m, rfl⟩ : ∃ m : Nat, n = m := ⟨n.toNat, by omega⟩
      rw [tmod1000, tdiv1000, wrap_nat _ (by omega), quantDigits_some (m / 1000) (by omega), quantDigits_some m (by omega)]
      simp only [Option.bind_some]
      refine ev_if (fun h => ?_) (fun h => ?_)
      · rw [if_pos h]; exact Ev.now _
      · rw [if_neg h]
        refine ev_if (fun _ => Ev.now _) (fun h => absurd ?_ h)
        have := decB_size (m : Int)
        omega
theorem refShowMilli_ev (n : Int) : Ev (fun k => triremeref03_ShowMilli.f k n) (milR n) := by
  unfold triremeref03_ShowMilli.f milR
  by_cases h0 : n < 0
  · simp only [h0, true_or, if_true]
    refine Ev.step (fun k => by rw [triremeref03_ShowMilli.j0]) ?_
    simp only [if_true]; exact Ev.now _
  · simp only [h0, false_or, if_false]
    refine Ev.step (fun k => by rw [triremeref03_ShowMilli.j0]) ?_
    by_cases h1 : 1125899906842624 < n
    · simp only [h1, gt_iff_lt, decide_true, if_true]; exact Ev.now _
    · simp only [h1, gt_iff_lt, decide_false, if_false, Bool.false_eq_true]
      obtain ⟨m, rfl⟩ : ∃ m : Nat, n = m := ⟨n.toNat, by omega⟩
      rw [tmod1000, tdiv1000, wrap_nat _ (by omega)]
      refine ev_if (fun h => ?_) (fun h => ?_)
      · rw [if_pos h]; exact Ev.bind (digits_ev (m / 1000) (by omega)) (Ev.now _)
      · rw [if_neg h]
        refine Ev.bind (digits_ev m (by omega)) ?_
        refine ev_if (fun _ => Ev.now _) (fun h => absurd ?_ h)
        have := decB_size (m : Int)
        omega
theorem shows_pure : triremelaw03_QuantShows.Pure := by
  intro a0 h0
  apply Ev.rounds
  unfold triremelaw03_QuantShows.f quant_Show.f
  simp only [Option.bind_some]
  refine Ev.bind (refShow_ev a0) ?_
  simp only [if_true]
  refine Ev.bind (showMilli_ev a0) ?_
  refine Ev.bind (refShowMilli_ev a0) ?_
  simp only [if_true]
  exact Ev.bind known_ev (Ev.now _)
end Go.Proofs.Ytpmmiabcfnejmaa.H
end
section
namespace Go.Proofs.Ytpmmiabcfnejmaa.Pure
open Go.RowKit Go.Proofs.Ytpmmiabcfnejmaa.H Go.Proofs.YtpmmiabcfnejmaaW.PrintWords Go.Proofs.YtpmmiabcfnejmaaW.PrintLast
theorem QuantShows : triremelaw03_QuantShows.Pure -- proved in PuS
  := H.shows_pure
end Go.Proofs.Ytpmmiabcfnejmaa.Pure
end
section
namespace Go.Proofs.Ytpmmiabcfnejmaa.quantShows
open Go.ChangeShapes Go.WideShapes Go.ChangeAt Go.RowKit
open Go.ChangeMaps (open_string shut_string)
set_option linter.unusedVariables false
theorem own : ownKnob Try.prog.godebug = none := by kernel_rfl
set_option maxRecDepth 100000 in
theorem lifted (os : Os) (started : os.Started) (H : Type) (enc : TypeId × Value → H) :
    ReturnsInHanded {} Try.checked os 4 .any (Rows.quantShowsSpec.pre6 enc Try.prog Try.f4 Rows.quantShowsRow.domain false) (Rows.quantShowsSpec.post enc Try.prog Try.f4 false true false false) := by
  refine returnsInHanded_of_change_sized (C := Try.checked) own started (by kernel_rfl) Try.func4
    (ChangeSpec.witness6 (enc := enc) (C := Try.checked) false ⟨#[], #[.int .i64 0], []⟩ 8 (by kernel_rfl) (by kernel_rfl) (by kernel_rfl) (by kernel_rfl)) ?_
  intro W base args ds gs before hval0 hW hcnd hsz0 _
  have hsz : (DataW.weightsEach Try.prog (Try.f4.params.toList ++ Rows.quantShowsSpec.plain.varTypes Try.prog) (ds ++ gs)).all (· ≤ reachBytes) = true := hsz0
  have hval : ∀ (j : Nat) t v, Try.f4.params[j]? = some t → args[j]? = some v → Value.okWide Try.prog W .any base t v := hval0
  have hW' := hW
  obtain ⟨p, q, hA0, hV, rfl, hfz, hnd⟩ := hW
  have hA : DataW.TrodAll enc Try.prog W 0 (fun _ => true) true Try.f4.params.toList args.toList ds p := hA0
  rw [Try.params4] at hA hval hsz
  obtain ⟨v0, vs0, d0, ds0, p0, q0, hargs, rfl, rfl, h0, r0⟩ := trodAll_cons hA
  obtain ⟨rfl, rfl, rfl⟩ := trodAll_nil r0
  obtain rfl : args = #[v0] := by cases args; simp_all
  obtain ⟨rfl, rfl⟩ := trodVars_none hV
  obtain ⟨a0, rfl, rfl, rfl, w0⟩ := open_int Try.underlying3 (hval 0 3 v0 rfl rfl) h0
  clear hA0 hval0 hsz0 hsz
  refine (_root_.Go.Proofs.Ytpmmiabcfnejmaa.H.triremelaw03_QuantShows.walk Pure.QuantShows a0 W w0).mono fun e W' ⟨he, bel⟩ => ?_
  subst he
  exact ⟨_, rfl, _, _, _, [], _, [], hW', trodAll_mk1 (shut_bool Try.underlying4 _), (trodAll_cons_mk (shut_int Try.underlying3 w0) trodAll_mk0), rfl, bel.frame _, fun h => by cases h⟩
theorem over : Rows.quantShowsRow.holds Try.pinned (OpenSpec.ofChange Rows.quantShowsSpec) :=
  OpenClaim.holds_of_wide 4 Try.f4 rfl rfl rfl rfl rfl rfl rfl ⟨rfl, rfl, rfl, rfl, rfl⟩ rfl rfl rfl rfl rfl (by kernel_rfl) Try.func4 (by kernel_rfl)
    (of_decide_eq_true (by kernel_rfl)) (by unfold Func.isWrapper; first | (rw [if_pos (by decide +kernel)]; kernel_rfl) | (rw [if_neg (by decide +kernel)]; exact ⟨rfl, rfl⟩))
    (fun os started H enc _ => lifted os started H enc)
theorem proved : Rows.QuantShowsSaid := over
end Go.Proofs.Ytpmmiabcfnejmaa.quantShows
namespace Go.Proofs.Ytpmmiabcfnejmaa
/-- The row, under a short name, for the claim. -/
theorem quantShows_holds : Rows.QuantShowsSaid := quantShows.proved
end Go.Proofs.Ytpmmiabcfnejmaa
end
