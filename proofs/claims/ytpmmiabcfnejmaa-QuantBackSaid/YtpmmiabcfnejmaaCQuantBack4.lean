/- An amount that is shown is read as it was, in either way, and nothing is shown of a number that is no amount. -/
import Derived.Test.YtpmmiabcfnejmaaRows
import Derived.WalkKit
import Derived.ProofKit
import Derived.OpenShut
import Derived.ShutString
import Derived.ChangeOld
import Derived.Below
import Derived.SizedLaws
import Derived.Test.YtpmmiabcfnejmaaCQuantBack0
import Derived.Test.YtpmmiabcfnejmaaCQuantBack1
import Derived.Test.YtpmmiabcfnejmaaCQuantBack2
import Derived.Test.YtpmmiabcfnejmaaCQuantBack3
section
namespace Go.Proofs.Ytpmmiabcfnejmaa.H
open Go.RowKit Go.Proofs.YtpmmiabcfnejmaaW.PrintWords Go.Proofs.YtpmmiabcfnejmaaW.PrintLast Go.Proofs.YtpmmiabcfnejmaaW.PrintMore
set_option linter.unusedVariables false
set_option linter.unusedSimpArgs false
theorem name_facts (k : Nat) (h : k < 5) : heads (showName k).toList = 0 ∧ ((showName k).size = 0 ∨ bt (showName k) 0 ≠ 46) ∧ unitO (showName k) = some ((1000 * 1024 ^ k : Nat) : Int) := by
  match k, h with
  | 0, _ => exact ⟨by rw [ByteArray.toList_eq]; rfl, .inl rfl, by decide⟩
  | 1, _ => exact ⟨by rw [ByteArray.toList_eq]; rfl, .inr (by decide), by decide⟩
  | 2, _ => exact ⟨by rw [ByteArray.toList_eq]; rfl, .inr (by decide), by decide⟩
  | 3, _ => exact ⟨by rw [ByteArray.toList_eq]; rfl, .inr (by decide), by decide⟩
  | 4, _ => exact ⟨by rw [ByteArray.toList_eq]; rfl, .inr (by decide), by decide⟩
theorem showGo_val : ∀ (d n k : Nat), (showGo d n k).1 * 1024 ^ (showGo d n k).2 = n * 1024 ^ k ∧ (showGo d n k).2 ≤ k + d ∧ (showGo d n k).1 ≤ n
  | 0, n, k => ⟨rfl, Nat.le_refl _, Nat.le_refl _⟩
  | d + 1, n, k => by
    unfold showGo
    by_cases h : 0 < n ∧ n % 1024 = 0
    · rw [if_pos h]
      obtain ⟨h1, h2, h3⟩ := showGo_val d (n / 1024) (k + 1)
      refine ⟨?_, by omega, by omega⟩
      rw [h1, Nat.pow_succ]
      obtain ⟨m, hm⟩ : ∃ m, n = m * 1024 := ⟨n / 1024, by omega⟩
      rw [hm, Nat.mul_div_cancel _ (by decide)]
      grind
    · rw [if_neg h]; exact ⟨rfl, by omega, Nat.le_refl _⟩
theorem show_back (n : Nat) (hn : n ≤ 1125899906842624) : amtR (showB n) 1000000 = ((n : Int), 0) := by
  obtain ⟨h1, h2, h3⟩ := showGo_val 4 n 0
  unfold showB
  generalize (showGo 4 n 0).1 = q at *
  generalize (showGo 4 n 0).2 = k at *
  obtain ⟨d1, d2, d3⟩ := decB_val q (by omega)
  obtain ⟨f1, f2, f3⟩ := name_facts k (by omega)
  rw [Nat.pow_zero, Nat.mul_one] at h1
  rw [amtR_plain _ _ _ d1 d3 f1 f2, tail_plain _ _ q _ n d2 f3 0 1000000 (by rw [← h1]; grind) (by decide) hn]
theorem app_empty (w : ByteArray) : w ++ (⟨#[]⟩ : ByteArray) = w := by
  apply toList_inj; rw [append_toList, toList_nil (s := ⟨#[]⟩) rfl, List.append_nil]
theorem mil_back (n : Nat) (hn : n ≤ 1125899906842624) : amtR (milR (n : Int)) 1000 = ((n : Int), 0) := by
  unfold milR
  rw [if_neg (by omega)]
  by_cases h : (n : Int) % 1000 = 0
  · rw [if_pos h, show (n : Int) / 1000 = ((n / 1000 : Nat) : Int) from rfl]
    obtain ⟨d1, d2, d3⟩ := decB_val (n / 1000) (by omega)
    rw [← app_empty (decB _), amtR_plain _ _ _ d1 d3 (by rw [ByteArray.toList_eq]; rfl) (.inl rfl), tail_plain _ _ (n / 1000) 1000 n d2 (by decide) 0 1000 (by omega) (by decide) hn]
  · rw [if_neg h]
    obtain ⟨d1, d2, d3⟩ := decB_val n (by omega)
    rw [amtR_plain _ _ _ d1 d3 (by rw [ByteArray.toList_eq]; rfl) (.inr (by decide)), tail_plain _ _ n 1 n d2 (by decide) 0 1000 (by omega) (by decide) hn]
theorem mil_size (n : Int) : (milR n).size ≤ 21 := by
  unfold milR
  have h1 := decB_size n
  have h2 := decB_size (n / 1000)
  split
  · decide
  · split
    · omega
    · rw [ByteArray.size_append]; show _ + 1 ≤ _; omega
set_option maxRecDepth 100000 in
theorem back_pure : triremelaw03_QuantBack.Pure := by
  intro a0 h0
  apply Ev.rounds
  unfold triremelaw03_QuantBack.f quant_Show.f
  simp only [Option.bind_some]
  refine Ev.bind (showMilli_ev a0) ?_
  have hempty : (⟨#[]⟩ : ByteArray).toList = [] := toList_nil rfl
  by_cases h : a0 < 0 ∨ 1125899906842624 < a0
  · have hj : Ev (fun k => triremelaw03_QuantBack.j0 k a0 ⟨#[]⟩ ⟨#[]⟩ true) true := by
      refine Ev.step (fun k => by rw [triremelaw03_QuantBack.j0]) ?_
      simp only [if_true, hempty]
      exact Ev.bind known_ev (Ev.now _)
    rw [show milR a0 = ⟨#[]⟩ by unfold milR; rw [if_pos h], if_pos h]
    refine ev_if (fun _ => hj) (fun h2 => ?_)
    rw [show decide (a0 > 1125899906842624) = true from decide_eq_true (by omega)]
    exact hj
  · rw [if_neg h]
    obtain ⟨n, rfl⟩ : ∃ n : Nat, a0 = n := ⟨a0.toNat, by omega⟩
    rw [Int.toNat_natCast]
    refine ev_if (fun h2 => absurd h2 (by omega)) (fun _ => ?_)
    rw [show decide ((n : Int) > 1125899906842624) = false from decide_eq_false (by omega)]
    refine Ev.step (fun k => by rw [triremelaw03_QuantBack.j0]) ?_
    simp only [Bool.false_eq_true, if_false]
    have hs : (showB n).size ≤ 22 := by
      unfold showB
      rw [ByteArray.size_append]
      have h1 := decB_size ((showGo 4 n 0).1 : Int)
      have h2 := showName_size (showGo 4 n 0).2
      omega
    have hP := quantParse_ev (showB n) (by omega)
    rw [show_back n (by omega)] at hP
    have hM := quantMilli_ev (milR (n : Int)) (by have := mil_size (n : Int); omega)
    rw [mil_back n (by omega)] at hM
    refine Ev.bind hP ?_
    refine Ev.bind hM ?_
    simp only [if_true]
    exact Ev.bind known_ev (Ev.now _)
end Go.Proofs.Ytpmmiabcfnejmaa.H
end
section
namespace Go.Proofs.Ytpmmiabcfnejmaa.Pure
open Go.RowKit Go.Proofs.Ytpmmiabcfnejmaa.H Go.Proofs.YtpmmiabcfnejmaaW.PrintWords Go.Proofs.YtpmmiabcfnejmaaW.PrintLast
theorem QuantBack : triremelaw03_QuantBack.Pure -- proved in PuK
  := H.back_pure
end Go.Proofs.Ytpmmiabcfnejmaa.Pure
end
section
namespace Go.Proofs.Ytpmmiabcfnejmaa.quantBack
open Go.ChangeShapes Go.WideShapes Go.ChangeAt Go.RowKit
open Go.ChangeMaps (open_string shut_string)
set_option linter.unusedVariables false
theorem own : ownKnob Try.prog.godebug = none := by kernel_rfl
set_option maxRecDepth 100000 in
theorem lifted (os : Os) (started : os.Started) (H : Type) (enc : TypeId × Value → H) :
    ReturnsInHanded {} Try.checked os 5 .any (Rows.quantBackSpec.pre6 enc Try.prog Try.f5 Rows.quantBackRow.domain false) (Rows.quantBackSpec.post enc Try.prog Try.f5 false true false false) := by
  refine returnsInHanded_of_change_sized (C := Try.checked) own started (by kernel_rfl) Try.func5
    (ChangeSpec.witness6 (enc := enc) (C := Try.checked) false ⟨#[], #[.int .i64 0], []⟩ 8 (by kernel_rfl) (by kernel_rfl) (by kernel_rfl) (by kernel_rfl)) ?_
  intro W base args ds gs before hval0 hW hcnd hsz0 _
  have hsz : (DataW.weightsEach Try.prog (Try.f5.params.toList ++ Rows.quantBackSpec.plain.varTypes Try.prog) (ds ++ gs)).all (· ≤ reachBytes) = true := hsz0
  have hval : ∀ (j : Nat) t v, Try.f5.params[j]? = some t → args[j]? = some v → Value.okWide Try.prog W .any base t v := hval0
  have hW' := hW
  obtain ⟨p, q, hA0, hV, rfl, hfz, hnd⟩ := hW
  have hA : DataW.TrodAll enc Try.prog W 0 (fun _ => true) true Try.f5.params.toList args.toList ds p := hA0
  rw [Try.params5] at hA hval hsz
  obtain ⟨v0, vs0, d0, ds0, p0, q0, hargs, rfl, rfl, h0, r0⟩ := trodAll_cons hA
  obtain ⟨rfl, rfl, rfl⟩ := trodAll_nil r0
  obtain rfl : args = #[v0] := by cases args; simp_all
  obtain ⟨rfl, rfl⟩ := trodVars_none hV
  obtain ⟨a0, rfl, rfl, rfl, w0⟩ := open_int Try.underlying3 (hval 0 3 v0 rfl rfl) h0
  clear hA0 hval0 hsz0 hsz
  refine (_root_.Go.Proofs.Ytpmmiabcfnejmaa.H.triremelaw03_QuantBack.walk Pure.QuantBack a0 W w0).mono fun e W' ⟨he, bel⟩ => ?_
  subst he
  exact ⟨_, rfl, _, _, _, [], _, [], hW', trodAll_mk1 (shut_bool Try.underlying4 _), (trodAll_cons_mk (shut_int Try.underlying3 w0) trodAll_mk0), rfl, bel.frame _, fun h => by cases h⟩
theorem over : Rows.quantBackRow.holds Try.pinned (OpenSpec.ofChange Rows.quantBackSpec) :=
  OpenClaim.holds_of_wide 5 Try.f5 rfl rfl rfl rfl rfl rfl rfl ⟨rfl, rfl, rfl, rfl, rfl⟩ rfl rfl rfl rfl rfl (by kernel_rfl) Try.func5 (by kernel_rfl)
    (of_decide_eq_true (by kernel_rfl)) (by unfold Func.isWrapper; first | (rw [if_pos (by decide +kernel)]; kernel_rfl) | (rw [if_neg (by decide +kernel)]; exact ⟨rfl, rfl⟩))
    (fun os started H enc _ => lifted os started H enc)
theorem proved : Rows.QuantBackSaid := over
end Go.Proofs.Ytpmmiabcfnejmaa.quantBack
namespace Go.Proofs.Ytpmmiabcfnejmaa
/-- The row, under a short name, for the claim. -/
theorem quantBack_holds : Rows.QuantBackSaid := quantBack.proved
end Go.Proofs.Ytpmmiabcfnejmaa
end
