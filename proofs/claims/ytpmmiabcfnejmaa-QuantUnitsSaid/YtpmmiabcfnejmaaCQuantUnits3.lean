/- Digits with a unit are that many of it, with a point thousandths of it, and a thousand times as much in thousandths. -/
import Derived.Test.YtpmmiabcfnejmaaRows
import Derived.WalkKit
import Derived.ProofKit
import Derived.OpenShut
import Derived.ShutString
import Derived.ChangeOld
import Derived.Below
import Derived.SizedLaws
import Derived.Test.YtpmmiabcfnejmaaCQuantUnits0
import Derived.Test.YtpmmiabcfnejmaaCQuantUnits1
import Derived.Test.YtpmmiabcfnejmaaCQuantUnits2
section
namespace Go.Proofs.Ytpmmiabcfnejmaa.H
open Go.RowKit Go.Proofs.YtpmmiabcfnejmaaW.PrintWords Go.Proofs.YtpmmiabcfnejmaaW.PrintLast Go.Proofs.YtpmmiabcfnejmaaW.PrintMore
set_option linter.unusedVariables false
set_option linter.unusedSimpArgs false
theorem zz2 : ∀ c ∈ (⟨#[48, 48]⟩ : ByteArray).toList, digB c = true := by rw [ByteArray.toList_eq]; decide
theorem fin_now (n : Int × Bool) : Ev (fun _ => if n.2 = true then (if n.1 > 1125899906842624 then some ((0, 10) : Int × Int) else some (n.1, 0)) else some (0, 10)) (finOf n) := by
  unfold finOf
  by_cases h : n.2 = true
  · by_cases h1 : n.1 > 1125899906842624
    · simp only [h, h1, if_true]; exact Ev.now _
    · simp only [h, h1, if_true, if_false]; exact Ev.now _
  · simp only [h, if_false, Bool.false_eq_true]; exact Ev.now _
theorem toList_nil {s : ByteArray} (h : s.size = 0) : s.toList = [] := List.eq_nil_of_length_eq_zero (by rw [toList_len]; exact h)
theorem size_nil {s : ByteArray} (h : s.toList = []) : s.size = 0 := by rw [← toList_len, h]; rfl
def cutR (s : ByteArray) : ByteArray × Int × ByteArray × Int :=
  let n := heads s.toList
  if n = 0 then (⟨#[]⟩, 0, ⟨#[]⟩, 8) else
  let rest := s.extract n s.size
  if rest.size = 0 ∨ bt rest 0 ≠ 46 then (s.extract 0 n, 0, rest, 0) else
  let k := heads (rest.extract 1 rest.size).toList
  if k < 1 ∨ 3 < k then (⟨#[]⟩, 0, ⟨#[]⟩, 8) else
  (s.extract 0 n, ((dval (((rest.extract 1 (1 + k)) ++ (⟨#[48, 48]⟩ : ByteArray)).extract 0 3).toList 0 : Nat) : Int), rest.extract (1 + k) rest.size, 0)
theorem dval_lt : ∀ (l : List UInt8) (n : Nat), (∀ c ∈ l, digB c = true) → dval l n < (n + 1) * 10 ^ l.length
  | [], n, _ => by simp [dval]
  | c :: l, n, h => by
    have hc := h c List.mem_cons_self
    simp only [digB, Bool.and_eq_true, decide_eq_true_eq] at hc
    have := dval_lt l (10 * n + (c.toNat - 48)) (fun c hc => h c (List.mem_cons_of_mem _ hc))
    simp only [dval, List.length_cons]
    have e : (10 * n + (c.toNat - 48) + 1) * 10 ^ l.length ≤ (n + 1) * 10 * 10 ^ l.length := Nat.mul_le_mul_right _ (by omega)
    rw [Nat.pow_succ, Nat.mul_comm (10 ^ l.length) 10, ← Nat.mul_assoc]
    omega
theorem append_toList (a b : ByteArray) : (a ++ b).toList = a.toList ++ b.toList := by
  rw [ByteArray.toList_eq, ByteArray.toList_eq, ByteArray.toList_eq, ByteArray.data_append, Array.toList_append]
theorem frac_dig (rest : ByteArray) (k : Nat) (hk : k = heads (rest.extract 1 rest.size).toList) (z : ByteArray) (hz : ∀ c ∈ z.toList, digB c = true) (j : Nat) : ∀ c ∈ (((rest.extract 1 (1 + k)) ++ z).extract 0 j).toList, digB c = true := by
  intro c hc
  rw [extract_toList, List.drop_zero, append_toList] at hc
  rcases List.mem_append.1 (List.mem_of_mem_take hc) with h | h
  · have h1 := heads_take (rest.extract 1 rest.size).toList c
    rw [← hk] at h1
    apply h1
    rw [extract_toList] at h ⊢
    rw [show List.take rest.size rest.toList = rest.toList from List.take_of_length_le (by rw [toList_len]; exact Nat.le_refl _)]
    rw [Nat.add_comm, List.drop_take, Nat.add_sub_cancel] at h
    exact h
  · exact hz c h
theorem cut_ev (s : ByteArray) (hs : s.size ≤ 1000000000) : Ev (fun k => quant_cut.f k s) (cutR s) := by
  unfold quant_cut.f
  refine Ev.bind (head_ev s hs) ?_
  have hl := heads_le s.toList
  rw [toList_len] at hl
  unfold cutR
  simp only
  generalize hn : heads s.toList = n at *
  by_cases h0 : n = 0
  · subst h0
    simp only [show ((0 : Nat) : Int) = 0 from rfl, if_true]
    exact Ev.now _
  · simp only [h0, show ¬ (n : Int) = 0 by omega, show (0 : Int) ≤ (n : Int) by omega, show (n : Int) ≤ (s.size : Int) by omega, if_true, if_false, Int.toNat_natCast]
    generalize hr : s.extract n s.size = rest at *
    have hrs : rest.size = s.size - n := by rw [← hr, ByteArray.size_extract]; omega
    have hj : ∀ b : Bool, (b = true ↔ (rest.size = 0 ∨ bt rest 0 ≠ 46)) → Ev (fun k => quant_cut.j0 k (s.extract 0 n) rest b)
        (if rest.size = 0 ∨ bt rest 0 ≠ 46 then (s.extract 0 n, 0, rest, 0) else
          if heads (rest.extract 1 rest.size).toList < 1 ∨ 3 < heads (rest.extract 1 rest.size).toList then (⟨#[]⟩, 0, ⟨#[]⟩, 8) else
          (s.extract 0 n, ((dval (((rest.extract 1 (1 + heads (rest.extract 1 rest.size).toList)) ++ (⟨#[48, 48]⟩ : ByteArray)).extract 0 3).toList 0 : Nat) : Int), rest.extract (1 + heads (rest.extract 1 rest.size).toList) rest.size, 0)) := by
      intro b hb
      refine Ev.step (fun k => by rw [quant_cut.j0]) ?_
      by_cases hc : rest.size = 0 ∨ bt rest 0 ≠ 46
      · rw [if_pos hc, hb.2 hc]
        simp only [if_true]
        exact Ev.now _
      · rw [if_neg hc]
        have hbf : b = false := by cases b with
          | false => rfl
          | true => exact absurd (hb.1 rfl) hc
        subst hbf
        have h1 : 1 ≤ rest.size := by omega
        simp only [Bool.false_eq_true, if_false, show (1 : Int) ≤ (rest.size : Int) by omega, if_true]
        have hx : (rest.extract 1 rest.size).size = rest.size - 1 := by rw [ByteArray.size_extract]; omega
        refine Ev.bind (head_ev _ (by omega)) ?_
        have hl2 := heads_le (rest.extract 1 rest.size).toList
        rw [toList_len, hx] at hl2
        generalize hk : heads (rest.extract 1 rest.size).toList = m at *
        by_cases hm1 : m < 1
        · simp only [show (m : Int) < 1 by omega, hm1, true_or, if_true]; exact Ev.now _
        · by_cases hm3 : 3 < m
          · simp only [show ¬ (m : Int) < 1 by omega, show (m : Int) > 3 by omega, hm3, or_true, if_true, if_false]; exact Ev.now _
          · rw [wrap_small (i := 1 + (m : Int)) (by omega) (by omega)]
            have e1 : (1 + (m : Int)).toNat = 1 + m := by omega
            rw [e1]
            have hsz : (rest.extract 1 (1 + m)).size = m := by rw [ByteArray.size_extract]; omega
            have hsz2 : ((rest.extract 1 (1 + m)) ++ (⟨#[48, 48]⟩ : ByteArray)).size = m + 2 := by rw [ByteArray.size_append, hsz]; rfl
            simp only [show ¬ (m : Int) < 1 by omega, show ¬ (m : Int) > 3 by omega, hm1, hm3, or_self, if_false, show (1 : Int) ≤ 1 + (m : Int) by omega, show (0 : Int) ≤ 1 + (m : Int) by omega, show 1 + (m : Int) ≤ (rest.size : Int) by omega, if_true, hsz, hsz2, show m + 2 ≤ 9223372036854775807 by omega, show (0 : Int) ≤ 3 by decide, show (3 : Int) ≤ ((m + 2 : Nat) : Int) by omega]
            have hd := frac_dig rest m hk.symm ⟨#[48, 48]⟩ zz2 3
            have hlt := dval_lt _ 0 hd
            have hsz3 : (((rest.extract 1 (1 + m)) ++ (⟨#[48, 48]⟩ : ByteArray)).extract 0 3).size = 3 := by rw [ByteArray.size_extract, hsz2]; omega
            rw [toList_len, hsz3] at hlt
            have hv := value_ev _ 1000 (by omega) (by omega) (by rw [hsz3]; omega) hd
            rw [show valR (dval (((rest.extract 1 (1 + m)) ++ (⟨#[48, 48]⟩ : ByteArray)).extract 0 3).toList 0) 1000 = (((dval (((rest.extract 1 (1 + m)) ++ (⟨#[48, 48]⟩ : ByteArray)).extract 0 3).toList 0 : Nat) : Int), true) from if_pos (by omega)] at hv
            exact Ev.bind hv (Ev.now _)
    by_cases hc : rest.size = 0
    · simp only [toList_nil hc, if_true]
      exact hj true ⟨fun _ => .inl hc, fun _ => rfl⟩
    · have hne : ¬ rest.toList = [] := fun e => hc (size_nil e)
      simp only [hne, if_false, show (0 : Int) < (rest.size : Int) by omega, if_true]
      refine hj _ ⟨fun h => .inr (by simpa using h), fun h => ?_⟩
      rcases h with h | h
      · exact absurd h hc
      · simpa using h
theorem unitO_ok (s : ByteArray) (u : Int) (h : unitO s = some u) : ∃ v : Nat, u = (v : Int) ∧ (v = 1 ∨ 1000 ≤ v) ∧ v ≤ 1099511627776000 := by
  unfold unitO at h
  repeat' (split at h)
  all_goals first | (cases h; done) | (cases h; exact ⟨Int.toNat _, (Int.toNat_of_nonneg (by decide)).symm, by decide, by decide⟩)
def tailR (whole : ByteArray) (p : Nat) (rest : ByteArray) (each : Nat) : Int × Int :=
  match unitO rest with
  | none => (0, 9)
  | some u => if vOf (dval whole.toList 0) p u.toNat % each = 0 then amtFin (vOf (dval whole.toList 0) p u.toNat) each else (0, 8)
def amtR (s : ByteArray) (each : Nat) : Int × Int :=
  let c := cutR s
  if c.2.2.2 = 0 then tailR c.1 c.2.1.toNat c.2.2.1 each else (0, c.2.2.2)
theorem cutR_ok (s : ByteArray) (h : (cutR s).2.2.2 = 0) : ∃ p : Nat, (cutR s).2.1 = (p : Int) ∧ p < 1000 ∧ (cutR s).1 = s.extract 0 (heads s.toList) := by
  unfold cutR at h ⊢
  simp only at h ⊢
  by_cases h0 : heads s.toList = 0
  · rw [if_pos h0] at h; exact absurd h (by decide)
  · rw [if_neg h0] at h ⊢
    by_cases h1 : (s.extract (heads s.toList) s.size).size = 0 ∨ bt (s.extract (heads s.toList) s.size) 0 ≠ 46
    · rw [if_pos h1]; exact ⟨0, rfl, by decide, rfl⟩
    · rw [if_neg h1] at h ⊢
      generalize hr : s.extract (heads s.toList) s.size = rest at *
      generalize hk : heads (rest.extract 1 rest.size).toList = m at *
      by_cases h2 : m < 1 ∨ 3 < m
      · rw [if_pos h2] at h; exact absurd h (by decide)
      · rw [if_neg h2]
        have hd := frac_dig rest m hk.symm ⟨#[48, 48]⟩ zz2 3
        have hlt := dval_lt _ 0 hd
        rw [toList_len] at hlt
        have hsz3 : (((rest.extract 1 (1 + m)) ++ (⟨#[48, 48]⟩ : ByteArray)).extract 0 3).size ≤ 3 := by rw [ByteArray.size_extract]; omega
        have : 10 ^ (((rest.extract 1 (1 + m)) ++ (⟨#[48, 48]⟩ : ByteArray)).extract 0 3).size ≤ 10 ^ 3 := Nat.pow_le_pow_right (by decide) hsz3
        exact ⟨_, rfl, by omega, rfl⟩
theorem whole_dig (s : ByteArray) : ∀ c ∈ (s.extract 0 (heads s.toList)).toList, digB c = true := by
  intro c hc
  rw [extract_toList, List.drop_zero] at hc
  exact heads_take _ c hc
theorem amount_ev (s : ByteArray) (each : Nat) (he : each = 1000 ∨ each = 1000000) (hs : s.size ≤ 1000000000) : Ev (fun k => quant_amount.f k s (each : Int)) (amtR s each) := by
  unfold quant_amount.f amtR
  refine Ev.bind (cut_ev s hs) ?_
  simp only
  by_cases h : (cutR s).2.2.2 = 0
  · simp only [h, if_true]
    obtain ⟨p, hp, hp2, hw⟩ := cutR_ok s h
    unfold tailR
    cases hu : unitO (cutR s).2.2.1 with
    | none => exact Ev.now _
    | some u =>
      obtain ⟨v, rfl, hv, hv2⟩ := unitO_ok _ u hu
      simp only [Int.toNat_natCast, hp, hw]
      have hwz : (s.extract 0 (heads s.toList)).size ≤ 1000000000 := by rw [ByteArray.size_extract]; omega
      refine Ev.bind (exact_ev _ each (by omega) (by omega) p v hp2 hwz (whole_dig s)) ?_
      by_cases hx : vOf (dval (s.extract 0 (heads s.toList)).toList 0) p v % each = 0
      · rw [if_pos hx, decide_eq_true hx]
        simp only [if_true]
        obtain ⟨n, hn, hf⟩ := whole_ev _ each he p v hp2 hv hv2 hwz (whole_dig s) hx
        rw [← hf]
        exact Ev.bind hn (fin_now _)
      · rw [if_neg hx, decide_eq_false hx]
        simp only [Bool.false_eq_true, if_false]
        exact Ev.now _
  · simp only [h, if_false]
    exact Ev.now _
theorem quantParse_ev (s : ByteArray) (hs : s.size ≤ 1000000000) : Ev (fun k => quant_Parse.f k s) (amtR s 1000000) := by
  unfold quant_Parse.f
  exact Ev.bind (amount_ev s 1000000 (.inr rfl) hs) (Ev.now _)
theorem quantMilli_ev (s : ByteArray) (hs : s.size ≤ 1000000000) : Ev (fun k => quant_Milli.f k s) (amtR s 1000) := by
  unfold quant_Milli.f
  exact Ev.bind (amount_ev s 1000 (.inl rfl) hs) (Ev.now _)
end Go.Proofs.Ytpmmiabcfnejmaa.H
end
section
namespace Go.Proofs.Ytpmmiabcfnejmaa.H
open Go.RowKit Go.Proofs.YtpmmiabcfnejmaaW.PrintWords Go.Proofs.YtpmmiabcfnejmaaW.PrintLast Go.Proofs.YtpmmiabcfnejmaaW.PrintMore
attribute [local go_sem] max2_int min2_int max_two min_two max_three min_three max_four min_four   -- for this text's walks alone
set_option linter.unusedVariables false
set_option linter.unusedSimpArgs false
def triremeref03_unit.f (a0 : ByteArray) : Option (Int) := if a0.toList = ([] : List UInt8) then (some 1000) else (if a0.toList = ([109] : List UInt8) then (some 1) else (if a0.toList = ([75, 105] : List UInt8) then (some 1024000) else (if a0.toList = ([77, 105] : List UInt8) then (some 1048576000) else (if a0.toList = ([71, 105] : List UInt8) then (some 1073741824000) else (if a0.toList = ([84, 105] : List UInt8) then (some 1099511627776000) else (if a0.toList = ([107] : List UInt8) then (some 1000000) else (if a0.toList = ([77] : List UInt8) then (some 1000000000) else (if a0.toList = ([71] : List UInt8) then (some 1000000000000) else (if a0.toList = ([84] : List UInt8) then (some 1000000000000000) else (some 0))))))))))
set_option maxHeartbeats 8000000 in
set_option maxRecDepth 100000 in
theorem triremeref03_unit.calls (a0 : ByteArray) (r : Int) (w : World) (h : triremeref03_unit.f a0 = some r) :
    Calls Try.prog 31 #[.string a0] w fun e w' => e = .returned (.int .i64 r) ∧ Drawn0 w w' := by
  have H : (if a0.toList = ([] : List UInt8) then (some 1000) else (if a0.toList = ([109] : List UInt8) then (some 1) else (if a0.toList = ([75, 105] : List UInt8) then (some 1024000) else (if a0.toList = ([77, 105] : List UInt8) then (some 1048576000) else (if a0.toList = ([71, 105] : List UInt8) then (some 1073741824000) else (if a0.toList = ([84, 105] : List UInt8) then (some 1099511627776000) else (if a0.toList = ([107] : List UInt8) then (some 1000000) else (if a0.toList = ([77] : List UInt8) then (some 1000000000) else (if a0.toList = ([71] : List UInt8) then (some 1000000000000) else (if a0.toList = ([84] : List UInt8) then (some 1000000000000000) else (some 0))))))))))) = some r := h
  clear h
  by_cases c2 : a0.toList = ([] : List UInt8)
  · rw [if_pos c2] at H
    have c2b0 : (a0.toList == ([] : List UInt8)) = true := beq_iff_eq.mpr c2
    have c2b1 : (a0.toList != ([] : List UInt8)) = false := bne_eq_false_iff_eq.mpr c2
    clear c2
    obtain rfl := Option.some.inj H
    go_enter Try.func31, Try.ntmps31
    go_wp2
    go_ret
    exact ⟨by first | rfl | (simp; done) | (simp [*]; done), by repeat (first | exact Drawn0.refl _ | apply Drawn0.step)⟩
  · rw [if_neg c2] at H
    have c2b0 : (a0.toList == ([] : List UInt8)) = false := beq_eq_false_iff_ne.mpr c2
    have c2b1 : (a0.toList != ([] : List UInt8)) = true := bne_iff_ne.mpr c2
    by_cases c3 : a0.toList = ([109] : List UInt8)
    · rw [if_pos c3] at H
      have c3b0 : (a0.toList == ([109] : List UInt8)) = true := beq_iff_eq.mpr c3
      have c3b1 : (a0.toList != ([109] : List UInt8)) = false := bne_eq_false_iff_eq.mpr c3
      clear c3
      obtain rfl := Option.some.inj H
      go_enter Try.func31, Try.ntmps31
      go_wp2
      go_ret
      exact ⟨by first | rfl | (simp; done) | (simp [*]; done), by repeat (first | exact Drawn0.refl _ | apply Drawn0.step)⟩
    · rw [if_neg c3] at H
      have c3b0 : (a0.toList == ([109] : List UInt8)) = false := beq_eq_false_iff_ne.mpr c3
      have c3b1 : (a0.toList != ([109] : List UInt8)) = true := bne_iff_ne.mpr c3
      by_cases c4 : a0.toList = ([75, 105] : List UInt8)
      · rw [if_pos c4] at H
        have c4b0 : (a0.toList == ([75, 105] : List UInt8)) = true := beq_iff_eq.mpr c4
        have c4b1 : (a0.toList != ([75, 105] : List UInt8)) = false := bne_eq_false_iff_eq.mpr c4
        clear c4
        obtain rfl := Option.some.inj H
        go_enter Try.func31, Try.ntmps31
        go_wp2
        go_ret
        exact ⟨by first | rfl | (simp; done) | (simp [*]; done), by repeat (first | exact Drawn0.refl _ | apply Drawn0.step)⟩
      · rw [if_neg c4] at H
        have c4b0 : (a0.toList == ([75, 105] : List UInt8)) = false := beq_eq_false_iff_ne.mpr c4
        have c4b1 : (a0.toList != ([75, 105] : List UInt8)) = true := bne_iff_ne.mpr c4
        by_cases c5 : a0.toList = ([77, 105] : List UInt8)
        · rw [if_pos c5] at H
          have c5b0 : (a0.toList == ([77, 105] : List UInt8)) = true := beq_iff_eq.mpr c5
          have c5b1 : (a0.toList != ([77, 105] : List UInt8)) = false := bne_eq_false_iff_eq.mpr c5
          clear c5
          obtain rfl := Option.some.inj H
          go_enter Try.func31, Try.ntmps31
          go_wp2
          go_ret
          exact ⟨by first | rfl | (simp; done) | (simp [*]; done), by repeat (first | exact Drawn0.refl _ | apply Drawn0.step)⟩
        · rw [if_neg c5] at H
          have c5b0 : (a0.toList == ([77, 105] : List UInt8)) = false := beq_eq_false_iff_ne.mpr c5
          have c5b1 : (a0.toList != ([77, 105] : List UInt8)) = true := bne_iff_ne.mpr c5
          by_cases c6 : a0.toList = ([71, 105] : List UInt8)
          · rw [if_pos c6] at H
            have c6b0 : (a0.toList == ([71, 105] : List UInt8)) = true := beq_iff_eq.mpr c6
            have c6b1 : (a0.toList != ([71, 105] : List UInt8)) = false := bne_eq_false_iff_eq.mpr c6
            clear c6
            obtain rfl := Option.some.inj H
            go_enter Try.func31, Try.ntmps31
            go_wp2
            go_ret
            exact ⟨by first | rfl | (simp; done) | (simp [*]; done), by repeat (first | exact Drawn0.refl _ | apply Drawn0.step)⟩
          · rw [if_neg c6] at H
            have c6b0 : (a0.toList == ([71, 105] : List UInt8)) = false := beq_eq_false_iff_ne.mpr c6
            have c6b1 : (a0.toList != ([71, 105] : List UInt8)) = true := bne_iff_ne.mpr c6
            by_cases c7 : a0.toList = ([84, 105] : List UInt8)
            · rw [if_pos c7] at H
              have c7b0 : (a0.toList == ([84, 105] : List UInt8)) = true := beq_iff_eq.mpr c7
              have c7b1 : (a0.toList != ([84, 105] : List UInt8)) = false := bne_eq_false_iff_eq.mpr c7
              clear c7
              obtain rfl := Option.some.inj H
              go_enter Try.func31, Try.ntmps31
              go_wp2
              go_ret
              exact ⟨by first | rfl | (simp; done) | (simp [*]; done), by repeat (first | exact Drawn0.refl _ | apply Drawn0.step)⟩
            · rw [if_neg c7] at H
              have c7b0 : (a0.toList == ([84, 105] : List UInt8)) = false := beq_eq_false_iff_ne.mpr c7
              have c7b1 : (a0.toList != ([84, 105] : List UInt8)) = true := bne_iff_ne.mpr c7
              by_cases c8 : a0.toList = ([107] : List UInt8)
              · rw [if_pos c8] at H
                have c8b0 : (a0.toList == ([107] : List UInt8)) = true := beq_iff_eq.mpr c8
                have c8b1 : (a0.toList != ([107] : List UInt8)) = false := bne_eq_false_iff_eq.mpr c8
                clear c8
                obtain rfl := Option.some.inj H
                go_enter Try.func31, Try.ntmps31
                go_wp2
                go_ret
                exact ⟨by first | rfl | (simp; done) | (simp [*]; done), by repeat (first | exact Drawn0.refl _ | apply Drawn0.step)⟩
              · rw [if_neg c8] at H
                have c8b0 : (a0.toList == ([107] : List UInt8)) = false := beq_eq_false_iff_ne.mpr c8
                have c8b1 : (a0.toList != ([107] : List UInt8)) = true := bne_iff_ne.mpr c8
                by_cases c9 : a0.toList = ([77] : List UInt8)
                · rw [if_pos c9] at H
                  have c9b0 : (a0.toList == ([77] : List UInt8)) = true := beq_iff_eq.mpr c9
                  have c9b1 : (a0.toList != ([77] : List UInt8)) = false := bne_eq_false_iff_eq.mpr c9
                  clear c9
                  obtain rfl := Option.some.inj H
                  go_enter Try.func31, Try.ntmps31
                  go_wp2
                  go_ret
                  exact ⟨by first | rfl | (simp; done) | (simp [*]; done), by repeat (first | exact Drawn0.refl _ | apply Drawn0.step)⟩
                · rw [if_neg c9] at H
                  have c9b0 : (a0.toList == ([77] : List UInt8)) = false := beq_eq_false_iff_ne.mpr c9
                  have c9b1 : (a0.toList != ([77] : List UInt8)) = true := bne_iff_ne.mpr c9
                  by_cases c10 : a0.toList = ([71] : List UInt8)
                  · rw [if_pos c10] at H
                    have c10b0 : (a0.toList == ([71] : List UInt8)) = true := beq_iff_eq.mpr c10
                    have c10b1 : (a0.toList != ([71] : List UInt8)) = false := bne_eq_false_iff_eq.mpr c10
                    clear c10
                    obtain rfl := Option.some.inj H
                    go_enter Try.func31, Try.ntmps31
                    go_wp2
                    go_ret
                    exact ⟨by first | rfl | (simp; done) | (simp [*]; done), by repeat (first | exact Drawn0.refl _ | apply Drawn0.step)⟩
                  · rw [if_neg c10] at H
                    have c10b0 : (a0.toList == ([71] : List UInt8)) = false := beq_eq_false_iff_ne.mpr c10
                    have c10b1 : (a0.toList != ([71] : List UInt8)) = true := bne_iff_ne.mpr c10
                    by_cases c11 : a0.toList = ([84] : List UInt8)
                    · rw [if_pos c11] at H
                      have c11b0 : (a0.toList == ([84] : List UInt8)) = true := beq_iff_eq.mpr c11
                      have c11b1 : (a0.toList != ([84] : List UInt8)) = false := bne_eq_false_iff_eq.mpr c11
                      clear c11
                      obtain rfl := Option.some.inj H
                      go_enter Try.func31, Try.ntmps31
                      go_wp2
                      go_ret
                      exact ⟨by first | rfl | (simp; done) | (simp [*]; done), by repeat (first | exact Drawn0.refl _ | apply Drawn0.step)⟩
                    · rw [if_neg c11] at H
                      have c11b0 : (a0.toList == ([84] : List UInt8)) = false := beq_eq_false_iff_ne.mpr c11
                      have c11b1 : (a0.toList != ([84] : List UInt8)) = true := bne_iff_ne.mpr c11
                      obtain rfl := Option.some.inj H
                      go_enter Try.func31, Try.ntmps31
                      go_wp2
                      go_ret
                      exact ⟨by first | rfl | (simp; done) | (simp [*]; done), by repeat (first | exact Drawn0.refl _ | apply Drawn0.step)⟩
end Go.Proofs.Ytpmmiabcfnejmaa.H
end
section
namespace Go.Proofs.Ytpmmiabcfnejmaa.H
open Go.RowKit Go.Proofs.YtpmmiabcfnejmaaW.PrintWords Go.Proofs.YtpmmiabcfnejmaaW.PrintLast Go.Proofs.YtpmmiabcfnejmaaW.PrintMore
attribute [local go_sem] max2_int min2_int max_two min_two max_three min_three max_four min_four   -- for this text's walks alone
set_option linter.unusedVariables false
set_option linter.unusedSimpArgs false
mutual
def triremeref03_product.l0 : Nat → ByteArray → Int → ByteArray → Int → Int → Option (ByteArray)
  | 0, _, _, _, _, _ => none
  | k + 1, x0, x1, x5, x6, x7 => if x7 ≥ 0 then (triremeref03_product.j1 k x0 x1 x5 x6 x7 true) else (triremeref03_product.j1 k x0 x1 x5 x6 x7 (decide (x6 > 0)))
def triremeref03_product.j1 : Nat → ByteArray → Int → ByteArray → Int → Int → Bool → Option (ByteArray)
  | 0, _, _, _, _, _, _ => none
  | k + 1, x0, x1, x5, x6, x7, x16 => if x16 = true then (if x7 ≥ 0 then (if 0 ≤ x7 then (if x7 < (x0.size : Int) then ((some (([(wrap64 (48 + (Int.tmod (wrap64 (x6 + (wrap64 ((((bt x0 x7) - 48) % 256) * x1)))) 10))) % 256] : List Int) : List Int)).bind fun y163 => (if (strOfNums y163).size + x5.size ≤ 9223372036854775807 then (triremeref03_product.l0 k x0 x1 ((strOfNums y163) ++ x5) (wrap64 (Int.tdiv (wrap64 (x6 + (wrap64 ((((bt x0 x7) - 48) % 256) * x1)))) 10)) (wrap64 (x7 - 1))) else (none))) else (none)) else (none)) else ((some (([(wrap64 (48 + (Int.tmod x6 10))) % 256] : List Int) : List Int)).bind fun y166 => (if (strOfNums y166).size + x5.size ≤ 9223372036854775807 then (triremeref03_product.l0 k x0 x1 ((strOfNums y166) ++ x5) (wrap64 (Int.tdiv x6 10)) (wrap64 (x7 - 1))) else (none)))) else (some x5)
end
def triremeref03_product.f (k : Nat) (a0 : ByteArray) (a1 : Int) : Option (ByteArray) := triremeref03_product.l0 k a0 a1 (⟨#[]⟩ : ByteArray) 0 (wrap64 ((a0.size : Int) - 1))
theorem triremeref03_product.mono_l : ∀ k, (∀ y0 y1 y2 y3 y4, LeO (triremeref03_product.l0 k y0 y1 y2 y3 y4) (triremeref03_product.l0 (k + 1) y0 y1 y2 y3 y4)) ∧ (∀ y0 y1 y2 y3 y4 y5, LeO (triremeref03_product.j1 k y0 y1 y2 y3 y4 y5) (triremeref03_product.j1 (k + 1) y0 y1 y2 y3 y4 y5))
  | 0 => ⟨fun _ _ _ _ _ r h => by simp [triremeref03_product.l0] at h, fun _ _ _ _ _ _ r h => by simp [triremeref03_product.j1] at h⟩
  | k + 1 => by
    obtain ⟨ih0, ih1⟩ := triremeref03_product.mono_l k
    refine ⟨?_, ?_⟩
    · intro y0 y1 y2 y3 y4
      unfold triremeref03_product.l0
      repeat' first
      | (with_reducible exact ih0 _ _ _ _ _)
      | (with_reducible exact ih1 _ _ _ _ _ _)
      | (with_reducible exact LeO.refl _)
      | (with_reducible exact LeO.none _)
      | (with_reducible refine LeO.ite ?_ ?_)
      | (with_reducible refine LeO.bind ?_ (fun _ => ?_))
      | exact ih0 _ _ _ _ _
      | exact ih1 _ _ _ _ _ _
      | exact LeO.none _
      | refine LeO.ite ?_ ?_
      | refine LeO.bind ?_ (fun _ => ?_)
    · intro y0 y1 y2 y3 y4 y5
      unfold triremeref03_product.j1
      repeat' first
      | (with_reducible exact ih0 _ _ _ _ _)
      | (with_reducible exact ih1 _ _ _ _ _ _)
      | (with_reducible exact LeO.refl _)
      | (with_reducible exact LeO.none _)
      | (with_reducible refine LeO.ite ?_ ?_)
      | (with_reducible refine LeO.bind ?_ (fun _ => ?_))
      | exact ih0 _ _ _ _ _
      | exact ih1 _ _ _ _ _ _
      | exact LeO.none _
      | refine LeO.ite ?_ ?_
      | refine LeO.bind ?_ (fun _ => ?_)
theorem triremeref03_product.mono : ∀ a0 a1 k, LeO (triremeref03_product.f k a0 a1) (triremeref03_product.f (k + 1) a0 a1) := by
  intro a0 a1 k
  obtain ⟨ih0, ih1⟩ := triremeref03_product.mono_l k
  unfold triremeref03_product.f
  repeat' first
      | (with_reducible exact ih0 _ _ _ _ _)
      | (with_reducible exact ih1 _ _ _ _ _ _)
      | (with_reducible exact LeO.refl _)
      | (with_reducible exact LeO.none _)
      | (with_reducible refine LeO.ite ?_ ?_)
      | (with_reducible refine LeO.bind ?_ (fun _ => ?_))
      | exact ih0 _ _ _ _ _
      | exact ih1 _ _ _ _ _ _
      | exact LeO.none _
      | refine LeO.ite ?_ ?_
      | refine LeO.bind ?_ (fun _ => ?_)
set_option maxHeartbeats 8000000 in
set_option maxRecDepth 100000 in
theorem triremeref03_product.calls (k : Nat) (a0 : ByteArray) (a1 : Int) (r : ByteArray) (w : World) (h : triremeref03_product.f k a0 a1 = some r) :
    Calls Try.prog 32 #[.string a0, .int .i64 a1] w fun e w' => e = .returned (.string r) ∧ Below w.heap.size w w' := by
  have HB := Aside0.mk (Below.refl w.heap.size w)
  have H : (triremeref03_product.l0 k a0 a1 (⟨#[]⟩ : ByteArray) 0 (wrap64 ((a0.size : Int) - 1))) = some r := h
  clear h
  have H' := Aside0.mk H
  clear H
  go_enter Try.func32, Try.ntmps32
  go_wp2
  go_loopg [5, 6, 7] k (fun kq v5 v6 v7 w' => ∃ (x5_1 : ByteArray) (x6_1 : Int) (x7_1 : Int), v5 = .string x5_1 ∧ v6 = .int .i64 x6_1 ∧ v7 = .int .i64 x7_1 ∧ Aside0 (triremeref03_product.l0 kq a0 a1 x5_1 x6_1 x7_1 = some r) ∧ Aside0 (kq ≤ k) ∧ Aside0 (Below w.heap.size w w'))
  case atStart => exact ⟨((⟨#[]⟩ : ByteArray)), (0), (wrap64 ((a0.size : Int) - 1)), (by first | rfl | (simp; done) | (simp [*]; done)), (by first | rfl | (simp; done) | (simp [*]; done)), (by first | rfl | (simp; done) | (simp [*]; done)), H', ⟨Nat.le_refl _⟩, ⟨by repeat (first | (with_reducible first | exact HB.out | apply below_alloc | apply pw_below_drewN | apply below_drew1) | exact HB.out)⟩⟩
  case round =>
    clear H'
    try clear p2
    obtain ⟨x5_1, x6_1, x7_1, rfl, rfl, rfl, HA, HK1, HB⟩ := hrel
    cases gk with
    | zero => exact absurd HA.out (by simp [triremeref03_product.l0])
    | succ k1 =>
      have H := HA.out
      clear HA
      simp only [triremeref03_product.l0] at H
      have HC3 := Aside0.mk H
      clear H
      go_upto_region 4 with (fail)
      go_cut [16] (fun v16 wc => ∃ (kq : Nat) (x16_2 : Bool), v16 = .bool x16_2 ∧ Aside0 (triremeref03_product.j1 kq a0 a1 x5_1 x6_1 x7_1 x16_2 = some r) ∧ Aside0 (kq ≤ k1) ∧ Aside0 (Below w.heap.size w wc))
      case first =>
        have H := HC3.out
        clear HC3
        by_cases c4 : x7_1 ≥ 0
        · rw [if_pos c4] at H
          have c4b0 : decide (0 ≤ x7_1) = true := decide_eq_true c4
          clear c4
          (first | rw [c4b0] | (simp only [i64_w, i32_w]; rw [c4b0]) | skip)
          have H' := Aside0.mk H
          clear H
          go_wp2
          go_meet
          case rel => exact ⟨_, (true), (by first | rfl | (simp; done) | (simp [*]; done)), H', ⟨by have := HK1.out; first | omega | exact Nat.le_refl _⟩, ⟨by repeat (first | (with_reducible first | exact HB.out | apply below_alloc | apply pw_below_drewN | apply below_drew1) | exact HB.out)⟩⟩
        · rw [if_neg c4] at H
          have c4b0 : decide (0 ≤ x7_1) = false := decide_eq_false c4
          clear c4
          (first | rw [c4b0] | (simp only [i64_w, i32_w]; rw [c4b0]) | skip)
          have H' := Aside0.mk H
          clear H
          go_wp2
          go_meet
          case rel => exact ⟨_, (decide (x6_1 > 0)), (by first | rfl | (simp; done) | (simp [*]; done)), H', ⟨by have := HK1.out; first | omega | exact Nat.le_refl _⟩, ⟨by repeat (first | (with_reducible first | exact HB.out | apply below_alloc | apply pw_below_drewN | apply below_drew1) | exact HB.out)⟩⟩
      case rest =>
        clear HC3
        try clear p2
        try clear c3
        try clear c4
        try clear c4b0
        try clear p2
        obtain ⟨kq, x16_2, rfl, HA, HJ2, HB⟩ := hcut
        cases kq with
        | zero => exact absurd HA.out (by simp [triremeref03_product.j1])
        | succ kj2 =>
          have H := HA.out
          clear HA
          simp only [triremeref03_product.j1] at H
          by_cases c5 : x16_2 = true
          · subst c5
            have H1 : (if x7_1 ≥ 0 then (if 0 ≤ x7_1 then (if x7_1 < (a0.size : Int) then ((some (([(wrap64 (48 + (Int.tmod (wrap64 (x6_1 + (wrap64 ((((bt a0 x7_1) - 48) % 256) * a1)))) 10))) % 256] : List Int) : List Int)).bind fun y163 => (if (strOfNums y163).size + x5_1.size ≤ 9223372036854775807 then (triremeref03_product.l0 kj2 a0 a1 ((strOfNums y163) ++ x5_1) (wrap64 (Int.tdiv (wrap64 (x6_1 + (wrap64 ((((bt a0 x7_1) - 48) % 256) * a1)))) 10)) (wrap64 (x7_1 - 1))) else (none))) else (none)) else (none)) else ((some (([(wrap64 (48 + (Int.tmod x6_1 10))) % 256] : List Int) : List Int)).bind fun y166 => (if (strOfNums y166).size + x5_1.size ≤ 9223372036854775807 then (triremeref03_product.l0 kj2 a0 a1 ((strOfNums y166) ++ x5_1) (wrap64 (Int.tdiv x6_1 10)) (wrap64 (x7_1 - 1))) else (none)))) = some r := by rw [if_pos rfl] at H; exact H
            clear H
            have H := H1
            clear H1
            by_cases c6 : x7_1 ≥ 0
            · rw [if_pos c6] at H
              have c6b0 : decide (0 ≤ x7_1) = true := decide_eq_true c6
              clear c6
              by_cases c7 : 0 ≤ x7_1
              · rw [if_pos c7] at H
                have c7b0 : decide (0 ≤ x7_1) = true := decide_eq_true c7
                clear c7
                by_cases c8 : x7_1 < (a0.size : Int)
                · rw [if_pos c8] at H
                  have c8b0 : decide (x7_1 < (a0.size : Int)) = true := decide_eq_true c8
                  clear c8
                  obtain ⟨y163, hy163⟩ : ∃ y_ : List Int, y_ = (([(wrap64 (48 + (Int.tmod (wrap64 (x6_1 + (wrap64 ((((bt a0 x7_1) - 48) % 256) * a1)))) 10))) % 256] : List Int)) := ⟨_, rfl⟩
                  replace H : (if (strOfNums y163).size + x5_1.size ≤ 9223372036854775807 then (triremeref03_product.l0 kj2 a0 a1 ((strOfNums y163) ++ x5_1) (wrap64 (Int.tdiv (wrap64 (x6_1 + (wrap64 ((((bt a0 x7_1) - 48) % 256) * a1)))) 10)) (wrap64 (x7_1 - 1))) else (none)) = some r := by first | (rw [hy163]; with_reducible exact H) | (have H2_ := (Option.bind_some _ _).symm.trans H; rw [hy163]; with_reducible exact H2_) | (have H2_ := (Option.bind_some _ _).symm.trans H; with_reducible exact H2_) | with_reducible exact H | (rw [hy163]; exact H) | exact H
                  have Ny163 := Aside0.mk hy163
                  clear hy163
                  by_cases c10 : (strOfNums y163).size + x5_1.size ≤ 9223372036854775807
                  · rw [if_pos c10] at H
                    have c10b0 := eq_true c10
                    (try (have c10z := c10b0; rw [ByteArray.size_extract, Nat.min_self] at c10z))
                    have c10b1 : decide ((strOfNums y163).size + x5_1.size ≤ 9223372036854775807) = true := decide_eq_true c10
                    try have c10b2 : (9223372036854775807 < (strOfNums y163).size + x5_1.size) = False := eq_false (Nat.not_lt.2 c10)
                    have H' := Aside0.mk H
                    clear H
                    have p9 : 0 ≤ (x7_1 : Int) := of_decide_eq_true (by first | (with_reducible assumption) | assumption)
                    have q9 : x7_1 < (a0.size : Int) := of_decide_eq_true (by first | (with_reducible assumption) | assumption)
                    have hx9 := bt_at a0 x7_1
                    replace p9 := eq_true p9
                    replace q9 := eq_true q9
                    (try (have qz9 := q9; rw [ByteArray.size_extract, Nat.min_self] at qz9))
                    go_wp2_with (first | ((with_reducible refine gate_dst (N := 34) rfl ?_); refine Kd.R_lit (Kd.int .u8) _ 5 ?hg (N := 34) ?hd (xs := ([(wrap64 (48 + (Int.tmod (wrap64 (x6_1 + (wrap64 ((((bt a0 x7_1) - 48) % 256) * a1)))) 10))) % 256] : List Int)) (inner := [.int .u8 ((wrap64 (48 + (Int.tmod (wrap64 (x6_1 + (wrap64 ((((bt a0 x7_1) - 48) % 256) * a1)))) 10))) % 256)]) (ok := fun _ => True) (okp := fun _ => True) ?hr ?hp (fun _ hk => hk) trivial (Below.refl _ _) (Nat.le_refl _) (by simp) ?_; (case hd => rfl); (case hg => rfl); (case hr => first | (go_simp; done) | (go_simp; rfl)); (case hp => exact (Reps.one (show Kd.M (Kd.int .u8) _ _ _ ((wrap64 (48 + (Int.tmod (wrap64 (x6_1 + (wrap64 ((((bt a0 x7_1) - 48) % 256) * a1)))) 10))) % 256) [.int .u8 ((wrap64 (48 + (Int.tmod (wrap64 (x6_1 + (wrap64 ((((bt a0 x7_1) - 48) % 256) * a1)))) 10))) % 256)] from rfl) (Reps.none _ _))); intro v164 w11 ho12 hb hg_ hnew_; clear hg_ hnew_; (first | rw [← Ny163.out] at ho12 | (simp only [Int.reduceToNat] at ho12; rw [← Ny163.out] at ho12)); have n0_ := Aside0.mk (Kd.R_lower ho12 (below_size (by repeat (first | (with_reducible first | exact HB.out | apply below_alloc | apply pw_below_drewN | apply below_drew1) | exact HB.out)))); have n1_ := Aside0.mk (below_step (by repeat (first | (with_reducible first | exact HB.out | apply below_alloc | apply pw_below_drewN | apply below_drew1) | exact HB.out)) hb); clear HB; have HO165 := n0_; have HB := n1_; clear n0_ n1_; clear hb ho12; have hcv13 := own_string (P := Try.prog) Try.underlying39 Try.underlying5 Try.underlying9 (Kd.own_of_R HO165.out)))
                    go_roundg kj2
                    case measure => have := HK1.out; have := HJ2.out; omega
                    case rel => exact ⟨((strOfNums y163) ++ x5_1), (wrap64 (Int.tdiv (wrap64 (x6_1 + (wrap64 ((((bt a0 x7_1) - 48) % 256) * a1)))) 10)), (wrap64 (x7_1 - 1)), (by first | rfl | (simp; done) | (simp [*]; done)), (by first | rfl | (simp; done) | (simp [*]; done)), (by first | rfl | (simp; done) | (simp [*]; done)), H', ⟨by have := HK1.out; have := HJ2.out; omega⟩, ⟨by repeat (first | (with_reducible first | exact HB.out | apply below_alloc | apply pw_below_drewN | apply below_drew1) | exact HB.out)⟩⟩
                  · rw [if_neg c10] at H
                    exact absurd H (by simp)
                · rw [if_neg c8] at H
                  exact absurd H (by simp)
              · rw [if_neg c7] at H
                exact absurd H (by simp)
            · rw [if_neg c6] at H
              have c6b0 : decide (0 ≤ x7_1) = false := decide_eq_false c6
              clear c6
              obtain ⟨y166, hy166⟩ : ∃ y_ : List Int, y_ = (([(wrap64 (48 + (Int.tmod x6_1 10))) % 256] : List Int)) := ⟨_, rfl⟩
              replace H : (if (strOfNums y166).size + x5_1.size ≤ 9223372036854775807 then (triremeref03_product.l0 kj2 a0 a1 ((strOfNums y166) ++ x5_1) (wrap64 (Int.tdiv x6_1 10)) (wrap64 (x7_1 - 1))) else (none)) = some r := by first | (rw [hy166]; with_reducible exact H) | (have H2_ := (Option.bind_some _ _).symm.trans H; rw [hy166]; with_reducible exact H2_) | (have H2_ := (Option.bind_some _ _).symm.trans H; with_reducible exact H2_) | with_reducible exact H | (rw [hy166]; exact H) | exact H
              have Ny166 := Aside0.mk hy166
              clear hy166
              by_cases c14 : (strOfNums y166).size + x5_1.size ≤ 9223372036854775807
              · rw [if_pos c14] at H
                have c14b0 := eq_true c14
                (try (have c14z := c14b0; rw [ByteArray.size_extract, Nat.min_self] at c14z))
                have c14b1 : decide ((strOfNums y166).size + x5_1.size ≤ 9223372036854775807) = true := decide_eq_true c14
                try have c14b2 : (9223372036854775807 < (strOfNums y166).size + x5_1.size) = False := eq_false (Nat.not_lt.2 c14)
                have H' := Aside0.mk H
                clear H
                go_wp2_with (first | ((with_reducible refine gate_dst (N := 34) rfl ?_); refine Kd.R_lit (Kd.int .u8) _ 5 ?hg (N := 34) ?hd (xs := ([(wrap64 (48 + (Int.tmod x6_1 10))) % 256] : List Int)) (inner := [.int .u8 ((wrap64 (48 + (Int.tmod x6_1 10))) % 256)]) (ok := fun _ => True) (okp := fun _ => True) ?hr ?hp (fun _ hk => hk) trivial (Below.refl _ _) (Nat.le_refl _) (by simp) ?_; (case hd => rfl); (case hg => rfl); (case hr => first | (go_simp; done) | (go_simp; rfl)); (case hp => exact (Reps.one (show Kd.M (Kd.int .u8) _ _ _ ((wrap64 (48 + (Int.tmod x6_1 10))) % 256) [.int .u8 ((wrap64 (48 + (Int.tmod x6_1 10))) % 256)] from rfl) (Reps.none _ _))); intro v167 w15 ho16 hb hg_ hnew_; clear hg_ hnew_; (first | rw [← Ny166.out] at ho16 | (simp only [Int.reduceToNat] at ho16; rw [← Ny166.out] at ho16)); have n0_ := Aside0.mk (Kd.R_lower ho16 (below_size (by repeat (first | (with_reducible first | exact HB.out | apply below_alloc | apply pw_below_drewN | apply below_drew1) | exact HB.out)))); have n1_ := Aside0.mk (below_step (by repeat (first | (with_reducible first | exact HB.out | apply below_alloc | apply pw_below_drewN | apply below_drew1) | exact HB.out)) hb); clear HB; have HO168 := n0_; have HB := n1_; clear n0_ n1_; clear hb ho16; have hcv17 := own_string (P := Try.prog) Try.underlying39 Try.underlying5 Try.underlying9 (Kd.own_of_R HO168.out)))
                go_roundg kj2
                case measure => have := HK1.out; have := HJ2.out; omega
                case rel => exact ⟨((strOfNums y166) ++ x5_1), (wrap64 (Int.tdiv x6_1 10)), (wrap64 (x7_1 - 1)), (by first | rfl | (simp; done) | (simp [*]; done)), (by first | rfl | (simp; done) | (simp [*]; done)), (by first | rfl | (simp; done) | (simp [*]; done)), H', ⟨by have := HK1.out; have := HJ2.out; omega⟩, ⟨by repeat (first | (with_reducible first | exact HB.out | apply below_alloc | apply pw_below_drewN | apply below_drew1) | exact HB.out)⟩⟩
              · rw [if_neg c14] at H
                exact absurd H (by simp)
          · replace c5 := Bool.eq_false_iff.mpr c5
            subst c5
            have H1 : (some x5_1) = some r := by rw [if_neg (show ¬ (false = true) by decide)] at H; exact H
            clear H
            have H := H1
            clear H1
            obtain rfl := Option.some.inj H
            go_wp2
            go_ret
            exact ⟨by first | rfl | (simp [errW_none, errW_some] <;> rfl) | (simp [*, errW_none, errW_some] <;> rfl), by repeat (first | (with_reducible first | exact HB.out | apply below_alloc | apply pw_below_drewN | apply below_drew1) | exact HB.out)⟩
end Go.Proofs.Ytpmmiabcfnejmaa.H
end
section
namespace Go.Proofs.Ytpmmiabcfnejmaa.H
open Go.RowKit Go.Proofs.YtpmmiabcfnejmaaW.PrintWords Go.Proofs.YtpmmiabcfnejmaaW.PrintLast Go.Proofs.YtpmmiabcfnejmaaW.PrintMore
attribute [local go_sem] max2_int min2_int max_two min_two max_three min_three max_four min_four   -- for this text's walks alone
set_option linter.unusedVariables false
set_option linter.unusedSimpArgs false
def triremeref03_zeros.l0 : Nat → ByteArray → Int → Option (Bool)
  | 0, _, _ => none
  | k + 1, x0, x3 => if x3 < (x0.size : Int) then (if 0 ≤ x3 then (if (bt x0 x3) = 48 then (triremeref03_zeros.l0 k x0 (wrap64 (x3 + 1))) else (some false)) else (none)) else (some true)
def triremeref03_zeros.f (k : Nat) (a0 : ByteArray) : Option (Bool) := triremeref03_zeros.l0 k a0 0
theorem triremeref03_zeros.mono_l : ∀ k, (∀ y0 y1, LeO (triremeref03_zeros.l0 k y0 y1) (triremeref03_zeros.l0 (k + 1) y0 y1))
  | 0 => fun _ _ r h => by simp [triremeref03_zeros.l0] at h
  | k + 1 => by
    have ih0 := triremeref03_zeros.mono_l k
    · intro y0 y1
      unfold triremeref03_zeros.l0
      repeat' first
      | (with_reducible exact ih0 _ _)
      | (with_reducible exact LeO.refl _)
      | (with_reducible exact LeO.none _)
      | (with_reducible refine LeO.ite ?_ ?_)
      | (with_reducible refine LeO.bind ?_ (fun _ => ?_))
      | exact ih0 _ _
      | exact LeO.none _
      | refine LeO.ite ?_ ?_
      | refine LeO.bind ?_ (fun _ => ?_)
theorem triremeref03_zeros.mono : ∀ a0 k, LeO (triremeref03_zeros.f k a0) (triremeref03_zeros.f (k + 1) a0) := by
  intro a0 k
  have ih0 := triremeref03_zeros.mono_l k
  unfold triremeref03_zeros.f
  repeat' first
      | (with_reducible exact ih0 _ _)
      | (with_reducible exact LeO.refl _)
      | (with_reducible exact LeO.none _)
      | (with_reducible refine LeO.ite ?_ ?_)
      | (with_reducible refine LeO.bind ?_ (fun _ => ?_))
      | exact ih0 _ _
      | exact LeO.none _
      | refine LeO.ite ?_ ?_
      | refine LeO.bind ?_ (fun _ => ?_)
set_option maxHeartbeats 8000000 in
set_option maxRecDepth 100000 in
theorem triremeref03_zeros.calls (k : Nat) (a0 : ByteArray) (r : Bool) (w : World) (h : triremeref03_zeros.f k a0 = some r) :
    Calls Try.prog 33 #[.string a0] w fun e w' => e = .returned (.bool r) ∧ Drawn0 w w' := by
  have H : (triremeref03_zeros.l0 k a0 0) = some r := h
  clear h
  have H' := Aside0.mk H
  clear H
  go_enter Try.func33, Try.ntmps33
  go_wp2
  go_loopg [3] k (fun kq v3 w' => ∃ (x3_1 : Int), v3 = .int .i64 x3_1 ∧ Aside0 (triremeref03_zeros.l0 kq a0 x3_1 = some r) ∧ Aside0 (kq ≤ k) ∧ Drawn0 w w')
  case atStart => exact ⟨(0), (by first | rfl | (simp; done) | (simp [*]; done)), H', ⟨Nat.le_refl _⟩, by repeat (first | exact Drawn0.refl _ | apply Drawn0.step)⟩
  case round =>
    clear H'
    obtain ⟨x3_1, rfl, HA, HK1, ⟨m1, rfl⟩⟩ := hrel
    cases gk with
    | zero => exact absurd HA.out (by simp [triremeref03_zeros.l0])
    | succ k1 =>
      have H := HA.out
      clear HA
      simp only [triremeref03_zeros.l0] at H
      by_cases c2 : x3_1 < (a0.size : Int)
      · rw [if_pos c2] at H
        have c2b0 : decide (x3_1 < (a0.size : Int)) = true := decide_eq_true c2
        clear c2
        by_cases c3 : 0 ≤ x3_1
        · rw [if_pos c3] at H
          have c3b0 : decide (0 ≤ x3_1) = true := decide_eq_true c3
          clear c3
          by_cases c5 : (bt a0 x3_1) = 48
          · rw [if_pos c5] at H
            have c5b0 : ((bt a0 x3_1) == 48) = true := beq_iff_eq.mpr c5
            have c5b1 : ((bt a0 x3_1) != 48) = false := bne_eq_false_iff_eq.mpr c5
            clear c5
            have H' := Aside0.mk H
            clear H
            have p4 : 0 ≤ (x3_1 : Int) := of_decide_eq_true (by first | (with_reducible assumption) | assumption)
            have q4 : x3_1 < (a0.size : Int) := of_decide_eq_true (by first | (with_reducible assumption) | assumption)
            have hx4 := bt_at a0 x3_1
            replace p4 := eq_true p4
            replace q4 := eq_true q4
            (try (have qz4 := q4; rw [ByteArray.size_extract, Nat.min_self] at qz4))
            go_wp2
            go_roundg k1
            case measure => have := HK1.out; omega
            case rel => exact ⟨(wrap64 (x3_1 + 1)), (by first | rfl | (simp; done) | (simp [*]; done)), H', ⟨by have := HK1.out; omega⟩, by repeat (first | exact Drawn0.refl _ | apply Drawn0.step)⟩
          · rw [if_neg c5] at H
            have c5b0 : ((bt a0 x3_1) == 48) = false := beq_eq_false_iff_ne.mpr c5
            have c5b1 : ((bt a0 x3_1) != 48) = true := bne_iff_ne.mpr c5
            obtain rfl := Option.some.inj H
            have p4 : 0 ≤ (x3_1 : Int) := of_decide_eq_true (by first | (with_reducible assumption) | assumption)
            have q4 : x3_1 < (a0.size : Int) := of_decide_eq_true (by first | (with_reducible assumption) | assumption)
            have hx4 := bt_at a0 x3_1
            replace p4 := eq_true p4
            replace q4 := eq_true q4
            (try (have qz4 := q4; rw [ByteArray.size_extract, Nat.min_self] at qz4))
            go_wp2
            go_ret
            exact ⟨by first | rfl | (simp; done) | (simp [*]; done), by repeat (first | exact Drawn0.refl _ | apply Drawn0.step)⟩
        · rw [if_neg c3] at H
          exact absurd H (by simp)
      · rw [if_neg c2] at H
        have c2b0 : decide (x3_1 < (a0.size : Int)) = false := decide_eq_false c2
        clear c2
        obtain rfl := Option.some.inj H
        go_wp2
        go_ret
        exact ⟨by first | rfl | (simp; done) | (simp [*]; done), by repeat (first | exact Drawn0.refl _ | apply Drawn0.step)⟩
end Go.Proofs.Ytpmmiabcfnejmaa.H
end
section
namespace Go.Proofs.Ytpmmiabcfnejmaa.H
open Go.RowKit Go.Proofs.YtpmmiabcfnejmaaW.PrintWords Go.Proofs.YtpmmiabcfnejmaaW.PrintLast Go.Proofs.YtpmmiabcfnejmaaW.PrintMore
attribute [local go_sem] max2_int min2_int max_two min_two max_three min_three max_four min_four   -- for this text's walks alone
set_option linter.unusedVariables false
set_option linter.unusedSimpArgs false
def ramTail (k : Nat) (a0 : ByteArray) (a1 n : Int) (part rest : ByteArray) : Option (Int × Int) :=
  (triremeref03_unit.f rest).bind fun u => if u = 0 then some (0, 9) else
    if part.size ≤ 3 then (triremeref03_product.f k (a0.extract 0 n.toNat ++ (part ++ ⟨#[48, 48, 48]⟩).extract 0 3) u).bind fun t =>
      if t.size ≤ 1000000000 then (triremeref03_zeros.f k ((⟨#[48, 48, 48, 48, 48, 48]⟩ ++ t).extract ((⟨#[48, 48, 48, 48, 48, 48]⟩ ++ t).size - a1).toNat (⟨#[48, 48, 48, 48, 48, 48]⟩ ++ t).size)).bind fun z =>
        if z = true then (triremeref03_value.f k ((⟨#[48, 48, 48, 48, 48, 48]⟩ ++ t).extract 0 ((⟨#[48, 48, 48, 48, 48, 48]⟩ ++ t).size - a1).toNat)).bind fun o => if o > 1125899906842624 then some (0, 10) else some (o, 0)
        else some (0, 8)
      else none
    else none
def triremeref03_amount.f (k : Nat) (a0 : ByteArray) (a1 : Int) : Option (Int × Int) :=
  if a0.size ≤ 1000000 ∧ 0 ≤ a1 ∧ a1 ≤ 6 then
    (triremeref03_digits.f k a0).bind fun n => if n = 0 then some (0, 8) else
      if 0 ≤ n ∧ n ≤ a0.size then
        if 0 < (a0.extract n.toNat a0.size).size then
          if bt (a0.extract n.toNat a0.size) 0 = 46 then
            (triremeref03_digits.f k ((a0.extract n.toNat a0.size).extract 1 (a0.extract n.toNat a0.size).size)).bind fun m =>
              if m < 1 then some (0, 8) else if 3 < m then some (0, 8) else
                if 1 + m ≤ (a0.extract n.toNat a0.size).size then ramTail k a0 a1 n ((a0.extract n.toNat a0.size).extract 1 (1 + m).toNat) ((a0.extract n.toNat a0.size).extract (1 + m).toNat (a0.extract n.toNat a0.size).size) else none
          else ramTail k a0 a1 n ⟨#[]⟩ (a0.extract n.toNat a0.size)
        else ramTail k a0 a1 n ⟨#[]⟩ (a0.extract n.toNat a0.size)
      else none
  else none
theorem ramTail_mono (k : Nat) (a0 : ByteArray) (a1 n : Int) (part rest : ByteArray) : LeO (ramTail k a0 a1 n part rest) (ramTail (k + 1) a0 a1 n part rest) := by
  unfold ramTail
  repeat' first
    | (with_reducible exact triremeref03_product.mono _ _ _)
    | (with_reducible exact triremeref03_zeros.mono _ _)
    | (with_reducible exact triremeref03_value.mono _ _)
    | (with_reducible exact LeO.refl _)
    | (with_reducible refine LeO.ite ?_ ?_)
    | (with_reducible refine LeO.bind ?_ (fun _ => ?_))
theorem triremeref03_amount.mono : ∀ a0 a1 k, LeO (triremeref03_amount.f k a0 a1) (triremeref03_amount.f (k + 1) a0 a1) := by
  intro a0 a1 k
  unfold triremeref03_amount.f
  repeat' first
    | (with_reducible exact ramTail_mono _ _ _ _ _ _)
    | (with_reducible exact triremeref03_digits.mono _ _)
    | (with_reducible exact LeO.refl _)
    | (with_reducible refine LeO.ite ?_ ?_)
    | (with_reducible refine LeO.bind ?_ (fun _ => ?_))
/-- What the tail's steps compute, as facts about texts that stand for themselves. -/
inductive RamTail (k : Nat) (a0 : ByteArray) (a1 n : Int) (part rest : ByteArray) (r1 r2 : Int) : Prop
  | bad (h : triremeref03_unit.f rest = some 0) (h1 : r1 = 0) (h2 : r2 = 9)
  | run (u : Int) (z : Bool) (whole p3 part3 mid t all zs vs : ByteArray) (cut : Int) (hu : triremeref03_unit.f rest = some u) (hu0 : (u == 0) = false)
      (f1 : ∀ W, (Instr.slice 9 (.string a0) none (some (.int .i64 n)) none).run Try.prog W = .ok (.string whole) W)
      (f2 : ∀ W, (Op.stringOp .add part ⟨#[48, 48, 48]⟩).run Try.prog W = .ok (.string p3) W)
      (f3 : ∀ W, (Instr.slice 9 (.string p3) none (some (.int .i64 3)) none).run Try.prog W = .ok (.string part3) W)
      (f4 : ∀ W, (Op.stringOp .add whole part3).run Try.prog W = .ok (.string mid) W)
      (f5 : triremeref03_product.f k mid u = some t)
      (f6 : ∀ W, (Op.stringOp .add ⟨#[48, 48, 48, 48, 48, 48]⟩ t).run Try.prog W = .ok (.string all) W)
      (f7 : wrap64 ((all.size : Int) - a1) = cut)
      (f8 : ∀ W, (Instr.slice 9 (.string all) (some (.int .i64 cut)) none none).run Try.prog W = .ok (.string zs) W)
      (f9 : triremeref03_zeros.f k zs = some z)
      (f10 : ∀ W, (Instr.slice 9 (.string all) none (some (.int .i64 cut)) none).run Try.prog W = .ok (.string vs) W)
      (f11 : z = false ∧ r1 = 0 ∧ r2 = 8 ∨ z = true ∧ ∃ o, triremeref03_value.f k vs = some o ∧ (1125899906842624 < o ∧ r1 = 0 ∧ r2 = 10 ∨ ¬ 1125899906842624 < o ∧ r1 = o ∧ r2 = 0)) : RamTail k a0 a1 n part rest r1 r2
theorem ramTail_run (k : Nat) (a0 : ByteArray) (a1 n : Int) (part rest : ByteArray) (r1 r2 : Int) (ha : a0.size ≤ 1000000) (hn : 0 ≤ n ∧ n ≤ a0.size) (h1 : 0 ≤ a1 ∧ a1 ≤ 6) (h : ramTail k a0 a1 n part rest = some (r1, r2)) : RamTail k a0 a1 n part rest r1 r2 := by
  unfold ramTail at h
  obtain ⟨u, hu, h⟩ := Option.bind_eq_some_iff.mp h
  by_cases hz : u = 0
  · rw [if_pos hz] at h
    simp only [Option.some.injEq, Prod.mk.injEq] at h
    exact .bad (hz ▸ hu) h.1.symm h.2.symm
  · rw [if_neg hz] at h
    split at h
    case isFalse => cases h
    case isTrue hp =>
      obtain ⟨t, ht, h⟩ := Option.bind_eq_some_iff.mp h
      split at h
      case isFalse => cases h
      case isTrue hts =>
        obtain ⟨z, hzz, h⟩ := Option.bind_eq_some_iff.mp h
        have e1 : (a0.extract 0 n.toNat).size = n.toNat := by rw [ByteArray.size_extract]; omega
        have e2 : (part ++ (⟨#[48, 48, 48]⟩ : ByteArray)).size = part.size + 3 := by rw [ByteArray.size_append]; rfl
        have e3 : ((part ++ (⟨#[48, 48, 48]⟩ : ByteArray)).extract 0 3).size = 3 := by rw [ByteArray.size_extract, e2]; omega
        have e4 : ((⟨#[48, 48, 48, 48, 48, 48]⟩ : ByteArray) ++ t).size = 6 + t.size := by rw [ByteArray.size_append]; rfl
        refine .run u z _ _ _ _ t _ _ _ _ hu (beq_eq_false_iff_ne.mpr hz) (fun W => tx_hi W 9 Try.underlying9 a0 n hn.1 hn.2) (fun W => tx_cat W part _ (by show part.size + 3 ≤ _; omega))
          (fun W => tx_hi W 9 Try.underlying9 _ 3 (by omega) (by rw [e2]; omega)) (fun W => tx_cat W _ _ (by rw [e1]; have := e3; show n.toNat + ((part ++ _).extract 0 3).size ≤ _; omega)) ht (fun W => tx_cat W _ t (by show 6 + t.size ≤ _; omega))
          (show wrap64 _ = ((((⟨#[48, 48, 48, 48, 48, 48]⟩ : ByteArray) ++ t).size : Int) - a1) by unfold wrap64; omega) (fun W => tx_lo W 9 Try.underlying9 _ _ (by omega) (by omega)) hzz (fun W => tx_hi W 9 Try.underlying9 _ _ (by omega) (by omega)) ?_
        cases z with
        | false =>
          rw [if_neg (by simp)] at h
          simp only [Option.some.injEq, Prod.mk.injEq] at h
          exact .inl ⟨rfl, h.1.symm, h.2.symm⟩
        | true =>
          rw [if_pos rfl] at h
          obtain ⟨o, ho, h⟩ := Option.bind_eq_some_iff.mp h
          refine .inr ⟨rfl, o, ho, ?_⟩
          split at h
          case isTrue hm =>
            simp only [Option.some.injEq, Prod.mk.injEq] at h
            exact .inl ⟨hm, h.1.symm, h.2.symm⟩
          case isFalse hm =>
            simp only [Option.some.injEq, Prod.mk.injEq] at h
            exact .inr ⟨hm, h.1.symm, h.2.symm⟩
set_option maxHeartbeats 8000000 in
set_option maxRecDepth 100000 in
theorem triremeref03_amount.calls (k : Nat) (a0 : ByteArray) (a1 : Int) (r1 : Int) (r2 : Int) (w : World) (h : triremeref03_amount.f k a0 a1 = some (r1, r2)) :
    Calls Try.prog 21 #[.string a0, .int .i64 a1] w fun e w' => e = .returned (.tuple #[.int .i64 r1, .int .i64 r2]) ∧ Below w.heap.size w w' := by
  unfold triremeref03_amount.f at h
  split at h
  case isFalse => cases h
  case isTrue hg =>
    obtain ⟨hs, hl0, hl6⟩ := hg
    obtain ⟨n, hn, h⟩ := Option.bind_eq_some_iff.mp h
    have HN := Aside0.mk hn
    clear hn
    by_cases hz : n = 0
    · rw [if_pos hz] at h
      subst hz
      simp only [Option.some.injEq, Prod.mk.injEq] at h
      obtain ⟨rfl, rfl⟩ := h
      go_enter Try.func21, Try.ntmps21
      go_wp2_with (first | (go_at_call 24; (with_reducible refine (triremeref03_digits.calls k a0 0 _ HN.out).mono ?_); rintro e w' ⟨rfl, ⟨nd, rfl⟩⟩))
      refine bodyPost_ret (results_list (rs := [.tmp 4, .tmp 5]) rfl (by simp) (.tmp (.tmp .nil))) rfl ?_
      exact ⟨by first | rfl | (simp; done) | (simp [*]; done), by repeat (first | exact HB.out | exact HB2.out | exact Below.refl _ _ | apply pw_below_drewN)⟩
    · rw [if_neg hz] at h
      have hz0 : (n == 0) = false := beq_eq_false_iff_ne.mpr hz
      split at h
      case isFalse => cases h
      case isTrue hn =>
        have g1 := fun W => tx_lo (P := Try.prog) W 9 Try.underlying9 a0 n hn.1 hn.2
        have HSZ : (a0.extract n.toNat a0.size).size ≤ 1000000 := by rw [ByteArray.size_extract]; omega
        generalize a0.extract n.toNat a0.size = rest at h g1 HSZ
        clear hz
        by_cases hr : 0 < rest.size
        · rw [if_pos hr] at h
          have hr1 : decide ((0 : Int) < (rest.size : Int)) = true := decide_eq_true (by omega)
          have hr2 : decide (0 < rest.size) = true := decide_eq_true hr
          have g2 := fun W => tx_at (P := Try.prog) W 9 Try.underlying9 rest 0 (by omega) (by omega)
          by_cases hd : bt rest 0 = 46
          · rw [if_pos hd] at h
            rw [hd] at g2
            have g3 := fun W => tx_lo (P := Try.prog) W 9 Try.underlying9 rest 1 (by omega) (by omega)
            rw [show (1 : Int).toNat = 1 from rfl] at g3
            generalize rest.extract 1 rest.size = rest1 at h g3
            obtain ⟨m, hm, h⟩ := Option.bind_eq_some_iff.mp h
            have HM := Aside0.mk hm
            clear hm
            by_cases h1 : m < 1
            · rw [if_pos h1] at h
              have h1d : decide (m < 1) = true := decide_eq_true h1
              simp only [Option.some.injEq, Prod.mk.injEq] at h
              obtain ⟨rfl, rfl⟩ := h
              clear hr h1 hs hl0 hl6 hn HSZ hd
              go_enter Try.func21, Try.ntmps21
              go_wp2_with (first | (go_at_call 24; first | ((with_reducible refine (triremeref03_digits.calls k a0 n _ HN.out).mono ?_); rintro e w' ⟨rfl, ⟨nd, rfl⟩⟩) | ((with_reducible refine (triremeref03_digits.calls k rest1 m _ HM.out).mono ?_); rintro e w' ⟨rfl, ⟨nd, rfl⟩⟩)))
              refine bodyPost_ret (results_list (rs := [.tmp 4, .tmp 5]) rfl (by simp) (.tmp (.tmp .nil))) rfl ?_
              exact ⟨by first | rfl | (simp; done) | (simp [*]; done), by repeat (first | exact HB.out | exact HB2.out | exact Below.refl _ _ | apply pw_below_drewN)⟩
            · rw [if_neg h1] at h
              have h1d : decide (m < 1) = false := decide_eq_false h1
              by_cases h3 : 3 < m
              · rw [if_pos h3] at h
                have h3d : decide (3 < m) = true := decide_eq_true h3
                simp only [Option.some.injEq, Prod.mk.injEq] at h
                obtain ⟨rfl, rfl⟩ := h
                clear hr h1 h3 hs hl0 hl6 hn HSZ hd
                go_enter Try.func21, Try.ntmps21
                go_wp2_with (first | (go_at_call 24; first | ((with_reducible refine (triremeref03_digits.calls k a0 n _ HN.out).mono ?_); rintro e w' ⟨rfl, ⟨nd, rfl⟩⟩) | ((with_reducible refine (triremeref03_digits.calls k rest1 m _ HM.out).mono ?_); rintro e w' ⟨rfl, ⟨nd, rfl⟩⟩)))
                refine bodyPost_ret (results_list (rs := [.tmp 4, .tmp 5]) rfl (by simp) (.tmp (.tmp .nil))) rfl ?_
                exact ⟨by first | rfl | (simp; done) | (simp [*]; done), by repeat (first | exact HB.out | exact HB2.out | exact Below.refl _ _ | apply pw_below_drewN)⟩
              · rw [if_neg h3] at h
                have h3d : decide (3 < m) = false := decide_eq_false h3
                split at h
                case isFalse => cases h
                case isTrue hb =>
                  have hw : wrap64 (1 + m) = 1 + m := by unfold wrap64; omega
                  have g4 := fun W => run_slice_string (P := Try.prog) W 9 rest .i64 .i64 1 (1 + m) Try.underlying9 (by omega) (by omega) hb
                  have g5 := fun W => tx_lo (P := Try.prog) W 9 Try.underlying9 rest (1 + m) (by omega) hb
                  rw [show (1 : Int).toNat = 1 from rfl] at g4
                  have HT := Aside0.mk (ramTail_run k a0 a1 n _ _ r1 r2 hs hn ⟨hl0, hl6⟩ h)
                  clear h
                  generalize rest.extract 1 (1 + m).toNat = part at HT g4
                  generalize rest.extract (1 + m).toNat rest.size = rest2 at HT g5
                  generalize hq : 1 + m = m1 at g4 g5 HT
                  have hw2 : wrap64 (1 + m) = m1 := by rw [← hq]; exact hw
                  clear hw hq
                  clear hr h1 h3 hs hl0 hl6 hn HSZ hd hb
                  cases HT.out with
                  | bad hu h1 h2 =>
                    subst h1 h2
                    have HU := Aside0.mk hu
                    clear hu HT
                    go_enter Try.func21, Try.ntmps21
                    go_wp2_with (first | (go_at_call 24; first | ((with_reducible refine (triremeref03_digits.calls k a0 n _ HN.out).mono ?_); rintro e w' ⟨rfl, ⟨nd, rfl⟩⟩) | ((with_reducible refine (triremeref03_digits.calls k rest1 m _ HM.out).mono ?_); rintro e w' ⟨rfl, ⟨nd, rfl⟩⟩)) | (go_at_call 31; (with_reducible refine (triremeref03_unit.calls rest2 0 _ HU.out).mono ?_); rintro e w' ⟨rfl, ⟨nd, rfl⟩⟩))
                    refine bodyPost_ret (results_list (rs := [.tmp 4, .tmp 5]) rfl (by simp) (.tmp (.tmp .nil))) rfl ?_
                    exact ⟨by first | rfl | (simp; done) | (simp [*]; done), by repeat (first | exact HB.out | exact HB2.out | exact Below.refl _ _ | apply pw_below_drewN)⟩
                  | run u z whole p3 part3 mid t all zs vs cut hu hu0 f1 f2 f3 f4 f5 f6 f7 f8 f9 f10 f11 =>
                    have HU := Aside0.mk hu
                    have H5 := Aside0.mk f5
                    have H9 := Aside0.mk f9
                    have H11 := Aside0.mk f11
                    clear hu f5 f9 f11 HT
                    go_enter Try.func21, Try.ntmps21
                    go_wp2_with (first | (go_at_call 24; first | ((with_reducible refine (triremeref03_digits.calls k a0 n _ HN.out).mono ?_); rintro e w' ⟨rfl, ⟨nd, rfl⟩⟩) | ((with_reducible refine (triremeref03_digits.calls k rest1 m _ HM.out).mono ?_); rintro e w' ⟨rfl, ⟨nd, rfl⟩⟩)) | (go_at_call 31; (with_reducible refine (triremeref03_unit.calls rest2 u _ HU.out).mono ?_); rintro e w' ⟨rfl, ⟨nd, rfl⟩⟩))
                    (try simp only [Act.put])
                    refine wp_region_bw (by kernel_rfl) (by kernel_rfl) ?_
                    repeat (go_big_quiet_step (first | (go_at_call 32; exact Calls.bw (triremeref03_product.calls k mid u t _ H5.out))))
                    refine wpQuiet_nil ?_
                    intro q
                    have HB := Aside0.mk (below_step (pw_below_drewN (Below.refl w.heap.size w) _) q.2)
                    rcases H11.out with ⟨rfl, rfl, rfl⟩ | ⟨rfl, o, ho, hh⟩
                    · clear H11
                      go_wp2_with (first | (go_at_call 33; (with_reducible refine (triremeref03_zeros.calls k zs false _ H9.out).mono ?_); rintro e w' ⟨rfl, ⟨nd, rfl⟩⟩))
                      refine bodyPost_ret (results_list (rs := [.tmp 4, .tmp 5]) rfl (by simp) (.tmp (.tmp .nil))) rfl ?_
                      exact ⟨by first | rfl | (simp; done) | (simp [*]; done), by repeat (first | exact HB.out | exact HB2.out | exact Below.refl _ _ | apply pw_below_drewN)⟩
                    · clear H11
                      have HO := Aside0.mk ho
                      clear ho
                      rcases hh with ⟨hm, rfl, rfl⟩ | ⟨hm, rfl, rfl⟩
                      · have hd : decide (1125899906842624 < o) = true := decide_eq_true hm
                        clear hm
                        go_wp2_with (first | (go_at_call 33; (with_reducible refine (triremeref03_zeros.calls k zs true _ H9.out).mono ?_); rintro e w' ⟨rfl, ⟨nd, rfl⟩⟩) | (go_at_call 25; (with_reducible refine (triremeref03_value.calls k vs o _ HO.out).mono ?_); rintro e w' ⟨rfl, hb2⟩; have HB2 := Aside0.mk (below_step (pw_below_drewN HB.out _) hb2); clear hb2))
                        refine bodyPost_ret (results_list (rs := [.tmp 4, .tmp 5]) rfl (by simp) (.tmp (.tmp .nil))) rfl ?_
                        exact ⟨by first | rfl | (simp; done) | (simp [*]; done), by repeat (first | exact HB.out | exact HB2.out | exact Below.refl _ _ | apply pw_below_drewN)⟩
                      · have hd : decide (1125899906842624 < r1) = false := decide_eq_false (by omega)
                        clear hm
                        go_wp2_with (first | (go_at_call 33; (with_reducible refine (triremeref03_zeros.calls k zs true _ H9.out).mono ?_); rintro e w' ⟨rfl, ⟨nd, rfl⟩⟩) | (go_at_call 25; (with_reducible refine (triremeref03_value.calls k vs r1 _ HO.out).mono ?_); rintro e w' ⟨rfl, hb2⟩; have HB2 := Aside0.mk (below_step (pw_below_drewN HB.out _) hb2); clear hb2))
                        refine bodyPost_ret (results_list (rs := [.tmp 4, .tmp 5]) rfl (by simp) (.tmp (.tmp .nil))) rfl ?_
                        exact ⟨by first | rfl | (simp; done) | (simp [*]; done), by repeat (first | exact HB.out | exact HB2.out | exact Below.refl _ _ | apply pw_below_drewN)⟩
          · rw [if_neg hd] at h
            have hde : (bt rest 0 == 46) = false := beq_eq_false_iff_ne.mpr hd
            have HT := Aside0.mk (ramTail_run k a0 a1 n _ _ r1 r2 hs hn ⟨hl0, hl6⟩ h)
            clear h
            generalize bt rest 0 = c at *
            clear hr hs hl0 hl6 hn HSZ hd
            cases HT.out with
            | bad hu h1 h2 =>
              subst h1 h2
              have HU := Aside0.mk hu
              clear hu HT
              go_enter Try.func21, Try.ntmps21
              go_wp2_with (first | (go_at_call 24; (with_reducible refine (triremeref03_digits.calls k a0 n _ HN.out).mono ?_); rintro e w' ⟨rfl, ⟨nd, rfl⟩⟩) | (go_at_call 31; (with_reducible refine (triremeref03_unit.calls rest 0 _ HU.out).mono ?_); rintro e w' ⟨rfl, ⟨nd, rfl⟩⟩))
              refine bodyPost_ret (results_list (rs := [.tmp 4, .tmp 5]) rfl (by simp) (.tmp (.tmp .nil))) rfl ?_
              exact ⟨by first | rfl | (simp; done) | (simp [*]; done), by repeat (first | exact HB.out | exact HB2.out | exact Below.refl _ _ | apply pw_below_drewN)⟩
            | run u z whole p3 part3 mid t all zs vs cut hu hu0 f1 f2 f3 f4 f5 f6 f7 f8 f9 f10 f11 =>
              have HU := Aside0.mk hu
              have H5 := Aside0.mk f5
              have H9 := Aside0.mk f9
              have H11 := Aside0.mk f11
              clear hu f5 f9 f11 HT
              go_enter Try.func21, Try.ntmps21
              go_wp2_with (first | (go_at_call 24; (with_reducible refine (triremeref03_digits.calls k a0 n _ HN.out).mono ?_); rintro e w' ⟨rfl, ⟨nd, rfl⟩⟩) | (go_at_call 31; (with_reducible refine (triremeref03_unit.calls rest u _ HU.out).mono ?_); rintro e w' ⟨rfl, ⟨nd, rfl⟩⟩))
              (try simp only [Act.put])
              refine wp_region_bw (by kernel_rfl) (by kernel_rfl) ?_
              repeat (go_big_quiet_step (first | (go_at_call 32; exact Calls.bw (triremeref03_product.calls k mid u t _ H5.out))))
              refine wpQuiet_nil ?_
              intro q
              have HB := Aside0.mk (below_step (pw_below_drewN (Below.refl w.heap.size w) _) q.2)
              rcases H11.out with ⟨rfl, rfl, rfl⟩ | ⟨rfl, o, ho, hh⟩
              · clear H11
                go_wp2_with (first | (go_at_call 33; (with_reducible refine (triremeref03_zeros.calls k zs false _ H9.out).mono ?_); rintro e w' ⟨rfl, ⟨nd, rfl⟩⟩))
                refine bodyPost_ret (results_list (rs := [.tmp 4, .tmp 5]) rfl (by simp) (.tmp (.tmp .nil))) rfl ?_
                exact ⟨by first | rfl | (simp; done) | (simp [*]; done), by repeat (first | exact HB.out | exact HB2.out | exact Below.refl _ _ | apply pw_below_drewN)⟩
              · clear H11
                have HO := Aside0.mk ho
                clear ho
                rcases hh with ⟨hm, rfl, rfl⟩ | ⟨hm, rfl, rfl⟩
                · have hd : decide (1125899906842624 < o) = true := decide_eq_true hm
                  clear hm
                  go_wp2_with (first | (go_at_call 33; (with_reducible refine (triremeref03_zeros.calls k zs true _ H9.out).mono ?_); rintro e w' ⟨rfl, ⟨nd, rfl⟩⟩) | (go_at_call 25; (with_reducible refine (triremeref03_value.calls k vs o _ HO.out).mono ?_); rintro e w' ⟨rfl, hb2⟩; have HB2 := Aside0.mk (below_step (pw_below_drewN HB.out _) hb2); clear hb2))
                  refine bodyPost_ret (results_list (rs := [.tmp 4, .tmp 5]) rfl (by simp) (.tmp (.tmp .nil))) rfl ?_
                  exact ⟨by first | rfl | (simp; done) | (simp [*]; done), by repeat (first | exact HB.out | exact HB2.out | exact Below.refl _ _ | apply pw_below_drewN)⟩
                · have hd : decide (1125899906842624 < r1) = false := decide_eq_false (by omega)
                  clear hm
                  go_wp2_with (first | (go_at_call 33; (with_reducible refine (triremeref03_zeros.calls k zs true _ H9.out).mono ?_); rintro e w' ⟨rfl, ⟨nd, rfl⟩⟩) | (go_at_call 25; (with_reducible refine (triremeref03_value.calls k vs r1 _ HO.out).mono ?_); rintro e w' ⟨rfl, hb2⟩; have HB2 := Aside0.mk (below_step (pw_below_drewN HB.out _) hb2); clear hb2))
                  refine bodyPost_ret (results_list (rs := [.tmp 4, .tmp 5]) rfl (by simp) (.tmp (.tmp .nil))) rfl ?_
                  exact ⟨by first | rfl | (simp; done) | (simp [*]; done), by repeat (first | exact HB.out | exact HB2.out | exact Below.refl _ _ | apply pw_below_drewN)⟩
        · rw [if_neg hr] at h
          have hr1 : decide ((0 : Int) < (rest.size : Int)) = false := decide_eq_false (by omega)
          have hr2 : decide (0 < rest.size) = false := decide_eq_false hr
          have HT := Aside0.mk (ramTail_run k a0 a1 n _ _ r1 r2 hs hn ⟨hl0, hl6⟩ h)
          clear h
          clear hr hs hl0 hl6 hn HSZ
          cases HT.out with
          | bad hu h1 h2 =>
            subst h1 h2
            have HU := Aside0.mk hu
            clear hu HT
            go_enter Try.func21, Try.ntmps21
            go_wp2_with (first | (go_at_call 24; (with_reducible refine (triremeref03_digits.calls k a0 n _ HN.out).mono ?_); rintro e w' ⟨rfl, ⟨nd, rfl⟩⟩) | (go_at_call 31; (with_reducible refine (triremeref03_unit.calls rest 0 _ HU.out).mono ?_); rintro e w' ⟨rfl, ⟨nd, rfl⟩⟩))
            refine bodyPost_ret (results_list (rs := [.tmp 4, .tmp 5]) rfl (by simp) (.tmp (.tmp .nil))) rfl ?_
            exact ⟨by first | rfl | (simp; done) | (simp [*]; done), by repeat (first | exact HB.out | exact HB2.out | exact Below.refl _ _ | apply pw_below_drewN)⟩
          | run u z whole p3 part3 mid t all zs vs cut hu hu0 f1 f2 f3 f4 f5 f6 f7 f8 f9 f10 f11 =>
            have HU := Aside0.mk hu
            have H5 := Aside0.mk f5
            have H9 := Aside0.mk f9
            have H11 := Aside0.mk f11
            clear hu f5 f9 f11 HT
            go_enter Try.func21, Try.ntmps21
            go_wp2_with (first | (go_at_call 24; (with_reducible refine (triremeref03_digits.calls k a0 n _ HN.out).mono ?_); rintro e w' ⟨rfl, ⟨nd, rfl⟩⟩) | (go_at_call 31; (with_reducible refine (triremeref03_unit.calls rest u _ HU.out).mono ?_); rintro e w' ⟨rfl, ⟨nd, rfl⟩⟩))
            (try simp only [Act.put])
            refine wp_region_bw (by kernel_rfl) (by kernel_rfl) ?_
            repeat (go_big_quiet_step (first | (go_at_call 32; exact Calls.bw (triremeref03_product.calls k mid u t _ H5.out))))
            refine wpQuiet_nil ?_
            intro q
            have HB := Aside0.mk (below_step (pw_below_drewN (Below.refl w.heap.size w) _) q.2)
            rcases H11.out with ⟨rfl, rfl, rfl⟩ | ⟨rfl, o, ho, hh⟩
            · clear H11
              go_wp2_with (first | (go_at_call 33; (with_reducible refine (triremeref03_zeros.calls k zs false _ H9.out).mono ?_); rintro e w' ⟨rfl, ⟨nd, rfl⟩⟩))
              refine bodyPost_ret (results_list (rs := [.tmp 4, .tmp 5]) rfl (by simp) (.tmp (.tmp .nil))) rfl ?_
              exact ⟨by first | rfl | (simp; done) | (simp [*]; done), by repeat (first | exact HB.out | exact HB2.out | exact Below.refl _ _ | apply pw_below_drewN)⟩
            · clear H11
              have HO := Aside0.mk ho
              clear ho
              rcases hh with ⟨hm, rfl, rfl⟩ | ⟨hm, rfl, rfl⟩
              · have hd : decide (1125899906842624 < o) = true := decide_eq_true hm
                clear hm
                go_wp2_with (first | (go_at_call 33; (with_reducible refine (triremeref03_zeros.calls k zs true _ H9.out).mono ?_); rintro e w' ⟨rfl, ⟨nd, rfl⟩⟩) | (go_at_call 25; (with_reducible refine (triremeref03_value.calls k vs o _ HO.out).mono ?_); rintro e w' ⟨rfl, hb2⟩; have HB2 := Aside0.mk (below_step (pw_below_drewN HB.out _) hb2); clear hb2))
                refine bodyPost_ret (results_list (rs := [.tmp 4, .tmp 5]) rfl (by simp) (.tmp (.tmp .nil))) rfl ?_
                exact ⟨by first | rfl | (simp; done) | (simp [*]; done), by repeat (first | exact HB.out | exact HB2.out | exact Below.refl _ _ | apply pw_below_drewN)⟩
              · have hd : decide (1125899906842624 < r1) = false := decide_eq_false (by omega)
                clear hm
                go_wp2_with (first | (go_at_call 33; (with_reducible refine (triremeref03_zeros.calls k zs true _ H9.out).mono ?_); rintro e w' ⟨rfl, ⟨nd, rfl⟩⟩) | (go_at_call 25; (with_reducible refine (triremeref03_value.calls k vs r1 _ HO.out).mono ?_); rintro e w' ⟨rfl, hb2⟩; have HB2 := Aside0.mk (below_step (pw_below_drewN HB.out _) hb2); clear hb2))
                refine bodyPost_ret (results_list (rs := [.tmp 4, .tmp 5]) rfl (by simp) (.tmp (.tmp .nil))) rfl ?_
                exact ⟨by first | rfl | (simp; done) | (simp [*]; done), by repeat (first | exact HB.out | exact HB2.out | exact Below.refl _ _ | apply pw_below_drewN)⟩
end Go.Proofs.Ytpmmiabcfnejmaa.H
end
section
namespace Go.Proofs.Ytpmmiabcfnejmaa.H
open Go.RowKit Go.Proofs.YtpmmiabcfnejmaaW.PrintWords Go.Proofs.YtpmmiabcfnejmaaW.PrintLast Go.Proofs.YtpmmiabcfnejmaaW.PrintMore
attribute [local go_sem] max2_int min2_int max_two min_two max_three min_three max_four min_four   -- for this text's walks alone
set_option linter.unusedVariables false
set_option linter.unusedSimpArgs false
def triremeref03_Parse.f (k : Nat) (a0 : ByteArray) : Option (Int × Int) := (triremeref03_amount.f k a0 6).bind fun bt169 => (some (bt169.1, bt169.2))
theorem triremeref03_Parse.mono : ∀ a0 k, LeO (triremeref03_Parse.f k a0) (triremeref03_Parse.f (k + 1) a0) := by
  intro a0 k
  unfold triremeref03_Parse.f
  repeat' first
      | (with_reducible exact triremeref03_amount.mono _ _ _)
      | (with_reducible exact LeO.refl _)
      | (with_reducible exact LeO.none _)
      | (with_reducible refine LeO.ite ?_ ?_)
      | (with_reducible refine LeO.bind ?_ (fun _ => ?_))
      | exact triremeref03_amount.mono _ _ _
      | exact LeO.none _
      | refine LeO.ite ?_ ?_
      | refine LeO.bind ?_ (fun _ => ?_)
set_option maxHeartbeats 8000000 in
set_option maxRecDepth 100000 in
theorem triremeref03_Parse.calls (k : Nat) (a0 : ByteArray) (r1 : Int) (r2 : Int) (w : World) (h : triremeref03_Parse.f k a0 = some (r1, r2)) :
    Calls Try.prog 10 #[.string a0] w fun e w' => e = .returned (.tuple #[.int .i64 r1, .int .i64 r2]) ∧ Below w.heap.size w w' := by
  have HB := Aside0.mk (Below.refl w.heap.size w)
  have H : ((triremeref03_amount.f k a0 6).bind fun bt169 => (some (bt169.1, bt169.2))) = some (r1, r2) := h
  clear h
  replace H := Option.bind_eq_some_iff.mp H
  obtain ⟨⟨t169, t170⟩, A20, H⟩ := H
  replace H : (some (t169, t170)) = some (r1, r2) := H
  have A2 := Aside0.mk A20
  clear A20
  simp only [Option.some.injEq, Prod.mk.injEq] at H
  obtain ⟨rfl, rfl⟩ := H
  go_enter Try.func10, Try.ntmps10
  go_wp2_with (first | ((first | ((with_reducible refine gate_callee (f := 21) rfl ?_); refine goesL_ (some 5) rfl rfl Try.func21 (by kernel_rfl) rfl #[.string a0, .int .i64 6] rfl (by (try simp only [List.map_toArray, List.map_cons, List.map_nil]); first | done | rfl | (simp only [List.length_drop, List.length_take]; rfl)) ?_; (with_reducible refine (triremeref03_amount.calls k a0 6 t169 t170 _ A2.out).mono ?_); rintro e w3 ⟨rfl, hb⟩; refine ⟨_, rfl, ?_⟩) | (go_at_call 21; (with_reducible refine (triremeref03_amount.calls k a0 6 t169 t170 _ A2.out).mono ?_); rintro e w3 ⟨rfl, hb⟩)); have n0_ := Aside0.mk (below_step (by repeat (first | (with_reducible first | exact HB.out | apply below_alloc | apply pw_below_drewN | apply below_drew1) | exact HB.out)) hb); clear HB; have HB := n0_; clear n0_; (try clear hb); (try clear hb2); (try clear hk); (try clear hi)))
  go_ret2
  exact ⟨by first | rfl | (simp [errW_none, errW_some] <;> rfl) | (simp [*, errW_none, errW_some] <;> rfl), by repeat (first | (with_reducible first | exact HB.out | apply below_alloc | apply pw_below_drewN | apply below_drew1) | exact HB.out)⟩
end Go.Proofs.Ytpmmiabcfnejmaa.H
end
section
namespace Go.Proofs.Ytpmmiabcfnejmaa.H
open Go.RowKit Go.Proofs.YtpmmiabcfnejmaaW.PrintWords Go.Proofs.YtpmmiabcfnejmaaW.PrintLast Go.Proofs.YtpmmiabcfnejmaaW.PrintMore
attribute [local go_sem] max2_int min2_int max_two min_two max_three min_three max_four min_four   -- for this text's walks alone
set_option linter.unusedVariables false
set_option linter.unusedSimpArgs false
def triremeref03_Milli.f (k : Nat) (a0 : ByteArray) : Option (Int × Int) := (triremeref03_amount.f k a0 3).bind fun bt171 => (some (bt171.1, bt171.2))
theorem triremeref03_Milli.mono : ∀ a0 k, LeO (triremeref03_Milli.f k a0) (triremeref03_Milli.f (k + 1) a0) := by
  intro a0 k
  unfold triremeref03_Milli.f
  repeat' first
      | (with_reducible exact triremeref03_amount.mono _ _ _)
      | (with_reducible exact LeO.refl _)
      | (with_reducible exact LeO.none _)
      | (with_reducible refine LeO.ite ?_ ?_)
      | (with_reducible refine LeO.bind ?_ (fun _ => ?_))
      | exact triremeref03_amount.mono _ _ _
      | exact LeO.none _
      | refine LeO.ite ?_ ?_
      | refine LeO.bind ?_ (fun _ => ?_)
set_option maxHeartbeats 8000000 in
set_option maxRecDepth 100000 in
theorem triremeref03_Milli.calls (k : Nat) (a0 : ByteArray) (r1 : Int) (r2 : Int) (w : World) (h : triremeref03_Milli.f k a0 = some (r1, r2)) :
    Calls Try.prog 12 #[.string a0] w fun e w' => e = .returned (.tuple #[.int .i64 r1, .int .i64 r2]) ∧ Below w.heap.size w w' := by
  have HB := Aside0.mk (Below.refl w.heap.size w)
  have H : ((triremeref03_amount.f k a0 3).bind fun bt171 => (some (bt171.1, bt171.2))) = some (r1, r2) := h
  clear h
  replace H := Option.bind_eq_some_iff.mp H
  obtain ⟨⟨t171, t172⟩, A20, H⟩ := H
  replace H : (some (t171, t172)) = some (r1, r2) := H
  have A2 := Aside0.mk A20
  clear A20
  simp only [Option.some.injEq, Prod.mk.injEq] at H
  obtain ⟨rfl, rfl⟩ := H
  go_enter Try.func12, Try.ntmps12
  go_wp2_with (first | ((first | ((with_reducible refine gate_callee (f := 21) rfl ?_); refine goesL_ (some 5) rfl rfl Try.func21 (by kernel_rfl) rfl #[.string a0, .int .i64 3] rfl (by (try simp only [List.map_toArray, List.map_cons, List.map_nil]); first | done | rfl | (simp only [List.length_drop, List.length_take]; rfl)) ?_; (with_reducible refine (triremeref03_amount.calls k a0 3 t171 t172 _ A2.out).mono ?_); rintro e w3 ⟨rfl, hb⟩; refine ⟨_, rfl, ?_⟩) | (go_at_call 21; (with_reducible refine (triremeref03_amount.calls k a0 3 t171 t172 _ A2.out).mono ?_); rintro e w3 ⟨rfl, hb⟩)); have n0_ := Aside0.mk (below_step (by repeat (first | (with_reducible first | exact HB.out | apply below_alloc | apply pw_below_drewN | apply below_drew1) | exact HB.out)) hb); clear HB; have HB := n0_; clear n0_; (try clear hb); (try clear hb2); (try clear hk); (try clear hi)))
  go_ret2
  exact ⟨by first | rfl | (simp [errW_none, errW_some] <;> rfl) | (simp [*, errW_none, errW_some] <;> rfl), by repeat (first | (with_reducible first | exact HB.out | apply below_alloc | apply pw_below_drewN | apply below_drew1) | exact HB.out)⟩
end Go.Proofs.Ytpmmiabcfnejmaa.H
end
section
namespace Go.Proofs.Ytpmmiabcfnejmaa.H
open Go.RowKit Go.Proofs.YtpmmiabcfnejmaaW.PrintWords Go.Proofs.YtpmmiabcfnejmaaW.PrintLast Go.Proofs.YtpmmiabcfnejmaaW.PrintMore
set_option linter.unusedVariables false
set_option linter.unusedSimpArgs false
theorem dval_app : ∀ (a b : List UInt8) (n : Nat), dval (a ++ b) n = dval b (dval a n)
  | [], b, n => rfl
  | c :: a, b, n => dval_app a b _
def DigS (t : ByteArray) : Prop := ∀ c ∈ t.toList, digB c = true
theorem one_toList (d : Nat) : (strOfNums [((48 + d : Nat) : Int)]).toList = [UInt8.ofNat (48 + d)] := by
  rw [ByteArray.toList_eq]
  rfl
theorem one_size (x : Int) : (strOfNums [x]).size = 1 := rfl
theorem ofNat_toNat (d : Nat) (h : d < 10) : (UInt8.ofNat (48 + d)).toNat = 48 + d := by
  rw [UInt8.toNat_ofNat']; omega
theorem pdig_step (x : Nat) (h : x ≤ 9000000000000000000) : (wrap64 (48 + (Int.tmod (x : Int) 10))) % 256 = ((48 + x % 10 : Nat) : Int) := by
  rw [show Int.tmod (x : Int) 10 = ((x % 10 : Nat) : Int) from rfl, wrap_small (by omega) (by omega)]; omega
theorem pdiv_step (x : Nat) (h : x ≤ 9000000000000000000) : wrap64 (Int.tdiv (x : Int) 10) = ((x / 10 : Nat) : Int) := by
  rw [show Int.tdiv (x : Int) 10 = ((x / 10 : Nat) : Int) from rfl, wrap_small (by omega) (by omega)]
theorem digS_app {a b : ByteArray} (ha : DigS a) (hb : DigS b) : DigS (a ++ b) := by
  intro c hc
  rw [append_toList] at hc
  rcases List.mem_append.1 hc with h | h
  · exact ha c h
  · exact hb c h
theorem digS_sub {a : ByteArray} (ha : DigS a) (i j : Nat) : DigS (a.extract i j) := by
  intro c hc
  rw [extract_toList] at hc
  exact ha c (List.mem_of_mem_take (List.mem_of_mem_drop hc))
end Go.Proofs.Ytpmmiabcfnejmaa.H
end
section
namespace Go.Proofs.Ytpmmiabcfnejmaa.H
open Go.RowKit Go.Proofs.YtpmmiabcfnejmaaW.PrintWords Go.Proofs.YtpmmiabcfnejmaaW.PrintLast Go.Proofs.YtpmmiabcfnejmaaW.PrintMore
attribute [local go_sem] max2_int min2_int max_two min_two max_three min_three max_four min_four   -- for this text's walks alone
set_option linter.unusedVariables false
set_option linter.unusedSimpArgs false
def triremelaw03_QuantParses.f (k : Nat) (a0 : ByteArray) : Option (Bool) := if (a0.size : Int) > 300 then ((triremelaw03_known.f k).bind fun t175 => (some t175)) else ((quant_Parse.f k a0).bind fun bt176 => ((triremeref03_Parse.f k a0).bind fun bt178 => ((quant_Milli.f k a0).bind fun bt180 => ((triremeref03_Milli.f k a0).bind fun bt182 => ((quant_Number.f k a0).bind fun bt184 => ((triremeref03_Number.f k a0).bind fun bt186 => (if bt176.1 = bt178.1 then (if bt176.2 = bt178.2 then (if bt180.1 = bt182.1 then (if bt180.2 = bt182.2 then (if bt184.1 = bt186.1 then (if bt184.2 = bt186.2 then ((triremelaw03_known.f k).bind fun t188 => (some t188)) else (some false)) else (some false)) else (some false)) else (some false)) else (some false)) else (some false))))))))
theorem triremelaw03_QuantParses.mono : ∀ a0 k, LeO (triremelaw03_QuantParses.f k a0) (triremelaw03_QuantParses.f (k + 1) a0) := by
  intro a0 k
  unfold triremelaw03_QuantParses.f
  repeat' first
      | (with_reducible exact quant_Milli.mono _ _)
      | (with_reducible exact quant_Number.mono _ _)
      | (with_reducible exact quant_Parse.mono _ _)
      | (with_reducible exact triremelaw03_known.mono _)
      | (with_reducible exact triremeref03_Milli.mono _ _)
      | (with_reducible exact triremeref03_Number.mono _ _)
      | (with_reducible exact triremeref03_Parse.mono _ _)
      | (with_reducible exact LeO.refl _)
      | (with_reducible exact LeO.none _)
      | (with_reducible refine LeO.ite ?_ ?_)
      | (with_reducible refine LeO.bind ?_ (fun _ => ?_))
      | exact quant_Milli.mono _ _
      | exact quant_Number.mono _ _
      | exact quant_Parse.mono _ _
      | exact triremelaw03_known.mono _
      | exact triremeref03_Milli.mono _ _
      | exact triremeref03_Number.mono _ _
      | exact triremeref03_Parse.mono _ _
      | exact LeO.none _
      | refine LeO.ite ?_ ?_
      | refine LeO.bind ?_ (fun _ => ?_)
set_option maxHeartbeats 8000000 in
set_option maxRecDepth 100000 in
theorem triremelaw03_QuantParses.calls (k : Nat) (a0 : ByteArray) (r : Bool) (w : World) (h : triremelaw03_QuantParses.f k a0 = some r) :
    Calls Try.prog 3 #[.string a0] w fun e w' => e = .returned (.bool r) ∧ Below w.heap.size w w' := by
  have HB := Aside0.mk (Below.refl w.heap.size w)
  have H : (if (a0.size : Int) > 300 then ((triremelaw03_known.f k).bind fun t175 => (some t175)) else ((quant_Parse.f k a0).bind fun bt176 => ((triremeref03_Parse.f k a0).bind fun bt178 => ((quant_Milli.f k a0).bind fun bt180 => ((triremeref03_Milli.f k a0).bind fun bt182 => ((quant_Number.f k a0).bind fun bt184 => ((triremeref03_Number.f k a0).bind fun bt186 => (if bt176.1 = bt178.1 then (if bt176.2 = bt178.2 then (if bt180.1 = bt182.1 then (if bt180.2 = bt182.2 then (if bt184.1 = bt186.1 then (if bt184.2 = bt186.2 then ((triremelaw03_known.f k).bind fun t188 => (some t188)) else (some false)) else (some false)) else (some false)) else (some false)) else (some false)) else (some false))))))))) = some r := h
  clear h
  by_cases c2 : (a0.size : Int) > 300
  · rw [if_pos c2] at H
    have c2b0 : decide (300 < (a0.size : Int)) = true := decide_eq_true c2
    have c2b1 : decide (300 < a0.size) = true := decide_eq_true (by omega)
    clear c2
    replace H := Option.bind_eq_some_iff.mp H
    obtain ⟨t175, A30, H⟩ := H
    replace H : (some t175) = some r := H
    have A3 := Aside0.mk A30
    clear A30
    obtain rfl := Option.some.inj H
    go_enter Try.func3, Try.ntmps3
    go_wp2_with (first | ((first | ((with_reducible refine gate_callee (f := 8) rfl ?_); refine goesL_ (some 18) rfl rfl Try.func8 (by kernel_rfl) rfl #[] rfl (by (try simp only [List.map_toArray, List.map_cons, List.map_nil]); first | done | rfl | (simp only [List.length_drop, List.length_take]; rfl)) ?_; (with_reducible refine (triremelaw03_known.calls k  t175 _ A3.out).mono ?_); rintro e w4 ⟨rfl, hb⟩; refine ⟨_, rfl, ?_⟩) | (go_at_call 8; (with_reducible refine (triremelaw03_known.calls k  t175 _ A3.out).mono ?_); rintro e w4 ⟨rfl, hb⟩)); have n0_ := Aside0.mk (below_step (by repeat (first | (with_reducible first | exact HB.out | apply below_alloc | apply pw_below_drewN | apply below_drew1) | exact HB.out)) hb); clear HB; have HB := n0_; clear n0_; (try clear hb); (try clear hb2); (try clear hk); (try clear hi)))
    go_ret
    exact ⟨by first | rfl | (simp [errW_none, errW_some] <;> rfl) | (simp [*, errW_none, errW_some] <;> rfl), by repeat (first | (with_reducible first | exact HB.out | apply below_alloc | apply pw_below_drewN | apply below_drew1) | exact HB.out)⟩
  · rw [if_neg c2] at H
    have c2b0 : decide (300 < (a0.size : Int)) = false := decide_eq_false c2
    have c2b1 : decide (300 < a0.size) = false := decide_eq_false (by omega)
    clear c2
    replace H := Option.bind_eq_some_iff.mp H
    obtain ⟨⟨t176, t177⟩, A50, H⟩ := H
    replace H : ((triremeref03_Parse.f k a0).bind fun bt178 => ((quant_Milli.f k a0).bind fun bt180 => ((triremeref03_Milli.f k a0).bind fun bt182 => ((quant_Number.f k a0).bind fun bt184 => ((triremeref03_Number.f k a0).bind fun bt186 => (if t176 = bt178.1 then (if t177 = bt178.2 then (if bt180.1 = bt182.1 then (if bt180.2 = bt182.2 then (if bt184.1 = bt186.1 then (if bt184.2 = bt186.2 then ((triremelaw03_known.f k).bind fun t188 => (some t188)) else (some false)) else (some false)) else (some false)) else (some false)) else (some false)) else (some false))))))) = some r := H
    have A5 := Aside0.mk A50
    clear A50
    replace H := Option.bind_eq_some_iff.mp H
    obtain ⟨⟨t178, t179⟩, A60, H⟩ := H
    replace H : ((quant_Milli.f k a0).bind fun bt180 => ((triremeref03_Milli.f k a0).bind fun bt182 => ((quant_Number.f k a0).bind fun bt184 => ((triremeref03_Number.f k a0).bind fun bt186 => (if t176 = t178 then (if t177 = t179 then (if bt180.1 = bt182.1 then (if bt180.2 = bt182.2 then (if bt184.1 = bt186.1 then (if bt184.2 = bt186.2 then ((triremelaw03_known.f k).bind fun t188 => (some t188)) else (some false)) else (some false)) else (some false)) else (some false)) else (some false)) else (some false)))))) = some r := H
    have A6 := Aside0.mk A60
    clear A60
    replace H := Option.bind_eq_some_iff.mp H
    obtain ⟨⟨t180, t181⟩, A70, H⟩ := H
    replace H : ((triremeref03_Milli.f k a0).bind fun bt182 => ((quant_Number.f k a0).bind fun bt184 => ((triremeref03_Number.f k a0).bind fun bt186 => (if t176 = t178 then (if t177 = t179 then (if t180 = bt182.1 then (if t181 = bt182.2 then (if bt184.1 = bt186.1 then (if bt184.2 = bt186.2 then ((triremelaw03_known.f k).bind fun t188 => (some t188)) else (some false)) else (some false)) else (some false)) else (some false)) else (some false)) else (some false))))) = some r := H
    have A7 := Aside0.mk A70
    clear A70
    replace H := Option.bind_eq_some_iff.mp H
    obtain ⟨⟨t182, t183⟩, A80, H⟩ := H
    replace H : ((quant_Number.f k a0).bind fun bt184 => ((triremeref03_Number.f k a0).bind fun bt186 => (if t176 = t178 then (if t177 = t179 then (if t180 = t182 then (if t181 = t183 then (if bt184.1 = bt186.1 then (if bt184.2 = bt186.2 then ((triremelaw03_known.f k).bind fun t188 => (some t188)) else (some false)) else (some false)) else (some false)) else (some false)) else (some false)) else (some false)))) = some r := H
    have A8 := Aside0.mk A80
    clear A80
    replace H := Option.bind_eq_some_iff.mp H
    obtain ⟨⟨t184, t185⟩, A90, H⟩ := H
    replace H : ((triremeref03_Number.f k a0).bind fun bt186 => (if t176 = t178 then (if t177 = t179 then (if t180 = t182 then (if t181 = t183 then (if t184 = bt186.1 then (if t185 = bt186.2 then ((triremelaw03_known.f k).bind fun t188 => (some t188)) else (some false)) else (some false)) else (some false)) else (some false)) else (some false)) else (some false))) = some r := H
    have A9 := Aside0.mk A90
    clear A90
    replace H := Option.bind_eq_some_iff.mp H
    obtain ⟨⟨t186, t187⟩, A100, H⟩ := H
    replace H : (if t176 = t178 then (if t177 = t179 then (if t180 = t182 then (if t181 = t183 then (if t184 = t186 then (if t185 = t187 then ((triremelaw03_known.f k).bind fun t188 => (some t188)) else (some false)) else (some false)) else (some false)) else (some false)) else (some false)) else (some false)) = some r := H
    have A10 := Aside0.mk A100
    clear A100
    by_cases c11 : t176 = t178
    · rw [if_pos c11] at H
      have c11b0 : (t176 == t178) = true := beq_iff_eq.mpr c11
      have c11b1 : (t176 != t178) = false := bne_eq_false_iff_eq.mpr c11
      clear c11
      by_cases c12 : t177 = t179
      · rw [if_pos c12] at H
        have c12b0 : (t177 == t179) = true := beq_iff_eq.mpr c12
        have c12b1 : (t177 != t179) = false := bne_eq_false_iff_eq.mpr c12
        clear c12
        by_cases c13 : t180 = t182
        · rw [if_pos c13] at H
          have c13b0 : (t180 == t182) = true := beq_iff_eq.mpr c13
          have c13b1 : (t180 != t182) = false := bne_eq_false_iff_eq.mpr c13
          clear c13
          by_cases c14 : t181 = t183
          · rw [if_pos c14] at H
            have c14b0 : (t181 == t183) = true := beq_iff_eq.mpr c14
            have c14b1 : (t181 != t183) = false := bne_eq_false_iff_eq.mpr c14
            clear c14
            by_cases c15 : t184 = t186
            · rw [if_pos c15] at H
              have c15b0 : (t184 == t186) = true := beq_iff_eq.mpr c15
              have c15b1 : (t184 != t186) = false := bne_eq_false_iff_eq.mpr c15
              clear c15
              by_cases c16 : t185 = t187
              · rw [if_pos c16] at H
                have c16b0 : (t185 == t187) = true := beq_iff_eq.mpr c16
                have c16b1 : (t185 != t187) = false := bne_eq_false_iff_eq.mpr c16
                clear c16
                replace H := Option.bind_eq_some_iff.mp H
                obtain ⟨t188, A170, H⟩ := H
                replace H : (some t188) = some r := H
                have A17 := Aside0.mk A170
                clear A170
                obtain rfl := Option.some.inj H
                go_enter Try.func3, Try.ntmps3
                go_wp2_with (first | ((first | ((with_reducible refine gate_callee (f := 9) rfl ?_); refine goesL_ (some 21) rfl rfl Try.func9 (by kernel_rfl) rfl #[.string a0] rfl (by (try simp only [List.map_toArray, List.map_cons, List.map_nil]); first | done | rfl | (simp only [List.length_drop, List.length_take]; rfl)) ?_; (with_reducible refine (quant_Parse.calls k a0 t176 t177 _ A5.out).mono ?_); rintro e w18 ⟨rfl, hb⟩; refine ⟨_, rfl, ?_⟩) | (go_at_call 9; (with_reducible refine (quant_Parse.calls k a0 t176 t177 _ A5.out).mono ?_); rintro e w18 ⟨rfl, hb⟩)); have n0_ := Aside0.mk (below_step (by repeat (first | (with_reducible first | exact HB.out | apply below_alloc | apply pw_below_drewN | apply below_drew1) | exact HB.out)) hb); clear HB; have HB := n0_; clear n0_; (try clear hb); (try clear hb2); (try clear hk); (try clear hi)) | ((first | ((with_reducible refine gate_callee (f := 10) rfl ?_); refine goesL_ (some 26) rfl rfl Try.func10 (by kernel_rfl) rfl #[.string a0] rfl (by (try simp only [List.map_toArray, List.map_cons, List.map_nil]); first | done | rfl | (simp only [List.length_drop, List.length_take]; rfl)) ?_; (with_reducible refine (triremeref03_Parse.calls k a0 t178 t179 _ A6.out).mono ?_); rintro e w19 ⟨rfl, hb⟩; refine ⟨_, rfl, ?_⟩) | (go_at_call 10; (with_reducible refine (triremeref03_Parse.calls k a0 t178 t179 _ A6.out).mono ?_); rintro e w19 ⟨rfl, hb⟩)); have n0_ := Aside0.mk (below_step (by repeat (first | (with_reducible first | exact HB.out | apply below_alloc | apply pw_below_drewN | apply below_drew1) | exact HB.out)) hb); clear HB; have HB := n0_; clear n0_; (try clear hb); (try clear hb2); (try clear hk); (try clear hi)) | ((first | ((with_reducible refine gate_callee (f := 11) rfl ?_); refine goesL_ (some 31) rfl rfl Try.func11 (by kernel_rfl) rfl #[.string a0] rfl (by (try simp only [List.map_toArray, List.map_cons, List.map_nil]); first | done | rfl | (simp only [List.length_drop, List.length_take]; rfl)) ?_; (with_reducible refine (quant_Milli.calls k a0 t180 t181 _ A7.out).mono ?_); rintro e w20 ⟨rfl, hb⟩; refine ⟨_, rfl, ?_⟩) | (go_at_call 11; (with_reducible refine (quant_Milli.calls k a0 t180 t181 _ A7.out).mono ?_); rintro e w20 ⟨rfl, hb⟩)); have n0_ := Aside0.mk (below_step (by repeat (first | (with_reducible first | exact HB.out | apply below_alloc | apply pw_below_drewN | apply below_drew1) | exact HB.out)) hb); clear HB; have HB := n0_; clear n0_; (try clear hb); (try clear hb2); (try clear hk); (try clear hi)) | ((first | ((with_reducible refine gate_callee (f := 12) rfl ?_); refine goesL_ (some 36) rfl rfl Try.func12 (by kernel_rfl) rfl #[.string a0] rfl (by (try simp only [List.map_toArray, List.map_cons, List.map_nil]); first | done | rfl | (simp only [List.length_drop, List.length_take]; rfl)) ?_; (with_reducible refine (triremeref03_Milli.calls k a0 t182 t183 _ A8.out).mono ?_); rintro e w21 ⟨rfl, hb⟩; refine ⟨_, rfl, ?_⟩) | (go_at_call 12; (with_reducible refine (triremeref03_Milli.calls k a0 t182 t183 _ A8.out).mono ?_); rintro e w21 ⟨rfl, hb⟩)); have n0_ := Aside0.mk (below_step (by repeat (first | (with_reducible first | exact HB.out | apply below_alloc | apply pw_below_drewN | apply below_drew1) | exact HB.out)) hb); clear HB; have HB := n0_; clear n0_; (try clear hb); (try clear hb2); (try clear hk); (try clear hi)) | ((first | ((with_reducible refine gate_callee (f := 13) rfl ?_); refine goesL_ (some 41) rfl rfl Try.func13 (by kernel_rfl) rfl #[.string a0] rfl (by (try simp only [List.map_toArray, List.map_cons, List.map_nil]); first | done | rfl | (simp only [List.length_drop, List.length_take]; rfl)) ?_; (with_reducible refine (quant_Number.calls k a0 t184 t185 _ A9.out).mono ?_); rintro e w' ⟨rfl, ⟨nd, rfl⟩⟩; refine ⟨_, rfl, ?_⟩) | (go_at_call 13; (with_reducible refine (quant_Number.calls k a0 t184 t185 _ A9.out).mono ?_); rintro e w' ⟨rfl, ⟨nd, rfl⟩⟩))) | ((first | ((with_reducible refine gate_callee (f := 14) rfl ?_); refine goesL_ (some 46) rfl rfl Try.func14 (by kernel_rfl) rfl #[.string a0] rfl (by (try simp only [List.map_toArray, List.map_cons, List.map_nil]); first | done | rfl | (simp only [List.length_drop, List.length_take]; rfl)) ?_; (with_reducible refine (triremeref03_Number.calls k a0 t186 t187 _ A10.out).mono ?_); rintro e w22 ⟨rfl, hb⟩; refine ⟨_, rfl, ?_⟩) | (go_at_call 14; (with_reducible refine (triremeref03_Number.calls k a0 t186 t187 _ A10.out).mono ?_); rintro e w22 ⟨rfl, hb⟩)); have n0_ := Aside0.mk (below_step (by repeat (first | (with_reducible first | exact HB.out | apply below_alloc | apply pw_below_drewN | apply below_drew1) | exact HB.out)) hb); clear HB; have HB := n0_; clear n0_; (try clear hb); (try clear hb2); (try clear hk); (try clear hi)) | (go_at_call 8; (with_reducible refine (triremelaw03_known.calls k  t188 _ A17.out).mono ?_); rintro e w23 ⟨rfl, hb⟩; have n0_ := Aside0.mk (below_step (by repeat (first | (with_reducible first | exact HB.out | apply below_alloc | apply pw_below_drewN | apply below_drew1) | exact HB.out)) hb); clear HB; have HB := n0_; clear n0_; (try clear hb); (try clear hb2); (try clear hk); (try clear hi)))
                go_ret
                exact ⟨by first | rfl | (simp [errW_none, errW_some] <;> rfl) | (simp [*, errW_none, errW_some] <;> rfl), by repeat (first | (with_reducible first | exact HB.out | apply below_alloc | apply pw_below_drewN | apply below_drew1) | exact HB.out)⟩
              · rw [if_neg c16] at H
                have c16b0 : (t185 == t187) = false := beq_eq_false_iff_ne.mpr c16
                have c16b1 : (t185 != t187) = true := bne_iff_ne.mpr c16
                obtain rfl := Option.some.inj H
                go_enter Try.func3, Try.ntmps3
                go_wp2_with (first | ((first | ((with_reducible refine gate_callee (f := 9) rfl ?_); refine goesL_ (some 21) rfl rfl Try.func9 (by kernel_rfl) rfl #[.string a0] rfl (by (try simp only [List.map_toArray, List.map_cons, List.map_nil]); first | done | rfl | (simp only [List.length_drop, List.length_take]; rfl)) ?_; (with_reducible refine (quant_Parse.calls k a0 t176 t177 _ A5.out).mono ?_); rintro e w24 ⟨rfl, hb⟩; refine ⟨_, rfl, ?_⟩) | (go_at_call 9; (with_reducible refine (quant_Parse.calls k a0 t176 t177 _ A5.out).mono ?_); rintro e w24 ⟨rfl, hb⟩)); have n0_ := Aside0.mk (below_step (by repeat (first | (with_reducible first | exact HB.out | apply below_alloc | apply pw_below_drewN | apply below_drew1) | exact HB.out)) hb); clear HB; have HB := n0_; clear n0_; (try clear hb); (try clear hb2); (try clear hk); (try clear hi)) | ((first | ((with_reducible refine gate_callee (f := 10) rfl ?_); refine goesL_ (some 26) rfl rfl Try.func10 (by kernel_rfl) rfl #[.string a0] rfl (by (try simp only [List.map_toArray, List.map_cons, List.map_nil]); first | done | rfl | (simp only [List.length_drop, List.length_take]; rfl)) ?_; (with_reducible refine (triremeref03_Parse.calls k a0 t178 t179 _ A6.out).mono ?_); rintro e w25 ⟨rfl, hb⟩; refine ⟨_, rfl, ?_⟩) | (go_at_call 10; (with_reducible refine (triremeref03_Parse.calls k a0 t178 t179 _ A6.out).mono ?_); rintro e w25 ⟨rfl, hb⟩)); have n0_ := Aside0.mk (below_step (by repeat (first | (with_reducible first | exact HB.out | apply below_alloc | apply pw_below_drewN | apply below_drew1) | exact HB.out)) hb); clear HB; have HB := n0_; clear n0_; (try clear hb); (try clear hb2); (try clear hk); (try clear hi)) | ((first | ((with_reducible refine gate_callee (f := 11) rfl ?_); refine goesL_ (some 31) rfl rfl Try.func11 (by kernel_rfl) rfl #[.string a0] rfl (by (try simp only [List.map_toArray, List.map_cons, List.map_nil]); first | done | rfl | (simp only [List.length_drop, List.length_take]; rfl)) ?_; (with_reducible refine (quant_Milli.calls k a0 t180 t181 _ A7.out).mono ?_); rintro e w26 ⟨rfl, hb⟩; refine ⟨_, rfl, ?_⟩) | (go_at_call 11; (with_reducible refine (quant_Milli.calls k a0 t180 t181 _ A7.out).mono ?_); rintro e w26 ⟨rfl, hb⟩)); have n0_ := Aside0.mk (below_step (by repeat (first | (with_reducible first | exact HB.out | apply below_alloc | apply pw_below_drewN | apply below_drew1) | exact HB.out)) hb); clear HB; have HB := n0_; clear n0_; (try clear hb); (try clear hb2); (try clear hk); (try clear hi)) | ((first | ((with_reducible refine gate_callee (f := 12) rfl ?_); refine goesL_ (some 36) rfl rfl Try.func12 (by kernel_rfl) rfl #[.string a0] rfl (by (try simp only [List.map_toArray, List.map_cons, List.map_nil]); first | done | rfl | (simp only [List.length_drop, List.length_take]; rfl)) ?_; (with_reducible refine (triremeref03_Milli.calls k a0 t182 t183 _ A8.out).mono ?_); rintro e w27 ⟨rfl, hb⟩; refine ⟨_, rfl, ?_⟩) | (go_at_call 12; (with_reducible refine (triremeref03_Milli.calls k a0 t182 t183 _ A8.out).mono ?_); rintro e w27 ⟨rfl, hb⟩)); have n0_ := Aside0.mk (below_step (by repeat (first | (with_reducible first | exact HB.out | apply below_alloc | apply pw_below_drewN | apply below_drew1) | exact HB.out)) hb); clear HB; have HB := n0_; clear n0_; (try clear hb); (try clear hb2); (try clear hk); (try clear hi)) | ((first | ((with_reducible refine gate_callee (f := 13) rfl ?_); refine goesL_ (some 41) rfl rfl Try.func13 (by kernel_rfl) rfl #[.string a0] rfl (by (try simp only [List.map_toArray, List.map_cons, List.map_nil]); first | done | rfl | (simp only [List.length_drop, List.length_take]; rfl)) ?_; (with_reducible refine (quant_Number.calls k a0 t184 t185 _ A9.out).mono ?_); rintro e w' ⟨rfl, ⟨nd, rfl⟩⟩; refine ⟨_, rfl, ?_⟩) | (go_at_call 13; (with_reducible refine (quant_Number.calls k a0 t184 t185 _ A9.out).mono ?_); rintro e w' ⟨rfl, ⟨nd, rfl⟩⟩))) | ((first | ((with_reducible refine gate_callee (f := 14) rfl ?_); refine goesL_ (some 46) rfl rfl Try.func14 (by kernel_rfl) rfl #[.string a0] rfl (by (try simp only [List.map_toArray, List.map_cons, List.map_nil]); first | done | rfl | (simp only [List.length_drop, List.length_take]; rfl)) ?_; (with_reducible refine (triremeref03_Number.calls k a0 t186 t187 _ A10.out).mono ?_); rintro e w28 ⟨rfl, hb⟩; refine ⟨_, rfl, ?_⟩) | (go_at_call 14; (with_reducible refine (triremeref03_Number.calls k a0 t186 t187 _ A10.out).mono ?_); rintro e w28 ⟨rfl, hb⟩)); have n0_ := Aside0.mk (below_step (by repeat (first | (with_reducible first | exact HB.out | apply below_alloc | apply pw_below_drewN | apply below_drew1) | exact HB.out)) hb); clear HB; have HB := n0_; clear n0_; (try clear hb); (try clear hb2); (try clear hk); (try clear hi)))
                go_ret
                exact ⟨by first | rfl | (simp [errW_none, errW_some] <;> rfl) | (simp [*, errW_none, errW_some] <;> rfl), by repeat (first | (with_reducible first | exact HB.out | apply below_alloc | apply pw_below_drewN | apply below_drew1) | exact HB.out)⟩
            · rw [if_neg c15] at H
              have c15b0 : (t184 == t186) = false := beq_eq_false_iff_ne.mpr c15
              have c15b1 : (t184 != t186) = true := bne_iff_ne.mpr c15
              obtain rfl := Option.some.inj H
              go_enter Try.func3, Try.ntmps3
              go_wp2_with (first | ((first | ((with_reducible refine gate_callee (f := 9) rfl ?_); refine goesL_ (some 21) rfl rfl Try.func9 (by kernel_rfl) rfl #[.string a0] rfl (by (try simp only [List.map_toArray, List.map_cons, List.map_nil]); first | done | rfl | (simp only [List.length_drop, List.length_take]; rfl)) ?_; (with_reducible refine (quant_Parse.calls k a0 t176 t177 _ A5.out).mono ?_); rintro e w29 ⟨rfl, hb⟩; refine ⟨_, rfl, ?_⟩) | (go_at_call 9; (with_reducible refine (quant_Parse.calls k a0 t176 t177 _ A5.out).mono ?_); rintro e w29 ⟨rfl, hb⟩)); have n0_ := Aside0.mk (below_step (by repeat (first | (with_reducible first | exact HB.out | apply below_alloc | apply pw_below_drewN | apply below_drew1) | exact HB.out)) hb); clear HB; have HB := n0_; clear n0_; (try clear hb); (try clear hb2); (try clear hk); (try clear hi)) | ((first | ((with_reducible refine gate_callee (f := 10) rfl ?_); refine goesL_ (some 26) rfl rfl Try.func10 (by kernel_rfl) rfl #[.string a0] rfl (by (try simp only [List.map_toArray, List.map_cons, List.map_nil]); first | done | rfl | (simp only [List.length_drop, List.length_take]; rfl)) ?_; (with_reducible refine (triremeref03_Parse.calls k a0 t178 t179 _ A6.out).mono ?_); rintro e w30 ⟨rfl, hb⟩; refine ⟨_, rfl, ?_⟩) | (go_at_call 10; (with_reducible refine (triremeref03_Parse.calls k a0 t178 t179 _ A6.out).mono ?_); rintro e w30 ⟨rfl, hb⟩)); have n0_ := Aside0.mk (below_step (by repeat (first | (with_reducible first | exact HB.out | apply below_alloc | apply pw_below_drewN | apply below_drew1) | exact HB.out)) hb); clear HB; have HB := n0_; clear n0_; (try clear hb); (try clear hb2); (try clear hk); (try clear hi)) | ((first | ((with_reducible refine gate_callee (f := 11) rfl ?_); refine goesL_ (some 31) rfl rfl Try.func11 (by kernel_rfl) rfl #[.string a0] rfl (by (try simp only [List.map_toArray, List.map_cons, List.map_nil]); first | done | rfl | (simp only [List.length_drop, List.length_take]; rfl)) ?_; (with_reducible refine (quant_Milli.calls k a0 t180 t181 _ A7.out).mono ?_); rintro e w31 ⟨rfl, hb⟩; refine ⟨_, rfl, ?_⟩) | (go_at_call 11; (with_reducible refine (quant_Milli.calls k a0 t180 t181 _ A7.out).mono ?_); rintro e w31 ⟨rfl, hb⟩)); have n0_ := Aside0.mk (below_step (by repeat (first | (with_reducible first | exact HB.out | apply below_alloc | apply pw_below_drewN | apply below_drew1) | exact HB.out)) hb); clear HB; have HB := n0_; clear n0_; (try clear hb); (try clear hb2); (try clear hk); (try clear hi)) | ((first | ((with_reducible refine gate_callee (f := 12) rfl ?_); refine goesL_ (some 36) rfl rfl Try.func12 (by kernel_rfl) rfl #[.string a0] rfl (by (try simp only [List.map_toArray, List.map_cons, List.map_nil]); first | done | rfl | (simp only [List.length_drop, List.length_take]; rfl)) ?_; (with_reducible refine (triremeref03_Milli.calls k a0 t182 t183 _ A8.out).mono ?_); rintro e w32 ⟨rfl, hb⟩; refine ⟨_, rfl, ?_⟩) | (go_at_call 12; (with_reducible refine (triremeref03_Milli.calls k a0 t182 t183 _ A8.out).mono ?_); rintro e w32 ⟨rfl, hb⟩)); have n0_ := Aside0.mk (below_step (by repeat (first | (with_reducible first | exact HB.out | apply below_alloc | apply pw_below_drewN | apply below_drew1) | exact HB.out)) hb); clear HB; have HB := n0_; clear n0_; (try clear hb); (try clear hb2); (try clear hk); (try clear hi)) | ((first | ((with_reducible refine gate_callee (f := 13) rfl ?_); refine goesL_ (some 41) rfl rfl Try.func13 (by kernel_rfl) rfl #[.string a0] rfl (by (try simp only [List.map_toArray, List.map_cons, List.map_nil]); first | done | rfl | (simp only [List.length_drop, List.length_take]; rfl)) ?_; (with_reducible refine (quant_Number.calls k a0 t184 t185 _ A9.out).mono ?_); rintro e w' ⟨rfl, ⟨nd, rfl⟩⟩; refine ⟨_, rfl, ?_⟩) | (go_at_call 13; (with_reducible refine (quant_Number.calls k a0 t184 t185 _ A9.out).mono ?_); rintro e w' ⟨rfl, ⟨nd, rfl⟩⟩))) | ((first | ((with_reducible refine gate_callee (f := 14) rfl ?_); refine goesL_ (some 46) rfl rfl Try.func14 (by kernel_rfl) rfl #[.string a0] rfl (by (try simp only [List.map_toArray, List.map_cons, List.map_nil]); first | done | rfl | (simp only [List.length_drop, List.length_take]; rfl)) ?_; (with_reducible refine (triremeref03_Number.calls k a0 t186 t187 _ A10.out).mono ?_); rintro e w33 ⟨rfl, hb⟩; refine ⟨_, rfl, ?_⟩) | (go_at_call 14; (with_reducible refine (triremeref03_Number.calls k a0 t186 t187 _ A10.out).mono ?_); rintro e w33 ⟨rfl, hb⟩)); have n0_ := Aside0.mk (below_step (by repeat (first | (with_reducible first | exact HB.out | apply below_alloc | apply pw_below_drewN | apply below_drew1) | exact HB.out)) hb); clear HB; have HB := n0_; clear n0_; (try clear hb); (try clear hb2); (try clear hk); (try clear hi)))
              go_ret
              exact ⟨by first | rfl | (simp [errW_none, errW_some] <;> rfl) | (simp [*, errW_none, errW_some] <;> rfl), by repeat (first | (with_reducible first | exact HB.out | apply below_alloc | apply pw_below_drewN | apply below_drew1) | exact HB.out)⟩
          · rw [if_neg c14] at H
            have c14b0 : (t181 == t183) = false := beq_eq_false_iff_ne.mpr c14
            have c14b1 : (t181 != t183) = true := bne_iff_ne.mpr c14
            obtain rfl := Option.some.inj H
            go_enter Try.func3, Try.ntmps3
            go_wp2_with (first | ((first | ((with_reducible refine gate_callee (f := 9) rfl ?_); refine goesL_ (some 21) rfl rfl Try.func9 (by kernel_rfl) rfl #[.string a0] rfl (by (try simp only [List.map_toArray, List.map_cons, List.map_nil]); first | done | rfl | (simp only [List.length_drop, List.length_take]; rfl)) ?_; (with_reducible refine (quant_Parse.calls k a0 t176 t177 _ A5.out).mono ?_); rintro e w34 ⟨rfl, hb⟩; refine ⟨_, rfl, ?_⟩) | (go_at_call 9; (with_reducible refine (quant_Parse.calls k a0 t176 t177 _ A5.out).mono ?_); rintro e w34 ⟨rfl, hb⟩)); have n0_ := Aside0.mk (below_step (by repeat (first | (with_reducible first | exact HB.out | apply below_alloc | apply pw_below_drewN | apply below_drew1) | exact HB.out)) hb); clear HB; have HB := n0_; clear n0_; (try clear hb); (try clear hb2); (try clear hk); (try clear hi)) | ((first | ((with_reducible refine gate_callee (f := 10) rfl ?_); refine goesL_ (some 26) rfl rfl Try.func10 (by kernel_rfl) rfl #[.string a0] rfl (by (try simp only [List.map_toArray, List.map_cons, List.map_nil]); first | done | rfl | (simp only [List.length_drop, List.length_take]; rfl)) ?_; (with_reducible refine (triremeref03_Parse.calls k a0 t178 t179 _ A6.out).mono ?_); rintro e w35 ⟨rfl, hb⟩; refine ⟨_, rfl, ?_⟩) | (go_at_call 10; (with_reducible refine (triremeref03_Parse.calls k a0 t178 t179 _ A6.out).mono ?_); rintro e w35 ⟨rfl, hb⟩)); have n0_ := Aside0.mk (below_step (by repeat (first | (with_reducible first | exact HB.out | apply below_alloc | apply pw_below_drewN | apply below_drew1) | exact HB.out)) hb); clear HB; have HB := n0_; clear n0_; (try clear hb); (try clear hb2); (try clear hk); (try clear hi)) | ((first | ((with_reducible refine gate_callee (f := 11) rfl ?_); refine goesL_ (some 31) rfl rfl Try.func11 (by kernel_rfl) rfl #[.string a0] rfl (by (try simp only [List.map_toArray, List.map_cons, List.map_nil]); first | done | rfl | (simp only [List.length_drop, List.length_take]; rfl)) ?_; (with_reducible refine (quant_Milli.calls k a0 t180 t181 _ A7.out).mono ?_); rintro e w36 ⟨rfl, hb⟩; refine ⟨_, rfl, ?_⟩) | (go_at_call 11; (with_reducible refine (quant_Milli.calls k a0 t180 t181 _ A7.out).mono ?_); rintro e w36 ⟨rfl, hb⟩)); have n0_ := Aside0.mk (below_step (by repeat (first | (with_reducible first | exact HB.out | apply below_alloc | apply pw_below_drewN | apply below_drew1) | exact HB.out)) hb); clear HB; have HB := n0_; clear n0_; (try clear hb); (try clear hb2); (try clear hk); (try clear hi)) | ((first | ((with_reducible refine gate_callee (f := 12) rfl ?_); refine goesL_ (some 36) rfl rfl Try.func12 (by kernel_rfl) rfl #[.string a0] rfl (by (try simp only [List.map_toArray, List.map_cons, List.map_nil]); first | done | rfl | (simp only [List.length_drop, List.length_take]; rfl)) ?_; (with_reducible refine (triremeref03_Milli.calls k a0 t182 t183 _ A8.out).mono ?_); rintro e w37 ⟨rfl, hb⟩; refine ⟨_, rfl, ?_⟩) | (go_at_call 12; (with_reducible refine (triremeref03_Milli.calls k a0 t182 t183 _ A8.out).mono ?_); rintro e w37 ⟨rfl, hb⟩)); have n0_ := Aside0.mk (below_step (by repeat (first | (with_reducible first | exact HB.out | apply below_alloc | apply pw_below_drewN | apply below_drew1) | exact HB.out)) hb); clear HB; have HB := n0_; clear n0_; (try clear hb); (try clear hb2); (try clear hk); (try clear hi)) | ((first | ((with_reducible refine gate_callee (f := 13) rfl ?_); refine goesL_ (some 41) rfl rfl Try.func13 (by kernel_rfl) rfl #[.string a0] rfl (by (try simp only [List.map_toArray, List.map_cons, List.map_nil]); first | done | rfl | (simp only [List.length_drop, List.length_take]; rfl)) ?_; (with_reducible refine (quant_Number.calls k a0 t184 t185 _ A9.out).mono ?_); rintro e w' ⟨rfl, ⟨nd, rfl⟩⟩; refine ⟨_, rfl, ?_⟩) | (go_at_call 13; (with_reducible refine (quant_Number.calls k a0 t184 t185 _ A9.out).mono ?_); rintro e w' ⟨rfl, ⟨nd, rfl⟩⟩))) | ((first | ((with_reducible refine gate_callee (f := 14) rfl ?_); refine goesL_ (some 46) rfl rfl Try.func14 (by kernel_rfl) rfl #[.string a0] rfl (by (try simp only [List.map_toArray, List.map_cons, List.map_nil]); first | done | rfl | (simp only [List.length_drop, List.length_take]; rfl)) ?_; (with_reducible refine (triremeref03_Number.calls k a0 t186 t187 _ A10.out).mono ?_); rintro e w38 ⟨rfl, hb⟩; refine ⟨_, rfl, ?_⟩) | (go_at_call 14; (with_reducible refine (triremeref03_Number.calls k a0 t186 t187 _ A10.out).mono ?_); rintro e w38 ⟨rfl, hb⟩)); have n0_ := Aside0.mk (below_step (by repeat (first | (with_reducible first | exact HB.out | apply below_alloc | apply pw_below_drewN | apply below_drew1) | exact HB.out)) hb); clear HB; have HB := n0_; clear n0_; (try clear hb); (try clear hb2); (try clear hk); (try clear hi)))
            go_ret
            exact ⟨by first | rfl | (simp [errW_none, errW_some] <;> rfl) | (simp [*, errW_none, errW_some] <;> rfl), by repeat (first | (with_reducible first | exact HB.out | apply below_alloc | apply pw_below_drewN | apply below_drew1) | exact HB.out)⟩
        · rw [if_neg c13] at H
          have c13b0 : (t180 == t182) = false := beq_eq_false_iff_ne.mpr c13
          have c13b1 : (t180 != t182) = true := bne_iff_ne.mpr c13
          obtain rfl := Option.some.inj H
          go_enter Try.func3, Try.ntmps3
          go_wp2_with (first | ((first | ((with_reducible refine gate_callee (f := 9) rfl ?_); refine goesL_ (some 21) rfl rfl Try.func9 (by kernel_rfl) rfl #[.string a0] rfl (by (try simp only [List.map_toArray, List.map_cons, List.map_nil]); first | done | rfl | (simp only [List.length_drop, List.length_take]; rfl)) ?_; (with_reducible refine (quant_Parse.calls k a0 t176 t177 _ A5.out).mono ?_); rintro e w39 ⟨rfl, hb⟩; refine ⟨_, rfl, ?_⟩) | (go_at_call 9; (with_reducible refine (quant_Parse.calls k a0 t176 t177 _ A5.out).mono ?_); rintro e w39 ⟨rfl, hb⟩)); have n0_ := Aside0.mk (below_step (by repeat (first | (with_reducible first | exact HB.out | apply below_alloc | apply pw_below_drewN | apply below_drew1) | exact HB.out)) hb); clear HB; have HB := n0_; clear n0_; (try clear hb); (try clear hb2); (try clear hk); (try clear hi)) | ((first | ((with_reducible refine gate_callee (f := 10) rfl ?_); refine goesL_ (some 26) rfl rfl Try.func10 (by kernel_rfl) rfl #[.string a0] rfl (by (try simp only [List.map_toArray, List.map_cons, List.map_nil]); first | done | rfl | (simp only [List.length_drop, List.length_take]; rfl)) ?_; (with_reducible refine (triremeref03_Parse.calls k a0 t178 t179 _ A6.out).mono ?_); rintro e w40 ⟨rfl, hb⟩; refine ⟨_, rfl, ?_⟩) | (go_at_call 10; (with_reducible refine (triremeref03_Parse.calls k a0 t178 t179 _ A6.out).mono ?_); rintro e w40 ⟨rfl, hb⟩)); have n0_ := Aside0.mk (below_step (by repeat (first | (with_reducible first | exact HB.out | apply below_alloc | apply pw_below_drewN | apply below_drew1) | exact HB.out)) hb); clear HB; have HB := n0_; clear n0_; (try clear hb); (try clear hb2); (try clear hk); (try clear hi)) | ((first | ((with_reducible refine gate_callee (f := 11) rfl ?_); refine goesL_ (some 31) rfl rfl Try.func11 (by kernel_rfl) rfl #[.string a0] rfl (by (try simp only [List.map_toArray, List.map_cons, List.map_nil]); first | done | rfl | (simp only [List.length_drop, List.length_take]; rfl)) ?_; (with_reducible refine (quant_Milli.calls k a0 t180 t181 _ A7.out).mono ?_); rintro e w41 ⟨rfl, hb⟩; refine ⟨_, rfl, ?_⟩) | (go_at_call 11; (with_reducible refine (quant_Milli.calls k a0 t180 t181 _ A7.out).mono ?_); rintro e w41 ⟨rfl, hb⟩)); have n0_ := Aside0.mk (below_step (by repeat (first | (with_reducible first | exact HB.out | apply below_alloc | apply pw_below_drewN | apply below_drew1) | exact HB.out)) hb); clear HB; have HB := n0_; clear n0_; (try clear hb); (try clear hb2); (try clear hk); (try clear hi)) | ((first | ((with_reducible refine gate_callee (f := 12) rfl ?_); refine goesL_ (some 36) rfl rfl Try.func12 (by kernel_rfl) rfl #[.string a0] rfl (by (try simp only [List.map_toArray, List.map_cons, List.map_nil]); first | done | rfl | (simp only [List.length_drop, List.length_take]; rfl)) ?_; (with_reducible refine (triremeref03_Milli.calls k a0 t182 t183 _ A8.out).mono ?_); rintro e w42 ⟨rfl, hb⟩; refine ⟨_, rfl, ?_⟩) | (go_at_call 12; (with_reducible refine (triremeref03_Milli.calls k a0 t182 t183 _ A8.out).mono ?_); rintro e w42 ⟨rfl, hb⟩)); have n0_ := Aside0.mk (below_step (by repeat (first | (with_reducible first | exact HB.out | apply below_alloc | apply pw_below_drewN | apply below_drew1) | exact HB.out)) hb); clear HB; have HB := n0_; clear n0_; (try clear hb); (try clear hb2); (try clear hk); (try clear hi)) | ((first | ((with_reducible refine gate_callee (f := 13) rfl ?_); refine goesL_ (some 41) rfl rfl Try.func13 (by kernel_rfl) rfl #[.string a0] rfl (by (try simp only [List.map_toArray, List.map_cons, List.map_nil]); first | done | rfl | (simp only [List.length_drop, List.length_take]; rfl)) ?_; (with_reducible refine (quant_Number.calls k a0 t184 t185 _ A9.out).mono ?_); rintro e w' ⟨rfl, ⟨nd, rfl⟩⟩; refine ⟨_, rfl, ?_⟩) | (go_at_call 13; (with_reducible refine (quant_Number.calls k a0 t184 t185 _ A9.out).mono ?_); rintro e w' ⟨rfl, ⟨nd, rfl⟩⟩))) | ((first | ((with_reducible refine gate_callee (f := 14) rfl ?_); refine goesL_ (some 46) rfl rfl Try.func14 (by kernel_rfl) rfl #[.string a0] rfl (by (try simp only [List.map_toArray, List.map_cons, List.map_nil]); first | done | rfl | (simp only [List.length_drop, List.length_take]; rfl)) ?_; (with_reducible refine (triremeref03_Number.calls k a0 t186 t187 _ A10.out).mono ?_); rintro e w43 ⟨rfl, hb⟩; refine ⟨_, rfl, ?_⟩) | (go_at_call 14; (with_reducible refine (triremeref03_Number.calls k a0 t186 t187 _ A10.out).mono ?_); rintro e w43 ⟨rfl, hb⟩)); have n0_ := Aside0.mk (below_step (by repeat (first | (with_reducible first | exact HB.out | apply below_alloc | apply pw_below_drewN | apply below_drew1) | exact HB.out)) hb); clear HB; have HB := n0_; clear n0_; (try clear hb); (try clear hb2); (try clear hk); (try clear hi)))
          go_ret
          exact ⟨by first | rfl | (simp [errW_none, errW_some] <;> rfl) | (simp [*, errW_none, errW_some] <;> rfl), by repeat (first | (with_reducible first | exact HB.out | apply below_alloc | apply pw_below_drewN | apply below_drew1) | exact HB.out)⟩
      · rw [if_neg c12] at H
        have c12b0 : (t177 == t179) = false := beq_eq_false_iff_ne.mpr c12
        have c12b1 : (t177 != t179) = true := bne_iff_ne.mpr c12
        obtain rfl := Option.some.inj H
        go_enter Try.func3, Try.ntmps3
        go_wp2_with (first | ((first | ((with_reducible refine gate_callee (f := 9) rfl ?_); refine goesL_ (some 21) rfl rfl Try.func9 (by kernel_rfl) rfl #[.string a0] rfl (by (try simp only [List.map_toArray, List.map_cons, List.map_nil]); first | done | rfl | (simp only [List.length_drop, List.length_take]; rfl)) ?_; (with_reducible refine (quant_Parse.calls k a0 t176 t177 _ A5.out).mono ?_); rintro e w44 ⟨rfl, hb⟩; refine ⟨_, rfl, ?_⟩) | (go_at_call 9; (with_reducible refine (quant_Parse.calls k a0 t176 t177 _ A5.out).mono ?_); rintro e w44 ⟨rfl, hb⟩)); have n0_ := Aside0.mk (below_step (by repeat (first | (with_reducible first | exact HB.out | apply below_alloc | apply pw_below_drewN | apply below_drew1) | exact HB.out)) hb); clear HB; have HB := n0_; clear n0_; (try clear hb); (try clear hb2); (try clear hk); (try clear hi)) | ((first | ((with_reducible refine gate_callee (f := 10) rfl ?_); refine goesL_ (some 26) rfl rfl Try.func10 (by kernel_rfl) rfl #[.string a0] rfl (by (try simp only [List.map_toArray, List.map_cons, List.map_nil]); first | done | rfl | (simp only [List.length_drop, List.length_take]; rfl)) ?_; (with_reducible refine (triremeref03_Parse.calls k a0 t178 t179 _ A6.out).mono ?_); rintro e w45 ⟨rfl, hb⟩; refine ⟨_, rfl, ?_⟩) | (go_at_call 10; (with_reducible refine (triremeref03_Parse.calls k a0 t178 t179 _ A6.out).mono ?_); rintro e w45 ⟨rfl, hb⟩)); have n0_ := Aside0.mk (below_step (by repeat (first | (with_reducible first | exact HB.out | apply below_alloc | apply pw_below_drewN | apply below_drew1) | exact HB.out)) hb); clear HB; have HB := n0_; clear n0_; (try clear hb); (try clear hb2); (try clear hk); (try clear hi)) | ((first | ((with_reducible refine gate_callee (f := 11) rfl ?_); refine goesL_ (some 31) rfl rfl Try.func11 (by kernel_rfl) rfl #[.string a0] rfl (by (try simp only [List.map_toArray, List.map_cons, List.map_nil]); first | done | rfl | (simp only [List.length_drop, List.length_take]; rfl)) ?_; (with_reducible refine (quant_Milli.calls k a0 t180 t181 _ A7.out).mono ?_); rintro e w46 ⟨rfl, hb⟩; refine ⟨_, rfl, ?_⟩) | (go_at_call 11; (with_reducible refine (quant_Milli.calls k a0 t180 t181 _ A7.out).mono ?_); rintro e w46 ⟨rfl, hb⟩)); have n0_ := Aside0.mk (below_step (by repeat (first | (with_reducible first | exact HB.out | apply below_alloc | apply pw_below_drewN | apply below_drew1) | exact HB.out)) hb); clear HB; have HB := n0_; clear n0_; (try clear hb); (try clear hb2); (try clear hk); (try clear hi)) | ((first | ((with_reducible refine gate_callee (f := 12) rfl ?_); refine goesL_ (some 36) rfl rfl Try.func12 (by kernel_rfl) rfl #[.string a0] rfl (by (try simp only [List.map_toArray, List.map_cons, List.map_nil]); first | done | rfl | (simp only [List.length_drop, List.length_take]; rfl)) ?_; (with_reducible refine (triremeref03_Milli.calls k a0 t182 t183 _ A8.out).mono ?_); rintro e w47 ⟨rfl, hb⟩; refine ⟨_, rfl, ?_⟩) | (go_at_call 12; (with_reducible refine (triremeref03_Milli.calls k a0 t182 t183 _ A8.out).mono ?_); rintro e w47 ⟨rfl, hb⟩)); have n0_ := Aside0.mk (below_step (by repeat (first | (with_reducible first | exact HB.out | apply below_alloc | apply pw_below_drewN | apply below_drew1) | exact HB.out)) hb); clear HB; have HB := n0_; clear n0_; (try clear hb); (try clear hb2); (try clear hk); (try clear hi)) | ((first | ((with_reducible refine gate_callee (f := 13) rfl ?_); refine goesL_ (some 41) rfl rfl Try.func13 (by kernel_rfl) rfl #[.string a0] rfl (by (try simp only [List.map_toArray, List.map_cons, List.map_nil]); first | done | rfl | (simp only [List.length_drop, List.length_take]; rfl)) ?_; (with_reducible refine (quant_Number.calls k a0 t184 t185 _ A9.out).mono ?_); rintro e w' ⟨rfl, ⟨nd, rfl⟩⟩; refine ⟨_, rfl, ?_⟩) | (go_at_call 13; (with_reducible refine (quant_Number.calls k a0 t184 t185 _ A9.out).mono ?_); rintro e w' ⟨rfl, ⟨nd, rfl⟩⟩))) | ((first | ((with_reducible refine gate_callee (f := 14) rfl ?_); refine goesL_ (some 46) rfl rfl Try.func14 (by kernel_rfl) rfl #[.string a0] rfl (by (try simp only [List.map_toArray, List.map_cons, List.map_nil]); first | done | rfl | (simp only [List.length_drop, List.length_take]; rfl)) ?_; (with_reducible refine (triremeref03_Number.calls k a0 t186 t187 _ A10.out).mono ?_); rintro e w48 ⟨rfl, hb⟩; refine ⟨_, rfl, ?_⟩) | (go_at_call 14; (with_reducible refine (triremeref03_Number.calls k a0 t186 t187 _ A10.out).mono ?_); rintro e w48 ⟨rfl, hb⟩)); have n0_ := Aside0.mk (below_step (by repeat (first | (with_reducible first | exact HB.out | apply below_alloc | apply pw_below_drewN | apply below_drew1) | exact HB.out)) hb); clear HB; have HB := n0_; clear n0_; (try clear hb); (try clear hb2); (try clear hk); (try clear hi)))
        go_ret
        exact ⟨by first | rfl | (simp [errW_none, errW_some] <;> rfl) | (simp [*, errW_none, errW_some] <;> rfl), by repeat (first | (with_reducible first | exact HB.out | apply below_alloc | apply pw_below_drewN | apply below_drew1) | exact HB.out)⟩
    · rw [if_neg c11] at H
      have c11b0 : (t176 == t178) = false := beq_eq_false_iff_ne.mpr c11
      have c11b1 : (t176 != t178) = true := bne_iff_ne.mpr c11
      obtain rfl := Option.some.inj H
      go_enter Try.func3, Try.ntmps3
      go_wp2_with (first | ((first | ((with_reducible refine gate_callee (f := 9) rfl ?_); refine goesL_ (some 21) rfl rfl Try.func9 (by kernel_rfl) rfl #[.string a0] rfl (by (try simp only [List.map_toArray, List.map_cons, List.map_nil]); first | done | rfl | (simp only [List.length_drop, List.length_take]; rfl)) ?_; (with_reducible refine (quant_Parse.calls k a0 t176 t177 _ A5.out).mono ?_); rintro e w49 ⟨rfl, hb⟩; refine ⟨_, rfl, ?_⟩) | (go_at_call 9; (with_reducible refine (quant_Parse.calls k a0 t176 t177 _ A5.out).mono ?_); rintro e w49 ⟨rfl, hb⟩)); have n0_ := Aside0.mk (below_step (by repeat (first | (with_reducible first | exact HB.out | apply below_alloc | apply pw_below_drewN | apply below_drew1) | exact HB.out)) hb); clear HB; have HB := n0_; clear n0_; (try clear hb); (try clear hb2); (try clear hk); (try clear hi)) | ((first | ((with_reducible refine gate_callee (f := 10) rfl ?_); refine goesL_ (some 26) rfl rfl Try.func10 (by kernel_rfl) rfl #[.string a0] rfl (by (try simp only [List.map_toArray, List.map_cons, List.map_nil]); first | done | rfl | (simp only [List.length_drop, List.length_take]; rfl)) ?_; (with_reducible refine (triremeref03_Parse.calls k a0 t178 t179 _ A6.out).mono ?_); rintro e w50 ⟨rfl, hb⟩; refine ⟨_, rfl, ?_⟩) | (go_at_call 10; (with_reducible refine (triremeref03_Parse.calls k a0 t178 t179 _ A6.out).mono ?_); rintro e w50 ⟨rfl, hb⟩)); have n0_ := Aside0.mk (below_step (by repeat (first | (with_reducible first | exact HB.out | apply below_alloc | apply pw_below_drewN | apply below_drew1) | exact HB.out)) hb); clear HB; have HB := n0_; clear n0_; (try clear hb); (try clear hb2); (try clear hk); (try clear hi)) | ((first | ((with_reducible refine gate_callee (f := 11) rfl ?_); refine goesL_ (some 31) rfl rfl Try.func11 (by kernel_rfl) rfl #[.string a0] rfl (by (try simp only [List.map_toArray, List.map_cons, List.map_nil]); first | done | rfl | (simp only [List.length_drop, List.length_take]; rfl)) ?_; (with_reducible refine (quant_Milli.calls k a0 t180 t181 _ A7.out).mono ?_); rintro e w51 ⟨rfl, hb⟩; refine ⟨_, rfl, ?_⟩) | (go_at_call 11; (with_reducible refine (quant_Milli.calls k a0 t180 t181 _ A7.out).mono ?_); rintro e w51 ⟨rfl, hb⟩)); have n0_ := Aside0.mk (below_step (by repeat (first | (with_reducible first | exact HB.out | apply below_alloc | apply pw_below_drewN | apply below_drew1) | exact HB.out)) hb); clear HB; have HB := n0_; clear n0_; (try clear hb); (try clear hb2); (try clear hk); (try clear hi)) | ((first | ((with_reducible refine gate_callee (f := 12) rfl ?_); refine goesL_ (some 36) rfl rfl Try.func12 (by kernel_rfl) rfl #[.string a0] rfl (by (try simp only [List.map_toArray, List.map_cons, List.map_nil]); first | done | rfl | (simp only [List.length_drop, List.length_take]; rfl)) ?_; (with_reducible refine (triremeref03_Milli.calls k a0 t182 t183 _ A8.out).mono ?_); rintro e w52 ⟨rfl, hb⟩; refine ⟨_, rfl, ?_⟩) | (go_at_call 12; (with_reducible refine (triremeref03_Milli.calls k a0 t182 t183 _ A8.out).mono ?_); rintro e w52 ⟨rfl, hb⟩)); have n0_ := Aside0.mk (below_step (by repeat (first | (with_reducible first | exact HB.out | apply below_alloc | apply pw_below_drewN | apply below_drew1) | exact HB.out)) hb); clear HB; have HB := n0_; clear n0_; (try clear hb); (try clear hb2); (try clear hk); (try clear hi)) | ((first | ((with_reducible refine gate_callee (f := 13) rfl ?_); refine goesL_ (some 41) rfl rfl Try.func13 (by kernel_rfl) rfl #[.string a0] rfl (by (try simp only [List.map_toArray, List.map_cons, List.map_nil]); first | done | rfl | (simp only [List.length_drop, List.length_take]; rfl)) ?_; (with_reducible refine (quant_Number.calls k a0 t184 t185 _ A9.out).mono ?_); rintro e w' ⟨rfl, ⟨nd, rfl⟩⟩; refine ⟨_, rfl, ?_⟩) | (go_at_call 13; (with_reducible refine (quant_Number.calls k a0 t184 t185 _ A9.out).mono ?_); rintro e w' ⟨rfl, ⟨nd, rfl⟩⟩))) | ((first | ((with_reducible refine gate_callee (f := 14) rfl ?_); refine goesL_ (some 46) rfl rfl Try.func14 (by kernel_rfl) rfl #[.string a0] rfl (by (try simp only [List.map_toArray, List.map_cons, List.map_nil]); first | done | rfl | (simp only [List.length_drop, List.length_take]; rfl)) ?_; (with_reducible refine (triremeref03_Number.calls k a0 t186 t187 _ A10.out).mono ?_); rintro e w53 ⟨rfl, hb⟩; refine ⟨_, rfl, ?_⟩) | (go_at_call 14; (with_reducible refine (triremeref03_Number.calls k a0 t186 t187 _ A10.out).mono ?_); rintro e w53 ⟨rfl, hb⟩)); have n0_ := Aside0.mk (below_step (by repeat (first | (with_reducible first | exact HB.out | apply below_alloc | apply pw_below_drewN | apply below_drew1) | exact HB.out)) hb); clear HB; have HB := n0_; clear n0_; (try clear hb); (try clear hb2); (try clear hk); (try clear hi)))
      go_ret
      exact ⟨by first | rfl | (simp [errW_none, errW_some] <;> rfl) | (simp [*, errW_none, errW_some] <;> rfl), by repeat (first | (with_reducible first | exact HB.out | apply below_alloc | apply pw_below_drewN | apply below_drew1) | exact HB.out)⟩
/-- THE ONE PURE STATEMENT of triremelaw03_QuantParses: yours. -/
def triremelaw03_QuantParses.Pure : Prop := ∀ (a0 : ByteArray), a0.size ≤ 140737488351232 → ∃ k, triremelaw03_QuantParses.f k a0 = some true
theorem triremelaw03_QuantParses.walk (P : triremelaw03_QuantParses.Pure) (a0 : ByteArray) (w : World) (w0 : a0.size ≤ 140737488351232) :
    Calls Try.prog 3 #[.string a0] w fun e w' => e = .returned (.bool true) ∧ Below w.heap.size w w' := by
  obtain ⟨k, h⟩ := P a0 w0
  refine (triremelaw03_QuantParses.calls k a0 true w h).mono ?_
  rintro e w' ⟨rfl, hd⟩
  exact ⟨rfl, hd⟩
end Go.Proofs.Ytpmmiabcfnejmaa.H
end
section
namespace Go.Proofs.Ytpmmiabcfnejmaa.H
open Go.RowKit Go.Proofs.YtpmmiabcfnejmaaW.PrintWords Go.Proofs.YtpmmiabcfnejmaaW.PrintLast Go.Proofs.YtpmmiabcfnejmaaW.PrintMore
set_option linter.unusedVariables false
set_option linter.unusedSimpArgs false
set_option maxRecDepth 100000 in
theorem known_ev : Ev (fun k => triremelaw03_known.f k) true := Ev.of (fun k => triremelaw03_known.mono k) (k := 60) (by kernel_rfl)
end Go.Proofs.Ytpmmiabcfnejmaa.H
end
section
namespace Go.Proofs.Ytpmmiabcfnejmaa.H
open Go.RowKit Go.Proofs.YtpmmiabcfnejmaaW.PrintWords Go.Proofs.YtpmmiabcfnejmaaW.PrintLast Go.Proofs.YtpmmiabcfnejmaaW.PrintMore
attribute [local go_sem] max2_int min2_int max_two min_two max_three min_three max_four min_four   -- for this text's walks alone
set_option linter.unusedVariables false
set_option linter.unusedSimpArgs false
mutual
def triremeref03_Show.j0 : Nat → Int → Bool → Option (ByteArray)
  | 0, _, _ => none
  | k + 1, x0, x11 => if x11 = true then (some (⟨#[]⟩ : ByteArray)) else (triremeref03_Show.l0 k x0 (([(⟨#[84, 105]⟩ : ByteArray), (⟨#[71, 105]⟩ : ByteArray), (⟨#[77, 105]⟩ : ByteArray), (⟨#[75, 105]⟩ : ByteArray)] : List ByteArray)) 0)
def triremeref03_Show.l0 : Nat → Int → List ByteArray → Int → Option (ByteArray)
  | 0, _, _, _ => none
  | k + 1, x0, x3, x4 => if x4 < 4 then (if 0 ≤ (IntKind.u64.wrap (wrap64 (40 - (wrap64 (10 * x4))))) then (if x0 > 0 then (if (shl .i64 1 (IntKind.u64.wrap (wrap64 (40 - (wrap64 (10 * x4)))))) = 0 then (none) else (if (Int.tmod x0 (shl .i64 1 (IntKind.u64.wrap (wrap64 (40 - (wrap64 (10 * x4))))))) = 0 then ((triremeref01_Digits.f k (wrap64 (Int.tdiv x0 (shl .i64 1 (IntKind.u64.wrap (wrap64 (40 - (wrap64 (10 * x4))))))))).bind fun t152 => (if 0 ≤ x4 then (if x4 < (x3.length : Int) then (if t152.size + (rdOf ByteArray.empty x3 x4).size ≤ 9223372036854775807 then (some (t152 ++ (rdOf ByteArray.empty x3 x4))) else (none)) else (none)) else (none))) else (triremeref03_Show.l0 k x0 x3 (wrap64 (x4 + 1))))) else (triremeref03_Show.l0 k x0 x3 (wrap64 (x4 + 1)))) else (none)) else ((triremeref01_Digits.f k x0).bind fun t154 => (some t154))
end
def triremeref03_Show.f (k : Nat) (a0 : Int) : Option (ByteArray) := if a0 < 0 then (triremeref03_Show.j0 k a0 true) else (triremeref03_Show.j0 k a0 (decide (a0 > 1125899906842624)))
theorem triremeref03_Show.mono_l : ∀ k, (∀ y0 y1, LeO (triremeref03_Show.j0 k y0 y1) (triremeref03_Show.j0 (k + 1) y0 y1)) ∧ (∀ y0 y1 y2, LeO (triremeref03_Show.l0 k y0 y1 y2) (triremeref03_Show.l0 (k + 1) y0 y1 y2))
  | 0 => ⟨fun _ _ r h => by simp [triremeref03_Show.j0] at h, fun _ _ _ r h => by simp [triremeref03_Show.l0] at h⟩
  | k + 1 => by
    obtain ⟨ih0, ih1⟩ := triremeref03_Show.mono_l k
    refine ⟨?_, ?_⟩
    · intro y0 y1
      unfold triremeref03_Show.j0
      repeat' first
      | (with_reducible exact ih0 _ _)
      | (with_reducible exact ih1 _ _ _)
      | (with_reducible exact triremeref01_Digits.mono _ _)
      | (with_reducible exact LeO.refl _)
      | (with_reducible exact LeO.none _)
      | (with_reducible refine LeO.ite ?_ ?_)
      | (with_reducible refine LeO.bind ?_ (fun _ => ?_))
      | exact ih0 _ _
      | exact ih1 _ _ _
      | exact triremeref01_Digits.mono _ _
      | exact LeO.none _
      | refine LeO.ite ?_ ?_
      | refine LeO.bind ?_ (fun _ => ?_)
    · intro y0 y1 y2
      unfold triremeref03_Show.l0
      repeat' first
      | (with_reducible exact ih0 _ _)
      | (with_reducible exact ih1 _ _ _)
      | (with_reducible exact triremeref01_Digits.mono _ _)
      | (with_reducible exact LeO.refl _)
      | (with_reducible exact LeO.none _)
      | (with_reducible refine LeO.ite ?_ ?_)
      | (with_reducible refine LeO.bind ?_ (fun _ => ?_))
      | exact ih0 _ _
      | exact ih1 _ _ _
      | exact triremeref01_Digits.mono _ _
      | exact LeO.none _
      | refine LeO.ite ?_ ?_
      | refine LeO.bind ?_ (fun _ => ?_)
theorem triremeref03_Show.mono : ∀ a0 k, LeO (triremeref03_Show.f k a0) (triremeref03_Show.f (k + 1) a0) := by
  intro a0 k
  obtain ⟨ih0, ih1⟩ := triremeref03_Show.mono_l k
  unfold triremeref03_Show.f
  repeat' first
      | (with_reducible exact ih0 _ _)
      | (with_reducible exact ih1 _ _ _)
      | (with_reducible exact triremeref01_Digits.mono _ _)
      | (with_reducible exact LeO.refl _)
      | (with_reducible exact LeO.none _)
      | (with_reducible refine LeO.ite ?_ ?_)
      | (with_reducible refine LeO.bind ?_ (fun _ => ?_))
      | exact ih0 _ _
      | exact ih1 _ _ _
      | exact triremeref01_Digits.mono _ _
      | exact LeO.none _
      | refine LeO.ite ?_ ?_
      | refine LeO.bind ?_ (fun _ => ?_)
def triremeref03_Show.T9 : Bool × List (List Nat × List Nat) := (true, [([], []), ([], []), ([0, 1], [0, 1]), ([2], [2]), ([], []), ([], []), ([4, 5], [4, 5]), ([6], [6]), ([3, 7], [3, 7]), ([8, 3, 0, 1, 2, 3, 4, 5, 6, 7, 8], [8])])
def triremeref03_Show.B9 : List Nat := [0, 0, 3, 7, 0, 0, 48, 112, 255, 511]
theorem triremeref03_Show.tab9 : rtab .any (opsOf Try.f16 9) = triremeref03_Show.T9 := by kernel_rfl
theorem triremeref03_Show.bits9 : waitsOk triremeref03_Show.T9.2 triremeref03_Show.B9 = true := by kernel_rfl
set_option maxHeartbeats 8000000 in
set_option maxRecDepth 100000 in
theorem triremeref03_Show.calls (k : Nat) (a0 : Int) (r : ByteArray) (w : World) (h : triremeref03_Show.f k a0 = some r) :
    Calls Try.prog 16 #[.int .i64 a0] w fun e w' => e = .returned (.string r) ∧ Below w.heap.size w w' := by
  have HB := Aside0.mk (Below.refl w.heap.size w)
  have H : (if a0 < 0 then (triremeref03_Show.j0 k a0 true) else (triremeref03_Show.j0 k a0 (decide (a0 > 1125899906842624)))) = some r := h
  clear h
  have HC2 := Aside0.mk H
  clear H
  go_enter Try.func16, Try.ntmps16
  go_upto_region 1 with (fail)
  go_cut [11] (fun v11 wc => ∃ (kq : Nat) (x11_1 : Bool), v11 = .bool x11_1 ∧ Aside0 (triremeref03_Show.j0 kq a0 x11_1 = some r) ∧ Aside0 (kq ≤ k) ∧ Aside0 (Below w.heap.size w wc))
  case first =>
    have H := HC2.out
    clear HC2
    by_cases c3 : a0 < 0
    · rw [if_pos c3] at H
      have c3b0 : decide (a0 < 0) = true := decide_eq_true c3
      clear c3
      (first | rw [c3b0] | (simp only [i64_w, i32_w]; rw [c3b0]) | skip)
      have H' := Aside0.mk H
      clear H
      go_wp2
      go_meet
      case rel => exact ⟨_, (true), (by first | rfl | (simp; done) | (simp [*]; done)), H', ⟨by first | omega | exact Nat.le_refl _⟩, ⟨by repeat (first | (with_reducible first | exact HB.out | apply below_alloc | apply pw_below_drewN | apply below_drew1) | exact HB.out)⟩⟩
    · rw [if_neg c3] at H
      have c3b0 : decide (a0 < 0) = false := decide_eq_false c3
      clear c3
      (first | rw [c3b0] | (simp only [i64_w, i32_w]; rw [c3b0]) | skip)
      have H' := Aside0.mk H
      clear H
      go_wp2
      go_meet
      case rel => exact ⟨_, (decide (a0 > 1125899906842624)), (by first | rfl | (simp; done) | (simp [*]; done)), H', ⟨by first | omega | exact Nat.le_refl _⟩, ⟨by repeat (first | (with_reducible first | exact HB.out | apply below_alloc | apply pw_below_drewN | apply below_drew1) | exact HB.out)⟩⟩
  case rest =>
    clear HC2
    try clear c1
    try clear p2
    try clear c3
    try clear c3b0
    obtain ⟨kq, x11_1, rfl, HA, HJ1, HB⟩ := hcut
    cases kq with
    | zero => exact absurd HA.out (by simp [triremeref03_Show.j0])
    | succ kj1 =>
      have H := HA.out
      clear HA
      simp only [triremeref03_Show.j0] at H
      by_cases c4 : x11_1 = true
      · subst c4
        have H1 : (some (⟨#[]⟩ : ByteArray)) = some r := by rw [if_pos rfl] at H; exact H
        clear H
        have H := H1
        clear H1
        obtain rfl := Option.some.inj H
        go_wp2
        go_ret
        exact ⟨by first | rfl | (simp [errW_none, errW_some] <;> rfl) | (simp [*, errW_none, errW_some] <;> rfl), by repeat (first | (with_reducible first | exact HB.out | apply below_alloc | apply pw_below_drewN | apply below_drew1) | exact HB.out)⟩
      · replace c4 := Bool.eq_false_iff.mpr c4
        subst c4
        have H1 : (triremeref03_Show.l0 kj1 a0 (([(⟨#[84, 105]⟩ : ByteArray), (⟨#[71, 105]⟩ : ByteArray), (⟨#[77, 105]⟩ : ByteArray), (⟨#[75, 105]⟩ : ByteArray)] : List ByteArray)) 0) = some r := by rw [if_neg (show ¬ (false = true) by decide)] at H; exact H
        clear H
        have H := H1
        clear H1
        obtain ⟨y149, hy149⟩ : ∃ y_ : List ByteArray, y_ = (([(⟨#[84, 105]⟩ : ByteArray), (⟨#[71, 105]⟩ : ByteArray), (⟨#[77, 105]⟩ : ByteArray), (⟨#[75, 105]⟩ : ByteArray)] : List ByteArray)) := ⟨_, rfl⟩
        replace H : (triremeref03_Show.l0 kj1 a0 y149 0) = some r := by first | (rw [hy149]; with_reducible exact H) | (have H2_ := (Option.bind_some _ _).symm.trans H; rw [hy149]; with_reducible exact H2_) | (have H2_ := (Option.bind_some _ _).symm.trans H; with_reducible exact H2_) | with_reducible exact H | (rw [hy149]; exact H) | exact H
        have Ny149 := Aside0.mk hy149
        clear hy149
        have H' := Aside0.mk H
        clear H
        go_wp2_with (first | ((with_reducible refine gate_dst (N := 12) rfl ?_); refine Kd.R_lit Kd.string _ 9 ?hg (N := 12) ?hd (xs := ([(⟨#[84, 105]⟩ : ByteArray), (⟨#[71, 105]⟩ : ByteArray), (⟨#[77, 105]⟩ : ByteArray), (⟨#[75, 105]⟩ : ByteArray)] : List ByteArray)) (inner := [.string (⟨#[84, 105]⟩ : ByteArray), .string (⟨#[71, 105]⟩ : ByteArray), .string (⟨#[77, 105]⟩ : ByteArray), .string (⟨#[75, 105]⟩ : ByteArray)]) (ok := fun _ => True) (okp := fun _ => True) ?hr ?hp (fun _ hk => hk) trivial (Below.refl _ _) (Nat.le_refl _) (by simp) ?_; (case hd => rfl); (case hg => rfl); (case hr => first | (go_simp; done) | (go_simp; rfl)); (case hp => exact (Reps.one (show Kd.M Kd.string _ _ _ (⟨#[84, 105]⟩ : ByteArray) [.string (⟨#[84, 105]⟩ : ByteArray)] from rfl) (Reps.one (show Kd.M Kd.string _ _ _ (⟨#[71, 105]⟩ : ByteArray) [.string (⟨#[71, 105]⟩ : ByteArray)] from rfl) (Reps.one (show Kd.M Kd.string _ _ _ (⟨#[77, 105]⟩ : ByteArray) [.string (⟨#[77, 105]⟩ : ByteArray)] from rfl) (Reps.one (show Kd.M Kd.string _ _ _ (⟨#[75, 105]⟩ : ByteArray) [.string (⟨#[75, 105]⟩ : ByteArray)] from rfl) (Reps.none _ _)))))); intro v150 w5 ho6 hb hg_ hnew_; clear hg_ hnew_; (first | rw [← Ny149.out] at ho6 | (simp only [Int.reduceToNat] at ho6; rw [← Ny149.out] at ho6)); have n0_ := Aside0.mk (Kd.R_lower ho6 (below_size (by repeat (first | (with_reducible first | exact HB.out | apply below_alloc | apply pw_below_drewN | apply below_drew1) | exact HB.out)))); have n1_ := Aside0.mk (below_step (by repeat (first | (with_reducible first | exact HB.out | apply below_alloc | apply pw_below_drewN | apply below_drew1) | exact HB.out)) hb); clear HB; have HO151 := n0_; have HB := n1_; clear n0_ n1_; clear hb ho6))
        go_loopg [4] kj1 (fun kq v4 w' => ∃ (x4_2 : Int), v4 = .int .i64 x4_2 ∧ Aside0 (triremeref03_Show.l0 kq a0 y149 x4_2 = some r) ∧ Aside0 (kq ≤ kj1) ∧ Aside0 (Kd.R Kd.string 9 w' w.heap.size (fun _ => True) v150 y149) ∧ Aside0 (Below w.heap.size w w'))
        case atStart => exact ⟨(0), (by first | rfl | (simp; done) | (simp [*]; done)), H', ⟨Nat.le_refl _⟩, ⟨by (with_reducible repeat (first | apply Kd.R_alloc | apply Kd.R_drewN | apply Kd.R_drew)); exact HO151.out⟩, ⟨by repeat (first | (with_reducible first | exact HB.out | apply below_alloc | apply pw_below_drewN | apply below_drew1) | exact HB.out)⟩⟩
        case round =>
          clear H'
          try clear c1
          try clear p2
          try clear c3
          try clear c3b0
          try clear c4
          try clear p2
          obtain ⟨x4_2, rfl, HA, HK2, HO_3, HB⟩ := hrel
          cases gk with
          | zero => exact absurd HA.out (by simp [triremeref03_Show.l0])
          | succ k2 =>
            have H := HA.out
            clear HA
            simp only [triremeref03_Show.l0] at H
            by_cases c7 : x4_2 < 4
            · rw [if_pos c7] at H
              have c7b0 : decide (x4_2 < 4) = true := decide_eq_true c7
              clear c7
              obtain ⟨ji8, hji8⟩ : ∃ j_ : Int, (IntKind.u64.wrap (wrap64 (40 - (wrap64 (10 * x4_2))))) = j_ := ⟨_, rfl⟩
              replace H : (if 0 ≤ (ji8) then (if a0 > 0 then (if (shl .i64 1 (ji8)) = 0 then (none) else (if (Int.tmod a0 (shl .i64 1 (ji8))) = 0 then ((triremeref01_Digits.f k2 (wrap64 (Int.tdiv a0 (shl .i64 1 (ji8))))).bind fun t152 => (if 0 ≤ x4_2 then (if x4_2 < (y149.length : Int) then (if t152.size + (rdOf ByteArray.empty y149 x4_2).size ≤ 9223372036854775807 then (some (t152 ++ (rdOf ByteArray.empty y149 x4_2))) else (none)) else (none)) else (none))) else (triremeref03_Show.l0 k2 a0 y149 (wrap64 (x4_2 + 1))))) else (triremeref03_Show.l0 k2 a0 y149 (wrap64 (x4_2 + 1)))) else (none)) = some r := by first | (rw [hji8] at H; exact H) | (simp only [hji8] at H ⊢; exact H)
              by_cases c9 : 0 ≤ (ji8)
              · rw [if_pos c9] at H
                have c9b0 := eq_true c9
                (try (have c9z := c9b0; rw [ByteArray.size_extract, Nat.min_self] at c9z))
                have c9b1 : decide (0 ≤ (ji8)) = true := decide_eq_true c9
                clear c9
                obtain ⟨ji10, hji10⟩ : ∃ j_ : Int, (shl .i64 1 (ji8)) = j_ := ⟨_, rfl⟩
                replace H : (if a0 > 0 then (if (ji10) = 0 then (none) else (if (Int.tmod a0 (ji10)) = 0 then ((triremeref01_Digits.f k2 (wrap64 (Int.tdiv a0 (ji10)))).bind fun t152 => (if 0 ≤ x4_2 then (if x4_2 < (y149.length : Int) then (if t152.size + (rdOf ByteArray.empty y149 x4_2).size ≤ 9223372036854775807 then (some (t152 ++ (rdOf ByteArray.empty y149 x4_2))) else (none)) else (none)) else (none))) else (triremeref03_Show.l0 k2 a0 y149 (wrap64 (x4_2 + 1))))) else (triremeref03_Show.l0 k2 a0 y149 (wrap64 (x4_2 + 1)))) = some r := by first | (rw [hji10] at H; exact H) | (simp only [hji10] at H ⊢; exact H)
                have hji10_ : (IntKind.i64.wrap (1 * 2 ^ min (ji8).toNat 64)) = ji10 := hji10
                have hji10z : (ji8) ≤ 64 → (IntKind.i64.wrap (1 * 2 ^ (ji8).toNat)) = ji10 := shl_small hji10
                have hji10u : (IntKind.i64.wrap (2 ^ min (ji8).toNat 64)) = ji10 := by have h_ := hji10_; rw [Int.one_mul] at h_; exact h_
                have hji10v : (ji8) ≤ 64 → (IntKind.i64.wrap (2 ^ (ji8).toNat)) = ji10 := fun hle_ => by have h_ := hji10z hle_; rw [Int.one_mul] at h_; exact h_
                have hji10y : (wrap64 (1 * 2 ^ min (ji8).toNat 64)) = ji10 := (i64_w _).symm.trans hji10_
                have hji10x : (ji8) ≤ 64 → (wrap64 (1 * 2 ^ (ji8).toNat)) = ji10 := fun h_ => (i64_w _).symm.trans (hji10z h_)
                by_cases c11 : a0 > 0
                · rw [if_pos c11] at H
                  have c11b0 : decide (0 < a0) = true := decide_eq_true c11
                  clear c11
                  by_cases c12 : (ji10) = 0
                  · rw [if_pos c12] at H
                    exact absurd H (by simp)
                  · rw [if_neg c12] at H
                    have c12b0 : ((ji10) == 0) = false := beq_eq_false_iff_ne.mpr c12
                    have c12b1 : ((ji10) != 0) = true := bne_iff_ne.mpr c12
                    by_cases c13 : (Int.tmod a0 (ji10)) = 0
                    · rw [if_pos c13] at H
                      have c13b0 : ((Int.tmod a0 (ji10)) == 0) = true := beq_iff_eq.mpr c13
                      have c13b1 : ((Int.tmod a0 (ji10)) != 0) = false := bne_eq_false_iff_eq.mpr c13
                      clear c13
                      replace H := Option.bind_eq_some_iff.mp H
                      obtain ⟨t152, A140, H⟩ := H
                      replace H : (if 0 ≤ x4_2 then (if x4_2 < (y149.length : Int) then (if t152.size + (rdOf ByteArray.empty y149 x4_2).size ≤ 9223372036854775807 then (some (t152 ++ (rdOf ByteArray.empty y149 x4_2))) else (none)) else (none)) else (none)) = some r := H
                      have A14 := Aside0.mk A140
                      clear A140
                      by_cases c15 : 0 ≤ x4_2
                      · rw [if_pos c15] at H
                        have c15b0 : decide (0 ≤ x4_2) = true := decide_eq_true c15
                        clear c15
                        by_cases c16 : x4_2 < (y149.length : Int)
                        · rw [if_pos c16] at H
                          have c16b0 : decide (x4_2 < (y149.length : Int)) = true := decide_eq_true c16
                          clear c16
                          by_cases c17 : t152.size + (rdOf ByteArray.empty y149 x4_2).size ≤ 9223372036854775807
                          · rw [if_pos c17] at H
                            have c17b0 := eq_true c17
                            (try (have c17z := c17b0; rw [ByteArray.size_extract, Nat.min_self] at c17z))
                            have c17b1 : decide (t152.size + (rdOf ByteArray.empty y149 x4_2).size ≤ 9223372036854775807) = true := decide_eq_true c17
                            try have c17b2 : (9223372036854775807 < t152.size + (rdOf ByteArray.empty y149 x4_2).size) = False := eq_false (Nat.not_lt.2 c17)
                            obtain rfl := Option.some.inj H
                            try go_wp2
                            have n0_ := Aside0.mk (Kd.R_drew HO_3.out)
                            have n1_ := Aside0.mk (below_drew1 HB.out)
                            clear HO_3
                            clear HB
                            have HO_3 := n0_
                            have HB := n1_
                            clear n0_ n1_
                            obtain ⟨Ao19, co19, eo19⟩ := Kd.R_slice HO_3.out
                            (first | subst eo19 | (injection eo19 with f1_ f2_ f3_; have f4_ := f1_.symm; have f5_ := f3_.symm; clear f1_ f2_ f3_; subst f4_; subst f5_))
                            have p153 : 0 ≤ (x4_2 : Int) := of_decide_eq_true (by first | (with_reducible assumption) | assumption)
                            have q153 : x4_2 < (y149.length : Int) := of_decide_eq_true (by first | (with_reducible assumption) | assumption)
                            obtain ⟨ad153, e153, hx153_0⟩ := Kd.at_string (Kd.R_reads' HO_3.out).2.2 x4_2 p153 q153
                            cases e153
                            replace p153 := eq_true p153
                            replace q153 := eq_true q153
                            (try (have qz153 := q153; rw [ByteArray.size_extract, Nat.min_self] at qz153))
                            refine start_ (n := 10) (S := fun w' => w'.cell? (ad153.add (x4_2).toNat) = some (.string (rdOf ByteArray.empty y149 x4_2))) (ds := []) #[false, false, false, false, false, false, false, false, false, false] (by kernel_rfl) rfl rfl (hx153_0) (fun hHeld => ?_); refine with_tabW triremeref03_Show.tab9 triremeref03_Show.bits9 (fun HT_ HW_ => ?_)
                            generalize wr.drew = w18 at HO_3 HB hx153_0 hHeld ⊢
                            refine pure_ (i := 0) (N := some 30) (v := ?_) (a' := ?_) #[true, false, false, false, false, false, false, false, false, false] rfl rfl (any_of HT_.out (by kernel_rfl)) (fun _ _ _ h => h) (Or.inl ⟨by rfl, ?_⟩) ?_ ?_
                            rotate_left
                            · intro w'
                              go_simp
                              with_reducible rfl
                            rotate_left
                            · simp only [Act.put, List.setIfInBounds_toArray, List.set_cons_zero, List.set_cons_succ, i64_w, i32_w]
                              rfl
                            refine pure_ (i := 1) (N := some 31) (v := ?_) (a' := ?_) #[true, true, false, false, false, false, false, false, false, false] rfl rfl (any_of HT_.out (by kernel_rfl)) (fun _ _ _ h => h) (Or.inl ⟨by rfl, ?_⟩) ?_ ?_
                            rotate_left
                            · intro w'
                              go_simp
                              with_reducible rfl
                            rotate_left
                            · simp only [Act.put, List.setIfInBounds_toArray, List.set_cons_zero, List.set_cons_succ, i64_w, i32_w]
                              rfl
                            refine pure_ (i := 2) (N := some 32) (v := ?_) (a' := ?_) #[true, true, true, false, false, false, false, false, false, false] rfl rfl (any_of HT_.out (by kernel_rfl)) (fun _ _ _ h => h) (Or.inl ⟨by rfl, ?_⟩) ?_ ?_
                            rotate_left
                            · intro w'
                              go_simp
                              with_reducible rfl
                            rotate_left
                            · simp only [Act.put, List.setIfInBounds_toArray, List.set_cons_zero, List.set_cons_succ, i64_w, i32_w]
                              rfl
                            refine pure_ (i := 4) (N := some 34) (v := ?_) (a' := ?_) #[true, true, true, false, true, false, false, false, false, false] rfl rfl (any_of HT_.out (by kernel_rfl)) (fun _ _ _ h => h) (Or.inl ⟨by rfl, ?_⟩) ?_ ?_
                            rotate_left
                            · intro w'
                              go_simp
                              with_reducible rfl
                            rotate_left
                            · simp only [Act.put, List.setIfInBounds_toArray, List.set_cons_zero, List.set_cons_succ, i64_w, i32_w]
                              rfl
                            refine pure_ (i := 5) (N := some 35) (v := ?_) (a' := ?_) #[true, true, true, false, true, true, false, false, false, false] rfl rfl (any_of HT_.out (by kernel_rfl)) (fun _ _ _ h => h) (Or.inl ⟨by rfl, ?_⟩) ?_ ?_
                            rotate_left
                            · intro w'
                              go_simp
                              with_reducible rfl
                            rotate_left
                            · simp only [Act.put, List.setIfInBounds_toArray, List.set_cons_zero, List.set_cons_succ, i64_w, i32_w]
                              rfl
                            refine pure_ (i := 6) (N := some 36) (v := ?_) (a' := ?_) #[true, true, true, false, true, true, true, false, false, false] rfl rfl (any_of HT_.out (by kernel_rfl)) (fun _ _ _ h => h) (Or.inl ⟨by rfl, ?_⟩) ?_ ?_
                            rotate_left
                            · intro w'
                              go_simp
                              with_reducible rfl
                            rotate_left
                            · simp only [Act.put, List.setIfInBounds_toArray, List.set_cons_zero, List.set_cons_succ, i64_w, i32_w]
                              rfl
                            refine take_ (i := 7) (N := some 37) (v := ?_) (a' := ?_) #[true, true, true, false, true, true, true, true, false, false] rfl rfl (take_ofW HT_.out HW_.out (by kernel_rfl)) (fun _ _ _ h => h) (Or.inl ⟨by rfl, ?_⟩) hHeld ?_ ?_
                            rotate_left
                            · intro w' s0
                              go_simp
                              with_reducible rfl
                            rotate_left
                            · simp only [Act.put, List.setIfInBounds_toArray, List.set_cons_zero, List.set_cons_succ, i64_w, i32_w]
                              rfl
                            refine one_ (i := 3) (N := some 33) #[true, true, true, true, true, true, true, true, false, false] rfl rfl (one_of HT_.out (by kernel_rfl)) (by decide) (fun K hK => ?_)
                            refine goes_ Try.func19 (by kernel_rfl) rfl #[.int .i64 (wrap64 (Int.tdiv a0 (ji10)))] (by rfl) rfl rfl (by (try simp only [List.map_toArray, List.map_cons, List.map_nil]); first | done | (simp only [hji10]; rfl) | rfl | (simp only [List.length_drop, List.length_take]; rfl)) ?_
                            with_reducible refine (triremeref01_Digits.calls k2 (wrap64 (Int.tdiv a0 (ji10))) t152 _ A14.out).mono ?_
                            rintro e w20 ⟨rfl, hb⟩
                            have HS0_ := (hb.cell (World.block_lt_of_cell? _ _ (hHeld))).trans (hHeld)
                            refine ⟨_, rfl, ?_⟩
                            have n0_ := Aside0.mk (Kd.R_below (by (with_reducible repeat (first | apply Kd.R_alloc | apply Kd.R_drewN | apply Kd.R_drew)); exact HO_3.out) hb)
                            have n1_ := Aside0.mk (below_step (by repeat (first | (with_reducible first | exact HB.out | apply below_alloc | apply pw_below_drewN | apply below_drew1) | exact HB.out)) hb)
                            clear HO_3
                            clear HB
                            have HO_3 := n0_
                            have HB := n1_
                            clear n0_ n1_
                            (try clear hb)
                            (try clear hb2)
                            (try clear hk)
                            (try clear hi)
                            refine hK.out _ _ (HS0_) (fun hHeld => ?_)
                            clear hK K
                            refine norm_ (a' := ?_) ?_ ?_
                            rotate_left
                            · show Act.put _ (some 33) _ = _
                              simp only [Act.put, List.setIfInBounds_toArray, List.set_cons_zero, List.set_cons_succ, i64_w, i32_w]
                              rfl
                            refine pure_ (i := 8) (N := some 38) (v := ?_) (a' := ?_) #[true, true, true, true, true, true, true, true, true, false] rfl rfl (any_of HT_.out (by kernel_rfl)) (fun _ _ _ h => h) (Or.inl ⟨by rfl, ?_⟩) ?_ ?_
                            rotate_left
                            · intro w'
                              go_simp
                              with_reducible rfl
                            rotate_left
                            · simp only [Act.put, List.setIfInBounds_toArray, List.set_cons_zero, List.set_cons_succ, i64_w, i32_w]
                              rfl
                            refine pure_ (i := 9) (N := some 2) (v := ?_) (a' := ?_) #[true, true, true, true, true, true, true, true, true, true] rfl rfl (any_of HT_.out (by kernel_rfl)) (fun _ _ _ h => h) (Or.inl ⟨by rfl, ?_⟩) ?_ ?_
                            rotate_left
                            · intro w'
                              go_simp
                              with_reducible rfl
                            rotate_left
                            · simp only [Act.put, List.setIfInBounds_toArray, List.set_cons_zero, List.set_cons_succ, i64_w, i32_w]
                              rfl
                            refine done_ (done_of HT_.out (by kernel_rfl)) ?_
                            try go_wp2
                            go_ret
                            exact ⟨by first | rfl | (simp [errW_none, errW_some] <;> rfl) | (simp only [← hji8, ← hji10]; first | rfl | (simp [errW_none, errW_some] <;> rfl)) | (simp [*, errW_none, errW_some] <;> rfl), by repeat (first | (with_reducible first | exact HB.out | apply below_alloc | apply pw_below_drewN | apply below_drew1) | exact HB.out)⟩
                          · rw [if_neg c17] at H
                            exact absurd H (by simp)
                        · rw [if_neg c16] at H
                          exact absurd H (by simp)
                      · rw [if_neg c15] at H
                        exact absurd H (by simp)
                    · rw [if_neg c13] at H
                      have c13b0 : ((Int.tmod a0 (ji10)) == 0) = false := beq_eq_false_iff_ne.mpr c13
                      have c13b1 : ((Int.tmod a0 (ji10)) != 0) = true := bne_iff_ne.mpr c13
                      have H' := Aside0.mk H
                      clear H
                      go_wp2
                      go_roundg k2
                      case measure => have := HJ1.out; have := HK2.out; omega
                      case rel => exact ⟨(wrap64 (x4_2 + 1)), (by first | rfl | (simp; done) | (simp [*]; done)), H', ⟨by have := HJ1.out; have := HK2.out; omega⟩, ⟨by (with_reducible repeat (first | apply Kd.R_alloc | apply Kd.R_drewN | apply Kd.R_drew)); exact HO_3.out⟩, ⟨by repeat (first | (with_reducible first | exact HB.out | apply below_alloc | apply pw_below_drewN | apply below_drew1) | exact HB.out)⟩⟩
                · rw [if_neg c11] at H
                  have c11b0 : decide (0 < a0) = false := decide_eq_false c11
                  clear c11
                  have H' := Aside0.mk H
                  clear H
                  go_wp2
                  go_roundg k2
                  case measure => have := HJ1.out; have := HK2.out; omega
                  case rel => exact ⟨(wrap64 (x4_2 + 1)), (by first | rfl | (simp; done) | (simp [*]; done)), H', ⟨by have := HJ1.out; have := HK2.out; omega⟩, ⟨by (with_reducible repeat (first | apply Kd.R_alloc | apply Kd.R_drewN | apply Kd.R_drew)); exact HO_3.out⟩, ⟨by repeat (first | (with_reducible first | exact HB.out | apply below_alloc | apply pw_below_drewN | apply below_drew1) | exact HB.out)⟩⟩
              · rw [if_neg c9] at H
                exact absurd H (by simp)
            · rw [if_neg c7] at H
              have c7b0 : decide (x4_2 < 4) = false := decide_eq_false c7
              clear c7
              replace H := Option.bind_eq_some_iff.mp H
              obtain ⟨t154, A210, H⟩ := H
              replace H : (some t154) = some r := H
              have A21 := Aside0.mk A210
              clear A210
              obtain rfl := Option.some.inj H
              go_wp2_with (first | ((first | ((with_reducible refine gate_callee (f := 19) rfl ?_); refine goesL_ (some 40) rfl rfl Try.func19 (by kernel_rfl) rfl #[.int .i64 a0] rfl (by (try simp only [List.map_toArray, List.map_cons, List.map_nil]); first | done | rfl | (simp only [List.length_drop, List.length_take]; rfl)) ?_; (with_reducible refine (triremeref01_Digits.calls k2 a0 t154 _ A21.out).mono ?_); rintro e w22 ⟨rfl, hb⟩; refine ⟨_, rfl, ?_⟩) | (go_at_call 19; (with_reducible refine (triremeref01_Digits.calls k2 a0 t154 _ A21.out).mono ?_); rintro e w22 ⟨rfl, hb⟩)); have n0_ := Aside0.mk (Kd.R_below (by (with_reducible repeat (first | apply Kd.R_alloc | apply Kd.R_drewN | apply Kd.R_drew)); exact HO_3.out) hb); have n1_ := Aside0.mk (below_step (by repeat (first | (with_reducible first | exact HB.out | apply below_alloc | apply pw_below_drewN | apply below_drew1) | exact HB.out)) hb); clear HO_3; clear HB; have HO_3 := n0_; have HB := n1_; clear n0_ n1_; (try clear hb); (try clear hb2); (try clear hk); (try clear hi)))
              go_ret
              exact ⟨by first | rfl | (simp [errW_none, errW_some] <;> rfl) | (simp [*, errW_none, errW_some] <;> rfl), by repeat (first | (with_reducible first | exact HB.out | apply below_alloc | apply pw_below_drewN | apply below_drew1) | exact HB.out)⟩
end Go.Proofs.Ytpmmiabcfnejmaa.H
end
section
namespace Go.Proofs.Ytpmmiabcfnejmaa.H
open Go.RowKit Go.Proofs.YtpmmiabcfnejmaaW.PrintWords Go.Proofs.YtpmmiabcfnejmaaW.PrintLast Go.Proofs.YtpmmiabcfnejmaaW.PrintMore
attribute [local go_sem] max2_int min2_int max_two min_two max_three min_three max_four min_four   -- for this text's walks alone
set_option linter.unusedVariables false
set_option linter.unusedSimpArgs false
def triremeref03_ShowMilli.j0 : Nat → Int → Bool → Option (ByteArray)
  | 0, _, _ => none
  | k + 1, x0, x8 => if x8 = true then (some (⟨#[]⟩ : ByteArray)) else (if (Int.tmod x0 1000) = 0 then ((triremeref01_Digits.f k (wrap64 (Int.tdiv x0 1000))).bind fun t155 => (some t155)) else ((triremeref01_Digits.f k x0).bind fun t156 => (if t156.size + 1 ≤ 9223372036854775807 then (some (t156 ++ (⟨#[109]⟩ : ByteArray))) else (none))))
def triremeref03_ShowMilli.f (k : Nat) (a0 : Int) : Option (ByteArray) := if a0 < 0 then (triremeref03_ShowMilli.j0 k a0 true) else (triremeref03_ShowMilli.j0 k a0 (decide (a0 > 1125899906842624)))
theorem triremeref03_ShowMilli.mono_l : ∀ k, (∀ y0 y1, LeO (triremeref03_ShowMilli.j0 k y0 y1) (triremeref03_ShowMilli.j0 (k + 1) y0 y1))
  | 0 => fun _ _ r h => by simp [triremeref03_ShowMilli.j0] at h
  | k + 1 => by
    have ih0 := triremeref03_ShowMilli.mono_l k
    · intro y0 y1
      unfold triremeref03_ShowMilli.j0
      repeat' first
      | (with_reducible exact ih0 _ _)
      | (with_reducible exact triremeref01_Digits.mono _ _)
      | (with_reducible exact LeO.refl _)
      | (with_reducible exact LeO.none _)
      | (with_reducible refine LeO.ite ?_ ?_)
      | (with_reducible refine LeO.bind ?_ (fun _ => ?_))
      | exact ih0 _ _
      | exact triremeref01_Digits.mono _ _
      | exact LeO.none _
      | refine LeO.ite ?_ ?_
      | refine LeO.bind ?_ (fun _ => ?_)
theorem triremeref03_ShowMilli.mono : ∀ a0 k, LeO (triremeref03_ShowMilli.f k a0) (triremeref03_ShowMilli.f (k + 1) a0) := by
  intro a0 k
  have ih0 := triremeref03_ShowMilli.mono_l k
  unfold triremeref03_ShowMilli.f
  repeat' first
      | (with_reducible exact ih0 _ _)
      | (with_reducible exact triremeref01_Digits.mono _ _)
      | (with_reducible exact LeO.refl _)
      | (with_reducible exact LeO.none _)
      | (with_reducible refine LeO.ite ?_ ?_)
      | (with_reducible refine LeO.bind ?_ (fun _ => ?_))
      | exact ih0 _ _
      | exact triremeref01_Digits.mono _ _
      | exact LeO.none _
      | refine LeO.ite ?_ ?_
      | refine LeO.bind ?_ (fun _ => ?_)
set_option maxHeartbeats 8000000 in
set_option maxRecDepth 100000 in
theorem triremeref03_ShowMilli.calls (k : Nat) (a0 : Int) (r : ByteArray) (w : World) (h : triremeref03_ShowMilli.f k a0 = some r) :
    Calls Try.prog 18 #[.int .i64 a0] w fun e w' => e = .returned (.string r) ∧ Below w.heap.size w w' := by
  have HB := Aside0.mk (Below.refl w.heap.size w)
  have H : (if a0 < 0 then (triremeref03_ShowMilli.j0 k a0 true) else (triremeref03_ShowMilli.j0 k a0 (decide (a0 > 1125899906842624)))) = some r := h
  clear h
  have HC2 := Aside0.mk H
  clear H
  go_enter Try.func18, Try.ntmps18
  go_upto_region 1 with (fail)
  go_cut [8] (fun v8 wc => ∃ (kq : Nat) (x8_1 : Bool), v8 = .bool x8_1 ∧ Aside0 (triremeref03_ShowMilli.j0 kq a0 x8_1 = some r) ∧ Aside0 (kq ≤ k) ∧ Aside0 (Below w.heap.size w wc))
  case first =>
    have H := HC2.out
    clear HC2
    by_cases c3 : a0 < 0
    · rw [if_pos c3] at H
      have c3b0 : decide (a0 < 0) = true := decide_eq_true c3
      clear c3
      (first | rw [c3b0] | (simp only [i64_w, i32_w]; rw [c3b0]) | skip)
      have H' := Aside0.mk H
      clear H
      go_wp2
      go_meet
      case rel => exact ⟨_, (true), (by first | rfl | (simp; done) | (simp [*]; done)), H', ⟨by first | omega | exact Nat.le_refl _⟩, ⟨by repeat (first | (with_reducible first | exact HB.out | apply below_alloc | apply pw_below_drewN | apply below_drew1) | exact HB.out)⟩⟩
    · rw [if_neg c3] at H
      have c3b0 : decide (a0 < 0) = false := decide_eq_false c3
      clear c3
      (first | rw [c3b0] | (simp only [i64_w, i32_w]; rw [c3b0]) | skip)
      have H' := Aside0.mk H
      clear H
      go_wp2
      go_meet
      case rel => exact ⟨_, (decide (a0 > 1125899906842624)), (by first | rfl | (simp; done) | (simp [*]; done)), H', ⟨by first | omega | exact Nat.le_refl _⟩, ⟨by repeat (first | (with_reducible first | exact HB.out | apply below_alloc | apply pw_below_drewN | apply below_drew1) | exact HB.out)⟩⟩
  case rest =>
    clear HC2
    try clear c1
    try clear p2
    try clear c3
    try clear c3b0
    obtain ⟨kq, x8_1, rfl, HA, HJ1, HB⟩ := hcut
    cases kq with
    | zero => exact absurd HA.out (by simp [triremeref03_ShowMilli.j0])
    | succ kj1 =>
      have H := HA.out
      clear HA
      simp only [triremeref03_ShowMilli.j0] at H
      by_cases c4 : x8_1 = true
      · subst c4
        have H1 : (some (⟨#[]⟩ : ByteArray)) = some r := by rw [if_pos rfl] at H; exact H
        clear H
        have H := H1
        clear H1
        obtain rfl := Option.some.inj H
        go_wp2
        go_ret
        exact ⟨by first | rfl | (simp [errW_none, errW_some] <;> rfl) | (simp [*, errW_none, errW_some] <;> rfl), by repeat (first | (with_reducible first | exact HB.out | apply below_alloc | apply pw_below_drewN | apply below_drew1) | exact HB.out)⟩
      · replace c4 := Bool.eq_false_iff.mpr c4
        subst c4
        have H1 : (if (Int.tmod a0 1000) = 0 then ((triremeref01_Digits.f kj1 (wrap64 (Int.tdiv a0 1000))).bind fun t155 => (some t155)) else ((triremeref01_Digits.f kj1 a0).bind fun t156 => (if t156.size + 1 ≤ 9223372036854775807 then (some (t156 ++ (⟨#[109]⟩ : ByteArray))) else (none)))) = some r := by rw [if_neg (show ¬ (false = true) by decide)] at H; exact H
        clear H
        have H := H1
        clear H1
        by_cases c5 : (Int.tmod a0 1000) = 0
        · rw [if_pos c5] at H
          have c5b0 : ((Int.tmod a0 1000) == 0) = true := beq_iff_eq.mpr c5
          have c5b1 : ((Int.tmod a0 1000) != 0) = false := bne_eq_false_iff_eq.mpr c5
          clear c5
          replace H := Option.bind_eq_some_iff.mp H
          obtain ⟨t155, A60, H⟩ := H
          replace H : (some t155) = some r := H
          have A6 := Aside0.mk A60
          clear A60
          obtain rfl := Option.some.inj H
          go_wp2_with (first | ((first | ((with_reducible refine gate_callee (f := 19) rfl ?_); refine goesL_ (some 14) rfl rfl Try.func19 (by kernel_rfl) rfl #[.int .i64 (wrap64 (Int.tdiv a0 1000))] rfl (by (try simp only [List.map_toArray, List.map_cons, List.map_nil]); first | done | rfl | (simp only [List.length_drop, List.length_take]; rfl)) ?_; (with_reducible refine (triremeref01_Digits.calls kj1 (wrap64 (Int.tdiv a0 1000)) t155 _ A6.out).mono ?_); rintro e w7 ⟨rfl, hb⟩; refine ⟨_, rfl, ?_⟩) | (go_at_call 19; (with_reducible refine (triremeref01_Digits.calls kj1 (wrap64 (Int.tdiv a0 1000)) t155 _ A6.out).mono ?_); rintro e w7 ⟨rfl, hb⟩)); have n0_ := Aside0.mk (below_step (by repeat (first | (with_reducible first | exact HB.out | apply below_alloc | apply pw_below_drewN | apply below_drew1) | exact HB.out)) hb); clear HB; have HB := n0_; clear n0_; (try clear hb); (try clear hb2); (try clear hk); (try clear hi)))
          go_ret
          exact ⟨by first | rfl | (simp [errW_none, errW_some] <;> rfl) | (simp [*, errW_none, errW_some] <;> rfl), by repeat (first | (with_reducible first | exact HB.out | apply below_alloc | apply pw_below_drewN | apply below_drew1) | exact HB.out)⟩
        · rw [if_neg c5] at H
          have c5b0 : ((Int.tmod a0 1000) == 0) = false := beq_eq_false_iff_ne.mpr c5
          have c5b1 : ((Int.tmod a0 1000) != 0) = true := bne_iff_ne.mpr c5
          replace H := Option.bind_eq_some_iff.mp H
          obtain ⟨t156, A80, H⟩ := H
          replace H : (if t156.size + 1 ≤ 9223372036854775807 then (some (t156 ++ (⟨#[109]⟩ : ByteArray))) else (none)) = some r := H
          have A8 := Aside0.mk A80
          clear A80
          by_cases c9 : t156.size + 1 ≤ 9223372036854775807
          · rw [if_pos c9] at H
            have c9b0 := eq_true c9
            (try (have c9z := c9b0; rw [ByteArray.size_extract, Nat.min_self] at c9z))
            have c9b1 : decide (t156.size + 1 ≤ 9223372036854775807) = true := decide_eq_true c9
            try have c9b2 : (9223372036854775807 < t156.size + 1) = False := eq_false (Nat.not_lt.2 c9)
            obtain rfl := Option.some.inj H
            go_wp2_with (first | ((first | ((with_reducible refine gate_callee (f := 19) rfl ?_); refine goesL_ (some 16) rfl rfl Try.func19 (by kernel_rfl) rfl #[.int .i64 a0] rfl (by (try simp only [List.map_toArray, List.map_cons, List.map_nil]); first | done | rfl | (simp only [List.length_drop, List.length_take]; rfl)) ?_; (with_reducible refine (triremeref01_Digits.calls kj1 a0 t156 _ A8.out).mono ?_); rintro e w10 ⟨rfl, hb⟩; refine ⟨_, rfl, ?_⟩) | (go_at_call 19; (with_reducible refine (triremeref01_Digits.calls kj1 a0 t156 _ A8.out).mono ?_); rintro e w10 ⟨rfl, hb⟩)); have n0_ := Aside0.mk (below_step (by repeat (first | (with_reducible first | exact HB.out | apply below_alloc | apply pw_below_drewN | apply below_drew1) | exact HB.out)) hb); clear HB; have HB := n0_; clear n0_; (try clear hb); (try clear hb2); (try clear hk); (try clear hi)))
            go_ret
            exact ⟨by first | rfl | (simp [errW_none, errW_some] <;> rfl) | (simp [*, errW_none, errW_some] <;> rfl), by repeat (first | (with_reducible first | exact HB.out | apply below_alloc | apply pw_below_drewN | apply below_drew1) | exact HB.out)⟩
          · rw [if_neg c9] at H
            exact absurd H (by simp)
end Go.Proofs.Ytpmmiabcfnejmaa.H
end
section
namespace Go.Proofs.Ytpmmiabcfnejmaa.H
open Go.RowKit Go.Proofs.YtpmmiabcfnejmaaW.PrintWords Go.Proofs.YtpmmiabcfnejmaaW.PrintLast Go.Proofs.YtpmmiabcfnejmaaW.PrintMore
attribute [local go_sem] max2_int min2_int max_two min_two max_three min_three max_four min_four   -- for this text's walks alone
set_option linter.unusedVariables false
set_option linter.unusedSimpArgs false
def triremelaw03_QuantShows.f (k : Nat) (a0 : Int) : Option (Bool) := (quant_Show.f a0).bind fun t157 => ((triremeref03_Show.f k a0).bind fun t158 => (if t157.toList = t158.toList then ((quant_ShowMilli.f k a0).bind fun t159 => ((triremeref03_ShowMilli.f k a0).bind fun t160 => (if t159.toList = t160.toList then ((triremelaw03_known.f k).bind fun t161 => (some t161)) else (some false)))) else (some false)))
theorem triremelaw03_QuantShows.mono : ∀ a0 k, LeO (triremelaw03_QuantShows.f k a0) (triremelaw03_QuantShows.f (k + 1) a0) := by
  intro a0 k
  unfold triremelaw03_QuantShows.f
  repeat' first
      | (with_reducible exact quant_ShowMilli.mono _ _)
      | (with_reducible exact triremelaw03_known.mono _)
      | (with_reducible exact triremeref03_Show.mono _ _)
      | (with_reducible exact triremeref03_ShowMilli.mono _ _)
      | (with_reducible exact LeO.refl _)
      | (with_reducible exact LeO.none _)
      | (with_reducible refine LeO.ite ?_ ?_)
      | (with_reducible refine LeO.bind ?_ (fun _ => ?_))
      | exact quant_ShowMilli.mono _ _
      | exact triremelaw03_known.mono _
      | exact triremeref03_Show.mono _ _
      | exact triremeref03_ShowMilli.mono _ _
      | exact LeO.none _
      | refine LeO.ite ?_ ?_
      | refine LeO.bind ?_ (fun _ => ?_)
set_option maxHeartbeats 8000000 in
set_option maxRecDepth 100000 in
theorem triremelaw03_QuantShows.calls (k : Nat) (a0 : Int) (r : Bool) (w : World) (h : triremelaw03_QuantShows.f k a0 = some r) :
    Calls Try.prog 4 #[.int .i64 a0] w fun e w' => e = .returned (.bool r) ∧ Below w.heap.size w w' := by
  have HB := Aside0.mk (Below.refl w.heap.size w)
  have H : ((quant_Show.f a0).bind fun t157 => ((triremeref03_Show.f k a0).bind fun t158 => (if t157.toList = t158.toList then ((quant_ShowMilli.f k a0).bind fun t159 => ((triremeref03_ShowMilli.f k a0).bind fun t160 => (if t159.toList = t160.toList then ((triremelaw03_known.f k).bind fun t161 => (some t161)) else (some false)))) else (some false)))) = some r := h
  clear h
  replace H := Option.bind_eq_some_iff.mp H
  obtain ⟨t157, A20, H⟩ := H
  replace H : ((triremeref03_Show.f k a0).bind fun t158 => (if t157.toList = t158.toList then ((quant_ShowMilli.f k a0).bind fun t159 => ((triremeref03_ShowMilli.f k a0).bind fun t160 => (if t159.toList = t160.toList then ((triremelaw03_known.f k).bind fun t161 => (some t161)) else (some false)))) else (some false))) = some r := H
  have A2 := Aside0.mk A20
  clear A20
  replace H := Option.bind_eq_some_iff.mp H
  obtain ⟨t158, A30, H⟩ := H
  replace H : (if t157.toList = t158.toList then ((quant_ShowMilli.f k a0).bind fun t159 => ((triremeref03_ShowMilli.f k a0).bind fun t160 => (if t159.toList = t160.toList then ((triremelaw03_known.f k).bind fun t161 => (some t161)) else (some false)))) else (some false)) = some r := H
  have A3 := Aside0.mk A30
  clear A30
  by_cases c4 : t157.toList = t158.toList
  · rw [if_pos c4] at H
    have c4b0 : (t157.toList == t158.toList) = true := beq_iff_eq.mpr c4
    have c4b1 : (t157.toList != t158.toList) = false := bne_eq_false_iff_eq.mpr c4
    clear c4
    replace H := Option.bind_eq_some_iff.mp H
    obtain ⟨t159, A50, H⟩ := H
    replace H : ((triremeref03_ShowMilli.f k a0).bind fun t160 => (if t159.toList = t160.toList then ((triremelaw03_known.f k).bind fun t161 => (some t161)) else (some false))) = some r := H
    have A5 := Aside0.mk A50
    clear A50
    replace H := Option.bind_eq_some_iff.mp H
    obtain ⟨t160, A60, H⟩ := H
    replace H : (if t159.toList = t160.toList then ((triremelaw03_known.f k).bind fun t161 => (some t161)) else (some false)) = some r := H
    have A6 := Aside0.mk A60
    clear A60
    by_cases c7 : t159.toList = t160.toList
    · rw [if_pos c7] at H
      have c7b0 : (t159.toList == t160.toList) = true := beq_iff_eq.mpr c7
      have c7b1 : (t159.toList != t160.toList) = false := bne_eq_false_iff_eq.mpr c7
      clear c7
      replace H := Option.bind_eq_some_iff.mp H
      obtain ⟨t161, A80, H⟩ := H
      replace H : (some t161) = some r := H
      have A8 := Aside0.mk A80
      clear A80
      obtain rfl := Option.some.inj H
      go_enter Try.func4, Try.ntmps4
      go_wp2_with (first | ((first | ((with_reducible refine gate_callee (f := 15) rfl ?_); refine goesL_ (some 4) rfl rfl Try.func15 (by kernel_rfl) rfl #[.int .i64 a0] rfl (by (try simp only [List.map_toArray, List.map_cons, List.map_nil]); first | done | rfl | (simp only [List.length_drop, List.length_take]; rfl)) ?_; (with_reducible refine (quant_Show.calls a0 t157 _ A2.out).mono ?_); rintro e w9 ⟨rfl, hb⟩; refine ⟨_, rfl, ?_⟩) | (go_at_call 15; (with_reducible refine (quant_Show.calls a0 t157 _ A2.out).mono ?_); rintro e w9 ⟨rfl, hb⟩)); have n0_ := Aside0.mk (below_step (by repeat (first | (with_reducible first | exact HB.out | apply below_alloc | apply pw_below_drewN | apply below_drew1) | exact HB.out)) hb); clear HB; have HB := n0_; clear n0_; (try clear hb); (try clear hb2); (try clear hk); (try clear hi)) | ((first | ((with_reducible refine gate_callee (f := 16) rfl ?_); refine goesL_ (some 6) rfl rfl Try.func16 (by kernel_rfl) rfl #[.int .i64 a0] rfl (by (try simp only [List.map_toArray, List.map_cons, List.map_nil]); first | done | rfl | (simp only [List.length_drop, List.length_take]; rfl)) ?_; (with_reducible refine (triremeref03_Show.calls k a0 t158 _ A3.out).mono ?_); rintro e w10 ⟨rfl, hb⟩; refine ⟨_, rfl, ?_⟩) | (go_at_call 16; (with_reducible refine (triremeref03_Show.calls k a0 t158 _ A3.out).mono ?_); rintro e w10 ⟨rfl, hb⟩)); have n0_ := Aside0.mk (below_step (by repeat (first | (with_reducible first | exact HB.out | apply below_alloc | apply pw_below_drewN | apply below_drew1) | exact HB.out)) hb); clear HB; have HB := n0_; clear n0_; (try clear hb); (try clear hb2); (try clear hk); (try clear hi)) | (go_at_call 17; (with_reducible refine (quant_ShowMilli.calls k a0 t159 _ A5.out).mono ?_); rintro e w11 ⟨rfl, hb⟩; have n0_ := Aside0.mk (below_step (by repeat (first | (with_reducible first | exact HB.out | apply below_alloc | apply pw_below_drewN | apply below_drew1) | exact HB.out)) hb); clear HB; have HB := n0_; clear n0_; (try clear hb); (try clear hb2); (try clear hk); (try clear hi)) | (go_at_call 18; (with_reducible refine (triremeref03_ShowMilli.calls k a0 t160 _ A6.out).mono ?_); rintro e w12 ⟨rfl, hb⟩; have n0_ := Aside0.mk (below_step (by repeat (first | (with_reducible first | exact HB.out | apply below_alloc | apply pw_below_drewN | apply below_drew1) | exact HB.out)) hb); clear HB; have HB := n0_; clear n0_; (try clear hb); (try clear hb2); (try clear hk); (try clear hi)) | (go_at_call 8; (with_reducible refine (triremelaw03_known.calls k  t161 _ A8.out).mono ?_); rintro e w13 ⟨rfl, hb⟩; have n0_ := Aside0.mk (below_step (by repeat (first | (with_reducible first | exact HB.out | apply below_alloc | apply pw_below_drewN | apply below_drew1) | exact HB.out)) hb); clear HB; have HB := n0_; clear n0_; (try clear hb); (try clear hb2); (try clear hk); (try clear hi)))
      go_ret
      exact ⟨by first | rfl | (simp [errW_none, errW_some] <;> rfl) | (simp [*, errW_none, errW_some] <;> rfl), by repeat (first | (with_reducible first | exact HB.out | apply below_alloc | apply pw_below_drewN | apply below_drew1) | exact HB.out)⟩
    · rw [if_neg c7] at H
      have c7b0 : (t159.toList == t160.toList) = false := beq_eq_false_iff_ne.mpr c7
      have c7b1 : (t159.toList != t160.toList) = true := bne_iff_ne.mpr c7
      obtain rfl := Option.some.inj H
      go_enter Try.func4, Try.ntmps4
      go_wp2_with (first | ((first | ((with_reducible refine gate_callee (f := 15) rfl ?_); refine goesL_ (some 4) rfl rfl Try.func15 (by kernel_rfl) rfl #[.int .i64 a0] rfl (by (try simp only [List.map_toArray, List.map_cons, List.map_nil]); first | done | rfl | (simp only [List.length_drop, List.length_take]; rfl)) ?_; (with_reducible refine (quant_Show.calls a0 t157 _ A2.out).mono ?_); rintro e w14 ⟨rfl, hb⟩; refine ⟨_, rfl, ?_⟩) | (go_at_call 15; (with_reducible refine (quant_Show.calls a0 t157 _ A2.out).mono ?_); rintro e w14 ⟨rfl, hb⟩)); have n0_ := Aside0.mk (below_step (by repeat (first | (with_reducible first | exact HB.out | apply below_alloc | apply pw_below_drewN | apply below_drew1) | exact HB.out)) hb); clear HB; have HB := n0_; clear n0_; (try clear hb); (try clear hb2); (try clear hk); (try clear hi)) | ((first | ((with_reducible refine gate_callee (f := 16) rfl ?_); refine goesL_ (some 6) rfl rfl Try.func16 (by kernel_rfl) rfl #[.int .i64 a0] rfl (by (try simp only [List.map_toArray, List.map_cons, List.map_nil]); first | done | rfl | (simp only [List.length_drop, List.length_take]; rfl)) ?_; (with_reducible refine (triremeref03_Show.calls k a0 t158 _ A3.out).mono ?_); rintro e w15 ⟨rfl, hb⟩; refine ⟨_, rfl, ?_⟩) | (go_at_call 16; (with_reducible refine (triremeref03_Show.calls k a0 t158 _ A3.out).mono ?_); rintro e w15 ⟨rfl, hb⟩)); have n0_ := Aside0.mk (below_step (by repeat (first | (with_reducible first | exact HB.out | apply below_alloc | apply pw_below_drewN | apply below_drew1) | exact HB.out)) hb); clear HB; have HB := n0_; clear n0_; (try clear hb); (try clear hb2); (try clear hk); (try clear hi)) | (go_at_call 17; (with_reducible refine (quant_ShowMilli.calls k a0 t159 _ A5.out).mono ?_); rintro e w16 ⟨rfl, hb⟩; have n0_ := Aside0.mk (below_step (by repeat (first | (with_reducible first | exact HB.out | apply below_alloc | apply pw_below_drewN | apply below_drew1) | exact HB.out)) hb); clear HB; have HB := n0_; clear n0_; (try clear hb); (try clear hb2); (try clear hk); (try clear hi)) | (go_at_call 18; (with_reducible refine (triremeref03_ShowMilli.calls k a0 t160 _ A6.out).mono ?_); rintro e w17 ⟨rfl, hb⟩; have n0_ := Aside0.mk (below_step (by repeat (first | (with_reducible first | exact HB.out | apply below_alloc | apply pw_below_drewN | apply below_drew1) | exact HB.out)) hb); clear HB; have HB := n0_; clear n0_; (try clear hb); (try clear hb2); (try clear hk); (try clear hi)))
      go_ret
      exact ⟨by first | rfl | (simp [errW_none, errW_some] <;> rfl) | (simp [*, errW_none, errW_some] <;> rfl), by repeat (first | (with_reducible first | exact HB.out | apply below_alloc | apply pw_below_drewN | apply below_drew1) | exact HB.out)⟩
  · rw [if_neg c4] at H
    have c4b0 : (t157.toList == t158.toList) = false := beq_eq_false_iff_ne.mpr c4
    have c4b1 : (t157.toList != t158.toList) = true := bne_iff_ne.mpr c4
    obtain rfl := Option.some.inj H
    go_enter Try.func4, Try.ntmps4
    go_wp2_with (first | ((first | ((with_reducible refine gate_callee (f := 15) rfl ?_); refine goesL_ (some 4) rfl rfl Try.func15 (by kernel_rfl) rfl #[.int .i64 a0] rfl (by (try simp only [List.map_toArray, List.map_cons, List.map_nil]); first | done | rfl | (simp only [List.length_drop, List.length_take]; rfl)) ?_; (with_reducible refine (quant_Show.calls a0 t157 _ A2.out).mono ?_); rintro e w18 ⟨rfl, hb⟩; refine ⟨_, rfl, ?_⟩) | (go_at_call 15; (with_reducible refine (quant_Show.calls a0 t157 _ A2.out).mono ?_); rintro e w18 ⟨rfl, hb⟩)); have n0_ := Aside0.mk (below_step (by repeat (first | (with_reducible first | exact HB.out | apply below_alloc | apply pw_below_drewN | apply below_drew1) | exact HB.out)) hb); clear HB; have HB := n0_; clear n0_; (try clear hb); (try clear hb2); (try clear hk); (try clear hi)) | ((first | ((with_reducible refine gate_callee (f := 16) rfl ?_); refine goesL_ (some 6) rfl rfl Try.func16 (by kernel_rfl) rfl #[.int .i64 a0] rfl (by (try simp only [List.map_toArray, List.map_cons, List.map_nil]); first | done | rfl | (simp only [List.length_drop, List.length_take]; rfl)) ?_; (with_reducible refine (triremeref03_Show.calls k a0 t158 _ A3.out).mono ?_); rintro e w19 ⟨rfl, hb⟩; refine ⟨_, rfl, ?_⟩) | (go_at_call 16; (with_reducible refine (triremeref03_Show.calls k a0 t158 _ A3.out).mono ?_); rintro e w19 ⟨rfl, hb⟩)); have n0_ := Aside0.mk (below_step (by repeat (first | (with_reducible first | exact HB.out | apply below_alloc | apply pw_below_drewN | apply below_drew1) | exact HB.out)) hb); clear HB; have HB := n0_; clear n0_; (try clear hb); (try clear hb2); (try clear hk); (try clear hi)))
    go_ret
    exact ⟨by first | rfl | (simp [errW_none, errW_some] <;> rfl) | (simp [*, errW_none, errW_some] <;> rfl), by repeat (first | (with_reducible first | exact HB.out | apply below_alloc | apply pw_below_drewN | apply below_drew1) | exact HB.out)⟩
/-- THE ONE PURE STATEMENT of triremelaw03_QuantShows: yours. -/
def triremelaw03_QuantShows.Pure : Prop := ∀ (a0 : Int), (Lit.int .i64 a0).wf = true → ∃ k, triremelaw03_QuantShows.f k a0 = some true
theorem triremelaw03_QuantShows.walk (P : triremelaw03_QuantShows.Pure) (a0 : Int) (w : World) (w0 : (Lit.int .i64 a0).wf = true) :
    Calls Try.prog 4 #[.int .i64 a0] w fun e w' => e = .returned (.bool true) ∧ Below w.heap.size w w' := by
  obtain ⟨k, h⟩ := P a0 w0
  refine (triremelaw03_QuantShows.calls k a0 true w h).mono ?_
  rintro e w' ⟨rfl, hd⟩
  exact ⟨rfl, hd⟩
end Go.Proofs.Ytpmmiabcfnejmaa.H
end
section
namespace Go.Proofs.Ytpmmiabcfnejmaa.H
open Go.RowKit Go.Proofs.YtpmmiabcfnejmaaW.PrintWords Go.Proofs.YtpmmiabcfnejmaaW.PrintLast Go.Proofs.YtpmmiabcfnejmaaW.PrintMore
set_option linter.unusedVariables false
set_option linter.unusedSimpArgs false
theorem decGo_app : ∀ (f n : Nat) (acc : List Int), decGo f n acc = decGo f n [] ++ acc
  | 0, _, acc => rfl
  | f + 1, n, acc => by
    simp only [decGo]
    by_cases h : n < 10
    · rw [if_pos h, if_pos h]; rfl
    · rw [if_neg h, if_neg h, decGo_app f _ (_ :: acc), decGo_app f _ [_], List.append_assoc]; rfl
theorem strOfNums_app (a b : List Int) : strOfNums (a ++ b) = strOfNums a ++ strOfNums b := by
  apply toList_inj
  rw [append_toList, ByteArray.toList_eq, ByteArray.toList_eq, ByteArray.toList_eq]
  simp [strOfNums]
theorem strOfNums_size (a : List Int) : (strOfNums a).size = a.length := by simp [strOfNums, ByteArray.size]
theorem one_cast' (d : Nat) : (48 + (d : Int)) = ((48 + d : Nat) : Int) := by omega
theorem digits_ev0 : ∀ (e n : Nat), n < 10 ^ (e + 1) → e + 1 ≤ 20 → n ≤ 9000000000000000000 → Ev (fun k => triremeref01_Digits.f k (n : Int)) (strOfNums (decGo (e + 1) n [])) := by
  intro e
  induction e with
  | zero =>
    intro n h he hn
    refine Ev.step (fun k => by rw [triremeref01_Digits.f]) ?_
    have h1 : n < 10 := by simpa using h
    simp only [decGo, h1, show (n : Int) < 10 by omega, if_true]
    rw [wrap_small (by omega) (by omega), show (48 + (n : Int)) % 256 = 48 + (n : Int) by omega]
    exact Ev.now _
  | succ e ih =>
    intro n h he hn
    refine Ev.step (fun k => by rw [triremeref01_Digits.f]) ?_
    by_cases h1 : n < 10
    · rw [decGo]
      simp only [h1, show (n : Int) < 10 by omega, if_true]
      rw [wrap_small (by omega) (by omega), show (48 + (n : Int)) % 256 = 48 + (n : Int) by omega]
      exact Ev.now _
    · rw [decGo]
      simp only [h1, show ¬ (n : Int) < 10 by omega, if_false]
      have hq : n / 10 < 10 ^ (e + 1) := by rw [Nat.pow_succ] at h; omega
      rw [pdiv_step n hn]
      refine Ev.bind (ih (n / 10) hq (by omega) (by omega)) ?_
      rw [pdig_step n hn, decGo_app _ _ [48 + ((n % 10 : Nat) : Int)], strOfNums_app, one_cast']
      simp only [Option.bind_some]
      refine ev_if (fun _ => Ev.now _) (fun h => absurd ?_ h)
      rw [strOfNums_size, one_size]
      have := decGo_len (e + 1) (n / 10) []
      simp only [List.length_nil] at this
      omega
theorem digits_ev (n : Nat) (hn : n ≤ 9000000000000000000) : Ev (fun k => triremeref01_Digits.f k (n : Int)) (decB (n : Int)) :=
  digits_ev0 19 n (Nat.lt_of_le_of_lt hn (by decide)) (by omega) hn
end Go.Proofs.Ytpmmiabcfnejmaa.H
end
section
namespace Go.Proofs.Ytpmmiabcfnejmaa.H
open Go.RowKit Go.Proofs.YtpmmiabcfnejmaaW.PrintWords Go.Proofs.YtpmmiabcfnejmaaW.PrintLast Go.Proofs.YtpmmiabcfnejmaaW.PrintMore
attribute [local go_sem] max2_int min2_int max_two min_two max_three min_three max_four min_four   -- for this text's walks alone
set_option linter.unusedVariables false
set_option linter.unusedSimpArgs false
def triremelaw03_QuantZeros.j0 : Nat → ByteArray → Bool → Option (Bool)
  | 0, _, _ => none
  | k + 1, x0, x32 => if x32 = true then ((triremelaw03_known.f k).bind fun t215 => (some t215)) else ((quant_Number.f k x0).bind fun bt216 => (if 1 + x0.size ≤ 9223372036854775807 then ((quant_Number.f k ((⟨#[48]⟩ : ByteArray) ++ x0)).bind fun bt218 => ((quant_Parse.f k x0).bind fun bt220 => ((quant_Parse.f k ((⟨#[48]⟩ : ByteArray) ++ x0)).bind fun bt222 => ((quant_Milli.f k x0).bind fun bt224 => (if 2 + x0.size ≤ 9223372036854775807 then ((quant_Milli.f k ((⟨#[48, 48]⟩ : ByteArray) ++ x0)).bind fun bt226 => (if bt216.1 = bt218.1 then (if bt216.2 = bt218.2 then (if bt220.1 = bt222.1 then (if bt220.2 = bt222.2 then (if bt224.1 = bt226.1 then (if bt224.2 = bt226.2 then ((triremelaw03_known.f k).bind fun t228 => (some t228)) else (some false)) else (some false)) else (some false)) else (some false)) else (some false)) else (some false))) else (none)))))) else (none)))
def triremelaw03_QuantZeros.f (k : Nat) (a0 : ByteArray) : Option (Bool) := if (a0.size : Int) > 300 then (triremelaw03_QuantZeros.j0 k a0 true) else (if (a0.size : Int) = 0 then (triremelaw03_QuantZeros.j0 k a0 true) else (if 0 < (a0.size : Int) then (if (bt a0 0) < 48 then (triremelaw03_QuantZeros.j0 k a0 true) else (triremelaw03_QuantZeros.j0 k a0 (decide ((bt a0 0) > 57)))) else (none)))
theorem triremelaw03_QuantZeros.mono_l : ∀ k, (∀ y0 y1, LeO (triremelaw03_QuantZeros.j0 k y0 y1) (triremelaw03_QuantZeros.j0 (k + 1) y0 y1))
  | 0 => fun _ _ r h => by simp [triremelaw03_QuantZeros.j0] at h
  | k + 1 => by
    have ih0 := triremelaw03_QuantZeros.mono_l k
    · intro y0 y1
      unfold triremelaw03_QuantZeros.j0
      repeat' first
      | (with_reducible exact ih0 _ _)
      | (with_reducible exact quant_Milli.mono _ _)
      | (with_reducible exact quant_Number.mono _ _)
      | (with_reducible exact quant_Parse.mono _ _)
      | (with_reducible exact triremelaw03_known.mono _)
      | (with_reducible exact LeO.refl _)
      | (with_reducible exact LeO.none _)
      | (with_reducible refine LeO.ite ?_ ?_)
      | (with_reducible refine LeO.bind ?_ (fun _ => ?_))
      | exact ih0 _ _
      | exact quant_Milli.mono _ _
      | exact quant_Number.mono _ _
      | exact quant_Parse.mono _ _
      | exact triremelaw03_known.mono _
      | exact LeO.none _
      | refine LeO.ite ?_ ?_
      | refine LeO.bind ?_ (fun _ => ?_)
theorem triremelaw03_QuantZeros.mono : ∀ a0 k, LeO (triremelaw03_QuantZeros.f k a0) (triremelaw03_QuantZeros.f (k + 1) a0) := by
  intro a0 k
  have ih0 := triremelaw03_QuantZeros.mono_l k
  unfold triremelaw03_QuantZeros.f
  repeat' first
      | (with_reducible exact ih0 _ _)
      | (with_reducible exact quant_Milli.mono _ _)
      | (with_reducible exact quant_Number.mono _ _)
      | (with_reducible exact quant_Parse.mono _ _)
      | (with_reducible exact triremelaw03_known.mono _)
      | (with_reducible exact LeO.refl _)
      | (with_reducible exact LeO.none _)
      | (with_reducible refine LeO.ite ?_ ?_)
      | (with_reducible refine LeO.bind ?_ (fun _ => ?_))
      | exact ih0 _ _
      | exact quant_Milli.mono _ _
      | exact quant_Number.mono _ _
      | exact quant_Parse.mono _ _
      | exact triremelaw03_known.mono _
      | exact LeO.none _
      | refine LeO.ite ?_ ?_
      | refine LeO.bind ?_ (fun _ => ?_)
set_option maxHeartbeats 8000000 in
set_option maxRecDepth 100000 in
theorem triremelaw03_QuantZeros.calls (k : Nat) (a0 : ByteArray) (r : Bool) (w : World) (h : triremelaw03_QuantZeros.f k a0 = some r) :
    Calls Try.prog 7 #[.string a0] w fun e w' => e = .returned (.bool r) ∧ Below w.heap.size w w' := by
  have HB := Aside0.mk (Below.refl w.heap.size w)
  have H : (if (a0.size : Int) > 300 then (triremelaw03_QuantZeros.j0 k a0 true) else (if (a0.size : Int) = 0 then (triremelaw03_QuantZeros.j0 k a0 true) else (if 0 < (a0.size : Int) then (if (bt a0 0) < 48 then (triremelaw03_QuantZeros.j0 k a0 true) else (triremelaw03_QuantZeros.j0 k a0 (decide ((bt a0 0) > 57)))) else (none)))) = some r := h
  clear h
  have HC2 := Aside0.mk H
  clear H
  go_enter Try.func7, Try.ntmps7
  go_upto_region 1 with (fail)
  go_cut [32] (fun v32 wc => ∃ (kq : Nat) (x32_1 : Bool), v32 = .bool x32_1 ∧ Aside0 (triremelaw03_QuantZeros.j0 kq a0 x32_1 = some r) ∧ Aside0 (kq ≤ k) ∧ Aside0 (Below w.heap.size w wc))
  case first =>
    have H := HC2.out
    clear HC2
    by_cases c3 : (a0.size : Int) > 300
    · rw [if_pos c3] at H
      have c3b0 : decide (300 < (a0.size : Int)) = true := decide_eq_true c3
      have c3b1 : decide (300 < a0.size) = true := decide_eq_true (by omega)
      clear c3
      (first | rw [c3b0] | (simp only [i64_w, i32_w]; rw [c3b0]) | skip)
      have H' := Aside0.mk H
      clear H
      go_wp2
      go_meet
      case rel => exact ⟨_, (true), (by first | rfl | (simp; done) | (simp [*]; done)), H', ⟨by first | omega | exact Nat.le_refl _⟩, ⟨by repeat (first | (with_reducible first | exact HB.out | apply below_alloc | apply pw_below_drewN | apply below_drew1) | exact HB.out)⟩⟩
    · rw [if_neg c3] at H
      have c3b0 : decide (300 < (a0.size : Int)) = false := decide_eq_false c3
      have c3b1 : decide (300 < a0.size) = false := decide_eq_false (by omega)
      clear c3
      (first | rw [c3b0] | (simp only [i64_w, i32_w]; rw [c3b0]) | skip)
      by_cases c4 : (a0.size : Int) = 0
      · rw [if_pos c4] at H
        have c4b0 : ((a0.size : Int) == 0) = true := beq_iff_eq.mpr c4
        have c4b1 : ((a0.size : Int) != 0) = false := bne_eq_false_iff_eq.mpr c4
        clear c4
        have H' := Aside0.mk H
        clear H
        go_wp2
        go_meet
        case rel => exact ⟨_, (true), (by first | rfl | (simp; done) | (simp [*]; done)), H', ⟨by first | omega | exact Nat.le_refl _⟩, ⟨by repeat (first | (with_reducible first | exact HB.out | apply below_alloc | apply pw_below_drewN | apply below_drew1) | exact HB.out)⟩⟩
      · rw [if_neg c4] at H
        have c4b0 : ((a0.size : Int) == 0) = false := beq_eq_false_iff_ne.mpr c4
        have c4b1 : ((a0.size : Int) != 0) = true := bne_iff_ne.mpr c4
        by_cases c5 : 0 < (a0.size : Int)
        · rw [if_pos c5] at H
          have c5b0 : decide (0 < (a0.size : Int)) = true := decide_eq_true c5
          have c5b1 : decide (0 < a0.size) = true := decide_eq_true (by omega)
          clear c5
          by_cases c7 : (bt a0 0) < 48
          · rw [if_pos c7] at H
            have c7b0 : decide ((bt a0 0) < 48) = true := decide_eq_true c7
            clear c7
            have H' := Aside0.mk H
            clear H
            have p6 : 0 ≤ (0 : Int) := (by omega)
            have q6 : 0 < a0.size := (by have : (0 : Int) < (a0.size : Int) := of_decide_eq_true (by first | (with_reducible assumption) | assumption); omega)
            have hx6 : ∀ h : 0 < a0.size, ((a0[0]'h).toNat : Int) = bt a0 0 := bt_at a0 0
            clear p6
            have qi6 : (0 < (a0.size : Int)) = True := eq_true (of_decide_eq_true (by first | (with_reducible assumption) | assumption))
            replace q6 := eq_true q6
            (try (have qz6 := q6; rw [ByteArray.size_extract, Nat.min_self] at qz6))
            go_wp2
            go_meet
            case rel => exact ⟨_, (true), (by first | rfl | (simp; done) | (simp [*]; done)), H', ⟨by first | omega | exact Nat.le_refl _⟩, ⟨by repeat (first | (with_reducible first | exact HB.out | apply below_alloc | apply pw_below_drewN | apply below_drew1) | exact HB.out)⟩⟩
          · rw [if_neg c7] at H
            have c7b0 : decide ((bt a0 0) < 48) = false := decide_eq_false c7
            clear c7
            have H' := Aside0.mk H
            clear H
            have p6 : 0 ≤ (0 : Int) := (by omega)
            have q6 : 0 < a0.size := (by have : (0 : Int) < (a0.size : Int) := of_decide_eq_true (by first | (with_reducible assumption) | assumption); omega)
            have hx6 : ∀ h : 0 < a0.size, ((a0[0]'h).toNat : Int) = bt a0 0 := bt_at a0 0
            clear p6
            have qi6 : (0 < (a0.size : Int)) = True := eq_true (of_decide_eq_true (by first | (with_reducible assumption) | assumption))
            replace q6 := eq_true q6
            (try (have qz6 := q6; rw [ByteArray.size_extract, Nat.min_self] at qz6))
            have p8 : 0 ≤ (0 : Int) := (by omega)
            have q8 : 0 < a0.size := (by have : (0 : Int) < (a0.size : Int) := of_decide_eq_true (by first | (with_reducible assumption) | assumption); omega)
            have hx8 : ∀ h : 0 < a0.size, ((a0[0]'h).toNat : Int) = bt a0 0 := bt_at a0 0
            clear p8
            have qi8 : (0 < (a0.size : Int)) = True := eq_true (of_decide_eq_true (by first | (with_reducible assumption) | assumption))
            replace q8 := eq_true q8
            (try (have qz8 := q8; rw [ByteArray.size_extract, Nat.min_self] at qz8))
            go_wp2
            go_meet
            case rel => exact ⟨_, (decide ((bt a0 0) > 57)), (by first | rfl | (simp; done) | (simp [*]; done)), H', ⟨by first | omega | exact Nat.le_refl _⟩, ⟨by repeat (first | (with_reducible first | exact HB.out | apply below_alloc | apply pw_below_drewN | apply below_drew1) | exact HB.out)⟩⟩
        · rw [if_neg c5] at H
          exact absurd H (by simp)
  case rest =>
    clear HC2
    try clear p2
    try clear c3
    try clear c3b0
    try clear c3b1
    try clear c4
    try clear c4b0
    try clear c4b1
    try clear c5
    try clear c5b0
    try clear c5b1
    try clear p6
    try clear q6
    try clear hx6
    try clear qi6
    try clear c7
    try clear c7b0
    try clear p8
    try clear q8
    try clear hx8
    try clear qi8
    try clear p6
    try clear p8
    try clear q6
    try clear q8
    obtain ⟨kq, x32_1, rfl, HA, HJ1, HB⟩ := hcut
    cases kq with
    | zero => exact absurd HA.out (by simp [triremelaw03_QuantZeros.j0])
    | succ kj1 =>
      have H := HA.out
      clear HA
      simp only [triremelaw03_QuantZeros.j0] at H
      by_cases c9 : x32_1 = true
      · subst c9
        have H1 : ((triremelaw03_known.f kj1).bind fun t215 => (some t215)) = some r := by rw [if_pos rfl] at H; exact H
        clear H
        have H := H1
        clear H1
        replace H := Option.bind_eq_some_iff.mp H
        obtain ⟨t215, A100, H⟩ := H
        replace H : (some t215) = some r := H
        have A10 := Aside0.mk A100
        clear A100
        obtain rfl := Option.some.inj H
        go_wp2_with (first | ((first | ((with_reducible refine gate_callee (f := 8) rfl ?_); refine goesL_ (some 33) rfl rfl Try.func8 (by kernel_rfl) rfl #[] rfl (by (try simp only [List.map_toArray, List.map_cons, List.map_nil]); first | done | rfl | (simp only [List.length_drop, List.length_take]; rfl)) ?_; (with_reducible refine (triremelaw03_known.calls kj1  t215 _ A10.out).mono ?_); rintro e w11 ⟨rfl, hb⟩; refine ⟨_, rfl, ?_⟩) | (go_at_call 8; (with_reducible refine (triremelaw03_known.calls kj1  t215 _ A10.out).mono ?_); rintro e w11 ⟨rfl, hb⟩)); have n0_ := Aside0.mk (below_step (by repeat (first | (with_reducible first | exact HB.out | apply below_alloc | apply pw_below_drewN | apply below_drew1) | exact HB.out)) hb); clear HB; have HB := n0_; clear n0_; (try clear hb); (try clear hb2); (try clear hk); (try clear hi)))
        go_ret
        exact ⟨by first | rfl | (simp [errW_none, errW_some] <;> rfl) | (simp [*, errW_none, errW_some] <;> rfl), by repeat (first | (with_reducible first | exact HB.out | apply below_alloc | apply pw_below_drewN | apply below_drew1) | exact HB.out)⟩
      · replace c9 := Bool.eq_false_iff.mpr c9
        subst c9
        have H1 : ((quant_Number.f kj1 a0).bind fun bt216 => (if 1 + a0.size ≤ 9223372036854775807 then ((quant_Number.f kj1 ((⟨#[48]⟩ : ByteArray) ++ a0)).bind fun bt218 => ((quant_Parse.f kj1 a0).bind fun bt220 => ((quant_Parse.f kj1 ((⟨#[48]⟩ : ByteArray) ++ a0)).bind fun bt222 => ((quant_Milli.f kj1 a0).bind fun bt224 => (if 2 + a0.size ≤ 9223372036854775807 then ((quant_Milli.f kj1 ((⟨#[48, 48]⟩ : ByteArray) ++ a0)).bind fun bt226 => (if bt216.1 = bt218.1 then (if bt216.2 = bt218.2 then (if bt220.1 = bt222.1 then (if bt220.2 = bt222.2 then (if bt224.1 = bt226.1 then (if bt224.2 = bt226.2 then ((triremelaw03_known.f kj1).bind fun t228 => (some t228)) else (some false)) else (some false)) else (some false)) else (some false)) else (some false)) else (some false))) else (none)))))) else (none))) = some r := by rw [if_neg (show ¬ (false = true) by decide)] at H; exact H
        clear H
        have H := H1
        clear H1
        replace H := Option.bind_eq_some_iff.mp H
        obtain ⟨⟨t216, t217⟩, A120, H⟩ := H
        replace H : (if 1 + a0.size ≤ 9223372036854775807 then ((quant_Number.f kj1 ((⟨#[48]⟩ : ByteArray) ++ a0)).bind fun bt218 => ((quant_Parse.f kj1 a0).bind fun bt220 => ((quant_Parse.f kj1 ((⟨#[48]⟩ : ByteArray) ++ a0)).bind fun bt222 => ((quant_Milli.f kj1 a0).bind fun bt224 => (if 2 + a0.size ≤ 9223372036854775807 then ((quant_Milli.f kj1 ((⟨#[48, 48]⟩ : ByteArray) ++ a0)).bind fun bt226 => (if t216 = bt218.1 then (if t217 = bt218.2 then (if bt220.1 = bt222.1 then (if bt220.2 = bt222.2 then (if bt224.1 = bt226.1 then (if bt224.2 = bt226.2 then ((triremelaw03_known.f kj1).bind fun t228 => (some t228)) else (some false)) else (some false)) else (some false)) else (some false)) else (some false)) else (some false))) else (none)))))) else (none)) = some r := H
        have A12 := Aside0.mk A120
        clear A120
        by_cases c13 : 1 + a0.size ≤ 9223372036854775807
        · rw [if_pos c13] at H
          have c13b0 := eq_true c13
          (try (have c13z := c13b0; rw [ByteArray.size_extract, Nat.min_self] at c13z))
          have c13b1 : decide (1 + a0.size ≤ 9223372036854775807) = true := decide_eq_true c13
          try have c13b2 : (9223372036854775807 < 1 + a0.size) = False := eq_false (Nat.not_lt.2 c13)
          replace H := Option.bind_eq_some_iff.mp H
          obtain ⟨⟨t218, t219⟩, A140, H⟩ := H
          replace H : ((quant_Parse.f kj1 a0).bind fun bt220 => ((quant_Parse.f kj1 ((⟨#[48]⟩ : ByteArray) ++ a0)).bind fun bt222 => ((quant_Milli.f kj1 a0).bind fun bt224 => (if 2 + a0.size ≤ 9223372036854775807 then ((quant_Milli.f kj1 ((⟨#[48, 48]⟩ : ByteArray) ++ a0)).bind fun bt226 => (if t216 = t218 then (if t217 = t219 then (if bt220.1 = bt222.1 then (if bt220.2 = bt222.2 then (if bt224.1 = bt226.1 then (if bt224.2 = bt226.2 then ((triremelaw03_known.f kj1).bind fun t228 => (some t228)) else (some false)) else (some false)) else (some false)) else (some false)) else (some false)) else (some false))) else (none))))) = some r := H
          have A14 := Aside0.mk A140
          clear A140
          replace H := Option.bind_eq_some_iff.mp H
          obtain ⟨⟨t220, t221⟩, A150, H⟩ := H
          replace H : ((quant_Parse.f kj1 ((⟨#[48]⟩ : ByteArray) ++ a0)).bind fun bt222 => ((quant_Milli.f kj1 a0).bind fun bt224 => (if 2 + a0.size ≤ 9223372036854775807 then ((quant_Milli.f kj1 ((⟨#[48, 48]⟩ : ByteArray) ++ a0)).bind fun bt226 => (if t216 = t218 then (if t217 = t219 then (if t220 = bt222.1 then (if t221 = bt222.2 then (if bt224.1 = bt226.1 then (if bt224.2 = bt226.2 then ((triremelaw03_known.f kj1).bind fun t228 => (some t228)) else (some false)) else (some false)) else (some false)) else (some false)) else (some false)) else (some false))) else (none)))) = some r := H
          have A15 := Aside0.mk A150
          clear A150
          replace H := Option.bind_eq_some_iff.mp H
          obtain ⟨⟨t222, t223⟩, A160, H⟩ := H
          replace H : ((quant_Milli.f kj1 a0).bind fun bt224 => (if 2 + a0.size ≤ 9223372036854775807 then ((quant_Milli.f kj1 ((⟨#[48, 48]⟩ : ByteArray) ++ a0)).bind fun bt226 => (if t216 = t218 then (if t217 = t219 then (if t220 = t222 then (if t221 = t223 then (if bt224.1 = bt226.1 then (if bt224.2 = bt226.2 then ((triremelaw03_known.f kj1).bind fun t228 => (some t228)) else (some false)) else (some false)) else (some false)) else (some false)) else (some false)) else (some false))) else (none))) = some r := H
          have A16 := Aside0.mk A160
          clear A160
          replace H := Option.bind_eq_some_iff.mp H
          obtain ⟨⟨t224, t225⟩, A170, H⟩ := H
          replace H : (if 2 + a0.size ≤ 9223372036854775807 then ((quant_Milli.f kj1 ((⟨#[48, 48]⟩ : ByteArray) ++ a0)).bind fun bt226 => (if t216 = t218 then (if t217 = t219 then (if t220 = t222 then (if t221 = t223 then (if t224 = bt226.1 then (if t225 = bt226.2 then ((triremelaw03_known.f kj1).bind fun t228 => (some t228)) else (some false)) else (some false)) else (some false)) else (some false)) else (some false)) else (some false))) else (none)) = some r := H
          have A17 := Aside0.mk A170
          clear A170
          by_cases c18 : 2 + a0.size ≤ 9223372036854775807
          · rw [if_pos c18] at H
            have c18b0 := eq_true c18
            (try (have c18z := c18b0; rw [ByteArray.size_extract, Nat.min_self] at c18z))
            have c18b1 : decide (2 + a0.size ≤ 9223372036854775807) = true := decide_eq_true c18
            try have c18b2 : (9223372036854775807 < 2 + a0.size) = False := eq_false (Nat.not_lt.2 c18)
            replace H := Option.bind_eq_some_iff.mp H
            obtain ⟨⟨t226, t227⟩, A190, H⟩ := H
            replace H : (if t216 = t218 then (if t217 = t219 then (if t220 = t222 then (if t221 = t223 then (if t224 = t226 then (if t225 = t227 then ((triremelaw03_known.f kj1).bind fun t228 => (some t228)) else (some false)) else (some false)) else (some false)) else (some false)) else (some false)) else (some false)) = some r := H
            have A19 := Aside0.mk A190
            clear A190
            by_cases c20 : t216 = t218
            · rw [if_pos c20] at H
              have c20b0 : (t216 == t218) = true := beq_iff_eq.mpr c20
              have c20b1 : (t216 != t218) = false := bne_eq_false_iff_eq.mpr c20
              clear c20
              by_cases c21 : t217 = t219
              · rw [if_pos c21] at H
                have c21b0 : (t217 == t219) = true := beq_iff_eq.mpr c21
                have c21b1 : (t217 != t219) = false := bne_eq_false_iff_eq.mpr c21
                clear c21
                by_cases c22 : t220 = t222
                · rw [if_pos c22] at H
                  have c22b0 : (t220 == t222) = true := beq_iff_eq.mpr c22
                  have c22b1 : (t220 != t222) = false := bne_eq_false_iff_eq.mpr c22
                  clear c22
                  by_cases c23 : t221 = t223
                  · rw [if_pos c23] at H
                    have c23b0 : (t221 == t223) = true := beq_iff_eq.mpr c23
                    have c23b1 : (t221 != t223) = false := bne_eq_false_iff_eq.mpr c23
                    clear c23
                    by_cases c24 : t224 = t226
                    · rw [if_pos c24] at H
                      have c24b0 : (t224 == t226) = true := beq_iff_eq.mpr c24
                      have c24b1 : (t224 != t226) = false := bne_eq_false_iff_eq.mpr c24
                      clear c24
                      by_cases c25 : t225 = t227
                      · rw [if_pos c25] at H
                        have c25b0 : (t225 == t227) = true := beq_iff_eq.mpr c25
                        have c25b1 : (t225 != t227) = false := bne_eq_false_iff_eq.mpr c25
                        clear c25
                        replace H := Option.bind_eq_some_iff.mp H
                        obtain ⟨t228, A260, H⟩ := H
                        replace H : (some t228) = some r := H
                        have A26 := Aside0.mk A260
                        clear A260
                        obtain rfl := Option.some.inj H
                        go_wp2_with (first | ((first | ((with_reducible refine gate_callee (f := 13) rfl ?_); refine goesL_ (some 36) rfl rfl Try.func13 (by kernel_rfl) rfl #[.string a0] rfl (by (try simp only [List.map_toArray, List.map_cons, List.map_nil]); first | done | rfl | (simp only [List.length_drop, List.length_take]; rfl)) ?_; (with_reducible refine (quant_Number.calls kj1 a0 t216 t217 _ A12.out).mono ?_); rintro e w' ⟨rfl, ⟨nd, rfl⟩⟩; refine ⟨_, rfl, ?_⟩) | (go_at_call 13; (with_reducible refine (quant_Number.calls kj1 a0 t216 t217 _ A12.out).mono ?_); rintro e w' ⟨rfl, ⟨nd, rfl⟩⟩))) | ((first | ((with_reducible refine gate_callee (f := 13) rfl ?_); refine goesL_ (some 42) rfl rfl Try.func13 (by kernel_rfl) rfl #[.string ((⟨#[48]⟩ : ByteArray) ++ a0)] rfl (by (try simp only [List.map_toArray, List.map_cons, List.map_nil]); first | done | rfl | (simp only [List.length_drop, List.length_take]; rfl)) ?_; (with_reducible refine (quant_Number.calls kj1 ((⟨#[48]⟩ : ByteArray) ++ a0) t218 t219 _ A14.out).mono ?_); rintro e w' ⟨rfl, ⟨nd, rfl⟩⟩; refine ⟨_, rfl, ?_⟩) | (go_at_call 13; (with_reducible refine (quant_Number.calls kj1 ((⟨#[48]⟩ : ByteArray) ++ a0) t218 t219 _ A14.out).mono ?_); rintro e w' ⟨rfl, ⟨nd, rfl⟩⟩))) | ((first | ((with_reducible refine gate_callee (f := 9) rfl ?_); refine goesL_ (some 47) rfl rfl Try.func9 (by kernel_rfl) rfl #[.string a0] rfl (by (try simp only [List.map_toArray, List.map_cons, List.map_nil]); first | done | rfl | (simp only [List.length_drop, List.length_take]; rfl)) ?_; (with_reducible refine (quant_Parse.calls kj1 a0 t220 t221 _ A15.out).mono ?_); rintro e w27 ⟨rfl, hb⟩; refine ⟨_, rfl, ?_⟩) | (go_at_call 9; (with_reducible refine (quant_Parse.calls kj1 a0 t220 t221 _ A15.out).mono ?_); rintro e w27 ⟨rfl, hb⟩)); have n0_ := Aside0.mk (below_step (by repeat (first | (with_reducible first | exact HB.out | apply below_alloc | apply pw_below_drewN | apply below_drew1) | exact HB.out)) hb); clear HB; have HB := n0_; clear n0_; (try clear hb); (try clear hb2); (try clear hk); (try clear hi)) | ((first | ((with_reducible refine gate_callee (f := 9) rfl ?_); refine goesL_ (some 53) rfl rfl Try.func9 (by kernel_rfl) rfl #[.string ((⟨#[48]⟩ : ByteArray) ++ a0)] rfl (by (try simp only [List.map_toArray, List.map_cons, List.map_nil]); first | done | rfl | (simp only [List.length_drop, List.length_take]; rfl)) ?_; (with_reducible refine (quant_Parse.calls kj1 ((⟨#[48]⟩ : ByteArray) ++ a0) t222 t223 _ A16.out).mono ?_); rintro e w28 ⟨rfl, hb⟩; refine ⟨_, rfl, ?_⟩) | (go_at_call 9; (with_reducible refine (quant_Parse.calls kj1 ((⟨#[48]⟩ : ByteArray) ++ a0) t222 t223 _ A16.out).mono ?_); rintro e w28 ⟨rfl, hb⟩)); have n0_ := Aside0.mk (below_step (by repeat (first | (with_reducible first | exact HB.out | apply below_alloc | apply pw_below_drewN | apply below_drew1) | exact HB.out)) hb); clear HB; have HB := n0_; clear n0_; (try clear hb); (try clear hb2); (try clear hk); (try clear hi)) | ((first | ((with_reducible refine gate_callee (f := 11) rfl ?_); refine goesL_ (some 58) rfl rfl Try.func11 (by kernel_rfl) rfl #[.string a0] rfl (by (try simp only [List.map_toArray, List.map_cons, List.map_nil]); first | done | rfl | (simp only [List.length_drop, List.length_take]; rfl)) ?_; (with_reducible refine (quant_Milli.calls kj1 a0 t224 t225 _ A17.out).mono ?_); rintro e w29 ⟨rfl, hb⟩; refine ⟨_, rfl, ?_⟩) | (go_at_call 11; (with_reducible refine (quant_Milli.calls kj1 a0 t224 t225 _ A17.out).mono ?_); rintro e w29 ⟨rfl, hb⟩)); have n0_ := Aside0.mk (below_step (by repeat (first | (with_reducible first | exact HB.out | apply below_alloc | apply pw_below_drewN | apply below_drew1) | exact HB.out)) hb); clear HB; have HB := n0_; clear n0_; (try clear hb); (try clear hb2); (try clear hk); (try clear hi)) | ((first | ((with_reducible refine gate_callee (f := 11) rfl ?_); refine goesL_ (some 64) rfl rfl Try.func11 (by kernel_rfl) rfl #[.string ((⟨#[48, 48]⟩ : ByteArray) ++ a0)] rfl (by (try simp only [List.map_toArray, List.map_cons, List.map_nil]); first | done | rfl | (simp only [List.length_drop, List.length_take]; rfl)) ?_; (with_reducible refine (quant_Milli.calls kj1 ((⟨#[48, 48]⟩ : ByteArray) ++ a0) t226 t227 _ A19.out).mono ?_); rintro e w30 ⟨rfl, hb⟩; refine ⟨_, rfl, ?_⟩) | (go_at_call 11; (with_reducible refine (quant_Milli.calls kj1 ((⟨#[48, 48]⟩ : ByteArray) ++ a0) t226 t227 _ A19.out).mono ?_); rintro e w30 ⟨rfl, hb⟩)); have n0_ := Aside0.mk (below_step (by repeat (first | (with_reducible first | exact HB.out | apply below_alloc | apply pw_below_drewN | apply below_drew1) | exact HB.out)) hb); clear HB; have HB := n0_; clear n0_; (try clear hb); (try clear hb2); (try clear hk); (try clear hi)) | (go_at_call 8; (with_reducible refine (triremelaw03_known.calls kj1  t228 _ A26.out).mono ?_); rintro e w31 ⟨rfl, hb⟩; have n0_ := Aside0.mk (below_step (by repeat (first | (with_reducible first | exact HB.out | apply below_alloc | apply pw_below_drewN | apply below_drew1) | exact HB.out)) hb); clear HB; have HB := n0_; clear n0_; (try clear hb); (try clear hb2); (try clear hk); (try clear hi)))
                        go_ret
                        exact ⟨by first | rfl | (simp [errW_none, errW_some] <;> rfl) | (simp [*, errW_none, errW_some] <;> rfl), by repeat (first | (with_reducible first | exact HB.out | apply below_alloc | apply pw_below_drewN | apply below_drew1) | exact HB.out)⟩
                      · rw [if_neg c25] at H
                        have c25b0 : (t225 == t227) = false := beq_eq_false_iff_ne.mpr c25
                        have c25b1 : (t225 != t227) = true := bne_iff_ne.mpr c25
                        obtain rfl := Option.some.inj H
                        go_wp2_with (first | ((first | ((with_reducible refine gate_callee (f := 13) rfl ?_); refine goesL_ (some 36) rfl rfl Try.func13 (by kernel_rfl) rfl #[.string a0] rfl (by (try simp only [List.map_toArray, List.map_cons, List.map_nil]); first | done | rfl | (simp only [List.length_drop, List.length_take]; rfl)) ?_; (with_reducible refine (quant_Number.calls kj1 a0 t216 t217 _ A12.out).mono ?_); rintro e w' ⟨rfl, ⟨nd, rfl⟩⟩; refine ⟨_, rfl, ?_⟩) | (go_at_call 13; (with_reducible refine (quant_Number.calls kj1 a0 t216 t217 _ A12.out).mono ?_); rintro e w' ⟨rfl, ⟨nd, rfl⟩⟩))) | ((first | ((with_reducible refine gate_callee (f := 13) rfl ?_); refine goesL_ (some 42) rfl rfl Try.func13 (by kernel_rfl) rfl #[.string ((⟨#[48]⟩ : ByteArray) ++ a0)] rfl (by (try simp only [List.map_toArray, List.map_cons, List.map_nil]); first | done | rfl | (simp only [List.length_drop, List.length_take]; rfl)) ?_; (with_reducible refine (quant_Number.calls kj1 ((⟨#[48]⟩ : ByteArray) ++ a0) t218 t219 _ A14.out).mono ?_); rintro e w' ⟨rfl, ⟨nd, rfl⟩⟩; refine ⟨_, rfl, ?_⟩) | (go_at_call 13; (with_reducible refine (quant_Number.calls kj1 ((⟨#[48]⟩ : ByteArray) ++ a0) t218 t219 _ A14.out).mono ?_); rintro e w' ⟨rfl, ⟨nd, rfl⟩⟩))) | ((first | ((with_reducible refine gate_callee (f := 9) rfl ?_); refine goesL_ (some 47) rfl rfl Try.func9 (by kernel_rfl) rfl #[.string a0] rfl (by (try simp only [List.map_toArray, List.map_cons, List.map_nil]); first | done | rfl | (simp only [List.length_drop, List.length_take]; rfl)) ?_; (with_reducible refine (quant_Parse.calls kj1 a0 t220 t221 _ A15.out).mono ?_); rintro e w32 ⟨rfl, hb⟩; refine ⟨_, rfl, ?_⟩) | (go_at_call 9; (with_reducible refine (quant_Parse.calls kj1 a0 t220 t221 _ A15.out).mono ?_); rintro e w32 ⟨rfl, hb⟩)); have n0_ := Aside0.mk (below_step (by repeat (first | (with_reducible first | exact HB.out | apply below_alloc | apply pw_below_drewN | apply below_drew1) | exact HB.out)) hb); clear HB; have HB := n0_; clear n0_; (try clear hb); (try clear hb2); (try clear hk); (try clear hi)) | ((first | ((with_reducible refine gate_callee (f := 9) rfl ?_); refine goesL_ (some 53) rfl rfl Try.func9 (by kernel_rfl) rfl #[.string ((⟨#[48]⟩ : ByteArray) ++ a0)] rfl (by (try simp only [List.map_toArray, List.map_cons, List.map_nil]); first | done | rfl | (simp only [List.length_drop, List.length_take]; rfl)) ?_; (with_reducible refine (quant_Parse.calls kj1 ((⟨#[48]⟩ : ByteArray) ++ a0) t222 t223 _ A16.out).mono ?_); rintro e w33 ⟨rfl, hb⟩; refine ⟨_, rfl, ?_⟩) | (go_at_call 9; (with_reducible refine (quant_Parse.calls kj1 ((⟨#[48]⟩ : ByteArray) ++ a0) t222 t223 _ A16.out).mono ?_); rintro e w33 ⟨rfl, hb⟩)); have n0_ := Aside0.mk (below_step (by repeat (first | (with_reducible first | exact HB.out | apply below_alloc | apply pw_below_drewN | apply below_drew1) | exact HB.out)) hb); clear HB; have HB := n0_; clear n0_; (try clear hb); (try clear hb2); (try clear hk); (try clear hi)) | ((first | ((with_reducible refine gate_callee (f := 11) rfl ?_); refine goesL_ (some 58) rfl rfl Try.func11 (by kernel_rfl) rfl #[.string a0] rfl (by (try simp only [List.map_toArray, List.map_cons, List.map_nil]); first | done | rfl | (simp only [List.length_drop, List.length_take]; rfl)) ?_; (with_reducible refine (quant_Milli.calls kj1 a0 t224 t225 _ A17.out).mono ?_); rintro e w34 ⟨rfl, hb⟩; refine ⟨_, rfl, ?_⟩) | (go_at_call 11; (with_reducible refine (quant_Milli.calls kj1 a0 t224 t225 _ A17.out).mono ?_); rintro e w34 ⟨rfl, hb⟩)); have n0_ := Aside0.mk (below_step (by repeat (first | (with_reducible first | exact HB.out | apply below_alloc | apply pw_below_drewN | apply below_drew1) | exact HB.out)) hb); clear HB; have HB := n0_; clear n0_; (try clear hb); (try clear hb2); (try clear hk); (try clear hi)) | ((first | ((with_reducible refine gate_callee (f := 11) rfl ?_); refine goesL_ (some 64) rfl rfl Try.func11 (by kernel_rfl) rfl #[.string ((⟨#[48, 48]⟩ : ByteArray) ++ a0)] rfl (by (try simp only [List.map_toArray, List.map_cons, List.map_nil]); first | done | rfl | (simp only [List.length_drop, List.length_take]; rfl)) ?_; (with_reducible refine (quant_Milli.calls kj1 ((⟨#[48, 48]⟩ : ByteArray) ++ a0) t226 t227 _ A19.out).mono ?_); rintro e w35 ⟨rfl, hb⟩; refine ⟨_, rfl, ?_⟩) | (go_at_call 11; (with_reducible refine (quant_Milli.calls kj1 ((⟨#[48, 48]⟩ : ByteArray) ++ a0) t226 t227 _ A19.out).mono ?_); rintro e w35 ⟨rfl, hb⟩)); have n0_ := Aside0.mk (below_step (by repeat (first | (with_reducible first | exact HB.out | apply below_alloc | apply pw_below_drewN | apply below_drew1) | exact HB.out)) hb); clear HB; have HB := n0_; clear n0_; (try clear hb); (try clear hb2); (try clear hk); (try clear hi)))
                        go_ret
                        exact ⟨by first | rfl | (simp [errW_none, errW_some] <;> rfl) | (simp [*, errW_none, errW_some] <;> rfl), by repeat (first | (with_reducible first | exact HB.out | apply below_alloc | apply pw_below_drewN | apply below_drew1) | exact HB.out)⟩
                    · rw [if_neg c24] at H
                      have c24b0 : (t224 == t226) = false := beq_eq_false_iff_ne.mpr c24
                      have c24b1 : (t224 != t226) = true := bne_iff_ne.mpr c24
                      obtain rfl := Option.some.inj H
                      go_wp2_with (first | ((first | ((with_reducible refine gate_callee (f := 13) rfl ?_); refine goesL_ (some 36) rfl rfl Try.func13 (by kernel_rfl) rfl #[.string a0] rfl (by (try simp only [List.map_toArray, List.map_cons, List.map_nil]); first | done | rfl | (simp only [List.length_drop, List.length_take]; rfl)) ?_; (with_reducible refine (quant_Number.calls kj1 a0 t216 t217 _ A12.out).mono ?_); rintro e w' ⟨rfl, ⟨nd, rfl⟩⟩; refine ⟨_, rfl, ?_⟩) | (go_at_call 13; (with_reducible refine (quant_Number.calls kj1 a0 t216 t217 _ A12.out).mono ?_); rintro e w' ⟨rfl, ⟨nd, rfl⟩⟩))) | ((first | ((with_reducible refine gate_callee (f := 13) rfl ?_); refine goesL_ (some 42) rfl rfl Try.func13 (by kernel_rfl) rfl #[.string ((⟨#[48]⟩ : ByteArray) ++ a0)] rfl (by (try simp only [List.map_toArray, List.map_cons, List.map_nil]); first | done | rfl | (simp only [List.length_drop, List.length_take]; rfl)) ?_; (with_reducible refine (quant_Number.calls kj1 ((⟨#[48]⟩ : ByteArray) ++ a0) t218 t219 _ A14.out).mono ?_); rintro e w' ⟨rfl, ⟨nd, rfl⟩⟩; refine ⟨_, rfl, ?_⟩) | (go_at_call 13; (with_reducible refine (quant_Number.calls kj1 ((⟨#[48]⟩ : ByteArray) ++ a0) t218 t219 _ A14.out).mono ?_); rintro e w' ⟨rfl, ⟨nd, rfl⟩⟩))) | ((first | ((with_reducible refine gate_callee (f := 9) rfl ?_); refine goesL_ (some 47) rfl rfl Try.func9 (by kernel_rfl) rfl #[.string a0] rfl (by (try simp only [List.map_toArray, List.map_cons, List.map_nil]); first | done | rfl | (simp only [List.length_drop, List.length_take]; rfl)) ?_; (with_reducible refine (quant_Parse.calls kj1 a0 t220 t221 _ A15.out).mono ?_); rintro e w36 ⟨rfl, hb⟩; refine ⟨_, rfl, ?_⟩) | (go_at_call 9; (with_reducible refine (quant_Parse.calls kj1 a0 t220 t221 _ A15.out).mono ?_); rintro e w36 ⟨rfl, hb⟩)); have n0_ := Aside0.mk (below_step (by repeat (first | (with_reducible first | exact HB.out | apply below_alloc | apply pw_below_drewN | apply below_drew1) | exact HB.out)) hb); clear HB; have HB := n0_; clear n0_; (try clear hb); (try clear hb2); (try clear hk); (try clear hi)) | ((first | ((with_reducible refine gate_callee (f := 9) rfl ?_); refine goesL_ (some 53) rfl rfl Try.func9 (by kernel_rfl) rfl #[.string ((⟨#[48]⟩ : ByteArray) ++ a0)] rfl (by (try simp only [List.map_toArray, List.map_cons, List.map_nil]); first | done | rfl | (simp only [List.length_drop, List.length_take]; rfl)) ?_; (with_reducible refine (quant_Parse.calls kj1 ((⟨#[48]⟩ : ByteArray) ++ a0) t222 t223 _ A16.out).mono ?_); rintro e w37 ⟨rfl, hb⟩; refine ⟨_, rfl, ?_⟩) | (go_at_call 9; (with_reducible refine (quant_Parse.calls kj1 ((⟨#[48]⟩ : ByteArray) ++ a0) t222 t223 _ A16.out).mono ?_); rintro e w37 ⟨rfl, hb⟩)); have n0_ := Aside0.mk (below_step (by repeat (first | (with_reducible first | exact HB.out | apply below_alloc | apply pw_below_drewN | apply below_drew1) | exact HB.out)) hb); clear HB; have HB := n0_; clear n0_; (try clear hb); (try clear hb2); (try clear hk); (try clear hi)) | ((first | ((with_reducible refine gate_callee (f := 11) rfl ?_); refine goesL_ (some 58) rfl rfl Try.func11 (by kernel_rfl) rfl #[.string a0] rfl (by (try simp only [List.map_toArray, List.map_cons, List.map_nil]); first | done | rfl | (simp only [List.length_drop, List.length_take]; rfl)) ?_; (with_reducible refine (quant_Milli.calls kj1 a0 t224 t225 _ A17.out).mono ?_); rintro e w38 ⟨rfl, hb⟩; refine ⟨_, rfl, ?_⟩) | (go_at_call 11; (with_reducible refine (quant_Milli.calls kj1 a0 t224 t225 _ A17.out).mono ?_); rintro e w38 ⟨rfl, hb⟩)); have n0_ := Aside0.mk (below_step (by repeat (first | (with_reducible first | exact HB.out | apply below_alloc | apply pw_below_drewN | apply below_drew1) | exact HB.out)) hb); clear HB; have HB := n0_; clear n0_; (try clear hb); (try clear hb2); (try clear hk); (try clear hi)) | ((first | ((with_reducible refine gate_callee (f := 11) rfl ?_); refine goesL_ (some 64) rfl rfl Try.func11 (by kernel_rfl) rfl #[.string ((⟨#[48, 48]⟩ : ByteArray) ++ a0)] rfl (by (try simp only [List.map_toArray, List.map_cons, List.map_nil]); first | done | rfl | (simp only [List.length_drop, List.length_take]; rfl)) ?_; (with_reducible refine (quant_Milli.calls kj1 ((⟨#[48, 48]⟩ : ByteArray) ++ a0) t226 t227 _ A19.out).mono ?_); rintro e w39 ⟨rfl, hb⟩; refine ⟨_, rfl, ?_⟩) | (go_at_call 11; (with_reducible refine (quant_Milli.calls kj1 ((⟨#[48, 48]⟩ : ByteArray) ++ a0) t226 t227 _ A19.out).mono ?_); rintro e w39 ⟨rfl, hb⟩)); have n0_ := Aside0.mk (below_step (by repeat (first | (with_reducible first | exact HB.out | apply below_alloc | apply pw_below_drewN | apply below_drew1) | exact HB.out)) hb); clear HB; have HB := n0_; clear n0_; (try clear hb); (try clear hb2); (try clear hk); (try clear hi)))
                      go_ret
                      exact ⟨by first | rfl | (simp [errW_none, errW_some] <;> rfl) | (simp [*, errW_none, errW_some] <;> rfl), by repeat (first | (with_reducible first | exact HB.out | apply below_alloc | apply pw_below_drewN | apply below_drew1) | exact HB.out)⟩
                  · rw [if_neg c23] at H
                    have c23b0 : (t221 == t223) = false := beq_eq_false_iff_ne.mpr c23
                    have c23b1 : (t221 != t223) = true := bne_iff_ne.mpr c23
                    obtain rfl := Option.some.inj H
                    go_wp2_with (first | ((first | ((with_reducible refine gate_callee (f := 13) rfl ?_); refine goesL_ (some 36) rfl rfl Try.func13 (by kernel_rfl) rfl #[.string a0] rfl (by (try simp only [List.map_toArray, List.map_cons, List.map_nil]); first | done | rfl | (simp only [List.length_drop, List.length_take]; rfl)) ?_; (with_reducible refine (quant_Number.calls kj1 a0 t216 t217 _ A12.out).mono ?_); rintro e w' ⟨rfl, ⟨nd, rfl⟩⟩; refine ⟨_, rfl, ?_⟩) | (go_at_call 13; (with_reducible refine (quant_Number.calls kj1 a0 t216 t217 _ A12.out).mono ?_); rintro e w' ⟨rfl, ⟨nd, rfl⟩⟩))) | ((first | ((with_reducible refine gate_callee (f := 13) rfl ?_); refine goesL_ (some 42) rfl rfl Try.func13 (by kernel_rfl) rfl #[.string ((⟨#[48]⟩ : ByteArray) ++ a0)] rfl (by (try simp only [List.map_toArray, List.map_cons, List.map_nil]); first | done | rfl | (simp only [List.length_drop, List.length_take]; rfl)) ?_; (with_reducible refine (quant_Number.calls kj1 ((⟨#[48]⟩ : ByteArray) ++ a0) t218 t219 _ A14.out).mono ?_); rintro e w' ⟨rfl, ⟨nd, rfl⟩⟩; refine ⟨_, rfl, ?_⟩) | (go_at_call 13; (with_reducible refine (quant_Number.calls kj1 ((⟨#[48]⟩ : ByteArray) ++ a0) t218 t219 _ A14.out).mono ?_); rintro e w' ⟨rfl, ⟨nd, rfl⟩⟩))) | ((first | ((with_reducible refine gate_callee (f := 9) rfl ?_); refine goesL_ (some 47) rfl rfl Try.func9 (by kernel_rfl) rfl #[.string a0] rfl (by (try simp only [List.map_toArray, List.map_cons, List.map_nil]); first | done | rfl | (simp only [List.length_drop, List.length_take]; rfl)) ?_; (with_reducible refine (quant_Parse.calls kj1 a0 t220 t221 _ A15.out).mono ?_); rintro e w40 ⟨rfl, hb⟩; refine ⟨_, rfl, ?_⟩) | (go_at_call 9; (with_reducible refine (quant_Parse.calls kj1 a0 t220 t221 _ A15.out).mono ?_); rintro e w40 ⟨rfl, hb⟩)); have n0_ := Aside0.mk (below_step (by repeat (first | (with_reducible first | exact HB.out | apply below_alloc | apply pw_below_drewN | apply below_drew1) | exact HB.out)) hb); clear HB; have HB := n0_; clear n0_; (try clear hb); (try clear hb2); (try clear hk); (try clear hi)) | ((first | ((with_reducible refine gate_callee (f := 9) rfl ?_); refine goesL_ (some 53) rfl rfl Try.func9 (by kernel_rfl) rfl #[.string ((⟨#[48]⟩ : ByteArray) ++ a0)] rfl (by (try simp only [List.map_toArray, List.map_cons, List.map_nil]); first | done | rfl | (simp only [List.length_drop, List.length_take]; rfl)) ?_; (with_reducible refine (quant_Parse.calls kj1 ((⟨#[48]⟩ : ByteArray) ++ a0) t222 t223 _ A16.out).mono ?_); rintro e w41 ⟨rfl, hb⟩; refine ⟨_, rfl, ?_⟩) | (go_at_call 9; (with_reducible refine (quant_Parse.calls kj1 ((⟨#[48]⟩ : ByteArray) ++ a0) t222 t223 _ A16.out).mono ?_); rintro e w41 ⟨rfl, hb⟩)); have n0_ := Aside0.mk (below_step (by repeat (first | (with_reducible first | exact HB.out | apply below_alloc | apply pw_below_drewN | apply below_drew1) | exact HB.out)) hb); clear HB; have HB := n0_; clear n0_; (try clear hb); (try clear hb2); (try clear hk); (try clear hi)) | ((first | ((with_reducible refine gate_callee (f := 11) rfl ?_); refine goesL_ (some 58) rfl rfl Try.func11 (by kernel_rfl) rfl #[.string a0] rfl (by (try simp only [List.map_toArray, List.map_cons, List.map_nil]); first | done | rfl | (simp only [List.length_drop, List.length_take]; rfl)) ?_; (with_reducible refine (quant_Milli.calls kj1 a0 t224 t225 _ A17.out).mono ?_); rintro e w42 ⟨rfl, hb⟩; refine ⟨_, rfl, ?_⟩) | (go_at_call 11; (with_reducible refine (quant_Milli.calls kj1 a0 t224 t225 _ A17.out).mono ?_); rintro e w42 ⟨rfl, hb⟩)); have n0_ := Aside0.mk (below_step (by repeat (first | (with_reducible first | exact HB.out | apply below_alloc | apply pw_below_drewN | apply below_drew1) | exact HB.out)) hb); clear HB; have HB := n0_; clear n0_; (try clear hb); (try clear hb2); (try clear hk); (try clear hi)) | ((first | ((with_reducible refine gate_callee (f := 11) rfl ?_); refine goesL_ (some 64) rfl rfl Try.func11 (by kernel_rfl) rfl #[.string ((⟨#[48, 48]⟩ : ByteArray) ++ a0)] rfl (by (try simp only [List.map_toArray, List.map_cons, List.map_nil]); first | done | rfl | (simp only [List.length_drop, List.length_take]; rfl)) ?_; (with_reducible refine (quant_Milli.calls kj1 ((⟨#[48, 48]⟩ : ByteArray) ++ a0) t226 t227 _ A19.out).mono ?_); rintro e w43 ⟨rfl, hb⟩; refine ⟨_, rfl, ?_⟩) | (go_at_call 11; (with_reducible refine (quant_Milli.calls kj1 ((⟨#[48, 48]⟩ : ByteArray) ++ a0) t226 t227 _ A19.out).mono ?_); rintro e w43 ⟨rfl, hb⟩)); have n0_ := Aside0.mk (below_step (by repeat (first | (with_reducible first | exact HB.out | apply below_alloc | apply pw_below_drewN | apply below_drew1) | exact HB.out)) hb); clear HB; have HB := n0_; clear n0_; (try clear hb); (try clear hb2); (try clear hk); (try clear hi)))
                    go_ret
                    exact ⟨by first | rfl | (simp [errW_none, errW_some] <;> rfl) | (simp [*, errW_none, errW_some] <;> rfl), by repeat (first | (with_reducible first | exact HB.out | apply below_alloc | apply pw_below_drewN | apply below_drew1) | exact HB.out)⟩
                · rw [if_neg c22] at H
                  have c22b0 : (t220 == t222) = false := beq_eq_false_iff_ne.mpr c22
                  have c22b1 : (t220 != t222) = true := bne_iff_ne.mpr c22
                  obtain rfl := Option.some.inj H
                  go_wp2_with (first | ((first | ((with_reducible refine gate_callee (f := 13) rfl ?_); refine goesL_ (some 36) rfl rfl Try.func13 (by kernel_rfl) rfl #[.string a0] rfl (by (try simp only [List.map_toArray, List.map_cons, List.map_nil]); first | done | rfl | (simp only [List.length_drop, List.length_take]; rfl)) ?_; (with_reducible refine (quant_Number.calls kj1 a0 t216 t217 _ A12.out).mono ?_); rintro e w' ⟨rfl, ⟨nd, rfl⟩⟩; refine ⟨_, rfl, ?_⟩) | (go_at_call 13; (with_reducible refine (quant_Number.calls kj1 a0 t216 t217 _ A12.out).mono ?_); rintro e w' ⟨rfl, ⟨nd, rfl⟩⟩))) | ((first | ((with_reducible refine gate_callee (f := 13) rfl ?_); refine goesL_ (some 42) rfl rfl Try.func13 (by kernel_rfl) rfl #[.string ((⟨#[48]⟩ : ByteArray) ++ a0)] rfl (by (try simp only [List.map_toArray, List.map_cons, List.map_nil]); first | done | rfl | (simp only [List.length_drop, List.length_take]; rfl)) ?_; (with_reducible refine (quant_Number.calls kj1 ((⟨#[48]⟩ : ByteArray) ++ a0) t218 t219 _ A14.out).mono ?_); rintro e w' ⟨rfl, ⟨nd, rfl⟩⟩; refine ⟨_, rfl, ?_⟩) | (go_at_call 13; (with_reducible refine (quant_Number.calls kj1 ((⟨#[48]⟩ : ByteArray) ++ a0) t218 t219 _ A14.out).mono ?_); rintro e w' ⟨rfl, ⟨nd, rfl⟩⟩))) | ((first | ((with_reducible refine gate_callee (f := 9) rfl ?_); refine goesL_ (some 47) rfl rfl Try.func9 (by kernel_rfl) rfl #[.string a0] rfl (by (try simp only [List.map_toArray, List.map_cons, List.map_nil]); first | done | rfl | (simp only [List.length_drop, List.length_take]; rfl)) ?_; (with_reducible refine (quant_Parse.calls kj1 a0 t220 t221 _ A15.out).mono ?_); rintro e w44 ⟨rfl, hb⟩; refine ⟨_, rfl, ?_⟩) | (go_at_call 9; (with_reducible refine (quant_Parse.calls kj1 a0 t220 t221 _ A15.out).mono ?_); rintro e w44 ⟨rfl, hb⟩)); have n0_ := Aside0.mk (below_step (by repeat (first | (with_reducible first | exact HB.out | apply below_alloc | apply pw_below_drewN | apply below_drew1) | exact HB.out)) hb); clear HB; have HB := n0_; clear n0_; (try clear hb); (try clear hb2); (try clear hk); (try clear hi)) | ((first | ((with_reducible refine gate_callee (f := 9) rfl ?_); refine goesL_ (some 53) rfl rfl Try.func9 (by kernel_rfl) rfl #[.string ((⟨#[48]⟩ : ByteArray) ++ a0)] rfl (by (try simp only [List.map_toArray, List.map_cons, List.map_nil]); first | done | rfl | (simp only [List.length_drop, List.length_take]; rfl)) ?_; (with_reducible refine (quant_Parse.calls kj1 ((⟨#[48]⟩ : ByteArray) ++ a0) t222 t223 _ A16.out).mono ?_); rintro e w45 ⟨rfl, hb⟩; refine ⟨_, rfl, ?_⟩) | (go_at_call 9; (with_reducible refine (quant_Parse.calls kj1 ((⟨#[48]⟩ : ByteArray) ++ a0) t222 t223 _ A16.out).mono ?_); rintro e w45 ⟨rfl, hb⟩)); have n0_ := Aside0.mk (below_step (by repeat (first | (with_reducible first | exact HB.out | apply below_alloc | apply pw_below_drewN | apply below_drew1) | exact HB.out)) hb); clear HB; have HB := n0_; clear n0_; (try clear hb); (try clear hb2); (try clear hk); (try clear hi)) | ((first | ((with_reducible refine gate_callee (f := 11) rfl ?_); refine goesL_ (some 58) rfl rfl Try.func11 (by kernel_rfl) rfl #[.string a0] rfl (by (try simp only [List.map_toArray, List.map_cons, List.map_nil]); first | done | rfl | (simp only [List.length_drop, List.length_take]; rfl)) ?_; (with_reducible refine (quant_Milli.calls kj1 a0 t224 t225 _ A17.out).mono ?_); rintro e w46 ⟨rfl, hb⟩; refine ⟨_, rfl, ?_⟩) | (go_at_call 11; (with_reducible refine (quant_Milli.calls kj1 a0 t224 t225 _ A17.out).mono ?_); rintro e w46 ⟨rfl, hb⟩)); have n0_ := Aside0.mk (below_step (by repeat (first | (with_reducible first | exact HB.out | apply below_alloc | apply pw_below_drewN | apply below_drew1) | exact HB.out)) hb); clear HB; have HB := n0_; clear n0_; (try clear hb); (try clear hb2); (try clear hk); (try clear hi)) | ((first | ((with_reducible refine gate_callee (f := 11) rfl ?_); refine goesL_ (some 64) rfl rfl Try.func11 (by kernel_rfl) rfl #[.string ((⟨#[48, 48]⟩ : ByteArray) ++ a0)] rfl (by (try simp only [List.map_toArray, List.map_cons, List.map_nil]); first | done | rfl | (simp only [List.length_drop, List.length_take]; rfl)) ?_; (with_reducible refine (quant_Milli.calls kj1 ((⟨#[48, 48]⟩ : ByteArray) ++ a0) t226 t227 _ A19.out).mono ?_); rintro e w47 ⟨rfl, hb⟩; refine ⟨_, rfl, ?_⟩) | (go_at_call 11; (with_reducible refine (quant_Milli.calls kj1 ((⟨#[48, 48]⟩ : ByteArray) ++ a0) t226 t227 _ A19.out).mono ?_); rintro e w47 ⟨rfl, hb⟩)); have n0_ := Aside0.mk (below_step (by repeat (first | (with_reducible first | exact HB.out | apply below_alloc | apply pw_below_drewN | apply below_drew1) | exact HB.out)) hb); clear HB; have HB := n0_; clear n0_; (try clear hb); (try clear hb2); (try clear hk); (try clear hi)))
                  go_ret
                  exact ⟨by first | rfl | (simp [errW_none, errW_some] <;> rfl) | (simp [*, errW_none, errW_some] <;> rfl), by repeat (first | (with_reducible first | exact HB.out | apply below_alloc | apply pw_below_drewN | apply below_drew1) | exact HB.out)⟩
              · rw [if_neg c21] at H
                have c21b0 : (t217 == t219) = false := beq_eq_false_iff_ne.mpr c21
                have c21b1 : (t217 != t219) = true := bne_iff_ne.mpr c21
                obtain rfl := Option.some.inj H
                go_wp2_with (first | ((first | ((with_reducible refine gate_callee (f := 13) rfl ?_); refine goesL_ (some 36) rfl rfl Try.func13 (by kernel_rfl) rfl #[.string a0] rfl (by (try simp only [List.map_toArray, List.map_cons, List.map_nil]); first | done | rfl | (simp only [List.length_drop, List.length_take]; rfl)) ?_; (with_reducible refine (quant_Number.calls kj1 a0 t216 t217 _ A12.out).mono ?_); rintro e w' ⟨rfl, ⟨nd, rfl⟩⟩; refine ⟨_, rfl, ?_⟩) | (go_at_call 13; (with_reducible refine (quant_Number.calls kj1 a0 t216 t217 _ A12.out).mono ?_); rintro e w' ⟨rfl, ⟨nd, rfl⟩⟩))) | ((first | ((with_reducible refine gate_callee (f := 13) rfl ?_); refine goesL_ (some 42) rfl rfl Try.func13 (by kernel_rfl) rfl #[.string ((⟨#[48]⟩ : ByteArray) ++ a0)] rfl (by (try simp only [List.map_toArray, List.map_cons, List.map_nil]); first | done | rfl | (simp only [List.length_drop, List.length_take]; rfl)) ?_; (with_reducible refine (quant_Number.calls kj1 ((⟨#[48]⟩ : ByteArray) ++ a0) t218 t219 _ A14.out).mono ?_); rintro e w' ⟨rfl, ⟨nd, rfl⟩⟩; refine ⟨_, rfl, ?_⟩) | (go_at_call 13; (with_reducible refine (quant_Number.calls kj1 ((⟨#[48]⟩ : ByteArray) ++ a0) t218 t219 _ A14.out).mono ?_); rintro e w' ⟨rfl, ⟨nd, rfl⟩⟩))) | ((first | ((with_reducible refine gate_callee (f := 9) rfl ?_); refine goesL_ (some 47) rfl rfl Try.func9 (by kernel_rfl) rfl #[.string a0] rfl (by (try simp only [List.map_toArray, List.map_cons, List.map_nil]); first | done | rfl | (simp only [List.length_drop, List.length_take]; rfl)) ?_; (with_reducible refine (quant_Parse.calls kj1 a0 t220 t221 _ A15.out).mono ?_); rintro e w48 ⟨rfl, hb⟩; refine ⟨_, rfl, ?_⟩) | (go_at_call 9; (with_reducible refine (quant_Parse.calls kj1 a0 t220 t221 _ A15.out).mono ?_); rintro e w48 ⟨rfl, hb⟩)); have n0_ := Aside0.mk (below_step (by repeat (first | (with_reducible first | exact HB.out | apply below_alloc | apply pw_below_drewN | apply below_drew1) | exact HB.out)) hb); clear HB; have HB := n0_; clear n0_; (try clear hb); (try clear hb2); (try clear hk); (try clear hi)) | ((first | ((with_reducible refine gate_callee (f := 9) rfl ?_); refine goesL_ (some 53) rfl rfl Try.func9 (by kernel_rfl) rfl #[.string ((⟨#[48]⟩ : ByteArray) ++ a0)] rfl (by (try simp only [List.map_toArray, List.map_cons, List.map_nil]); first | done | rfl | (simp only [List.length_drop, List.length_take]; rfl)) ?_; (with_reducible refine (quant_Parse.calls kj1 ((⟨#[48]⟩ : ByteArray) ++ a0) t222 t223 _ A16.out).mono ?_); rintro e w49 ⟨rfl, hb⟩; refine ⟨_, rfl, ?_⟩) | (go_at_call 9; (with_reducible refine (quant_Parse.calls kj1 ((⟨#[48]⟩ : ByteArray) ++ a0) t222 t223 _ A16.out).mono ?_); rintro e w49 ⟨rfl, hb⟩)); have n0_ := Aside0.mk (below_step (by repeat (first | (with_reducible first | exact HB.out | apply below_alloc | apply pw_below_drewN | apply below_drew1) | exact HB.out)) hb); clear HB; have HB := n0_; clear n0_; (try clear hb); (try clear hb2); (try clear hk); (try clear hi)) | ((first | ((with_reducible refine gate_callee (f := 11) rfl ?_); refine goesL_ (some 58) rfl rfl Try.func11 (by kernel_rfl) rfl #[.string a0] rfl (by (try simp only [List.map_toArray, List.map_cons, List.map_nil]); first | done | rfl | (simp only [List.length_drop, List.length_take]; rfl)) ?_; (with_reducible refine (quant_Milli.calls kj1 a0 t224 t225 _ A17.out).mono ?_); rintro e w50 ⟨rfl, hb⟩; refine ⟨_, rfl, ?_⟩) | (go_at_call 11; (with_reducible refine (quant_Milli.calls kj1 a0 t224 t225 _ A17.out).mono ?_); rintro e w50 ⟨rfl, hb⟩)); have n0_ := Aside0.mk (below_step (by repeat (first | (with_reducible first | exact HB.out | apply below_alloc | apply pw_below_drewN | apply below_drew1) | exact HB.out)) hb); clear HB; have HB := n0_; clear n0_; (try clear hb); (try clear hb2); (try clear hk); (try clear hi)) | ((first | ((with_reducible refine gate_callee (f := 11) rfl ?_); refine goesL_ (some 64) rfl rfl Try.func11 (by kernel_rfl) rfl #[.string ((⟨#[48, 48]⟩ : ByteArray) ++ a0)] rfl (by (try simp only [List.map_toArray, List.map_cons, List.map_nil]); first | done | rfl | (simp only [List.length_drop, List.length_take]; rfl)) ?_; (with_reducible refine (quant_Milli.calls kj1 ((⟨#[48, 48]⟩ : ByteArray) ++ a0) t226 t227 _ A19.out).mono ?_); rintro e w51 ⟨rfl, hb⟩; refine ⟨_, rfl, ?_⟩) | (go_at_call 11; (with_reducible refine (quant_Milli.calls kj1 ((⟨#[48, 48]⟩ : ByteArray) ++ a0) t226 t227 _ A19.out).mono ?_); rintro e w51 ⟨rfl, hb⟩)); have n0_ := Aside0.mk (below_step (by repeat (first | (with_reducible first | exact HB.out | apply below_alloc | apply pw_below_drewN | apply below_drew1) | exact HB.out)) hb); clear HB; have HB := n0_; clear n0_; (try clear hb); (try clear hb2); (try clear hk); (try clear hi)))
                go_ret
                exact ⟨by first | rfl | (simp [errW_none, errW_some] <;> rfl) | (simp [*, errW_none, errW_some] <;> rfl), by repeat (first | (with_reducible first | exact HB.out | apply below_alloc | apply pw_below_drewN | apply below_drew1) | exact HB.out)⟩
            · rw [if_neg c20] at H
              have c20b0 : (t216 == t218) = false := beq_eq_false_iff_ne.mpr c20
              have c20b1 : (t216 != t218) = true := bne_iff_ne.mpr c20
              obtain rfl := Option.some.inj H
              go_wp2_with (first | ((first | ((with_reducible refine gate_callee (f := 13) rfl ?_); refine goesL_ (some 36) rfl rfl Try.func13 (by kernel_rfl) rfl #[.string a0] rfl (by (try simp only [List.map_toArray, List.map_cons, List.map_nil]); first | done | rfl | (simp only [List.length_drop, List.length_take]; rfl)) ?_; (with_reducible refine (quant_Number.calls kj1 a0 t216 t217 _ A12.out).mono ?_); rintro e w' ⟨rfl, ⟨nd, rfl⟩⟩; refine ⟨_, rfl, ?_⟩) | (go_at_call 13; (with_reducible refine (quant_Number.calls kj1 a0 t216 t217 _ A12.out).mono ?_); rintro e w' ⟨rfl, ⟨nd, rfl⟩⟩))) | ((first | ((with_reducible refine gate_callee (f := 13) rfl ?_); refine goesL_ (some 42) rfl rfl Try.func13 (by kernel_rfl) rfl #[.string ((⟨#[48]⟩ : ByteArray) ++ a0)] rfl (by (try simp only [List.map_toArray, List.map_cons, List.map_nil]); first | done | rfl | (simp only [List.length_drop, List.length_take]; rfl)) ?_; (with_reducible refine (quant_Number.calls kj1 ((⟨#[48]⟩ : ByteArray) ++ a0) t218 t219 _ A14.out).mono ?_); rintro e w' ⟨rfl, ⟨nd, rfl⟩⟩; refine ⟨_, rfl, ?_⟩) | (go_at_call 13; (with_reducible refine (quant_Number.calls kj1 ((⟨#[48]⟩ : ByteArray) ++ a0) t218 t219 _ A14.out).mono ?_); rintro e w' ⟨rfl, ⟨nd, rfl⟩⟩))) | ((first | ((with_reducible refine gate_callee (f := 9) rfl ?_); refine goesL_ (some 47) rfl rfl Try.func9 (by kernel_rfl) rfl #[.string a0] rfl (by (try simp only [List.map_toArray, List.map_cons, List.map_nil]); first | done | rfl | (simp only [List.length_drop, List.length_take]; rfl)) ?_; (with_reducible refine (quant_Parse.calls kj1 a0 t220 t221 _ A15.out).mono ?_); rintro e w52 ⟨rfl, hb⟩; refine ⟨_, rfl, ?_⟩) | (go_at_call 9; (with_reducible refine (quant_Parse.calls kj1 a0 t220 t221 _ A15.out).mono ?_); rintro e w52 ⟨rfl, hb⟩)); have n0_ := Aside0.mk (below_step (by repeat (first | (with_reducible first | exact HB.out | apply below_alloc | apply pw_below_drewN | apply below_drew1) | exact HB.out)) hb); clear HB; have HB := n0_; clear n0_; (try clear hb); (try clear hb2); (try clear hk); (try clear hi)) | ((first | ((with_reducible refine gate_callee (f := 9) rfl ?_); refine goesL_ (some 53) rfl rfl Try.func9 (by kernel_rfl) rfl #[.string ((⟨#[48]⟩ : ByteArray) ++ a0)] rfl (by (try simp only [List.map_toArray, List.map_cons, List.map_nil]); first | done | rfl | (simp only [List.length_drop, List.length_take]; rfl)) ?_; (with_reducible refine (quant_Parse.calls kj1 ((⟨#[48]⟩ : ByteArray) ++ a0) t222 t223 _ A16.out).mono ?_); rintro e w53 ⟨rfl, hb⟩; refine ⟨_, rfl, ?_⟩) | (go_at_call 9; (with_reducible refine (quant_Parse.calls kj1 ((⟨#[48]⟩ : ByteArray) ++ a0) t222 t223 _ A16.out).mono ?_); rintro e w53 ⟨rfl, hb⟩)); have n0_ := Aside0.mk (below_step (by repeat (first | (with_reducible first | exact HB.out | apply below_alloc | apply pw_below_drewN | apply below_drew1) | exact HB.out)) hb); clear HB; have HB := n0_; clear n0_; (try clear hb); (try clear hb2); (try clear hk); (try clear hi)) | ((first | ((with_reducible refine gate_callee (f := 11) rfl ?_); refine goesL_ (some 58) rfl rfl Try.func11 (by kernel_rfl) rfl #[.string a0] rfl (by (try simp only [List.map_toArray, List.map_cons, List.map_nil]); first | done | rfl | (simp only [List.length_drop, List.length_take]; rfl)) ?_; (with_reducible refine (quant_Milli.calls kj1 a0 t224 t225 _ A17.out).mono ?_); rintro e w54 ⟨rfl, hb⟩; refine ⟨_, rfl, ?_⟩) | (go_at_call 11; (with_reducible refine (quant_Milli.calls kj1 a0 t224 t225 _ A17.out).mono ?_); rintro e w54 ⟨rfl, hb⟩)); have n0_ := Aside0.mk (below_step (by repeat (first | (with_reducible first | exact HB.out | apply below_alloc | apply pw_below_drewN | apply below_drew1) | exact HB.out)) hb); clear HB; have HB := n0_; clear n0_; (try clear hb); (try clear hb2); (try clear hk); (try clear hi)) | ((first | ((with_reducible refine gate_callee (f := 11) rfl ?_); refine goesL_ (some 64) rfl rfl Try.func11 (by kernel_rfl) rfl #[.string ((⟨#[48, 48]⟩ : ByteArray) ++ a0)] rfl (by (try simp only [List.map_toArray, List.map_cons, List.map_nil]); first | done | rfl | (simp only [List.length_drop, List.length_take]; rfl)) ?_; (with_reducible refine (quant_Milli.calls kj1 ((⟨#[48, 48]⟩ : ByteArray) ++ a0) t226 t227 _ A19.out).mono ?_); rintro e w55 ⟨rfl, hb⟩; refine ⟨_, rfl, ?_⟩) | (go_at_call 11; (with_reducible refine (quant_Milli.calls kj1 ((⟨#[48, 48]⟩ : ByteArray) ++ a0) t226 t227 _ A19.out).mono ?_); rintro e w55 ⟨rfl, hb⟩)); have n0_ := Aside0.mk (below_step (by repeat (first | (with_reducible first | exact HB.out | apply below_alloc | apply pw_below_drewN | apply below_drew1) | exact HB.out)) hb); clear HB; have HB := n0_; clear n0_; (try clear hb); (try clear hb2); (try clear hk); (try clear hi)))
              go_ret
              exact ⟨by first | rfl | (simp [errW_none, errW_some] <;> rfl) | (simp [*, errW_none, errW_some] <;> rfl), by repeat (first | (with_reducible first | exact HB.out | apply below_alloc | apply pw_below_drewN | apply below_drew1) | exact HB.out)⟩
          · rw [if_neg c18] at H
            exact absurd H (by simp)
        · rw [if_neg c13] at H
          exact absurd H (by simp)
/-- THE ONE PURE STATEMENT of triremelaw03_QuantZeros: yours. -/
def triremelaw03_QuantZeros.Pure : Prop := ∀ (a0 : ByteArray), a0.size ≤ 140737488351232 → ∃ k, triremelaw03_QuantZeros.f k a0 = some true
theorem triremelaw03_QuantZeros.walk (P : triremelaw03_QuantZeros.Pure) (a0 : ByteArray) (w : World) (w0 : a0.size ≤ 140737488351232) :
    Calls Try.prog 7 #[.string a0] w fun e w' => e = .returned (.bool true) ∧ Below w.heap.size w w' := by
  obtain ⟨k, h⟩ := P a0 w0
  refine (triremelaw03_QuantZeros.calls k a0 true w h).mono ?_
  rintro e w' ⟨rfl, hd⟩
  exact ⟨rfl, hd⟩
end Go.Proofs.Ytpmmiabcfnejmaa.H
end
section
namespace Go.Proofs.Ytpmmiabcfnejmaa.H
open Go.RowKit Go.Proofs.YtpmmiabcfnejmaaW.PrintWords Go.Proofs.YtpmmiabcfnejmaaW.PrintLast Go.Proofs.YtpmmiabcfnejmaaW.PrintMore
set_option linter.unusedVariables false
set_option linter.unusedSimpArgs false
theorem heads_cons (c : UInt8) (l : List UInt8) (h : digB c = true) : heads (c :: l) = heads l + 1 := by
  unfold heads; rw [List.takeWhile_cons, if_pos h]; rfl
end Go.Proofs.Ytpmmiabcfnejmaa.H
end
section
namespace Go.Proofs.Ytpmmiabcfnejmaa.H
open Go.RowKit Go.Proofs.YtpmmiabcfnejmaaW.PrintWords Go.Proofs.YtpmmiabcfnejmaaW.PrintLast Go.Proofs.YtpmmiabcfnejmaaW.PrintMore
set_option linter.unusedVariables false
set_option linter.unusedSimpArgs false
theorem one_cast (d : Nat) : (48 + (d : Int)) = ((48 + d : Nat) : Int) := by omega
theorem one_dig (d : Nat) (h : d < 10) : DigS (strOfNums [((48 + d : Nat) : Int)]) := by
  intro c hc
  rw [one_toList] at hc
  rcases List.mem_singleton.1 hc with rfl
  simp only [digB, ofNat_toNat d h]; simp; omega
theorem decGo_val : ∀ (e n : Nat), n < 10 ^ (e + 1) → DigS (strOfNums (decGo (e + 1) n [])) ∧ dval (strOfNums (decGo (e + 1) n [])).toList 0 = n ∧ 1 ≤ (strOfNums (decGo (e + 1) n [])).size := by
  intro e
  induction e with
  | zero =>
    intro n h
    have h1 : n < 10 := by simpa using h
    simp only [decGo, h1, if_true]
    rw [one_cast]
    refine ⟨one_dig n h1, ?_, Nat.le_refl 1⟩
    rw [one_toList]; simp only [dval, ofNat_toNat n h1]; omega
  | succ e ih =>
    intro n h
    rw [decGo]
    by_cases h1 : n < 10
    · simp only [h1, if_true]
      rw [one_cast]
      refine ⟨one_dig n h1, ?_, Nat.le_refl 1⟩
      rw [one_toList]; simp only [dval, ofNat_toNat n h1]; omega
    · simp only [h1, if_false]
      have hq : n / 10 < 10 ^ (e + 1) := by rw [Nat.pow_succ] at h; omega
      have hm : n % 10 < 10 := by omega
      obtain ⟨a1, a2, a3⟩ := ih (n / 10) hq
      rw [decGo_app _ _ [48 + ((n % 10 : Nat) : Int)], strOfNums_app, one_cast]
      refine ⟨digS_app a1 (one_dig _ hm), ?_, ?_⟩
      · rw [append_toList, dval_app, a2, one_toList]; simp only [dval, ofNat_toNat _ hm]; omega
      · rw [ByteArray.size_append]; omega
theorem decB_val (n : Nat) (hn : n ≤ 9000000000000000000) : DigS (decB (n : Int)) ∧ dval (decB (n : Int)).toList 0 = n ∧ 1 ≤ (decB (n : Int)).size := by
  have h := decGo_val 19 n (Nat.lt_of_le_of_lt hn (by decide))
  exact h
theorem heads_app : ∀ (l r : List UInt8), (∀ c ∈ l, digB c = true) → heads r = 0 → heads (l ++ r) = l.length
  | [], r, _, h => h
  | c :: l, r, h, h2 => by
    rw [List.cons_append, heads_cons _ _ (h c List.mem_cons_self), heads_app l r (fun c hc => h c (List.mem_cons_of_mem _ hc)) h2]; rfl
theorem take_whole (w r : ByteArray) : (w ++ r).extract 0 w.size = w := by
  apply toList_inj
  rw [extract_toList, append_toList, List.drop_zero, ← toList_len, List.take_left]
theorem drop_whole (w r : ByteArray) : (w ++ r).extract w.size (w ++ r).size = r := by
  apply toList_inj
  rw [extract_toList, List.take_of_length_le (by rw [toList_len]; exact Nat.le_refl _), append_toList, ← toList_len, List.drop_left]
theorem app_heads (w r : ByteArray) (hw : DigS w) (hr : heads r.toList = 0) : heads (w ++ r).toList = w.size := by
  rw [append_toList, heads_app _ _ hw hr, toList_len]
theorem amtR_plain (w r : ByteArray) (each : Nat) (hw : DigS w) (h1 : 1 ≤ w.size) (hr : heads r.toList = 0) (hd : r.size = 0 ∨ bt r 0 ≠ 46) : amtR (w ++ r) each = tailR w 0 r each := by
  unfold amtR cutR
  simp only [app_heads w r hw hr, take_whole, drop_whole, show ¬ w.size = 0 by omega, hd, if_true, if_false]
  rfl
theorem dot_toList (x : ByteArray) : ((⟨#[46]⟩ : ByteArray) ++ x).toList = 46 :: x.toList := by
  rw [append_toList, ByteArray.toList_eq]; rfl
theorem dot_bt (x : ByteArray) : bt ((⟨#[46]⟩ : ByteArray) ++ x) 0 = 46 := by
  have hs : 0 < ((⟨#[46]⟩ : ByteArray) ++ x).size := by rw [ByteArray.size_append]; show 0 < 1 + x.size; omega
  have e := drop_bt _ 0 hs
  have e2 := bt_nat _ 0 hs
  rw [show ((0 : Nat) : Int) = 0 from rfl] at e2
  rw [List.drop_zero, dot_toList] at e
  rw [e2, ← (List.cons.inj e).1]; rfl
theorem dot_tail (x : ByteArray) (n m : Nat) : ((⟨#[46]⟩ : ByteArray) ++ x).extract (n + 1) (m + 1) = x.extract n m := by
  apply toList_inj
  rw [extract_toList, extract_toList, dot_toList]; rfl
theorem amtR_dot (w p r : ByteArray) (each : Nat) (hw : DigS w) (h1 : 1 ≤ w.size) (hp : DigS p) (h3 : p.size = 3) (hr : heads r.toList = 0) : amtR (((w ++ (⟨#[46]⟩ : ByteArray)) ++ p) ++ r) each = tailR w (dval p.toList 0) r each := by
  have ea : ((w ++ (⟨#[46]⟩ : ByteArray)) ++ p) ++ r = w ++ ((⟨#[46]⟩ : ByteArray) ++ (p ++ r)) := by
    apply toList_inj; simp only [append_toList, List.append_assoc]
  have hz : ((⟨#[46]⟩ : ByteArray) ++ (p ++ r)).size = (p ++ r).size + 1 := by rw [ByteArray.size_append]; show 1 + _ = _; omega
  have hpr : (p ++ r).size = 3 + r.size := by rw [ByteArray.size_append, h3]
  have hh : heads ((⟨#[46]⟩ : ByteArray) ++ (p ++ r)).toList = 0 := by rw [dot_toList]; rfl
  have hpad : (p ++ (⟨#[48, 48]⟩ : ByteArray)).extract 0 3 = p := by rw [← h3]; exact take_whole _ _
  have e1 : ((⟨#[46]⟩ : ByteArray) ++ (p ++ r)).extract 1 ((p ++ r).size + 1) = p ++ r := by
    rw [dot_tail]
    apply toList_inj
    rw [extract_toList, List.drop_zero, List.take_of_length_le (by rw [toList_len]; exact Nat.le_refl _)]
  have e2 : ((⟨#[46]⟩ : ByteArray) ++ (p ++ r)).extract 1 (1 + 3) = p := by
    rw [show 1 + 3 = 3 + 1 from rfl, dot_tail (p ++ r) 0 3, ← h3]; exact take_whole _ _
  have e3 : ((⟨#[46]⟩ : ByteArray) ++ (p ++ r)).extract (1 + 3) ((p ++ r).size + 1) = r := by
    rw [show 1 + 3 = 3 + 1 from rfl, dot_tail, ← h3]; exact drop_whole _ _
  have e4 : heads (p ++ r).toList = 3 := by rw [app_heads p r hp hr, h3]
  rw [ea]
  unfold amtR cutR
  simp only [app_heads w _ hw hh, take_whole, drop_whole, show ¬ w.size = 0 by omega, if_false, hz, Nat.add_eq_zero_iff, dot_bt, ne_eq, not_true_eq_false, or_false, show ¬ (1 = 0) by decide, and_false, e1, e4, e2, e3, show ¬ (3 < 1) by decide, show ¬ (3 < 3) by decide, or_self, hpad, if_true]
  rfl
theorem tail3 (p : Nat) (h : p < 1000) : ∃ q : ByteArray, (decB ((1000 + p : Nat) : Int)).size = 4 ∧ (decB ((1000 + p : Nat) : Int)).extract 1 4 = q ∧ DigS q ∧ q.size = 3 ∧ dval q.toList 0 = p := by
  have e : decGo 20 (1000 + p) [] = [48 + (((1000 + p) / 10 / 10 / 10 : Nat) : Int), 48 + (((1000 + p) / 10 / 10 % 10 : Nat) : Int), 48 + (((1000 + p) / 10 % 10 : Nat) : Int), 48 + (((1000 + p) % 10 : Nat) : Int)] := by
    simp only [decGo]
    rw [if_neg (by omega), if_neg (by omega), if_neg (by omega), if_pos (by omega)]
  have e2 : decB ((1000 + p : Nat) : Int) = strOfNums [((48 + (1000 + p) / 10 / 10 / 10 : Nat) : Int)] ++ (strOfNums [((48 + (1000 + p) / 10 / 10 % 10 : Nat) : Int)] ++ (strOfNums [((48 + (1000 + p) / 10 % 10 : Nat) : Int)] ++ strOfNums [((48 + (1000 + p) % 10 : Nat) : Int)])) := by
    unfold decB
    rw [Int.toNat_natCast, e]
    simp only [one_cast]
    rw [← strOfNums_app, ← strOfNums_app, ← strOfNums_app]; rfl
  obtain ⟨hd, hv, _⟩ := decB_val (1000 + p) (by omega)
  have hsz : (decB ((1000 + p : Nat) : Int)).size = 4 := by rw [e2]; simp only [ByteArray.size_append, one_size]
  refine ⟨_, hsz, rfl, digS_sub hd _ _, by rw [ByteArray.size_extract]; omega, ?_⟩
  have e3 : ((decB ((1000 + p : Nat) : Int)).extract 1 4).toList = (strOfNums [((48 + (1000 + p) / 10 / 10 % 10 : Nat) : Int)] ++ (strOfNums [((48 + (1000 + p) / 10 % 10 : Nat) : Int)] ++ strOfNums [((48 + (1000 + p) % 10 : Nat) : Int)])).toList := by
    rw [extract_toList, List.take_of_length_le (by rw [toList_len, hsz]; exact Nat.le_refl _), e2, append_toList, one_toList]
    rfl
  have g1 : (1000 + p) / 10 / 10 % 10 < 10 := by omega
  have g2 : (1000 + p) / 10 % 10 < 10 := by omega
  have g3 : (1000 + p) % 10 < 10 := by omega
  rw [e3, append_toList, append_toList, one_toList, one_toList, one_toList]
  simp only [List.cons_append, List.nil_append, dval, ofNat_toNat _ g1, ofNat_toNat _ g2, ofNat_toNat _ g3]
  omega
def unitsL : List ByteArray := [(⟨#[]⟩ : ByteArray), (⟨#[107]⟩ : ByteArray), (⟨#[77]⟩ : ByteArray), (⟨#[75, 105]⟩ : ByteArray), (⟨#[77, 105]⟩ : ByteArray)]
def worthL : List Int := [1, 1000, 1000000, 1024, 1048576]
theorem unit_facts (K : Nat) (h : K < 5) : ∃ (un : ByteArray) (wo : Nat), rdOf ByteArray.empty unitsL (K : Int) = un ∧ rd worthL (K : Int) = (wo : Int) ∧ heads un.toList = 0 ∧ (un.size = 0 ∨ bt un 0 ≠ 46) ∧ un.size ≤ 2 ∧ unitO un = some ((1000 * wo : Nat) : Int) ∧ 1 ≤ wo ∧ wo ≤ 1048576 := by
  match K, h with
  | 0, _ => exact ⟨⟨#[]⟩, 1, rfl, rfl, by rw [ByteArray.toList_eq]; rfl, .inl rfl, by decide, by decide, by decide, by decide⟩
  | 1, _ => exact ⟨⟨#[107]⟩, 1000, rfl, rfl, by rw [ByteArray.toList_eq]; rfl, .inr (by decide), by decide, by decide, by decide, by decide⟩
  | 2, _ => exact ⟨⟨#[77]⟩, 1000000, rfl, rfl, by rw [ByteArray.toList_eq]; rfl, .inr (by decide), by decide, by decide, by decide, by decide⟩
  | 3, _ => exact ⟨⟨#[75, 105]⟩, 1024, rfl, rfl, by rw [ByteArray.toList_eq]; rfl, .inr (by decide), by decide, by decide, by decide, by decide⟩
  | 4, _ => exact ⟨⟨#[77, 105]⟩, 1048576, rfl, rfl, by rw [ByteArray.toList_eq]; rfl, .inr (by decide), by decide, by decide, by decide, by decide⟩
theorem tail_plain (w r : ByteArray) (n u x : Nat) (hn : dval w.toList 0 = n) (hu : unitO r = some (u : Int)) (p each : Nat) (hx : (n * 1000 + p) * u = x * each) (h0 : 0 < each) (hm : x ≤ 1125899906842624) : tailR w p r each = ((x : Int), 0) := by
  unfold tailR
  rw [hu]
  simp only [Int.toNat_natCast, hn]
  unfold amtFin vOf
  rw [hx, Nat.mul_mod_left, Nat.mul_div_cancel _ h0, if_pos rfl, if_pos hm]
set_option maxRecDepth 100000 in
theorem unit_arith (n p wo : Nat) (hn : n ≤ 65535) (hp : p < 1000) (hw : wo ≤ 1048576) : n * wo ≤ 1125899906842624 ∧ (1000 * n + p) * wo ≤ 1125899906842624 ∧ wrap64 ((n : Int) * (wo : Int)) = ((n * wo : Nat) : Int) ∧
    wrap64 ((wrap64 ((wrap64 (1000 * (n : Int))) + (p : Int))) * (wo : Int)) = (((1000 * n + p) * wo : Nat) : Int) ∧ wrap64 (1000 + (p : Int)) = ((1000 + p : Nat) : Int) := by
  have hc2 : 1000 * n + p ≤ 65536000 := by omega
  have hnw : n * wo ≤ 65535 * 1048576 := Nat.mul_le_mul hn hw
  have hnw2 : (1000 * n + p) * wo ≤ 65536000 * 1048576 := Nat.mul_le_mul hc2 hw
  have hx1 : n * wo ≤ 1125899906842624 := by omega
  have hx2 : (1000 * n + p) * wo ≤ 1125899906842624 := by omega
  refine ⟨hx1, hx2, ?_, ?_, ?_⟩
  · rw [show (n : Int) * (wo : Int) = ((n * wo : Nat) : Int) from (Int.natCast_mul _ _).symm, wrap_nat _ (by omega)]
  · rw [wrap_small (i := 1000 * (n : Int)) (by omega) (by omega), wrap_small (i := 1000 * (n : Int) + (p : Int)) (by omega) (by omega),
      show (1000 * (n : Int) + (p : Int)) * (wo : Int) = (((1000 * n + p) * wo : Nat) : Int) by push_cast; rfl, wrap_nat _ (by omega)]
  · rw [wrap_small (by omega) (by omega)]; push_cast; rfl
set_option maxRecDepth 100000 in
theorem units_pure : triremelaw03_QuantUnits.Pure := by
  intro a0 a1 a2 h0 h1 h2
  apply Ev.rounds
  have b0 : 0 ≤ a0 ∧ a0 ≤ 65535 := by
    have h : IntKind.u16.min ≤ a0 ∧ a0 ≤ IntKind.u16.max := by simpa [Lit.wf] using h0
    exact h
  have b1 : 0 ≤ a1 ∧ a1 ≤ 65535 := by
    have h : IntKind.u16.min ≤ a1 ∧ a1 ≤ IntKind.u16.max := by simpa [Lit.wf] using h1
    exact h
  have b2 : 0 ≤ a2 ∧ a2 ≤ 255 := by
    have h : IntKind.u8.min ≤ a2 ∧ a2 ≤ IntKind.u8.max := by simpa [Lit.wf] using h2
    exact h
  clear h0 h1 h2
  obtain ⟨n, rfl⟩ : ∃ n : Nat, a0 = n := ⟨a0.toNat, by omega⟩
  obtain ⟨pp, rfl⟩ : ∃ n : Nat, a1 = n := ⟨a1.toNat, by omega⟩
  obtain ⟨kk, rfl⟩ : ∃ n : Nat, a2 = n := ⟨a2.toNat, by omega⟩
  unfold triremelaw03_QuantUnits.f
  rw [wrap_nat n (by omega), wrap_nat pp (by omega), wrap_nat kk (by omega)]
  rw [show Int.tmod (pp : Int) 1000 = ((pp % 1000 : Nat) : Int) from rfl, show Int.tmod (kk : Int) 5 = ((kk % 5 : Nat) : Int) from rfl]
  have hp : pp % 1000 < 1000 := by omega
  have hk : kk % 5 < 5 := by omega
  generalize pp % 1000 = p at *
  generalize kk % 5 = K at *
  obtain ⟨un, wo, u1, u2, u3, u4, u5, u6, u7, u8⟩ := unit_facts K hk
  have hn0 : n ≤ 65535 := by omega
  have hK0 : (0 : Int) ≤ (K : Int) := by omega
  have hK5 : (K : Int) < 5 := by omega
  have hb1 : 1000 + p ≤ 9000000000000000000 := by omega
  have hb2 : n ≤ 9000000000000000000 := by omega
  obtain ⟨q, t1, t2, t3, t4, t5⟩ := tail3 p hp
  have D1 := digits_ev (1000 + p) hb1
  have D2 := digits_ev n hb2
  obtain ⟨d1, d2, d3⟩ := decB_val n hb2
  have ds := decB_size (n : Int)
  have hus := u5
  clear u5
  generalize decB ((1000 + p : Nat) : Int) = dp at *
  generalize decB (n : Int) = dn at *
  have eU : ([(⟨#[]⟩ : ByteArray), (⟨#[107]⟩ : ByteArray), (⟨#[77]⟩ : ByteArray), (⟨#[75, 105]⟩ : ByteArray), (⟨#[77, 105]⟩ : ByteArray)] : List ByteArray) = unitsL := rfl
  have eW : ([1, 1000, 1000000, 1024, 1048576] : List Int) = worthL := rfl
  rw [eU, eW]
  simp only [Option.bind_some]
  rw [u1, u2]
  obtain ⟨hx1, hx2, e5, e6, e1⟩ := unit_arith n p wo hn0 hp u8
  rw [e1, e5, e6]
  clear e1 e5 e6
  refine Ev.bind D1 ?_
  rw [t1, t2]
  refine Ev.bind D2 ?_
  have hP := quantParse_ev (dn ++ un) (by rw [ByteArray.size_append]; exact Nat.le_trans (Nat.add_le_add ds hus) (by decide))
  rw [amtR_plain _ un _ d1 d3 u3 u4, tail_plain _ un n _ (n * wo) d2 u6 0 1000000 (by grind) (by decide) hx1] at hP
  have hM := quantMilli_ev (((dn ++ (⟨#[46]⟩ : ByteArray)) ++ q) ++ un) (by simp only [ByteArray.size_append]; show _ + 1 + _ + _ ≤ _; omega)
  rw [amtR_dot _ q un _ d1 d3 t3 t4 u3, tail_plain _ un n _ ((1000 * n + p) * wo) d2 u6 (dval q.toList 0) 1000 (by rw [t5]; grind) (by decide) hx2] at hM
  simp only [hK0, show (K : Int) < (unitsL.length : Int) from hK5, show (K : Int) < (worthL.length : Int) from hK5, if_true]
  refine ev_if (fun _ => ?_) (fun h => absurd (by omega) h)
  refine Ev.bind hP ?_
  refine Ev.bind D2 ?_
  refine ev_if (fun _ => ?_) (fun h => absurd (by omega) h)
  refine ev_if (fun _ => ?_) (fun h => absurd (by decide) h)
  refine ev_if (fun _ => ?_) (fun h => absurd (by simp only [ByteArray.size_append]; show _ + 1 + _ ≤ _; omega) h)
  refine ev_if (fun _ => ?_) (fun h => absurd (by simp only [ByteArray.size_append]; show _ + 1 + _ + _ ≤ _; omega) h)
  refine Ev.bind hM ?_
  simp only [if_true]
  exact Ev.bind known_ev (Ev.now _)
end Go.Proofs.Ytpmmiabcfnejmaa.H
end
section
namespace Go.Proofs.Ytpmmiabcfnejmaa.Pure
open Go.RowKit Go.Proofs.Ytpmmiabcfnejmaa.H Go.Proofs.YtpmmiabcfnejmaaW.PrintWords Go.Proofs.YtpmmiabcfnejmaaW.PrintLast
theorem QuantUnits : triremelaw03_QuantUnits.Pure -- proved in PuU
  := H.units_pure
end Go.Proofs.Ytpmmiabcfnejmaa.Pure
end
section
namespace Go.Proofs.Ytpmmiabcfnejmaa.quantUnits
open Go.ChangeShapes Go.WideShapes Go.ChangeAt Go.RowKit
open Go.ChangeMaps (open_string shut_string)
set_option linter.unusedVariables false
theorem own : ownKnob Try.prog.godebug = none := by kernel_rfl
set_option maxRecDepth 100000 in
theorem lifted (os : Os) (started : os.Started) (H : Type) (enc : TypeId × Value → H) :
    ReturnsInHanded {} Try.checked os 6 .any (Rows.quantUnitsSpec.pre6 enc Try.prog Try.f6 Rows.quantUnitsRow.domain false) (Rows.quantUnitsSpec.post enc Try.prog Try.f6 false true false false) := by
  refine returnsInHanded_of_change_sized (C := Try.checked) own started (by kernel_rfl) Try.func6
    (ChangeSpec.witness6 (enc := enc) (C := Try.checked) false ⟨#[], #[.int .u16 0, .int .u16 0, .int .u8 0], []⟩ 8 (by kernel_rfl) (by kernel_rfl) (by kernel_rfl) (by kernel_rfl)) ?_
  intro W base args ds gs before hval0 hW hcnd hsz0 _
  have hsz : (DataW.weightsEach Try.prog (Try.f6.params.toList ++ Rows.quantUnitsSpec.plain.varTypes Try.prog) (ds ++ gs)).all (· ≤ reachBytes) = true := hsz0
  have hval : ∀ (j : Nat) t v, Try.f6.params[j]? = some t → args[j]? = some v → Value.okWide Try.prog W .any base t v := hval0
  have hW' := hW
  obtain ⟨p, q, hA0, hV, rfl, hfz, hnd⟩ := hW
  have hA : DataW.TrodAll enc Try.prog W 0 (fun _ => true) true Try.f6.params.toList args.toList ds p := hA0
  rw [Try.params6] at hA hval hsz
  obtain ⟨v0, vs0, d0, ds0, p0, q0, hargs, rfl, rfl, h0, r0⟩ := trodAll_cons hA
  obtain ⟨v1, vs1, d1, ds1, p1, q1, rfl, rfl, rfl, h1, r1⟩ := trodAll_cons r0
  obtain ⟨v2, vs2, d2, ds2, p2, q2, rfl, rfl, rfl, h2, r2⟩ := trodAll_cons r1
  obtain ⟨rfl, rfl, rfl⟩ := trodAll_nil r2
  obtain rfl : args = #[v0, v1, v2] := by cases args; simp_all
  obtain ⟨rfl, rfl⟩ := trodVars_none hV
  obtain ⟨a0, rfl, rfl, rfl, w0⟩ := open_int Try.underlying29 (hval 0 29 v0 rfl rfl) h0
  obtain ⟨a1, rfl, rfl, rfl, w1⟩ := open_int Try.underlying29 (hval 1 29 v1 rfl rfl) h1
  obtain ⟨a2, rfl, rfl, rfl, w2⟩ := open_int Try.underlying5 (hval 2 5 v2 rfl rfl) h2
  clear hA0 hval0 hsz0 hsz
  refine (_root_.Go.Proofs.Ytpmmiabcfnejmaa.H.triremelaw03_QuantUnits.walk Pure.QuantUnits a0 a1 a2 W w0 w1 w2).mono fun e W' ⟨he, bel⟩ => ?_
  subst he
  exact ⟨_, rfl, _, _, _, [], _, [], hW', trodAll_mk1 (shut_bool Try.underlying4 _), (trodAll_cons_mk (shut_int Try.underlying29 w0) (trodAll_cons_mk (shut_int Try.underlying29 w1) (trodAll_cons_mk (shut_int Try.underlying5 w2) trodAll_mk0))), rfl, bel.frame _, fun h => by cases h⟩
theorem over : Rows.quantUnitsRow.holds Try.pinned (OpenSpec.ofChange Rows.quantUnitsSpec) :=
  OpenClaim.holds_of_wide 6 Try.f6 rfl rfl rfl rfl rfl rfl rfl ⟨rfl, rfl, rfl, rfl, rfl⟩ rfl rfl rfl rfl rfl (by kernel_rfl) Try.func6 (by kernel_rfl)
    (of_decide_eq_true (by kernel_rfl)) (by unfold Func.isWrapper; first | (rw [if_pos (by decide +kernel)]; kernel_rfl) | (rw [if_neg (by decide +kernel)]; exact ⟨rfl, rfl⟩))
    (fun os started H enc _ => lifted os started H enc)
theorem proved : Rows.QuantUnitsSaid := over
end Go.Proofs.Ytpmmiabcfnejmaa.quantUnits
namespace Go.Proofs.Ytpmmiabcfnejmaa
/-- The row, under a short name, for the claim. -/
theorem quantUnits_holds : Rows.QuantUnitsSaid := quantUnits.proved
end Go.Proofs.Ytpmmiabcfnejmaa
end
