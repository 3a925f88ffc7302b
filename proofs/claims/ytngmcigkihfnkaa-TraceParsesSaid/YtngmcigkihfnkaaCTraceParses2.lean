import Derived.Lib.OthersKept
import Derived.Maps.Own
import Derived.Maps.OwnOps
import Derived.Maps.OwnSet
import Derived.Test.YtngmcigkihfnkaaCTraceBase0
import Derived.Test.YtngmcigkihfnkaaCTraceBase1
import Derived.Test.YtngmcigkihfnkaaCTraceBase2
import Derived.Test.YtngmcigkihfnkaaCTraceBase3
import Derived.Test.YtngmcigkihfnkaaCTraceParses0
import Derived.Test.YtngmcigkihfnkaaCTraceParses1
section
namespace Go.Proofs.Ytngmcigkihfnkaa.H
open Go.RowKit Go.Proofs.YtngmcigkihfnkaaW.PrintWords Go.Proofs.YtngmcigkihfnkaaW.PrintLast Go.Proofs.YtngmcigkihfnkaaW.PrintMore
set_option linter.unusedVariables false
set_option linter.unusedSimpArgs false
theorem toList_beq (s : ByteArray) (l : List UInt8) : (s.toList == l) = decide (s = ⟨l.toArray⟩) := by
  by_cases h : s = ⟨l.toArray⟩
  · rw [decide_eq_true h]; exact beq_iff_eq.2 ((toList_iff s l).2 h)
  · rw [decide_eq_false h]; exact beq_eq_false_iff_ne.2 (fun e => h ((toList_iff s l).1 e))
def kindI (what : ByteArray) : Int := if memB what k1L = true then 1 else if memB what k2L = true then 2 else if memB what k3L = true then 3 else 0
set_option maxRecDepth 100000 in
theorem kind_ev (what : ByteArray) : Ev (fun k => triremeref32_kind.f k what) (kindI what) := by
  have mono := fun k => triremeref32_kind.mono what k
  by_cases a1 : what = ⟨#[117, 112]⟩
  · subst a1; exact Ev.of mono (k := 5) (by kernel_rfl)
  by_cases a2 : what = ⟨#[114, 97, 105, 115, 101]⟩
  · subst a2; exact Ev.of mono (k := 5) (by kernel_rfl)
  by_cases a3 : what = ⟨#[102, 105, 120]⟩
  · subst a3; exact Ev.of mono (k := 5) (by kernel_rfl)
  by_cases b1 : what = ⟨#[99, 108, 101, 97, 110]⟩
  · subst b1; exact Ev.of mono (k := 5) (by kernel_rfl)
  by_cases b2 : what = ⟨#[114, 101, 102, 117, 115, 101, 100]⟩
  · subst b2; exact Ev.of mono (k := 5) (by kernel_rfl)
  by_cases b3 : what = ⟨#[104, 111, 112, 101, 108, 101, 115, 115]⟩
  · subst b3; exact Ev.of mono (k := 5) (by kernel_rfl)
  by_cases b4 : what = ⟨#[101, 118, 105, 99, 116]⟩
  · subst b4; exact Ev.of mono (k := 5) (by kernel_rfl)
  by_cases b5 : what = ⟨#[100, 101, 108, 101, 116, 101]⟩
  · subst b5; exact Ev.of mono (k := 5) (by kernel_rfl)
  by_cases b6 : what = ⟨#[107, 101, 101, 112]⟩
  · subst b6; exact Ev.of mono (k := 5) (by kernel_rfl)
  by_cases b7 : what = ⟨#[115, 116, 111, 112]⟩
  · subst b7; exact Ev.of mono (k := 5) (by kernel_rfl)
  by_cases b8 : what = ⟨#[103, 111, 110, 101]⟩
  · subst b8; exact Ev.of mono (k := 5) (by kernel_rfl)
  by_cases b9 : what = ⟨#[100, 111, 119, 110]⟩
  · subst b9; exact Ev.of mono (k := 5) (by kernel_rfl)
  by_cases c1 : what = ⟨#[117, 110, 104, 101, 97, 108, 116, 104, 121]⟩
  · subst c1; exact Ev.of mono (k := 5) (by kernel_rfl)
  have e : kindI what = 0 := by
    have s1 : memB what k1L = false := by simp [memB, k1L, Ne.symm a1, Ne.symm a2, Ne.symm a3]
    have s2 : memB what k2L = false := by simp [memB, k2L, Ne.symm b1, Ne.symm b2, Ne.symm b3, Ne.symm b4, Ne.symm b5, Ne.symm b6, Ne.symm b7, Ne.symm b8, Ne.symm b9]
    have s3 : memB what k3L = false := by simp [memB, k3L, Ne.symm c1]
    unfold kindI
    rw [s1, s2, s3]; rfl
  rw [e]
  unfold triremeref32_kind.f
  simp only [toList_iff, toList_beq, a1, a2, a3, if_false, decide_false]
  refine Ev.step (fun k => by rw [triremeref32_kind.j0]) ?_
  simp only [toList_iff, toList_beq, b1, b2, b3, b4, b5, b6, b7, b8, b9, Bool.false_eq_true, if_false, decide_false]
  refine Ev.step (fun k => by rw [triremeref32_kind.j1]) ?_
  simp only [toList_iff, c1, Bool.false_eq_true, if_false]
  exact Ev.now _
theorem refRight_ev (now : Int) (what name : ByteArray) (n : Int) (hs : name.size ≤ 1000000000) : Ev (fun k => triremeref32_Right.f k now what name n) (rightR ⟨now, what, name, n⟩) := by
  have hw := word_ev name hs
  have hj : ∀ b : Bool, (b = true ↔ (now < 0 ∨ 1099511627776 < now)) → Ev (fun k => triremeref32_Right.j0 k b now what name n) (rightR ⟨now, what, name, n⟩) := by
    intro b hb
    refine Ev.step (fun k => by rw [triremeref32_Right.j0]) ?_
    unfold rightR
    cases b with
    | true =>
      rw [if_pos (hb.1 rfl)]
      simp only [if_true]
      exact Ev.now _
    | false =>
      have hno : ¬ (now < 0 ∨ 1099511627776 < now) := fun h => by have := hb.2 h; cases this
      rw [if_neg hno]
      simp only [Bool.false_eq_true, if_false]
      refine Ev.bind (kind_ev what) ?_
      unfold kindI
      cases memB what k1L with
      | true =>
        simp only [if_true]
        refine Ev.bind hw ?_
        cases lexWordB name with
        | true =>
          simp only [if_true, Bool.true_and]
          refine ev_if (fun h => ?_) (fun h => ?_)
          · rw [decide_eq_true (show 1 ≤ n by omega), Bool.true_and]; exact Ev.now _
          · rw [decide_eq_false (show ¬ 1 ≤ n by omega), Bool.false_and]; exact Ev.now _
        | false => simp only [Bool.false_eq_true, if_false, Bool.false_and]; exact Ev.now _
      | false =>
        cases memB what k2L with
        | true =>
          simp only [Bool.false_eq_true, if_false, if_true, show ¬ (2 : Int) = 1 by decide]
          refine Ev.bind hw ?_
          cases lexWordB name with
          | true => simp only [if_true, Bool.true_and, int_beq]; exact Ev.now _
          | false => simp only [Bool.false_eq_true, if_false, Bool.false_and]; exact Ev.now _
        | false =>
          cases memB what k3L with
          | true =>
            simp only [Bool.false_eq_true, if_false, if_true, show ¬ (3 : Int) = 1 by decide, show ¬ (3 : Int) = 2 by decide, Bool.true_and]
            refine ev_if (fun h => ?_) (fun h => ?_)
            · rw [decide_eq_true ((toList_iff name []).1 h), Bool.true_and]; simp only [int_beq]; exact Ev.now _
            · rw [decide_eq_false (fun e => h ((toList_iff name []).2 e)), Bool.false_and]; exact Ev.now _
          | false => simp only [Bool.false_eq_true, if_false, show ¬ (0 : Int) = 1 by decide, show ¬ (0 : Int) = 2 by decide, show ¬ (0 : Int) = 3 by decide, Bool.false_and]; exact Ev.now _
  unfold triremeref32_Right.f
  refine ev_if (fun h => hj true ⟨fun _ => .inl h, fun _ => rfl⟩) (fun h => hj _ ⟨fun e => .inr (by simpa using e), fun e => ?_⟩)
  rcases e with e | e
  · exact absurd e h
  · exact decide_eq_true e
theorem decB_size (n : Int) : (decB n).size ≤ 20 := by
  unfold decB
  rw [strOfNums_size]
  have := decGo_len 20 n.toNat []
  simpa using this
theorem digits_some (n : Int) (h0 : 0 ≤ n) (h : n ≤ 9000000000000000000) : trace_digits.f n = some (decB n) := by
  unfold trace_digits.f; rw [if_pos (by omega)]
theorem app_assoc (a b c : ByteArray) : a ++ (b ++ c) = (a ++ b) ++ c := by
  apply toList_inj; simp only [append_toList, List.append_assoc]
theorem refDigits_i (n : Int) (h0 : 0 ≤ n) (h : n ≤ 9000000000000000000) : Ev (fun k => triremeref01_Digits.f k n) (decB n) := by
  obtain ⟨m, rfl⟩ : ∃ m : Nat, n = m := ⟨n.toNat, by omega⟩
  exact digits_ev m (by omega)
theorem refLine_ev (e : EvT) (h0 : 0 ≤ e.now) (h1 : e.now ≤ 1099511627776) (h2 : e.n ≤ 1099511627776) (hw : e.what.size ≤ 1000000000) (hn : e.name.size ≤ 1000000000) : Ev (fun k => triremeref32_line.f k e.now e.what e.name e.n) (lineR e) := by
  obtain ⟨now, what, name, n⟩ := e
  simp only at *
  unfold triremeref32_line.f lineR
  have s1 := decB_size now
  have s2 := decB_size n
  have e1 : (⟨#[58, 32]⟩ : ByteArray).size = 2 := rfl
  have e2 : (⟨#[32]⟩ : ByteArray).size = 1 := rfl
  refine Ev.bind (refDigits_i now h0 (by omega)) ?_
  simp only [toList_iff]
  refine ev_if (fun _ => ?_) (fun h => absurd (by omega) h)
  refine ev_if (fun _ => ?_) (fun h => absurd (by rw [ByteArray.size_append]; omega) h)
  refine ev_if (fun c1 => ?_) (fun c1 => ?_)
  · simp only [c1, if_true]
    refine ev_if (fun c2 => ?_) (fun c2 => ?_)
    · rw [if_pos c2]
      refine ev_if (fun _ => ?_) (fun h => absurd (by simp only [ByteArray.size_append]; omega) h)
      refine Ev.bind (refDigits_i n (by omega) (by omega)) ?_
      refine ev_if (fun _ => ?_) (fun h => absurd (by simp only [ByteArray.size_append]; omega) h)
      rw [app_assoc]
      exact Ev.now _
    · rw [if_neg c2]; exact Ev.now _
  · simp only [c1, if_false]
    refine ev_if (fun _ => ?_) (fun h => absurd (by simp only [ByteArray.size_append]; omega) h)
    refine ev_if (fun _ => ?_) (fun h => absurd (by simp only [ByteArray.size_append]; omega) h)
    refine ev_if (fun c2 => ?_) (fun c2 => ?_)
    · rw [if_pos c2]
      refine ev_if (fun _ => ?_) (fun h => absurd (by simp only [ByteArray.size_append]; omega) h)
      refine Ev.bind (refDigits_i n (by omega) (by omega)) ?_
      refine ev_if (fun _ => ?_) (fun h => absurd (by simp only [ByteArray.size_append]; omega) h)
      rw [app_assoc, app_assoc]
      exact Ev.now _
    · rw [if_neg c2, app_assoc]; exact Ev.now _
end Go.Proofs.Ytngmcigkihfnkaa.H
end
section
namespace Go.Proofs.Ytngmcigkihfnkaa.H
open Go.RowKit Go.Proofs.YtngmcigkihfnkaaW.PrintWords Go.Proofs.YtngmcigkihfnkaaW.PrintLast Go.Proofs.YtngmcigkihfnkaaW.PrintMore
attribute [local go_sem] max2_int min2_int max_two min_two max_three min_three max_four min_four   -- for this text's walks alone
set_option linter.unusedVariables false
set_option linter.unusedSimpArgs false
attribute [local go_sem high] eqA39
def triremeref32_Same.l0 : Nat → List (S39) → List (S39) → Int → Option (Bool)
  | 0, _, _, _ => none
  | k + 1, x0, x1, x5 => if x5 < (x0.length : Int) then (if 0 ≤ x5 then (if x5 < (x1.length : Int) then (if (!(((rd_T39 x0 x5).f0) == ((rd_T39 x1 x5).f0)) || (!((((rd_T39 x0 x5).f1).toList) == (((rd_T39 x1 x5).f1).toList)) || (!((((rd_T39 x0 x5).f2).toList) == (((rd_T39 x1 x5).f2).toList)) || (!(((rd_T39 x0 x5).f3) == ((rd_T39 x1 x5).f3)))))) = true then (some false) else (triremeref32_Same.l0 k x0 x1 (wrap64 (x5 + 1)))) else (none)) else (none)) else (some true)
def triremeref32_Same.f (k : Nat) (l0 : List (S39)) (l1 : List (S39)) : Option (Bool) := if (l0.length : Int) = (l1.length : Int) then (triremeref32_Same.l0 k l0 l1 0) else (some false)
set_option maxHeartbeats 8000000 in
set_option maxRecDepth 100000 in
theorem triremeref32_Same.calls (k : Nat) (A0 : Option Addr) (c0 : Nat) (l0 : List (S39)) (A1 : Option Addr) (c1 : Nat) (l1 : List (S39)) (r : Bool) (w : World) (hr0 : Kd.C k39 w A0 l0.length l0) (hc0 : l0.length ≤ c0) (hr1 : Kd.C k39 w A1 l1.length l1) (hc1 : l1.length ≤ c1) (h : triremeref32_Same.f k l0 l1 = some r) :
    Calls Try.prog 10 #[.slice A0 l0.length c0, .slice A1 l1.length c1] w fun e w' => e = .returned (.bool r) ∧ Drawn0 w w' := by
  have hu39 := Try.underlying39
  have HR0 := Aside0.mk hr0
  have HC0 := Aside0.mk hc0
  clear hr0 hc0
  have HR1 := Aside0.mk hr1
  have HC1 := Aside0.mk hc1
  clear hr1 hc1
  have H : (if (l0.length : Int) = (l1.length : Int) then (triremeref32_Same.l0 k l0 l1 0) else (some false)) = some r := h
  clear h
  by_cases c3 : (l0.length : Int) = (l1.length : Int)
  · rw [if_pos c3] at H
    have c3b0 : ((l0.length : Int) == (l1.length : Int)) = true := beq_iff_eq.mpr c3
    have c3b1 : ((l0.length : Int) != (l1.length : Int)) = false := bne_eq_false_iff_eq.mpr c3
    have c3b2 : (l0.length == l1.length) = true := by first | simpa using c3 | (simp at c3 ⊢; omega)
    clear c3
    have H' := Aside0.mk H
    clear H
    go_enter Try.func10, Try.ntmps10
    go_wp2
    repeat (go_quiet (fail); try go_wp2)
    go_loopg [5] k (fun kq v5 w' => ∃ (x5_1 : Int), v5 = .int .i64 x5_1 ∧ Aside0 (triremeref32_Same.l0 kq l0 l1 x5_1 = some r) ∧ Aside0 (kq ≤ k) ∧ Drawn0 w w')
    case atStart => exact ⟨(0), (by first | rfl | (simp; done) | (simp [*]; done)), H', ⟨Nat.le_refl _⟩, by repeat (first | exact Drawn0.refl _ | apply Drawn0.step)⟩
    case round =>
      clear H'
      try clear c1
      try clear p2
      try clear c3
      try clear c3b0
      try clear c3b1
      try clear c3b2
      obtain ⟨x5_1, rfl, HA, HK1, ⟨m1, rfl⟩⟩ := hrel
      cases gk with
      | zero => exact absurd HA.out (by simp [triremeref32_Same.l0])
      | succ k1 =>
        have H := HA.out
        clear HA
        simp only [triremeref32_Same.l0] at H
        by_cases c4 : x5_1 < (l0.length : Int)
        · rw [if_pos c4] at H
          have c4b0 : decide (x5_1 < (l0.length : Int)) = true := decide_eq_true c4
          clear c4
          by_cases c5 : 0 ≤ x5_1
          · rw [if_pos c5] at H
            have c5b0 : decide (0 ≤ x5_1) = true := decide_eq_true c5
            clear c5
            by_cases c6 : x5_1 < (l1.length : Int)
            · rw [if_pos c6] at H
              have c6b0 : decide (x5_1 < (l1.length : Int)) = true := decide_eq_true c6
              clear c6
              by_cases c7 : (!(((rd_T39 l0 x5_1).f0) == ((rd_T39 l1 x5_1).f0)) || (!((((rd_T39 l0 x5_1).f1).toList) == (((rd_T39 l1 x5_1).f1).toList)) || (!((((rd_T39 l0 x5_1).f2).toList) == (((rd_T39 l1 x5_1).f2).toList)) || (!(((rd_T39 l0 x5_1).f3) == ((rd_T39 l1 x5_1).f3)))))) = true
              · rw [if_pos c7] at H
                have c7b0 : (!(((rd_T39 l0 x5_1).f0) == ((rd_T39 l1 x5_1).f0)) || (!((((rd_T39 l0 x5_1).f1).toList) == (((rd_T39 l1 x5_1).f1).toList)) || (!((((rd_T39 l0 x5_1).f2).toList) == (((rd_T39 l1 x5_1).f2).toList)) || (!(((rd_T39 l0 x5_1).f3) == ((rd_T39 l1 x5_1).f3)))))) = true := c7
                clear c7
                obtain rfl := Option.some.inj H
                have p284 : 0 ≤ (x5_1 : Int) := of_decide_eq_true (by first | (with_reducible assumption) | assumption)
                have q284 : x5_1 < (l0.length : Int) := of_decide_eq_true (by first | (with_reducible assumption) | assumption)
                obtain ⟨ad284, e284, hx284_0, hx284_1, hx284_2, hx284_3⟩ := at_T39 HR0.out x5_1 p284 q284
                cases e284
                replace p284 := eq_true p284
                replace q284 := eq_true q284
                (try (have qz284 := q284; rw [ByteArray.size_extract, Nat.min_self] at qz284))
                have p285 : 0 ≤ (x5_1 : Int) := of_decide_eq_true (by first | (with_reducible assumption) | assumption)
                have q285 : x5_1 < (l1.length : Int) := of_decide_eq_true (by first | (with_reducible assumption) | assumption)
                obtain ⟨ad285, e285, hx285_0, hx285_1, hx285_2, hx285_3⟩ := at_T39 HR1.out x5_1 p285 q285
                cases e285
                replace p285 := eq_true p285
                replace q285 := eq_true q285
                (try (have qz285 := q285; rw [ByteArray.size_extract, Nat.min_self] at qz285))
                go_wp2
                repeat (go_quiet (fail); try go_wp2)
                go_ret
                exact ⟨by first | rfl | (simp; done) | (simp [*]; done), by repeat (first | exact Drawn0.refl _ | apply Drawn0.step)⟩
              · rw [if_neg c7] at H
                have c7b0 : (!(((rd_T39 l0 x5_1).f0) == ((rd_T39 l1 x5_1).f0)) || (!((((rd_T39 l0 x5_1).f1).toList) == (((rd_T39 l1 x5_1).f1).toList)) || (!((((rd_T39 l0 x5_1).f2).toList) == (((rd_T39 l1 x5_1).f2).toList)) || (!(((rd_T39 l0 x5_1).f3) == ((rd_T39 l1 x5_1).f3)))))) = false := by simpa using c7
                clear c7
                have H' := Aside0.mk H
                clear H
                have p284 : 0 ≤ (x5_1 : Int) := of_decide_eq_true (by first | (with_reducible assumption) | assumption)
                have q284 : x5_1 < (l0.length : Int) := of_decide_eq_true (by first | (with_reducible assumption) | assumption)
                obtain ⟨ad284, e284, hx284_0, hx284_1, hx284_2, hx284_3⟩ := at_T39 HR0.out x5_1 p284 q284
                cases e284
                replace p284 := eq_true p284
                replace q284 := eq_true q284
                (try (have qz284 := q284; rw [ByteArray.size_extract, Nat.min_self] at qz284))
                have p285 : 0 ≤ (x5_1 : Int) := of_decide_eq_true (by first | (with_reducible assumption) | assumption)
                have q285 : x5_1 < (l1.length : Int) := of_decide_eq_true (by first | (with_reducible assumption) | assumption)
                obtain ⟨ad285, e285, hx285_0, hx285_1, hx285_2, hx285_3⟩ := at_T39 HR1.out x5_1 p285 q285
                cases e285
                replace p285 := eq_true p285
                replace q285 := eq_true q285
                (try (have qz285 := q285; rw [ByteArray.size_extract, Nat.min_self] at qz285))
                go_wp2
                repeat (go_quiet (fail); try go_wp2)
                go_roundg k1
                case measure => have := HK1.out; omega
                case rel => exact ⟨(wrap64 (x5_1 + 1)), (by first | rfl | (simp; done) | (simp [*]; done)), H', ⟨by have := HK1.out; omega⟩, by repeat (first | exact Drawn0.refl _ | apply Drawn0.step)⟩
            · rw [if_neg c6] at H
              exact absurd H (by simp)
          · rw [if_neg c5] at H
            exact absurd H (by simp)
        · rw [if_neg c4] at H
          have c4b0 : decide (x5_1 < (l0.length : Int)) = false := decide_eq_false c4
          clear c4
          obtain rfl := Option.some.inj H
          go_wp2
          repeat (go_quiet (fail); try go_wp2)
          go_ret
          exact ⟨by first | rfl | (simp; done) | (simp [*]; done), by repeat (first | exact Drawn0.refl _ | apply Drawn0.step)⟩
  · rw [if_neg c3] at H
    have c3b0 : ((l0.length : Int) == (l1.length : Int)) = false := beq_eq_false_iff_ne.mpr c3
    have c3b1 : ((l0.length : Int) != (l1.length : Int)) = true := bne_iff_ne.mpr c3
    have c3b2 : (l0.length == l1.length) = false := by first | simpa using c3 | (simp at c3 ⊢; omega)
    obtain rfl := Option.some.inj H
    go_enter Try.func10, Try.ntmps10
    go_wp2
    repeat (go_quiet (fail); try go_wp2)
    go_ret
    exact ⟨by first | rfl | (simp; done) | (simp [*]; done), by repeat (first | exact Drawn0.refl _ | apply Drawn0.step)⟩
end Go.Proofs.Ytngmcigkihfnkaa.H
end
section
namespace Go.Proofs.Ytngmcigkihfnkaa.H
open Go.RowKit Go.Proofs.YtngmcigkihfnkaaW.PrintWords Go.Proofs.YtngmcigkihfnkaaW.PrintLast Go.Proofs.YtngmcigkihfnkaaW.PrintMore
attribute [local go_sem] max2_int min2_int max_two min_two max_three min_three max_four min_four   -- for this text's walks alone
set_option linter.unusedVariables false
set_option linter.unusedSimpArgs false
def triremelaw32_taken.l0 : Nat → List (S37) → List (S39) → Int → Option ((List (S39)))
  | 0, _, _, _ => none
  | k + 1, x0, x3, x4 => if x4 < (x0.length : Int) then (if 0 ≤ x4 then (if x3.length < 2932031007402 then (triremelaw32_taken.l0 k x0 (x3 ++ [(⟨(rd_T37 x0 x4).f0, (rd_T37 x0 x4).f1, (rd_T37 x0 x4).f2, (rd_T37 x0 x4).f3⟩ : S39)]) (wrap64 (x4 + 1))) else (none)) else (none)) else (some x3)
def triremelaw32_taken.f (k : Nat) (l0 : List (S37)) : Option ((List (S39))) := triremelaw32_taken.l0 k l0 ([] : List (S39)) 0
def triremelaw32_taken.T5 : Bool × List (List Nat × List Nat) := (true, [([], []), ([], []), ([], []), ([1, 2], [1, 2]), ([3], [3]), ([4], [4]), ([], []), ([], []), ([6, 7], [6, 7]), ([8], [8]), ([9], [9]), ([], []), ([], []), ([11, 12], [11, 12]), ([13], [13]), ([14], [14]), ([], []), ([], []), ([16, 17], [16, 17]), ([18], [18]), ([19], [19]), ([5, 10, 15, 20], [5, 10, 15, 20]), ([21], [21]), ([0, 22], [0, 22]), ([23, 23, 0, 1, 2, 3, 4, 5, 6, 7, 8, 9, 10, 11, 12, 13, 14, 15, 16, 17, 18, 19, 20, 21, 22, 23], [0, 23])])
def triremelaw32_taken.B5 : List Nat := [0, 0, 0, 6, 14, 30, 0, 0, 192, 448, 960, 0, 0, 6144, 14336, 30720, 0, 0, 196608, 458752, 983040, 2097150, 4194302, 8388607, 16777215]
theorem triremelaw32_taken.tab5 : rtab .any (opsOf Try.f11 5) = triremelaw32_taken.T5 := by kernel_rfl
theorem triremelaw32_taken.bits5 : waitsOk triremelaw32_taken.T5.2 triremelaw32_taken.B5 = true := by kernel_rfl
set_option maxHeartbeats 8000000 in
set_option maxRecDepth 100000 in
theorem triremelaw32_taken.calls (k : Nat) (A0 : Option Addr) (c0 : Nat) (l0 : List (S37)) (r : List (S39)) (w : World) (hr0 : Kd.C k37 w A0 l0.length l0) (hc0 : l0.length ≤ c0) (h : triremelaw32_taken.f k l0 = some r) :
    Calls Try.prog 11 #[.slice A0 l0.length c0] w fun e w' => ∃ v0_ : Value, e = .returned (v0_) ∧ Kd.R k39 39 w' w.heap.size (fun _ => True) v0_ r ∧ Below w.heap.size w w' := by
  have hu39 := Try.underlying39
  have HR0 := Aside0.mk hr0
  have HC0 := Aside0.mk hc0
  clear hr0 hc0
  have HB := Aside0.mk (Below.refl w.heap.size w)
  have H : (triremelaw32_taken.l0 k l0 ([] : List (S39)) 0) = some r := h
  clear h
  have H' := Aside0.mk H
  clear H
  go_enter Try.func11, Try.ntmps11
  go_wp2
  go_loopg [3, 4] k (fun kq v3 v4 w' => ∃ (x3_1 : List (S39)) (x4_1 : Int), v4 = .int .i64 x4_1 ∧ Aside0 (triremelaw32_taken.l0 kq l0 x3_1 x4_1 = some r) ∧ Aside0 (kq ≤ k) ∧ Aside0 (Kd.R k39 39 w' w.heap.size (fun _ => True) v3 x3_1) ∧ Aside0 (Below w.heap.size w w'))
  case atStart => exact ⟨(([] : List (S39))), (0), (by first | rfl | (simp; done) | (simp [*]; done)), H', ⟨Nat.le_refl _⟩, ⟨by first | exact Kd.R_nil _ _ _ _ _ | exact Kd.N_nil _ _ _ _ _ | exact Kd.V_nil _ _ _ _ _ | exact Kd.Q_nil _ _ _ _ _ | exact Kd.S_nil _ _ _ _ _⟩, ⟨by repeat (first | (with_reducible first | exact HB.out | apply below_alloc | apply pw_below_drewN | apply below_drew1) | exact HB.out)⟩⟩
  case round =>
    clear H'
    try clear c1
    obtain ⟨x3_1, x4_1, rfl, HA, HK1, HO_3, HB⟩ := hrel
    cases gk with
    | zero => exact absurd HA.out (by simp [triremelaw32_taken.l0])
    | succ k1 =>
      have H := HA.out
      clear HA
      simp only [triremelaw32_taken.l0] at H
      by_cases c2 : x4_1 < (l0.length : Int)
      · rw [if_pos c2] at H
        have c2b0 : decide (x4_1 < (l0.length : Int)) = true := decide_eq_true c2
        clear c2
        by_cases c3 : 0 ≤ x4_1
        · rw [if_pos c3] at H
          have c3b0 : decide (0 ≤ x4_1) = true := decide_eq_true c3
          clear c3
          by_cases c4 : x3_1.length < 2932031007402
          · rw [if_pos c4] at H
            have LMc4 := Aside0.mk c4
            clear c4
            obtain ⟨y290, hy290⟩ : ∃ y_ : List (S39), y_ = (x3_1 ++ [(⟨(rd_T37 l0 x4_1).f0, (rd_T37 l0 x4_1).f1, (rd_T37 l0 x4_1).f2, (rd_T37 l0 x4_1).f3⟩ : S39)]) := ⟨_, rfl⟩
            replace H : (triremelaw32_taken.l0 k1 l0 y290 (wrap64 (x4_1 + 1))) = some r := by first | (rw [hy290]; with_reducible exact H) | (have H2_ := (Option.bind_some _ _).symm.trans H; rw [hy290]; with_reducible exact H2_) | (have H2_ := (Option.bind_some _ _).symm.trans H; with_reducible exact H2_) | with_reducible exact H | (rw [hy290]; exact H) | exact H
            have Ny290 := Aside0.mk hy290
            clear hy290
            have H' := Aside0.mk H
            clear H
            try go_wp2
            have n0_ := Aside0.mk (Kd.R_drew HO_3.out)
            have n1_ := Aside0.mk (below_drew1 HB.out)
            clear HO_3
            clear HB
            have HO_3 := n0_
            have HB := n1_
            clear n0_ n1_
            have p286 : 0 ≤ (x4_1 : Int) := of_decide_eq_true (by first | (with_reducible assumption) | assumption)
            have q286 : x4_1 < (l0.length : Int) := of_decide_eq_true (by first | (with_reducible assumption) | assumption)
            obtain ⟨ad286, e286, hx286_0, hx286_1, hx286_2, hx286_3⟩ := at_T37 HR0.out x4_1 p286 q286
            have hw286_3 := hx286_3
            have hw286_2 := hx286_2
            have hw286_1 := hx286_1
            have hw286_0 := hx286_0
            cases e286
            replace hx286_0 := (HB.out.cell (World.block_lt_of_cell? w _ hx286_0)).trans hx286_0
            replace hx286_1 := (HB.out.cell (World.block_lt_of_cell? w _ hx286_1)).trans hx286_1
            replace hx286_2 := (HB.out.cell (World.block_lt_of_cell? w _ hx286_2)).trans hx286_2
            replace hx286_3 := (HB.out.cell (World.block_lt_of_cell? w _ hx286_3)).trans hx286_3
            replace p286 := eq_true p286
            replace q286 := eq_true q286
            (try (have qz286 := q286; rw [ByteArray.size_extract, Nat.min_self] at qz286))
            have p287 : 0 ≤ (x4_1 : Int) := of_decide_eq_true (by first | (with_reducible assumption) | assumption)
            have q287 : x4_1 < (l0.length : Int) := of_decide_eq_true (by first | (with_reducible assumption) | assumption)
            obtain ⟨ad287, e287, hx287_0, hx287_1, hx287_2, hx287_3⟩ := at_T37 HR0.out x4_1 p287 q287
            have hw287_3 := hx287_3
            have hw287_2 := hx287_2
            have hw287_1 := hx287_1
            have hw287_0 := hx287_0
            obtain rfl : ad286 = ad287 := (by injection e287)
            replace hx287_0 := (HB.out.cell (World.block_lt_of_cell? w _ hx287_0)).trans hx287_0
            replace hx287_1 := (HB.out.cell (World.block_lt_of_cell? w _ hx287_1)).trans hx287_1
            replace hx287_2 := (HB.out.cell (World.block_lt_of_cell? w _ hx287_2)).trans hx287_2
            replace hx287_3 := (HB.out.cell (World.block_lt_of_cell? w _ hx287_3)).trans hx287_3
            replace p287 := eq_true p287
            replace q287 := eq_true q287
            (try (have qz287 := q287; rw [ByteArray.size_extract, Nat.min_self] at qz287))
            have p288 : 0 ≤ (x4_1 : Int) := of_decide_eq_true (by first | (with_reducible assumption) | assumption)
            have q288 : x4_1 < (l0.length : Int) := of_decide_eq_true (by first | (with_reducible assumption) | assumption)
            obtain ⟨ad288, e288, hx288_0, hx288_1, hx288_2, hx288_3⟩ := at_T37 HR0.out x4_1 p288 q288
            have hw288_3 := hx288_3
            have hw288_2 := hx288_2
            have hw288_1 := hx288_1
            have hw288_0 := hx288_0
            obtain rfl : ad286 = ad288 := (by injection e288)
            replace hx288_0 := (HB.out.cell (World.block_lt_of_cell? w _ hx288_0)).trans hx288_0
            replace hx288_1 := (HB.out.cell (World.block_lt_of_cell? w _ hx288_1)).trans hx288_1
            replace hx288_2 := (HB.out.cell (World.block_lt_of_cell? w _ hx288_2)).trans hx288_2
            replace hx288_3 := (HB.out.cell (World.block_lt_of_cell? w _ hx288_3)).trans hx288_3
            replace p288 := eq_true p288
            replace q288 := eq_true q288
            (try (have qz288 := q288; rw [ByteArray.size_extract, Nat.min_self] at qz288))
            have p289 : 0 ≤ (x4_1 : Int) := of_decide_eq_true (by first | (with_reducible assumption) | assumption)
            have q289 : x4_1 < (l0.length : Int) := of_decide_eq_true (by first | (with_reducible assumption) | assumption)
            obtain ⟨ad289, e289, hx289_0, hx289_1, hx289_2, hx289_3⟩ := at_T37 HR0.out x4_1 p289 q289
            have hw289_3 := hx289_3
            have hw289_2 := hx289_2
            have hw289_1 := hx289_1
            have hw289_0 := hx289_0
            obtain rfl : ad286 = ad289 := (by injection e289)
            replace hx289_0 := (HB.out.cell (World.block_lt_of_cell? w _ hx289_0)).trans hx289_0
            replace hx289_1 := (HB.out.cell (World.block_lt_of_cell? w _ hx289_1)).trans hx289_1
            replace hx289_2 := (HB.out.cell (World.block_lt_of_cell? w _ hx289_2)).trans hx289_2
            replace hx289_3 := (HB.out.cell (World.block_lt_of_cell? w _ hx289_3)).trans hx289_3
            replace p289 := eq_true p289
            replace q289 := eq_true q289
            (try (have qz289 := q289; rw [ByteArray.size_extract, Nat.min_self] at qz289))
            refine start_ (n := 25) (S := fun w' => w'.cell? (ad286.add ((x4_1).toNat * 4)) = some (.int .i64 ((rd_T37 l0 x4_1).f0)) ∧ w'.cell? ⟨(ad286.add ((x4_1).toNat * 4)).block, (ad286.add ((x4_1).toNat * 4)).off + 1, none⟩ = some (.string ((rd_T37 l0 x4_1).f1)) ∧ w'.cell? ⟨(ad286.add ((x4_1).toNat * 4)).block, (ad286.add ((x4_1).toNat * 4)).off + 2, none⟩ = some (.string ((rd_T37 l0 x4_1).f2)) ∧ w'.cell? ⟨(ad286.add ((x4_1).toNat * 4)).block, (ad286.add ((x4_1).toNat * 4)).off + 3, none⟩ = some (.int .i64 ((rd_T37 l0 x4_1).f3)) ∧ w'.cell? (ad286.add ((x4_1).toNat * 4)) = some (.int .i64 ((rd_T37 l0 x4_1).f0)) ∧ w'.cell? ⟨(ad286.add ((x4_1).toNat * 4)).block, (ad286.add ((x4_1).toNat * 4)).off + 1, none⟩ = some (.string ((rd_T37 l0 x4_1).f1)) ∧ w'.cell? ⟨(ad286.add ((x4_1).toNat * 4)).block, (ad286.add ((x4_1).toNat * 4)).off + 2, none⟩ = some (.string ((rd_T37 l0 x4_1).f2)) ∧ w'.cell? ⟨(ad286.add ((x4_1).toNat * 4)).block, (ad286.add ((x4_1).toNat * 4)).off + 3, none⟩ = some (.int .i64 ((rd_T37 l0 x4_1).f3)) ∧ w'.cell? (ad286.add ((x4_1).toNat * 4)) = some (.int .i64 ((rd_T37 l0 x4_1).f0)) ∧ w'.cell? ⟨(ad286.add ((x4_1).toNat * 4)).block, (ad286.add ((x4_1).toNat * 4)).off + 1, none⟩ = some (.string ((rd_T37 l0 x4_1).f1)) ∧ w'.cell? ⟨(ad286.add ((x4_1).toNat * 4)).block, (ad286.add ((x4_1).toNat * 4)).off + 2, none⟩ = some (.string ((rd_T37 l0 x4_1).f2)) ∧ w'.cell? ⟨(ad286.add ((x4_1).toNat * 4)).block, (ad286.add ((x4_1).toNat * 4)).off + 3, none⟩ = some (.int .i64 ((rd_T37 l0 x4_1).f3)) ∧ w'.cell? (ad286.add ((x4_1).toNat * 4)) = some (.int .i64 ((rd_T37 l0 x4_1).f0)) ∧ w'.cell? ⟨(ad286.add ((x4_1).toNat * 4)).block, (ad286.add ((x4_1).toNat * 4)).off + 1, none⟩ = some (.string ((rd_T37 l0 x4_1).f1)) ∧ w'.cell? ⟨(ad286.add ((x4_1).toNat * 4)).block, (ad286.add ((x4_1).toNat * 4)).off + 2, none⟩ = some (.string ((rd_T37 l0 x4_1).f2)) ∧ w'.cell? ⟨(ad286.add ((x4_1).toNat * 4)).block, (ad286.add ((x4_1).toNat * 4)).off + 3, none⟩ = some (.int .i64 ((rd_T37 l0 x4_1).f3))) (ds := []) #[false, false, false, false, false, false, false, false, false, false, false, false, false, false, false, false, false, false, false, false, false, false, false, false, false] (by kernel_rfl) rfl rfl ⟨((HB.out.cell (World.block_lt_of_cell? w _ hw286_0)).trans hw286_0), ((HB.out.cell (World.block_lt_of_cell? w _ hw286_1)).trans hw286_1), ((HB.out.cell (World.block_lt_of_cell? w _ hw286_2)).trans hw286_2), ((HB.out.cell (World.block_lt_of_cell? w _ hw286_3)).trans hw286_3), ((HB.out.cell (World.block_lt_of_cell? w _ hw287_0)).trans hw287_0), ((HB.out.cell (World.block_lt_of_cell? w _ hw287_1)).trans hw287_1), ((HB.out.cell (World.block_lt_of_cell? w _ hw287_2)).trans hw287_2), ((HB.out.cell (World.block_lt_of_cell? w _ hw287_3)).trans hw287_3), ((HB.out.cell (World.block_lt_of_cell? w _ hw288_0)).trans hw288_0), ((HB.out.cell (World.block_lt_of_cell? w _ hw288_1)).trans hw288_1), ((HB.out.cell (World.block_lt_of_cell? w _ hw288_2)).trans hw288_2), ((HB.out.cell (World.block_lt_of_cell? w _ hw288_3)).trans hw288_3), ((HB.out.cell (World.block_lt_of_cell? w _ hw289_0)).trans hw289_0), ((HB.out.cell (World.block_lt_of_cell? w _ hw289_1)).trans hw289_1), ((HB.out.cell (World.block_lt_of_cell? w _ hw289_2)).trans hw289_2), ((HB.out.cell (World.block_lt_of_cell? w _ hw289_3)).trans hw289_3)⟩ (fun hHeld => ?_); refine with_tabW triremelaw32_taken.tab5 triremelaw32_taken.bits5 (fun HT_ HW_ => ?_)
            generalize wr.drew = w5 at HO_3 HB hx286_0 hx286_1 hx286_2 hx286_3 hx287_0 hx287_1 hx287_2 hx287_3 hx288_0 hx288_1 hx288_2 hx288_3 hx289_0 hx289_1 hx289_2 hx289_3 hHeld ⊢
            refine pure_ (i := 0) (N := some 11) (v := ?_) (a' := ?_) #[true, false, false, false, false, false, false, false, false, false, false, false, false, false, false, false, false, false, false, false, false, false, false, false, false] rfl rfl (any_of HT_.out (by kernel_rfl)) (fun _ _ _ h => h) (Or.inl ⟨by rfl, ?_⟩) ?_ ?_
            rotate_left
            · intro w'; go_simp; with_reducible rfl
            rotate_left
            · simp only [Act.put, List.setIfInBounds_toArray, List.set_cons_zero, List.set_cons_succ, i64_w, i32_w]; rfl
            refine pure_ (i := 1) (N := some 12) (v := ?_) (a' := ?_) #[true, true, false, false, false, false, false, false, false, false, false, false, false, false, false, false, false, false, false, false, false, false, false, false, false] rfl rfl (any_of HT_.out (by kernel_rfl)) (fun _ _ _ h => h) (Or.inl ⟨by rfl, ?_⟩) ?_ ?_
            rotate_left
            · intro w'; go_simp; with_reducible rfl
            rotate_left
            · simp only [Act.put, List.setIfInBounds_toArray, List.set_cons_zero, List.set_cons_succ, i64_w, i32_w]; rfl
            refine pure_ (i := 2) (N := some 13) (v := ?_) (a' := ?_) #[true, true, true, false, false, false, false, false, false, false, false, false, false, false, false, false, false, false, false, false, false, false, false, false, false] rfl rfl (any_of HT_.out (by kernel_rfl)) (fun _ _ _ h => h) (Or.inl ⟨by rfl, ?_⟩) ?_ ?_
            rotate_left
            · intro w'; go_simp; with_reducible rfl
            rotate_left
            · simp only [Act.put, List.setIfInBounds_toArray, List.set_cons_zero, List.set_cons_succ, i64_w, i32_w]; rfl
            refine pure_ (i := 3) (N := some 14) (v := ?_) (a' := ?_) #[true, true, true, true, false, false, false, false, false, false, false, false, false, false, false, false, false, false, false, false, false, false, false, false, false] rfl rfl (any_of HT_.out (by kernel_rfl)) (fun _ _ _ h => h) (Or.inl ⟨by rfl, ?_⟩) ?_ ?_
            rotate_left
            · intro w'; go_simp; with_reducible rfl
            rotate_left
            · simp only [Act.put, List.setIfInBounds_toArray, List.set_cons_zero, List.set_cons_succ, i64_w, i32_w]; rfl
            refine pure_ (i := 4) (N := some 15) (v := ?_) (a' := ?_) #[true, true, true, true, true, false, false, false, false, false, false, false, false, false, false, false, false, false, false, false, false, false, false, false, false] rfl rfl (any_of HT_.out (by kernel_rfl)) (fun _ _ _ h => h) (Or.inl ⟨by rfl, ?_⟩) ?_ ?_
            rotate_left
            · intro w'; go_simp; with_reducible rfl
            rotate_left
            · simp only [Act.put, List.setIfInBounds_toArray, List.set_cons_zero, List.set_cons_succ, i64_w, i32_w]; rfl
            refine pure_ (i := 6) (N := some 17) (v := ?_) (a' := ?_) #[true, true, true, true, true, false, true, false, false, false, false, false, false, false, false, false, false, false, false, false, false, false, false, false, false] rfl rfl (any_of HT_.out (by kernel_rfl)) (fun _ _ _ h => h) (Or.inl ⟨by rfl, ?_⟩) ?_ ?_
            rotate_left
            · intro w'; go_simp; with_reducible rfl
            rotate_left
            · simp only [Act.put, List.setIfInBounds_toArray, List.set_cons_zero, List.set_cons_succ, i64_w, i32_w]; rfl
            refine pure_ (i := 7) (N := some 18) (v := ?_) (a' := ?_) #[true, true, true, true, true, false, true, true, false, false, false, false, false, false, false, false, false, false, false, false, false, false, false, false, false] rfl rfl (any_of HT_.out (by kernel_rfl)) (fun _ _ _ h => h) (Or.inl ⟨by rfl, ?_⟩) ?_ ?_
            rotate_left
            · intro w'; go_simp; with_reducible rfl
            rotate_left
            · simp only [Act.put, List.setIfInBounds_toArray, List.set_cons_zero, List.set_cons_succ, i64_w, i32_w]; rfl
            refine pure_ (i := 8) (N := some 19) (v := ?_) (a' := ?_) #[true, true, true, true, true, false, true, true, true, false, false, false, false, false, false, false, false, false, false, false, false, false, false, false, false] rfl rfl (any_of HT_.out (by kernel_rfl)) (fun _ _ _ h => h) (Or.inl ⟨by rfl, ?_⟩) ?_ ?_
            rotate_left
            · intro w'; go_simp; with_reducible rfl
            rotate_left
            · simp only [Act.put, List.setIfInBounds_toArray, List.set_cons_zero, List.set_cons_succ, i64_w, i32_w]; rfl
            refine pure_ (i := 9) (N := some 20) (v := ?_) (a' := ?_) #[true, true, true, true, true, false, true, true, true, true, false, false, false, false, false, false, false, false, false, false, false, false, false, false, false] rfl rfl (any_of HT_.out (by kernel_rfl)) (fun _ _ _ h => h) (Or.inl ⟨by rfl, ?_⟩) ?_ ?_
            rotate_left
            · intro w'; go_simp; with_reducible rfl
            rotate_left
            · simp only [Act.put, List.setIfInBounds_toArray, List.set_cons_zero, List.set_cons_succ, i64_w, i32_w]; rfl
            refine pure_ (i := 11) (N := some 22) (v := ?_) (a' := ?_) #[true, true, true, true, true, false, true, true, true, true, false, true, false, false, false, false, false, false, false, false, false, false, false, false, false] rfl rfl (any_of HT_.out (by kernel_rfl)) (fun _ _ _ h => h) (Or.inl ⟨by rfl, ?_⟩) ?_ ?_
            rotate_left
            · intro w'; go_simp; with_reducible rfl
            rotate_left
            · simp only [Act.put, List.setIfInBounds_toArray, List.set_cons_zero, List.set_cons_succ, i64_w, i32_w]; rfl
            refine pure_ (i := 12) (N := some 23) (v := ?_) (a' := ?_) #[true, true, true, true, true, false, true, true, true, true, false, true, true, false, false, false, false, false, false, false, false, false, false, false, false] rfl rfl (any_of HT_.out (by kernel_rfl)) (fun _ _ _ h => h) (Or.inl ⟨by rfl, ?_⟩) ?_ ?_
            rotate_left
            · intro w'; go_simp; with_reducible rfl
            rotate_left
            · simp only [Act.put, List.setIfInBounds_toArray, List.set_cons_zero, List.set_cons_succ, i64_w, i32_w]; rfl
            refine pure_ (i := 13) (N := some 24) (v := ?_) (a' := ?_) #[true, true, true, true, true, false, true, true, true, true, false, true, true, true, false, false, false, false, false, false, false, false, false, false, false] rfl rfl (any_of HT_.out (by kernel_rfl)) (fun _ _ _ h => h) (Or.inl ⟨by rfl, ?_⟩) ?_ ?_
            rotate_left
            · intro w'; go_simp; with_reducible rfl
            rotate_left
            · simp only [Act.put, List.setIfInBounds_toArray, List.set_cons_zero, List.set_cons_succ, i64_w, i32_w]; rfl
            refine pure_ (i := 14) (N := some 25) (v := ?_) (a' := ?_) #[true, true, true, true, true, false, true, true, true, true, false, true, true, true, true, false, false, false, false, false, false, false, false, false, false] rfl rfl (any_of HT_.out (by kernel_rfl)) (fun _ _ _ h => h) (Or.inl ⟨by rfl, ?_⟩) ?_ ?_
            rotate_left
            · intro w'; go_simp; with_reducible rfl
            rotate_left
            · simp only [Act.put, List.setIfInBounds_toArray, List.set_cons_zero, List.set_cons_succ, i64_w, i32_w]; rfl
            refine pure_ (i := 16) (N := some 27) (v := ?_) (a' := ?_) #[true, true, true, true, true, false, true, true, true, true, false, true, true, true, true, false, true, false, false, false, false, false, false, false, false] rfl rfl (any_of HT_.out (by kernel_rfl)) (fun _ _ _ h => h) (Or.inl ⟨by rfl, ?_⟩) ?_ ?_
            rotate_left
            · intro w'; go_simp; with_reducible rfl
            rotate_left
            · simp only [Act.put, List.setIfInBounds_toArray, List.set_cons_zero, List.set_cons_succ, i64_w, i32_w]; rfl
            refine pure_ (i := 17) (N := some 28) (v := ?_) (a' := ?_) #[true, true, true, true, true, false, true, true, true, true, false, true, true, true, true, false, true, true, false, false, false, false, false, false, false] rfl rfl (any_of HT_.out (by kernel_rfl)) (fun _ _ _ h => h) (Or.inl ⟨by rfl, ?_⟩) ?_ ?_
            rotate_left
            · intro w'; go_simp; with_reducible rfl
            rotate_left
            · simp only [Act.put, List.setIfInBounds_toArray, List.set_cons_zero, List.set_cons_succ, i64_w, i32_w]; rfl
            refine pure_ (i := 18) (N := some 29) (v := ?_) (a' := ?_) #[true, true, true, true, true, false, true, true, true, true, false, true, true, true, true, false, true, true, true, false, false, false, false, false, false] rfl rfl (any_of HT_.out (by kernel_rfl)) (fun _ _ _ h => h) (Or.inl ⟨by rfl, ?_⟩) ?_ ?_
            rotate_left
            · intro w'; go_simp; with_reducible rfl
            rotate_left
            · simp only [Act.put, List.setIfInBounds_toArray, List.set_cons_zero, List.set_cons_succ, i64_w, i32_w]; rfl
            refine pure_ (i := 19) (N := some 30) (v := ?_) (a' := ?_) #[true, true, true, true, true, false, true, true, true, true, false, true, true, true, true, false, true, true, true, true, false, false, false, false, false] rfl rfl (any_of HT_.out (by kernel_rfl)) (fun _ _ _ h => h) (Or.inl ⟨by rfl, ?_⟩) ?_ ?_
            rotate_left
            · intro w'; go_simp; with_reducible rfl
            rotate_left
            · simp only [Act.put, List.setIfInBounds_toArray, List.set_cons_zero, List.set_cons_succ, i64_w, i32_w]; rfl
            refine take_ (i := 5) (N := some 16) (v := ?_) (a' := ?_) #[true, true, true, true, true, true, true, true, true, true, false, true, true, true, true, false, true, true, true, true, false, false, false, false, false] rfl rfl (take_ofW HT_.out HW_.out (by kernel_rfl)) (fun _ _ _ h => h) (Or.inl ⟨by rfl, ?_⟩) hHeld ?_ ?_
            rotate_left
            · rintro w' ⟨s0, s1, s2, s3, s4, s5, s6, s7, s8, s9, s10, s11, s12, s13, s14, s15⟩; go_simp; with_reducible rfl
            rotate_left
            · simp only [Act.put, List.setIfInBounds_toArray, List.set_cons_zero, List.set_cons_succ, i64_w, i32_w]; rfl
            refine take_ (i := 10) (N := some 21) (v := ?_) (a' := ?_) #[true, true, true, true, true, true, true, true, true, true, true, true, true, true, true, false, true, true, true, true, false, false, false, false, false] rfl rfl (take_ofW HT_.out HW_.out (by kernel_rfl)) (fun _ _ _ h => h) (Or.inl ⟨by rfl, ?_⟩) hHeld ?_ ?_
            rotate_left
            · rintro w' ⟨s0, s1, s2, s3, s4, s5, s6, s7, s8, s9, s10, s11, s12, s13, s14, s15⟩; go_simp; with_reducible rfl
            rotate_left
            · simp only [Act.put, List.setIfInBounds_toArray, List.set_cons_zero, List.set_cons_succ, i64_w, i32_w]; rfl
            refine take_ (i := 15) (N := some 26) (v := ?_) (a' := ?_) #[true, true, true, true, true, true, true, true, true, true, true, true, true, true, true, true, true, true, true, true, false, false, false, false, false] rfl rfl (take_ofW HT_.out HW_.out (by kernel_rfl)) (fun _ _ _ h => h) (Or.inl ⟨by rfl, ?_⟩) hHeld ?_ ?_
            rotate_left
            · rintro w' ⟨s0, s1, s2, s3, s4, s5, s6, s7, s8, s9, s10, s11, s12, s13, s14, s15⟩; go_simp; with_reducible rfl
            rotate_left
            · simp only [Act.put, List.setIfInBounds_toArray, List.set_cons_zero, List.set_cons_succ, i64_w, i32_w]; rfl
            refine take_ (i := 20) (N := some 31) (v := ?_) (a' := ?_) #[true, true, true, true, true, true, true, true, true, true, true, true, true, true, true, true, true, true, true, true, true, false, false, false, false] rfl rfl (take_ofW HT_.out HW_.out (by kernel_rfl)) (fun _ _ _ h => h) (Or.inl ⟨by rfl, ?_⟩) hHeld ?_ ?_
            rotate_left
            · rintro w' ⟨s0, s1, s2, s3, s4, s5, s6, s7, s8, s9, s10, s11, s12, s13, s14, s15⟩; go_simp; with_reducible rfl
            rotate_left
            · simp only [Act.put, List.setIfInBounds_toArray, List.set_cons_zero, List.set_cons_succ, i64_w, i32_w]; rfl
            refine pure_ (i := 21) (N := some 32) (v := ?_) (a' := ?_) #[true, true, true, true, true, true, true, true, true, true, true, true, true, true, true, true, true, true, true, true, true, true, false, false, false] rfl rfl (any_of HT_.out (by kernel_rfl)) (fun _ _ _ h => h) (Or.inl ⟨by rfl, ?_⟩) ?_ ?_
            rotate_left
            · intro w'; go_simp; with_reducible rfl
            rotate_left
            · simp only [Act.put, List.setIfInBounds_toArray, List.set_cons_zero, List.set_cons_succ, i64_w, i32_w]; rfl
            refine one_ (i := 22) (N := some 33) #[true, true, true, true, true, true, true, true, true, true, true, true, true, true, true, true, true, true, true, true, true, true, true, false, false] rfl rfl (one_of HT_.out (by kernel_rfl)) (by decide) (fun K hK => ?_)
            refine value_ (w1 := ?_) (v := ?_) (by rfl) rfl ?_ ?_
            rotate_left 2
            · go_simp
              constructor
              · rfl
              · rfl
            refine hK.out _ _ ⟨(World.cell?_alloc_lt _ _ _ (World.block_lt_of_cell? _ _ (((HB.out.cell (World.block_lt_of_cell? w _ hw286_0)).trans hw286_0)))).trans (((HB.out.cell (World.block_lt_of_cell? w _ hw286_0)).trans hw286_0)), (World.cell?_alloc_lt _ _ _ (World.block_lt_of_cell? _ _ (((HB.out.cell (World.block_lt_of_cell? w _ hw286_1)).trans hw286_1)))).trans (((HB.out.cell (World.block_lt_of_cell? w _ hw286_1)).trans hw286_1)), (World.cell?_alloc_lt _ _ _ (World.block_lt_of_cell? _ _ (((HB.out.cell (World.block_lt_of_cell? w _ hw286_2)).trans hw286_2)))).trans (((HB.out.cell (World.block_lt_of_cell? w _ hw286_2)).trans hw286_2)), (World.cell?_alloc_lt _ _ _ (World.block_lt_of_cell? _ _ (((HB.out.cell (World.block_lt_of_cell? w _ hw286_3)).trans hw286_3)))).trans (((HB.out.cell (World.block_lt_of_cell? w _ hw286_3)).trans hw286_3)), (World.cell?_alloc_lt _ _ _ (World.block_lt_of_cell? _ _ (((HB.out.cell (World.block_lt_of_cell? w _ hw287_0)).trans hw287_0)))).trans (((HB.out.cell (World.block_lt_of_cell? w _ hw287_0)).trans hw287_0)), (World.cell?_alloc_lt _ _ _ (World.block_lt_of_cell? _ _ (((HB.out.cell (World.block_lt_of_cell? w _ hw287_1)).trans hw287_1)))).trans (((HB.out.cell (World.block_lt_of_cell? w _ hw287_1)).trans hw287_1)), (World.cell?_alloc_lt _ _ _ (World.block_lt_of_cell? _ _ (((HB.out.cell (World.block_lt_of_cell? w _ hw287_2)).trans hw287_2)))).trans (((HB.out.cell (World.block_lt_of_cell? w _ hw287_2)).trans hw287_2)), (World.cell?_alloc_lt _ _ _ (World.block_lt_of_cell? _ _ (((HB.out.cell (World.block_lt_of_cell? w _ hw287_3)).trans hw287_3)))).trans (((HB.out.cell (World.block_lt_of_cell? w _ hw287_3)).trans hw287_3)), (World.cell?_alloc_lt _ _ _ (World.block_lt_of_cell? _ _ (((HB.out.cell (World.block_lt_of_cell? w _ hw288_0)).trans hw288_0)))).trans (((HB.out.cell (World.block_lt_of_cell? w _ hw288_0)).trans hw288_0)), (World.cell?_alloc_lt _ _ _ (World.block_lt_of_cell? _ _ (((HB.out.cell (World.block_lt_of_cell? w _ hw288_1)).trans hw288_1)))).trans (((HB.out.cell (World.block_lt_of_cell? w _ hw288_1)).trans hw288_1)), (World.cell?_alloc_lt _ _ _ (World.block_lt_of_cell? _ _ (((HB.out.cell (World.block_lt_of_cell? w _ hw288_2)).trans hw288_2)))).trans (((HB.out.cell (World.block_lt_of_cell? w _ hw288_2)).trans hw288_2)), (World.cell?_alloc_lt _ _ _ (World.block_lt_of_cell? _ _ (((HB.out.cell (World.block_lt_of_cell? w _ hw288_3)).trans hw288_3)))).trans (((HB.out.cell (World.block_lt_of_cell? w _ hw288_3)).trans hw288_3)), (World.cell?_alloc_lt _ _ _ (World.block_lt_of_cell? _ _ (((HB.out.cell (World.block_lt_of_cell? w _ hw289_0)).trans hw289_0)))).trans (((HB.out.cell (World.block_lt_of_cell? w _ hw289_0)).trans hw289_0)), (World.cell?_alloc_lt _ _ _ (World.block_lt_of_cell? _ _ (((HB.out.cell (World.block_lt_of_cell? w _ hw289_1)).trans hw289_1)))).trans (((HB.out.cell (World.block_lt_of_cell? w _ hw289_1)).trans hw289_1)), (World.cell?_alloc_lt _ _ _ (World.block_lt_of_cell? _ _ (((HB.out.cell (World.block_lt_of_cell? w _ hw289_2)).trans hw289_2)))).trans (((HB.out.cell (World.block_lt_of_cell? w _ hw289_2)).trans hw289_2)), (World.cell?_alloc_lt _ _ _ (World.block_lt_of_cell? _ _ (((HB.out.cell (World.block_lt_of_cell? w _ hw289_3)).trans hw289_3)))).trans (((HB.out.cell (World.block_lt_of_cell? w _ hw289_3)).trans hw289_3))⟩ (fun hHeld => ?_)
            clear hK K
            refine norm_ (a' := ?_) ?_ ?_
            rotate_left
            · show Act.put _ (some 33) _ = _
              simp only [Act.put, List.setIfInBounds_toArray, List.set_cons_zero, List.set_cons_succ, i64_w, i32_w]
              rfl
            refine one_ (i := 23) (N := some 34) #[true, true, true, true, true, true, true, true, true, true, true, true, true, true, true, true, true, true, true, true, true, true, true, true, false] rfl rfl (one_of HT_.out (by kernel_rfl)) (by decide) (fun K hK => ?_)
            refine Kd.R_append_step k39 (w0 := w) w.heap.size (by rfl) (.tmp 11) (.tmp 33) 27 39 (.agg #[(.int .i64 0), (.string ⟨#[]⟩), (.string ⟨#[]⟩), (.int .i64 0)]) 48 rfl Try.underlying27 info39 rfl (by decide) (by omega) u3 x3_1 (⟨(rd_T37 l0 x4_1).f0, (rd_T37 l0 x4_1).f1, (rd_T37 l0 x4_1).f2, (rd_T37 l0 x4_1).f3⟩ : S39) [.int .i64 ((rd_T37 l0 x4_1).f0), .string ((rd_T37 l0 x4_1).f1), .string ((rd_T37 l0 x4_1).f2), .int .i64 ((rd_T37 l0 x4_1).f3)] (fun _ => True) (fun _ => False) rfl rfl ?aP (fun _ hk => hk.elim) ?aF ?aO ?aB ?aS ?aL ?_
            (case aP => exact k39_mkM _ _ _ (⟨(rd_T37 l0 x4_1).f0, (rd_T37 l0 x4_1).f1, (rd_T37 l0 x4_1).f2, (rd_T37 l0 x4_1).f3⟩ : S39))
            (case aB => exact (by repeat (first | (with_reducible first | exact HB.out | apply below_alloc | apply pw_below_drewN | apply below_drew1) | exact HB.out)))
            (case aF => exact (fun _ _ => trivial))
            (case aO => exact (by (with_reducible repeat (first | apply Kd.R_alloc | apply Kd.R_drewN | apply Kd.R_drew)); exact HO_3.out))
            (case aS => exact (below_size (by repeat (first | (with_reducible first | exact HB.out | apply below_alloc | apply pw_below_drewN | apply below_drew1) | exact HB.out))))
            (case aL => have := LMc4.out; omega)
            intro v291 w6 ho hb hg hat
            rw [← Ny290.out] at ho
            have n0_ := Aside0.mk (hb)
            have n1_ := Aside0.mk (ho)
            clear HB
            clear HO_3
            have HB := n0_
            have HO292 := n1_
            clear n0_ n1_
            clear ho hb hg hat
            refine hK.out _ _ ⟨((HB.out.cell (World.block_lt_of_cell? w _ hw286_0)).trans hw286_0), ((HB.out.cell (World.block_lt_of_cell? w _ hw286_1)).trans hw286_1), ((HB.out.cell (World.block_lt_of_cell? w _ hw286_2)).trans hw286_2), ((HB.out.cell (World.block_lt_of_cell? w _ hw286_3)).trans hw286_3), ((HB.out.cell (World.block_lt_of_cell? w _ hw287_0)).trans hw287_0), ((HB.out.cell (World.block_lt_of_cell? w _ hw287_1)).trans hw287_1), ((HB.out.cell (World.block_lt_of_cell? w _ hw287_2)).trans hw287_2), ((HB.out.cell (World.block_lt_of_cell? w _ hw287_3)).trans hw287_3), ((HB.out.cell (World.block_lt_of_cell? w _ hw288_0)).trans hw288_0), ((HB.out.cell (World.block_lt_of_cell? w _ hw288_1)).trans hw288_1), ((HB.out.cell (World.block_lt_of_cell? w _ hw288_2)).trans hw288_2), ((HB.out.cell (World.block_lt_of_cell? w _ hw288_3)).trans hw288_3), ((HB.out.cell (World.block_lt_of_cell? w _ hw289_0)).trans hw289_0), ((HB.out.cell (World.block_lt_of_cell? w _ hw289_1)).trans hw289_1), ((HB.out.cell (World.block_lt_of_cell? w _ hw289_2)).trans hw289_2), ((HB.out.cell (World.block_lt_of_cell? w _ hw289_3)).trans hw289_3)⟩ (fun hHeld => ?_)
            clear hK K
            refine norm_ (a' := ?_) ?_ ?_
            rotate_left
            · show Act.put _ (some 34) _ = _
              simp only [Act.put, List.setIfInBounds_toArray, List.set_cons_zero, List.set_cons_succ, i64_w, i32_w]
              rfl
            refine pure_ (i := 24) (N := some 3) (v := ?_) (a' := ?_) #[true, true, true, true, true, true, true, true, true, true, true, true, true, true, true, true, true, true, true, true, true, true, true, true, true] rfl rfl (any_of HT_.out (by kernel_rfl)) (fun _ _ _ h => h) (Or.inl ⟨by rfl, ?_⟩) ?_ ?_
            rotate_left
            · intro w'; go_simp; with_reducible rfl
            rotate_left
            · simp only [Act.put, List.setIfInBounds_toArray, List.set_cons_zero, List.set_cons_succ, i64_w, i32_w]; rfl
            refine done_ (done_of HT_.out (by kernel_rfl)) ?_
            try go_wp2
            go_roundg k1
            case measure => have := HK1.out; omega
            case rel => exact ⟨(y290), (wrap64 (x4_1 + 1)), (by first | rfl | (simp; done) | (simp [*]; done)), H', ⟨by have := HK1.out; omega⟩, ⟨by (with_reducible repeat (first | apply Kd.R_alloc | apply Kd.R_drewN | apply Kd.R_drew)); exact HO292.out⟩, ⟨by repeat (first | (with_reducible first | exact HB.out | apply below_alloc | apply pw_below_drewN | apply below_drew1) | exact HB.out)⟩⟩
          · rw [if_neg c4] at H
            exact absurd H (by simp)
        · rw [if_neg c3] at H
          exact absurd H (by simp)
      · rw [if_neg c2] at H
        have c2b0 : decide (x4_1 < (l0.length : Int)) = false := decide_eq_false c2
        clear c2
        obtain rfl := Option.some.inj H
        go_wp2
        go_ret
        exact ⟨_, by first | rfl | (simp [errW_none, errW_some] <;> rfl) | (simp [*, errW_none, errW_some] <;> rfl), by (with_reducible repeat (first | apply Kd.R_alloc | apply Kd.R_drewN | apply Kd.R_drew)); exact HO_3.out, by repeat (first | (with_reducible first | exact HB.out | apply below_alloc | apply pw_below_drewN | apply below_drew1) | exact HB.out)⟩
end Go.Proofs.Ytngmcigkihfnkaa.H
end
section
namespace Go.Proofs.Ytngmcigkihfnkaa.H
open Go.RowKit Go.Proofs.YtngmcigkihfnkaaW.PrintWords Go.Proofs.YtngmcigkihfnkaaW.PrintLast Go.Proofs.YtngmcigkihfnkaaW.PrintMore
set_option linter.unusedVariables false
set_option linter.unusedSimpArgs false
def e37 (x : S37) : EvT := ⟨x.f0, x.f1, x.f2, x.f3⟩
def s39 (e : EvT) : S39 := ⟨e.now, e.what, e.name, e.n⟩
theorem rd37_at {l : List S37} (i : Nat) (h : i < l.length) : rd_T37 l (i : Int) = l[i] := by
  unfold rd_T37; simp [List.getD_eq_getElem?_getD, h]
theorem taken_l0 (l : List S37) (hl : l.length ≤ 1000000) : ∀ (d i : Nat) (acc : List S39), i + d = l.length → acc.length = i → Ev (fun k => triremelaw32_taken.l0 k l acc (i : Int)) (acc ++ (l.drop i).map (fun x => s39 (e37 x))) := by
  intro d
  induction d with
  | zero =>
    intro i acc h ha
    refine Ev.step (fun k => by rw [triremelaw32_taken.l0]) ?_
    rw [List.drop_eq_nil_of_le (by omega), List.map_nil, List.append_nil]
    simp only [show ¬ ((i : Int) < (l.length : Int)) by omega, if_false]
    exact Ev.now _
  | succ d ih =>
    intro i acc h ha
    have h5 : i < l.length := by omega
    refine Ev.step (fun k => by rw [triremelaw32_taken.l0]) ?_
    rw [List.drop_eq_getElem_cons h5, rd37_at i h5, wrap_small (i := (i : Int) + 1) (by omega) (by omega)]
    simp only [show (i : Int) < (l.length : Int) by omega, show (0 : Int) ≤ (i : Int) by omega, show acc.length < 2932031007402 by omega, if_true]
    have := ih (i + 1) (acc ++ [s39 (e37 l[i])]) (by omega) (by simp [ha])
    rw [List.append_assoc] at this
    exact this
theorem taken_ev (l : List EvT) (hl : l.length ≤ 1000000) : Ev (fun k => triremelaw32_taken.f k (l.map s37)) (l.map s39) := by
  have := taken_l0 (l.map s37) (by simpa using hl) (l.map s37).length 0 [] (by omega) rfl
  rw [List.drop_zero, List.nil_append, List.map_map] at this
  exact this
theorem same_l0 (l : List S39) (hl : l.length ≤ 1000000) : ∀ (d i : Nat), i + d = l.length → Ev (fun k => triremeref32_Same.l0 k l l (i : Int)) true := by
  intro d
  induction d with
  | zero =>
    intro i h
    refine Ev.step (fun k => by rw [triremeref32_Same.l0]) ?_
    simp only [show ¬ ((i : Int) < (l.length : Int)) by omega, if_false]
    exact Ev.now _
  | succ d ih =>
    intro i h
    refine Ev.step (fun k => by rw [triremeref32_Same.l0]) ?_
    rw [wrap_small (i := (i : Int) + 1) (by omega) (by omega)]
    simp only [show (i : Int) < (l.length : Int) by omega, show (0 : Int) ≤ (i : Int) by omega, if_true, beq_self_eq_true, Bool.not_true, Bool.or_false, Bool.false_eq_true, if_false]
    exact ih (i + 1) (by omega)
theorem same_ev (l : List S39) (hl : l.length ≤ 1000000) : Ev (fun k => triremeref32_Same.f k l l) true := by
  unfold triremeref32_Same.f
  simp only [if_true]
  exact same_l0 l hl l.length 0 (by omega)
end Go.Proofs.Ytngmcigkihfnkaa.H
end
section
namespace Go.Proofs.Ytngmcigkihfnkaa.H
open Go.RowKit Go.Proofs.YtngmcigkihfnkaaW.PrintWords Go.Proofs.YtngmcigkihfnkaaW.PrintLast Go.Proofs.YtngmcigkihfnkaaW.PrintMore
attribute [local go_sem] max2_int min2_int max_two min_two max_three min_three max_four min_four   -- for this text's walks alone
set_option linter.unusedVariables false
set_option linter.unusedSimpArgs false
def triremeref32_cut.l0 : Nat → ByteArray → List ByteArray → Int → Int → Option (List ByteArray)
  | 0, _, _, _, _ => none
  | k + 1, x0, x3, x4, x5 => if x5 ≤ (x0.size : Int) then (if x5 = (x0.size : Int) then (if 0 ≤ x4 then (if x4 ≤ x5 then (if x3.length < 8796093022208 then (triremeref32_cut.l0 k x0 (x3 ++ [x0.extract (x4 : Int).toNat (x5 : Int).toNat]) (wrap64 (x5 + 1)) (wrap64 (x5 + 1))) else (none)) else (none)) else (none)) else (if 0 ≤ x5 then (if x5 < (x0.size : Int) then (if (bt x0 x5) = 32 then (if 0 ≤ x4 then (if x4 ≤ x5 then (if x3.length < 8796093022208 then (triremeref32_cut.l0 k x0 (x3 ++ [x0.extract (x4 : Int).toNat (x5 : Int).toNat]) (wrap64 (x5 + 1)) (wrap64 (x5 + 1))) else (none)) else (none)) else (none)) else (triremeref32_cut.l0 k x0 x3 x4 (wrap64 (x5 + 1)))) else (none)) else (none))) else (some x3)
def triremeref32_cut.f (k : Nat) (a0 : ByteArray) : Option (List ByteArray) := triremeref32_cut.l0 k a0 ([] : List ByteArray) 0 0
set_option maxHeartbeats 8000000 in
set_option maxRecDepth 100000 in
theorem triremeref32_cut.calls (k : Nat) (a0 : ByteArray) (r : List ByteArray) (w : World) (h : triremeref32_cut.f k a0 = some r) :
    Calls Try.prog 39 #[.string a0] w fun e w' => ∃ v0_ : Value, e = .returned (v0_) ∧ Kd.R Kd.string 9 w' w.heap.size (fun _ => True) v0_ r ∧ Below w.heap.size w w' := by
  have HB := Aside0.mk (Below.refl w.heap.size w)
  have H : (triremeref32_cut.l0 k a0 ([] : List ByteArray) 0 0) = some r := h
  clear h
  have H' := Aside0.mk H
  clear H
  go_enter Try.func39, Try.ntmps39
  go_wp2
  go_loopg [3, 4, 5] k (fun kq v3 v4 v5 w' => ∃ (x3_1 : List ByteArray) (x4_1 : Int) (x5_1 : Int), v4 = .int .i64 x4_1 ∧ v5 = .int .i64 x5_1 ∧ Aside0 (triremeref32_cut.l0 kq a0 x3_1 x4_1 x5_1 = some r) ∧ Aside0 (kq ≤ k) ∧ Aside0 (Kd.R Kd.string 9 w' w.heap.size (fun _ => True) v3 x3_1) ∧ Aside0 (Below w.heap.size w w'))
  case atStart => exact ⟨(([] : List ByteArray)), (0), (0), (by first | rfl | (simp; done) | (simp [*]; done)), (by first | rfl | (simp; done) | (simp [*]; done)), H', ⟨Nat.le_refl _⟩, ⟨by first | exact Kd.R_nil _ _ _ _ _ | exact Kd.N_nil _ _ _ _ _ | exact Kd.V_nil _ _ _ _ _ | exact Kd.Q_nil _ _ _ _ _ | exact Kd.S_nil _ _ _ _ _⟩, ⟨by repeat (first | (with_reducible first | exact HB.out | apply below_alloc | apply pw_below_drewN | apply below_drew1) | exact HB.out)⟩⟩
  case round =>
    clear H'
    obtain ⟨x3_1, x4_1, x5_1, rfl, rfl, HA, HK1, HO_3, HB⟩ := hrel
    cases gk with
    | zero => exact absurd HA.out (by simp [triremeref32_cut.l0])
    | succ k1 =>
      have H := HA.out
      clear HA
      simp only [triremeref32_cut.l0] at H
      by_cases c2 : x5_1 ≤ (a0.size : Int)
      · rw [if_pos c2] at H
        have c2b0 : decide (x5_1 ≤ (a0.size : Int)) = true := decide_eq_true c2
        clear c2
        by_cases c3 : x5_1 = (a0.size : Int)
        · rw [if_pos c3] at H
          have c3b0 : (x5_1 == (a0.size : Int)) = true := beq_iff_eq.mpr c3
          have c3b1 : (x5_1 != (a0.size : Int)) = false := bne_eq_false_iff_eq.mpr c3
          clear c3
          by_cases c4 : 0 ≤ x4_1
          · rw [if_pos c4] at H
            have c4b0 := eq_true c4
            (try (have c4z := c4b0; rw [ByteArray.size_extract, Nat.min_self] at c4z))
            have c4b1 : decide (0 ≤ x4_1) = true := decide_eq_true c4
            clear c4
            by_cases c5 : x4_1 ≤ x5_1
            · rw [if_pos c5] at H
              have c5b0 := eq_true c5
              (try (have c5z := c5b0; rw [ByteArray.size_extract, Nat.min_self] at c5z))
              have c5b1 : decide (x4_1 ≤ x5_1) = true := decide_eq_true c5
              clear c5
              have c6b0 := eq_true (of_decide_eq_true (by first | (with_reducible assumption) | assumption) : x5_1 ≤ (a0.size : Int))
              by_cases c7 : x3_1.length < 8796093022208
              · rw [if_pos c7] at H
                have LMc7 := Aside0.mk c7
                clear c7
                obtain ⟨y243, hy243⟩ : ∃ y_ : List ByteArray, y_ = (x3_1 ++ [a0.extract (x4_1 : Int).toNat (x5_1 : Int).toNat]) := ⟨_, rfl⟩
                replace H : (triremeref32_cut.l0 k1 a0 y243 (wrap64 (x5_1 + 1)) (wrap64 (x5_1 + 1))) = some r := by first | (rw [hy243]; with_reducible exact H) | (have H2_ := (Option.bind_some _ _).symm.trans H; rw [hy243]; with_reducible exact H2_) | (have H2_ := (Option.bind_some _ _).symm.trans H; with_reducible exact H2_) | with_reducible exact H | (rw [hy243]; exact H) | exact H
                have Ny243 := Aside0.mk hy243
                clear hy243
                have H' := Aside0.mk H
                clear H
                go_wp2_with (first | ((with_reducible refine gate_builtin (b := .append) (xs := #[.tmp 22, .tmp 27]) rfl ?_); at_builtin; refine Kd.R_append Kd.string (w0 := w) w.heap.size rfl (.tmp 22) (.tmp 27) 47 9 (.string ⟨#[]⟩) 16 rfl Try.underlying47 info9 rfl (by decide) (by omega) u3 x3_1 (a0.extract (x4_1 : Int).toNat (x5_1 : Int).toNat) [.string (a0.extract (x4_1 : Int).toNat (x5_1 : Int).toNat)] (fun _ => True) (fun _ => False) rfl rfl ?aP (fun _ hk => hk.elim) ?aF ?aO ?aB ?aS ?aL ?_; (case aP => exact rfl); (case aB => exact (by repeat (first | (with_reducible first | exact HB.out | apply below_alloc | apply pw_below_drewN | apply below_drew1) | exact HB.out))); (case aF => exact (fun _ _ => trivial)); (case aO => exact (by (with_reducible repeat (first | apply Kd.R_alloc | apply Kd.R_drewN | apply Kd.R_drew)); exact HO_3.out)); (case aS => exact (below_size (by repeat (first | (with_reducible first | exact HB.out | apply below_alloc | apply pw_below_drewN | apply below_drew1) | exact HB.out)))); (case aL => have := LMc7.out; omega); intro v244 w8 ho hb hg hat; rw [← Ny243.out] at ho; have n0_ := Aside0.mk (hb); have n1_ := Aside0.mk (ho); clear HB; clear HO_3; have HB := n0_; have HO245 := n1_; clear n0_ n1_; clear ho hb hg hat))
                go_roundg k1
                case measure => have := HK1.out; omega
                case rel => exact ⟨(y243), (wrap64 (x5_1 + 1)), (wrap64 (x5_1 + 1)), (by first | rfl | (simp; done) | (simp [*]; done)), (by first | rfl | (simp; done) | (simp [*]; done)), H', ⟨by have := HK1.out; omega⟩, ⟨by (with_reducible repeat (first | apply Kd.R_alloc | apply Kd.R_drewN | apply Kd.R_drew)); exact HO245.out⟩, ⟨by repeat (first | (with_reducible first | exact HB.out | apply below_alloc | apply pw_below_drewN | apply below_drew1) | exact HB.out)⟩⟩
              · rw [if_neg c7] at H
                exact absurd H (by simp)
            · rw [if_neg c5] at H
              exact absurd H (by simp)
          · rw [if_neg c4] at H
            exact absurd H (by simp)
        · rw [if_neg c3] at H
          have c3b0 : (x5_1 == (a0.size : Int)) = false := beq_eq_false_iff_ne.mpr c3
          have c3b1 : (x5_1 != (a0.size : Int)) = true := bne_iff_ne.mpr c3
          by_cases c9 : 0 ≤ x5_1
          · rw [if_pos c9] at H
            have c9b0 : decide (0 ≤ x5_1) = true := decide_eq_true c9
            clear c9
            by_cases c10 : x5_1 < (a0.size : Int)
            · rw [if_pos c10] at H
              have c10b0 : decide (x5_1 < (a0.size : Int)) = true := decide_eq_true c10
              clear c10
              by_cases c12 : (bt a0 x5_1) = 32
              · rw [if_pos c12] at H
                have c12b0 : ((bt a0 x5_1) == 32) = true := beq_iff_eq.mpr c12
                have c12b1 : ((bt a0 x5_1) != 32) = false := bne_eq_false_iff_eq.mpr c12
                clear c12
                by_cases c13 : 0 ≤ x4_1
                · rw [if_pos c13] at H
                  have c13b0 := eq_true c13
                  (try (have c13z := c13b0; rw [ByteArray.size_extract, Nat.min_self] at c13z))
                  have c13b1 : decide (0 ≤ x4_1) = true := decide_eq_true c13
                  clear c13
                  by_cases c14 : x4_1 ≤ x5_1
                  · rw [if_pos c14] at H
                    have c14b0 := eq_true c14
                    (try (have c14z := c14b0; rw [ByteArray.size_extract, Nat.min_self] at c14z))
                    have c14b1 : decide (x4_1 ≤ x5_1) = true := decide_eq_true c14
                    clear c14
                    have c15b0 := eq_true (of_decide_eq_true (by first | (with_reducible assumption) | assumption) : x5_1 ≤ (a0.size : Int))
                    by_cases c16 : x3_1.length < 8796093022208
                    · rw [if_pos c16] at H
                      have LMc16 := Aside0.mk c16
                      clear c16
                      obtain ⟨y246, hy246⟩ : ∃ y_ : List ByteArray, y_ = (x3_1 ++ [a0.extract (x4_1 : Int).toNat (x5_1 : Int).toNat]) := ⟨_, rfl⟩
                      replace H : (triremeref32_cut.l0 k1 a0 y246 (wrap64 (x5_1 + 1)) (wrap64 (x5_1 + 1))) = some r := by first | (rw [hy246]; with_reducible exact H) | (have H2_ := (Option.bind_some _ _).symm.trans H; rw [hy246]; with_reducible exact H2_) | (have H2_ := (Option.bind_some _ _).symm.trans H; with_reducible exact H2_) | with_reducible exact H | (rw [hy246]; exact H) | exact H
                      have Ny246 := Aside0.mk hy246
                      clear hy246
                      have H' := Aside0.mk H
                      clear H
                      have p11 : 0 ≤ (x5_1 : Int) := of_decide_eq_true (by first | (with_reducible assumption) | assumption)
                      have q11 : x5_1 < (a0.size : Int) := of_decide_eq_true (by first | (with_reducible assumption) | assumption)
                      have hx11 := bt_at a0 x5_1
                      replace p11 := eq_true p11
                      replace q11 := eq_true q11
                      (try (have qz11 := q11; rw [ByteArray.size_extract, Nat.min_self] at qz11))
                      go_wp2_with (first | ((with_reducible refine gate_builtin (b := .append) (xs := #[.tmp 22, .tmp 27]) rfl ?_); at_builtin; refine Kd.R_append Kd.string (w0 := w) w.heap.size rfl (.tmp 22) (.tmp 27) 47 9 (.string ⟨#[]⟩) 16 rfl Try.underlying47 info9 rfl (by decide) (by omega) u3 x3_1 (a0.extract (x4_1 : Int).toNat (x5_1 : Int).toNat) [.string (a0.extract (x4_1 : Int).toNat (x5_1 : Int).toNat)] (fun _ => True) (fun _ => False) rfl rfl ?aP (fun _ hk => hk.elim) ?aF ?aO ?aB ?aS ?aL ?_; (case aP => exact rfl); (case aB => exact (by repeat (first | (with_reducible first | exact HB.out | apply below_alloc | apply pw_below_drewN | apply below_drew1) | exact HB.out))); (case aF => exact (fun _ _ => trivial)); (case aO => exact (by (with_reducible repeat (first | apply Kd.R_alloc | apply Kd.R_drewN | apply Kd.R_drew)); exact HO_3.out)); (case aS => exact (below_size (by repeat (first | (with_reducible first | exact HB.out | apply below_alloc | apply pw_below_drewN | apply below_drew1) | exact HB.out)))); (case aL => have := LMc16.out; omega); intro v247 w17 ho hb hg hat; rw [← Ny246.out] at ho; have n0_ := Aside0.mk (hb); have n1_ := Aside0.mk (ho); clear HB; clear HO_3; have HB := n0_; have HO248 := n1_; clear n0_ n1_; clear ho hb hg hat))
                      go_roundg k1
                      case measure => have := HK1.out; omega
                      case rel => exact ⟨(y246), (wrap64 (x5_1 + 1)), (wrap64 (x5_1 + 1)), (by first | rfl | (simp; done) | (simp [*]; done)), (by first | rfl | (simp; done) | (simp [*]; done)), H', ⟨by have := HK1.out; omega⟩, ⟨by (with_reducible repeat (first | apply Kd.R_alloc | apply Kd.R_drewN | apply Kd.R_drew)); exact HO248.out⟩, ⟨by repeat (first | (with_reducible first | exact HB.out | apply below_alloc | apply pw_below_drewN | apply below_drew1) | exact HB.out)⟩⟩
                    · rw [if_neg c16] at H
                      exact absurd H (by simp)
                  · rw [if_neg c14] at H
                    exact absurd H (by simp)
                · rw [if_neg c13] at H
                  exact absurd H (by simp)
              · rw [if_neg c12] at H
                have c12b0 : ((bt a0 x5_1) == 32) = false := beq_eq_false_iff_ne.mpr c12
                have c12b1 : ((bt a0 x5_1) != 32) = true := bne_iff_ne.mpr c12
                have H' := Aside0.mk H
                clear H
                have p11 : 0 ≤ (x5_1 : Int) := of_decide_eq_true (by first | (with_reducible assumption) | assumption)
                have q11 : x5_1 < (a0.size : Int) := of_decide_eq_true (by first | (with_reducible assumption) | assumption)
                have hx11 := bt_at a0 x5_1
                replace p11 := eq_true p11
                replace q11 := eq_true q11
                (try (have qz11 := q11; rw [ByteArray.size_extract, Nat.min_self] at qz11))
                go_wp2
                go_roundg k1
                case measure => have := HK1.out; omega
                case rel => exact ⟨(x3_1), (x4_1), (wrap64 (x5_1 + 1)), (by first | rfl | (simp; done) | (simp [*]; done)), (by first | rfl | (simp; done) | (simp [*]; done)), H', ⟨by have := HK1.out; omega⟩, ⟨by (with_reducible repeat (first | apply Kd.R_alloc | apply Kd.R_drewN | apply Kd.R_drew)); exact HO_3.out⟩, ⟨by repeat (first | (with_reducible first | exact HB.out | apply below_alloc | apply pw_below_drewN | apply below_drew1) | exact HB.out)⟩⟩
            · rw [if_neg c10] at H
              exact absurd H (by simp)
          · rw [if_neg c9] at H
            exact absurd H (by simp)
      · rw [if_neg c2] at H
        have c2b0 : decide (x5_1 ≤ (a0.size : Int)) = false := decide_eq_false c2
        clear c2
        obtain rfl := Option.some.inj H
        go_wp2
        go_ret
        exact ⟨_, by first | rfl | (simp [errW_none, errW_some] <;> rfl) | (simp [*, errW_none, errW_some] <;> rfl), by (with_reducible repeat (first | apply Kd.R_alloc | apply Kd.R_drewN | apply Kd.R_drew)); exact HO_3.out, by repeat (first | (with_reducible first | exact HB.out | apply below_alloc | apply pw_below_drewN | apply below_drew1) | exact HB.out)⟩
end Go.Proofs.Ytngmcigkihfnkaa.H
end
section
namespace Go.Proofs.Ytngmcigkihfnkaa.H
open Go.RowKit Go.Proofs.YtngmcigkihfnkaaW.PrintWords Go.Proofs.YtngmcigkihfnkaaW.PrintLast Go.Proofs.YtngmcigkihfnkaaW.PrintMore
attribute [local go_sem] max2_int min2_int max_two min_two max_three min_three max_four min_four   -- for this text's walks alone
set_option linter.unusedVariables false
set_option linter.unusedSimpArgs false
mutual
def triremeref32_number.l0 : Nat → ByteArray → Int → Int → Option (Int)
  | 0, _, _, _ => none
  | k + 1, x0, x3, x4 => if x4 < (x0.size : Int) then (triremeref32_number.j1 k x0 x3 x4 (decide (x4 < 13))) else (triremeref32_number.j1 k x0 x3 x4 false)
def triremeref32_number.j1 : Nat → ByteArray → Int → Int → Bool → Option (Int)
  | 0, _, _, _, _ => none
  | k + 1, x0, x3, x4, x12 => if x12 = true then (if 0 ≤ x4 then (if x4 < (x0.size : Int) then (if (bt x0 x4) ≥ 48 then (if (bt x0 x4) ≤ 57 then (triremeref32_number.l0 k x0 (wrap64 ((wrap64 (10 * x3)) + (((bt x0 x4) - 48) % 256))) (wrap64 (x4 + 1))) else (triremeref32_number.l0 k x0 x3 (wrap64 (x4 + 1)))) else (triremeref32_number.l0 k x0 x3 (wrap64 (x4 + 1)))) else (none)) else (none)) else (some x3)
end
def triremeref32_number.f (k : Nat) (a0 : ByteArray) : Option (Int) := triremeref32_number.l0 k a0 0 0
set_option maxHeartbeats 8000000 in
set_option maxRecDepth 100000 in
theorem triremeref32_number.calls (k : Nat) (a0 : ByteArray) (r : Int) (w : World) (h : triremeref32_number.f k a0 = some r) :
    Calls Try.prog 40 #[.string a0] w fun e w' => e = .returned (.int .i64 r) ∧ Drawn0 w w' := by
  have H : (triremeref32_number.l0 k a0 0 0) = some r := h
  clear h
  have H' := Aside0.mk H
  clear H
  go_enter Try.func40, Try.ntmps40
  go_wp2
  go_loopg [3, 4] k (fun kq v3 v4 w' => ∃ (x3_1 : Int) (x4_1 : Int), v3 = .int .i64 x3_1 ∧ v4 = .int .i64 x4_1 ∧ Aside0 (triremeref32_number.l0 kq a0 x3_1 x4_1 = some r) ∧ Aside0 (kq ≤ k) ∧ Drawn0 w w')
  case atStart => exact ⟨(0), (0), (by first | rfl | (simp; done) | (simp [*]; done)), (by first | rfl | (simp; done) | (simp [*]; done)), H', ⟨Nat.le_refl _⟩, by repeat (first | exact Drawn0.refl _ | apply Drawn0.step)⟩
  case round =>
    clear H'
    obtain ⟨x3_1, x4_1, rfl, rfl, HA, HK1, ⟨m1, rfl⟩⟩ := hrel
    cases gk with
    | zero => exact absurd HA.out (by simp [triremeref32_number.l0])
    | succ k1 =>
      have H := HA.out
      clear HA
      simp only [triremeref32_number.l0] at H
      have HC2 := Aside0.mk H
      clear H
      go_upto_region 3 with (fail)
      go_cut [12] (fun v12 wc => ∃ (kq : Nat) (x12_1 : Bool), v12 = .bool x12_1 ∧ Aside0 (triremeref32_number.j1 kq a0 x3_1 x4_1 x12_1 = some r) ∧ Aside0 (kq ≤ k1) ∧ Drawn0 w wc)
      case first =>
        have H := HC2.out
        clear HC2
        by_cases c3 : x4_1 < (a0.size : Int)
        · rw [if_pos c3] at H
          have c3b0 : decide (x4_1 < (a0.size : Int)) = true := decide_eq_true c3
          clear c3
          (first | rw [c3b0] | (simp only [i64_w, i32_w]; rw [c3b0]) | skip)
          have H' := Aside0.mk H
          clear H
          go_wp2
          go_meet
          case rel => exact ⟨_, (decide (x4_1 < 13)), (by first | rfl | (simp; done) | (simp [*]; done)), H', ⟨by have := HK1.out; first | omega | exact Nat.le_refl _⟩, by repeat (first | exact Drawn0.refl _ | apply Drawn0.step)⟩
        · rw [if_neg c3] at H
          have c3b0 : decide (x4_1 < (a0.size : Int)) = false := decide_eq_false c3
          clear c3
          (first | rw [c3b0] | (simp only [i64_w, i32_w]; rw [c3b0]) | skip)
          have H' := Aside0.mk H
          clear H
          go_wp2
          go_meet
          case rel => exact ⟨_, (false), (by first | rfl | (simp; done) | (simp [*]; done)), H', ⟨by have := HK1.out; first | omega | exact Nat.le_refl _⟩, by repeat (first | exact Drawn0.refl _ | apply Drawn0.step)⟩
      case rest =>
        clear HC2
        try clear p2
        try clear c3
        try clear c3b0
        obtain ⟨kq, x12_1, rfl, HA, HJ1, ⟨mc1, rfl⟩⟩ := hcut
        cases kq with
        | zero => exact absurd HA.out (by simp [triremeref32_number.j1])
        | succ kj1 =>
          have H := HA.out
          clear HA
          simp only [triremeref32_number.j1] at H
          by_cases c4 : x12_1 = true
          · subst c4
            have H1 : (if 0 ≤ x4_1 then (if x4_1 < (a0.size : Int) then (if (bt a0 x4_1) ≥ 48 then (if (bt a0 x4_1) ≤ 57 then (triremeref32_number.l0 kj1 a0 (wrap64 ((wrap64 (10 * x3_1)) + (((bt a0 x4_1) - 48) % 256))) (wrap64 (x4_1 + 1))) else (triremeref32_number.l0 kj1 a0 x3_1 (wrap64 (x4_1 + 1)))) else (triremeref32_number.l0 kj1 a0 x3_1 (wrap64 (x4_1 + 1)))) else (none)) else (none)) = some r := by rw [if_pos rfl] at H; exact H
            clear H
            have H := H1
            clear H1
            by_cases c5 : 0 ≤ x4_1
            · rw [if_pos c5] at H
              have c5b0 : decide (0 ≤ x4_1) = true := decide_eq_true c5
              clear c5
              by_cases c6 : x4_1 < (a0.size : Int)
              · rw [if_pos c6] at H
                have c6b0 : decide (x4_1 < (a0.size : Int)) = true := decide_eq_true c6
                clear c6
                by_cases c8 : (bt a0 x4_1) ≥ 48
                · rw [if_pos c8] at H
                  have c8b0 : decide (48 ≤ (bt a0 x4_1)) = true := decide_eq_true c8
                  clear c8
                  by_cases c10 : (bt a0 x4_1) ≤ 57
                  · rw [if_pos c10] at H
                    have c10b0 : decide ((bt a0 x4_1) ≤ 57) = true := decide_eq_true c10
                    clear c10
                    have H' := Aside0.mk H
                    clear H
                    have p7 : 0 ≤ (x4_1 : Int) := of_decide_eq_true (by first | (with_reducible assumption) | assumption)
                    have q7 : x4_1 < (a0.size : Int) := of_decide_eq_true (by first | (with_reducible assumption) | assumption)
                    have hx7 := bt_at a0 x4_1
                    replace p7 := eq_true p7
                    replace q7 := eq_true q7
                    (try (have qz7 := q7; rw [ByteArray.size_extract, Nat.min_self] at qz7))
                    have p9 : 0 ≤ (x4_1 : Int) := of_decide_eq_true (by first | (with_reducible assumption) | assumption)
                    have q9 : x4_1 < (a0.size : Int) := of_decide_eq_true (by first | (with_reducible assumption) | assumption)
                    have hx9 := bt_at a0 x4_1
                    replace p9 := eq_true p9
                    replace q9 := eq_true q9
                    (try (have qz9 := q9; rw [ByteArray.size_extract, Nat.min_self] at qz9))
                    have p11 : 0 ≤ (x4_1 : Int) := of_decide_eq_true (by first | (with_reducible assumption) | assumption)
                    have q11 : x4_1 < (a0.size : Int) := of_decide_eq_true (by first | (with_reducible assumption) | assumption)
                    have hx11 := bt_at a0 x4_1
                    replace p11 := eq_true p11
                    replace q11 := eq_true q11
                    (try (have qz11 := q11; rw [ByteArray.size_extract, Nat.min_self] at qz11))
                    go_wp2
                    go_roundg kj1
                    case measure => have := HK1.out; have := HJ1.out; omega
                    case rel => exact ⟨(wrap64 ((wrap64 (10 * x3_1)) + (((bt a0 x4_1) - 48) % 256))), (wrap64 (x4_1 + 1)), (by first | rfl | (simp; done) | (simp [*]; done)), (by first | rfl | (simp; done) | (simp [*]; done)), H', ⟨by have := HK1.out; have := HJ1.out; omega⟩, by repeat (first | exact Drawn0.refl _ | apply Drawn0.step)⟩
                  · rw [if_neg c10] at H
                    have c10b0 : decide ((bt a0 x4_1) ≤ 57) = false := decide_eq_false c10
                    clear c10
                    have H' := Aside0.mk H
                    clear H
                    have p7 : 0 ≤ (x4_1 : Int) := of_decide_eq_true (by first | (with_reducible assumption) | assumption)
                    have q7 : x4_1 < (a0.size : Int) := of_decide_eq_true (by first | (with_reducible assumption) | assumption)
                    have hx7 := bt_at a0 x4_1
                    replace p7 := eq_true p7
                    replace q7 := eq_true q7
                    (try (have qz7 := q7; rw [ByteArray.size_extract, Nat.min_self] at qz7))
                    have p9 : 0 ≤ (x4_1 : Int) := of_decide_eq_true (by first | (with_reducible assumption) | assumption)
                    have q9 : x4_1 < (a0.size : Int) := of_decide_eq_true (by first | (with_reducible assumption) | assumption)
                    have hx9 := bt_at a0 x4_1
                    replace p9 := eq_true p9
                    replace q9 := eq_true q9
                    (try (have qz9 := q9; rw [ByteArray.size_extract, Nat.min_self] at qz9))
                    go_wp2
                    go_roundg kj1
                    case measure => have := HK1.out; have := HJ1.out; omega
                    case rel => exact ⟨(x3_1), (wrap64 (x4_1 + 1)), (by first | rfl | (simp; done) | (simp [*]; done)), (by first | rfl | (simp; done) | (simp [*]; done)), H', ⟨by have := HK1.out; have := HJ1.out; omega⟩, by repeat (first | exact Drawn0.refl _ | apply Drawn0.step)⟩
                · rw [if_neg c8] at H
                  have c8b0 : decide (48 ≤ (bt a0 x4_1)) = false := decide_eq_false c8
                  clear c8
                  have H' := Aside0.mk H
                  clear H
                  have p7 : 0 ≤ (x4_1 : Int) := of_decide_eq_true (by first | (with_reducible assumption) | assumption)
                  have q7 : x4_1 < (a0.size : Int) := of_decide_eq_true (by first | (with_reducible assumption) | assumption)
                  have hx7 := bt_at a0 x4_1
                  replace p7 := eq_true p7
                  replace q7 := eq_true q7
                  (try (have qz7 := q7; rw [ByteArray.size_extract, Nat.min_self] at qz7))
                  go_wp2
                  go_roundg kj1
                  case measure => have := HK1.out; have := HJ1.out; omega
                  case rel => exact ⟨(x3_1), (wrap64 (x4_1 + 1)), (by first | rfl | (simp; done) | (simp [*]; done)), (by first | rfl | (simp; done) | (simp [*]; done)), H', ⟨by have := HK1.out; have := HJ1.out; omega⟩, by repeat (first | exact Drawn0.refl _ | apply Drawn0.step)⟩
              · rw [if_neg c6] at H
                exact absurd H (by simp)
            · rw [if_neg c5] at H
              exact absurd H (by simp)
          · replace c4 := Bool.eq_false_iff.mpr c4
            subst c4
            have H1 : (some x3_1) = some r := by rw [if_neg (show ¬ (false = true) by decide)] at H; exact H
            clear H
            have H := H1
            clear H1
            obtain rfl := Option.some.inj H
            go_wp2
            go_ret
            exact ⟨by first | rfl | (simp; done) | (simp [*]; done), by repeat (first | exact Drawn0.refl _ | apply Drawn0.step)⟩
end Go.Proofs.Ytngmcigkihfnkaa.H
end
section
namespace Go.Proofs.Ytngmcigkihfnkaa.H
open Go.RowKit Go.Proofs.YtngmcigkihfnkaaW.PrintWords Go.Proofs.YtngmcigkihfnkaaW.PrintLast Go.Proofs.YtngmcigkihfnkaaW.PrintMore
attribute [local go_sem] max2_int min2_int max_two min_two max_three min_three max_four min_four   -- for this text's walks alone
set_option linter.unusedVariables false
set_option linter.unusedSimpArgs false
mutual
def triremeref32_read.j0 : Nat → ByteArray → List ByteArray → Bool → Option (Int × ByteArray × ByteArray × Int × Bool)
  | 0, _, _, _ => none
  | k + 1, x0, x4, x22 => if x22 = true then (some (0, (⟨#[]⟩ : ByteArray), (⟨#[]⟩ : ByteArray), 0, false)) else (if 0 < (x4.length : Int) then (if 0 ≤ (wrap64 (((rdOf ByteArray.empty x4 0).size : Int) - 1)) then (if (wrap64 (((rdOf ByteArray.empty x4 0).size : Int) - 1)) ≤ ((rdOf ByteArray.empty x4 0).size : Int) then ((triremeref32_number.f k ((rdOf ByteArray.empty x4 0).extract 0 ((wrap64 (((rdOf ByteArray.empty x4 0).size : Int) - 1)) : Int).toNat)).bind fun t256 => (if 1 < (x4.length : Int) then (if (x4.length : Int) > 2 then (if 2 < (x4.length : Int) then (triremeref32_read.j1 k x0 x4 t256 (rdOf ByteArray.empty x4 1) (rdOf ByteArray.empty x4 2) 0) else (none)) else (triremeref32_read.j1 k x0 x4 t256 (rdOf ByteArray.empty x4 1) (⟨#[]⟩ : ByteArray) 0)) else (none))) else (none)) else (none)) else (none))
def triremeref32_read.j1 : Nat → ByteArray → List ByteArray → Int → ByteArray → ByteArray → Int → Option (Int × ByteArray × ByteArray × Int × Bool)
  | 0, _, _, _, _, _, _ => none
  | k + 1, x0, x4, x259000, x259001, x259002, x259003 => if (x4.length : Int) > 3 then (if 3 < (x4.length : Int) then ((triremeref32_number.f k (rdOf ByteArray.empty x4 3)).bind fun t261 => ((triremeref32_Right.f k x259000 x259001 x259002 t261).bind fun t262 => (if t262 = true then ((triremeref32_line.f k x259000 x259001 x259002 t261).bind fun t263 => (some (x259000, x259001, x259002, t261, (t263.toList == x0.toList)))) else (some (x259000, x259001, x259002, t261, false))))) else (none)) else ((triremeref32_Right.f k x259000 x259001 x259002 x259003).bind fun t264 => (if t264 = true then ((triremeref32_line.f k x259000 x259001 x259002 x259003).bind fun t265 => (some (x259000, x259001, x259002, x259003, (t265.toList == x0.toList)))) else (some (x259000, x259001, x259002, x259003, false))))
end
def triremeref32_read.f (k : Nat) (a0 : ByteArray) : Option (Int × ByteArray × ByteArray × Int × Bool) := (triremeref32_cut.f k a0).bind fun t250 => (if (t250.length : Int) < 2 then (triremeref32_read.j0 k a0 t250 true) else (if (t250.length : Int) > 4 then (triremeref32_read.j0 k a0 t250 true) else (if 0 < (t250.length : Int) then (triremeref32_read.j0 k a0 t250 (decide (((rdOf ByteArray.empty t250 0).size : Int) < 2))) else (none))))
def triremeref32_read.T4 : Bool × List (List Nat × List Nat) := (true, [([], []), ([0], [0]), ([1], [1]), ([], []), ([3], [3]), ([4], [4]), ([5], [5]), ([6], [6]), ([2, 7], [2, 7]), ([8], [8]), ([], []), ([10], [10]), ([11], [11]), ([9, 12], [9, 12]), ([], []), ([14, 13, 9, 0, 1, 2, 3, 4, 5, 6, 7, 8, 9, 10, 11, 12, 13, 14], [13, 14])])
def triremeref32_read.B4 : List Nat := [0, 1, 3, 0, 8, 24, 56, 120, 255, 511, 0, 1024, 3072, 8191, 0, 32767]
theorem triremeref32_read.tab4 : rtab .any (opsOf Try.f26 4) = triremeref32_read.T4 := by kernel_rfl
theorem triremeref32_read.bits4 : waitsOk triremeref32_read.T4.2 triremeref32_read.B4 = true := by kernel_rfl
def triremeref32_read.T9 : Bool × List (List Nat × List Nat) := (true, [([], []), ([], []), ([1], [1]), ([2, 2], [2]), ([3], [3]), ([4, 3, 3], [3, 4]), ([3], [3]), ([5, 6, 3], [3, 5, 6]), ([3, 7], [3, 7]), ([0, 5, 0], [0]), ([8, 9, 0, 1, 2, 3, 4, 5, 6, 7, 8, 9], [8])])
def triremeref32_read.B9 : List Nat := [0, 0, 2, 6, 14, 30, 14, 126, 254, 63, 1023]
theorem triremeref32_read.tab9 : rtab .any (opsOf Try.f26 9) = triremeref32_read.T9 := by kernel_rfl
theorem triremeref32_read.bits9 : waitsOk triremeref32_read.T9.2 triremeref32_read.B9 = true := by kernel_rfl
set_option maxHeartbeats 8000000 in
set_option maxRecDepth 100000 in
theorem triremeref32_read.calls (k : Nat) (a0 : ByteArray) (r1 : Int) (r2 : ByteArray) (r3 : ByteArray) (r4 : Int) (r5 : Bool) (w : World) (h : triremeref32_read.f k a0 = some (r1, r2, r3, r4, r5)) :
    Calls Try.prog 26 #[.string a0] w fun e w' => e = .returned (.tuple #[.agg #[.int .i64 r1, .string r2, .string r3, .int .i64 r4], .bool r5]) ∧ Below w.heap.size w w' := by
  have hu39 := Try.underlying39
  have HB := Aside0.mk (Below.refl w.heap.size w)
  have H : ((triremeref32_cut.f k a0).bind fun t250 => (if (t250.length : Int) < 2 then (triremeref32_read.j0 k a0 t250 true) else (if (t250.length : Int) > 4 then (triremeref32_read.j0 k a0 t250 true) else (if 0 < (t250.length : Int) then (triremeref32_read.j0 k a0 t250 (decide (((rdOf ByteArray.empty t250 0).size : Int) < 2))) else (none))))) = some (r1, r2, r3, r4, r5) := h
  clear h
  replace H := Option.bind_eq_some_iff.mp H
  obtain ⟨t250, A20, H⟩ := H
  replace H : (if (t250.length : Int) < 2 then (triremeref32_read.j0 k a0 t250 true) else (if (t250.length : Int) > 4 then (triremeref32_read.j0 k a0 t250 true) else (if 0 < (t250.length : Int) then (triremeref32_read.j0 k a0 t250 (decide (((rdOf ByteArray.empty t250 0).size : Int) < 2))) else (none)))) = some (r1, r2, r3, r4, r5) := H
  have A2 := Aside0.mk A20
  clear A20
  have HC3 := Aside0.mk H
  clear H
  go_enter Try.func26, Try.ntmps26
  go_upto_region 2 with (first | ((with_reducible refine gate_dst (N := 2) rfl ?_); (try (refine gate_guard (by rfl) ?_; dsimp only)); refine box_event ?hg (N := 2) ?hd (cs := #[.int .i64 0, .string (⟨#[]⟩ : ByteArray), .string (⟨#[]⟩ : ByteArray), .int .i64 0]) (t := 39) ?hr ?_; (case hd => rfl); (case hg => rfl); (case hr => first | (go_simp; done) | (go_simp; rfl)); intro gb249 hg w4 hbox hb; have n0_ := Aside0.mk (below_step (by repeat (first | (with_reducible first | exact HB.out | apply below_alloc | apply pw_below_drewN | apply below_drew1) | exact HB.out)) hb); have n1_ := Aside0.mk (hbox); have n2_ := Aside0.mk ((by rw [hg]; exact (below_size (by repeat (first | (with_reducible first | exact HB.out | apply below_alloc | apply pw_below_drewN | apply below_drew1) | exact HB.out))) : w.heap.size ≤ gb249)); have n3_ := Aside0.mk ((by rw [hg]; exact (below_size (by repeat (first | (with_reducible first | exact HB.out | apply below_alloc | apply pw_below_drewN | apply below_drew1) | exact HB.out))) : w.heap.size ≤ gb249)); clear HB; have HB := n0_; have BK249 := n1_; have GW249 := n2_; have GE249 := n3_; clear n0_ n1_ n2_ n3_; clear hb hbox hg) | ((first | ((with_reducible refine gate_callee (f := 39) rfl ?_); refine goesL_ (some 7) rfl rfl Try.func39 (by kernel_rfl) rfl #[.string a0] rfl (by (try simp only [List.map_toArray, List.map_cons, List.map_nil]); first | done | rfl | (simp only [List.length_drop, List.length_take]; rfl)) ?_; (with_reducible refine (triremeref32_cut.calls k a0 t250 _ A2.out).mono ?_); rintro e w5 ⟨v251, rfl, ho0, hb⟩; refine ⟨_, rfl, ?_⟩) | (go_at_call 39; (with_reducible refine (triremeref32_cut.calls k a0 t250 _ A2.out).mono ?_); rintro e w5 ⟨v251, rfl, ho0, hb⟩)); have n0_ := Aside0.mk (Kd.R_lower ho0 (below_size (by repeat (first | (with_reducible first | exact HB.out | apply below_alloc | apply pw_below_drewN | apply below_drew1 | refine below_set ?_ GE249.out) | exact HB.out)))); have n1_ := Aside0.mk (blk_below (g := gb249) (o := .cells #[.int .i64 0, .string (⟨#[]⟩ : ByteArray), .string (⟨#[]⟩ : ByteArray), .int .i64 0] 39 (0, 0)) (by (with_reducible repeat (first | refine blk_drewN ?_ _ | refine blk_drew ?_ | refine blk_alloc ?_ _)); exact BK249.out) hb); have n2_ := Aside0.mk (below_step (by repeat (first | (with_reducible first | exact HB.out | apply below_alloc | apply pw_below_drewN | apply below_drew1 | refine below_set ?_ GE249.out) | exact HB.out)) hb); clear BK249; clear HB; have HO252 := n0_; have BK249 := n1_; have HB := n2_; clear n0_ n1_ n2_; (try clear hb); (try clear hb2); (try clear hk); (try clear hi); (try clear ho0)))
  (try simp only [Act.put, List.setIfInBounds_toArray, List.set_cons_zero, List.set_cons_succ])
  go_cut [22] (fun v22 wc => ∃ (kq : Nat) (x22_2 : Bool), v22 = .bool x22_2 ∧ Aside0 (triremeref32_read.j0 kq a0 t250 x22_2 = some (r1, r2, r3, r4, r5)) ∧ Aside0 (kq ≤ k) ∧ Aside0 (Kd.R Kd.string 9 wc w.heap.size (fun _ => True) v251 t250) ∧ Aside0 (wc.heap[gb249]? = some (.cells #[.int .i64 0, .string (⟨#[]⟩ : ByteArray), .string (⟨#[]⟩ : ByteArray), .int .i64 0] 39 (0, 0))) ∧ Aside0 (Below w.heap.size w wc))
  case first =>
    have H := HC3.out
    clear HC3
    by_cases c6 : (t250.length : Int) < 2
    · rw [if_pos c6] at H
      have c6b0 : decide ((t250.length : Int) < 2) = true := decide_eq_true c6
      have c6b1 : decide (t250.length < 2) = true := decide_eq_true (by omega)
      clear c6
      (first | rw [c6b0] | (simp only [i64_w, i32_w]; rw [c6b0]) | skip)
      have H' := Aside0.mk H
      clear H
      obtain ⟨Ao7, co7, eo7⟩ := Kd.R_slice HO252.out
      subst eo7
      go_wp2
      go_meet
      case rel => exact ⟨_, (true), (by first | rfl | (simp; done) | (simp [*]; done)), H', ⟨by first | omega | exact Nat.le_refl _⟩, ⟨by (with_reducible repeat (first | apply Kd.R_alloc | apply Kd.R_drewN | apply Kd.R_drew)); exact HO252.out⟩, ⟨by (with_reducible repeat (first | refine blk_drewN ?_ _ | refine blk_drew ?_ | refine blk_alloc ?_ _)); exact BK249.out⟩, ⟨by repeat (first | (with_reducible first | exact HB.out | apply below_alloc | apply pw_below_drewN | apply below_drew1 | refine below_set ?_ GE249.out) | exact HB.out)⟩⟩
    · rw [if_neg c6] at H
      have c6b0 : decide ((t250.length : Int) < 2) = false := decide_eq_false c6
      have c6b1 : decide (t250.length < 2) = false := decide_eq_false (by omega)
      clear c6
      (first | rw [c6b0] | (simp only [i64_w, i32_w]; rw [c6b0]) | skip)
      by_cases c8 : (t250.length : Int) > 4
      · rw [if_pos c8] at H
        have c8b0 : decide (4 < (t250.length : Int)) = true := decide_eq_true c8
        have c8b1 : decide (4 < t250.length) = true := decide_eq_true (by omega)
        clear c8
        have H' := Aside0.mk H
        clear H
        obtain ⟨Ao9, co9, eo9⟩ := Kd.R_slice HO252.out
        subst eo9
        go_wp2
        go_meet
        case rel => exact ⟨_, (true), (by first | rfl | (simp; done) | (simp [*]; done)), H', ⟨by first | omega | exact Nat.le_refl _⟩, ⟨by (with_reducible repeat (first | apply Kd.R_alloc | apply Kd.R_drewN | apply Kd.R_drew)); exact HO252.out⟩, ⟨by (with_reducible repeat (first | refine blk_drewN ?_ _ | refine blk_drew ?_ | refine blk_alloc ?_ _)); exact BK249.out⟩, ⟨by repeat (first | (with_reducible first | exact HB.out | apply below_alloc | apply pw_below_drewN | apply below_drew1 | refine below_set ?_ GE249.out) | exact HB.out)⟩⟩
      · rw [if_neg c8] at H
        have c8b0 : decide (4 < (t250.length : Int)) = false := decide_eq_false c8
        have c8b1 : decide (4 < t250.length) = false := decide_eq_false (by omega)
        clear c8
        by_cases c10 : 0 < (t250.length : Int)
        · rw [if_pos c10] at H
          have c10b0 : decide (0 < (t250.length : Int)) = true := decide_eq_true c10
          have c10b1 : decide (0 < t250.length) = true := decide_eq_true (by omega)
          clear c10
          have H' := Aside0.mk H
          clear H
          obtain ⟨Ao11, co11, eo11⟩ := Kd.R_slice HO252.out
          subst eo11
          have p253 : 0 ≤ (0 : Int) := (by omega)
          have q253 : 0 < (t250.length : Int) := of_decide_eq_true (by first | (with_reducible assumption) | assumption)
          obtain ⟨ad253, e253, hx253_0⟩ := Kd.at_string (Kd.R_reads' HO252.out).2.2 0 p253 q253
          cases e253
          have qi253 : (0 < t250.length) = True := eq_true (by omega)
          (try rw [show ((0 : Int)).toNat = 0 from rfl] at hx253_0)
          (try rw [Addr.add_zero'] at hx253_0)
          replace p253 := eq_true p253
          replace q253 := eq_true q253
          (try (have qz253 := q253; rw [ByteArray.size_extract, Nat.min_self] at qz253))
          go_wp2
          go_meet
          case rel => exact ⟨_, (decide (((rdOf ByteArray.empty t250 0).size : Int) < 2)), (by first | rfl | (simp; done) | (simp [*]; done)), H', ⟨by first | omega | exact Nat.le_refl _⟩, ⟨by (with_reducible repeat (first | apply Kd.R_alloc | apply Kd.R_drewN | apply Kd.R_drew)); exact HO252.out⟩, ⟨by (with_reducible repeat (first | refine blk_drewN ?_ _ | refine blk_drew ?_ | refine blk_alloc ?_ _)); exact BK249.out⟩, ⟨by repeat (first | (with_reducible first | exact HB.out | apply below_alloc | apply pw_below_drewN | apply below_drew1 | refine below_set ?_ GE249.out) | exact HB.out)⟩⟩
        · rw [if_neg c10] at H
          exact absurd H (by simp)
  case rest =>
    clear HC3
    try clear c1
    try clear c2
    try clear p2
    try clear q2
    try clear hx2
    try clear qi2
    try clear c3
    try clear c6
    try clear c6b0
    try clear c6b1
    try clear c8
    try clear c8b0
    try clear c8b1
    try clear c10
    try clear c10b0
    try clear c10b1
    try clear hx253_0
    try clear p253
    try clear q253
    obtain ⟨kq, x22_2, rfl, HA, HJ2, HO_4, BK249, HB⟩ := hcut
    cases kq with
    | zero => exact absurd HA.out (by simp [triremeref32_read.j0])
    | succ kj2 =>
      have H := HA.out
      clear HA
      simp only [triremeref32_read.j0] at H
      by_cases c12 : x22_2 = true
      · subst c12
        have H1 : (some (0, (⟨#[]⟩ : ByteArray), (⟨#[]⟩ : ByteArray), 0, false)) = some (r1, r2, r3, r4, r5) := by rw [if_pos rfl] at H; exact H
        clear H
        have H := H1
        clear H1
        simp only [Option.some.injEq, Prod.mk.injEq] at H
        obtain ⟨rfl, rfl, rfl, rfl, rfl⟩ := H
        have hcz13_0 : wc.cell? ⟨gb249, 0, none⟩ = some (.int .i64 0) := (blk_cell BK249.out 0).trans rfl
        have hcz13_1 : wc.cell? ⟨gb249, 1, none⟩ = some (.string (⟨#[]⟩ : ByteArray)) := (blk_cell BK249.out 1).trans rfl
        have hcz13_2 : wc.cell? ⟨gb249, 2, none⟩ = some (.string (⟨#[]⟩ : ByteArray)) := (blk_cell BK249.out 2).trans rfl
        have hcz13_3 : wc.cell? ⟨gb249, 3, none⟩ = some (.int .i64 0) := (blk_cell BK249.out 3).trans rfl
        have hfz13_0 := blk_frozen BK249.out 0
        have hfz13_1 := blk_frozen BK249.out 1
        have hfz13_2 := blk_frozen BK249.out 2
        have hfz13_3 := blk_frozen BK249.out 3
        go_wp2
        refine bodyPost_ret (results_ct rfl _ _ gb249 39 #[.int .i64 0, .string (⟨#[]⟩ : ByteArray), .string (⟨#[]⟩ : ByteArray), .int .i64 0] (0, 0) _ rfl (by (with_reducible repeat (first | refine blk_drewN ?_ _ | refine blk_drew ?_ | refine blk_alloc ?_ _)); refine blk_put (cs := #[.int .i64 0, .string (⟨#[]⟩ : ByteArray), .string (⟨#[]⟩ : ByteArray), .int .i64 0]) ?_ 3 _ rfl; (with_reducible repeat (first | refine blk_drewN ?_ _ | refine blk_drew ?_ | refine blk_alloc ?_ _)); refine blk_put (cs := #[.int .i64 0, .string (⟨#[]⟩ : ByteArray), .string (⟨#[]⟩ : ByteArray), .int .i64 0]) ?_ 2 _ rfl; (with_reducible repeat (first | refine blk_drewN ?_ _ | refine blk_drew ?_ | refine blk_alloc ?_ _)); refine blk_put (cs := #[.int .i64 0, .string (⟨#[]⟩ : ByteArray), .string (⟨#[]⟩ : ByteArray), .int .i64 0]) ?_ 1 _ rfl; (with_reducible repeat (first | refine blk_drewN ?_ _ | refine blk_drew ?_ | refine blk_alloc ?_ _)); refine blk_put (cs := #[.int .i64 0, .string (⟨#[]⟩ : ByteArray), .string (⟨#[]⟩ : ByteArray), .int .i64 0]) ?_ 0 _ rfl; (with_reducible repeat (first | refine blk_drewN ?_ _ | refine blk_drew ?_ | refine blk_alloc ?_ _)); exact BK249.out) Try.underlying39 rfl (by kernel_rfl)) rfl ?_
        exact ⟨by first | rfl | (simp [errW_none, errW_some] <;> rfl) | (simp [*, errW_none, errW_some] <;> rfl), by repeat (first | (with_reducible first | exact HB.out | apply below_alloc | apply pw_below_drewN | apply below_drew1 | refine below_set ?_ GE249.out) | exact HB.out)⟩
      · replace c12 := Bool.eq_false_iff.mpr c12
        subst c12
        have H1 : (if 0 < (t250.length : Int) then (if 0 ≤ (wrap64 (((rdOf ByteArray.empty t250 0).size : Int) - 1)) then (if (wrap64 (((rdOf ByteArray.empty t250 0).size : Int) - 1)) ≤ ((rdOf ByteArray.empty t250 0).size : Int) then ((triremeref32_number.f kj2 ((rdOf ByteArray.empty t250 0).extract 0 ((wrap64 (((rdOf ByteArray.empty t250 0).size : Int) - 1)) : Int).toNat)).bind fun t256 => (if 1 < (t250.length : Int) then (if (t250.length : Int) > 2 then (if 2 < (t250.length : Int) then (triremeref32_read.j1 kj2 a0 t250 t256 (rdOf ByteArray.empty t250 1) (rdOf ByteArray.empty t250 2) 0) else (none)) else (triremeref32_read.j1 kj2 a0 t250 t256 (rdOf ByteArray.empty t250 1) (⟨#[]⟩ : ByteArray) 0)) else (none))) else (none)) else (none)) else (none)) = some (r1, r2, r3, r4, r5) := by rw [if_neg (show ¬ (false = true) by decide)] at H; exact H
        clear H
        have H := H1
        clear H1
        by_cases c14 : 0 < (t250.length : Int)
        · rw [if_pos c14] at H
          have c14b0 : decide (0 < (t250.length : Int)) = true := decide_eq_true c14
          have c14b1 : decide (0 < t250.length) = true := decide_eq_true (by omega)
          clear c14
          obtain ⟨ji15, hji15⟩ : ∃ j_ : Int, (wrap64 (((rdOf ByteArray.empty t250 0).size : Int) - 1)) = j_ := ⟨_, rfl⟩
          replace H : (if 0 ≤ (ji15) then (if (ji15) ≤ ((rdOf ByteArray.empty t250 0).size : Int) then ((triremeref32_number.f kj2 ((rdOf ByteArray.empty t250 0).extract 0 ((ji15) : Int).toNat)).bind fun t256 => (if 1 < (t250.length : Int) then (if (t250.length : Int) > 2 then (if 2 < (t250.length : Int) then (triremeref32_read.j1 kj2 a0 t250 t256 (rdOf ByteArray.empty t250 1) (rdOf ByteArray.empty t250 2) 0) else (none)) else (triremeref32_read.j1 kj2 a0 t250 t256 (rdOf ByteArray.empty t250 1) (⟨#[]⟩ : ByteArray) 0)) else (none))) else (none)) else (none)) = some (r1, r2, r3, r4, r5) := by first | (rw [hji15] at H; exact H) | (simp only [hji15] at H ⊢; exact H)
          have hji15w : (IntKind.i64.wrap (((rdOf ByteArray.empty t250 0).size : Int) - 1)) = ji15 := (i64_w _).trans hji15
          by_cases c16 : 0 ≤ (ji15)
          · rw [if_pos c16] at H
            have c16b0 := eq_true c16
            (try (have c16z := c16b0; rw [ByteArray.size_extract, Nat.min_self] at c16z))
            have c16b1 : decide (0 ≤ (ji15)) = true := decide_eq_true c16
            clear c16
            by_cases c17 : (ji15) ≤ ((rdOf ByteArray.empty t250 0).size : Int)
            · rw [if_pos c17] at H
              have c17b0 := eq_true c17
              (try (have c17z := c17b0; rw [ByteArray.size_extract, Nat.min_self] at c17z))
              have c17b1 : decide ((ji15) ≤ ((rdOf ByteArray.empty t250 0).size : Int)) = true := decide_eq_true c17
              clear c17
              replace H := Option.bind_eq_some_iff.mp H
              obtain ⟨t256, A180, H⟩ := H
              replace H : (if 1 < (t250.length : Int) then (if (t250.length : Int) > 2 then (if 2 < (t250.length : Int) then (triremeref32_read.j1 kj2 a0 t250 t256 (rdOf ByteArray.empty t250 1) (rdOf ByteArray.empty t250 2) 0) else (none)) else (triremeref32_read.j1 kj2 a0 t250 t256 (rdOf ByteArray.empty t250 1) (⟨#[]⟩ : ByteArray) 0)) else (none)) = some (r1, r2, r3, r4, r5) := H
              have A18 := Aside0.mk A180
              clear A180
              by_cases c19 : 1 < (t250.length : Int)
              · rw [if_pos c19] at H
                have c19b0 : decide (1 < (t250.length : Int)) = true := decide_eq_true c19
                have c19b1 : decide (1 < t250.length) = true := decide_eq_true (by omega)
                clear c19
                have HC20 := Aside0.mk H
                clear H
                try go_wp2
                have n0_ := Aside0.mk (Kd.R_drew HO_4.out)
                have n1_ := Aside0.mk (blk_drew BK249.out)
                have n2_ := Aside0.mk (below_drew1 HB.out)
                clear HO_4
                clear BK249
                clear HB
                have HO_4 := n0_
                have BK249 := n1_
                have HB := n2_
                clear n0_ n1_ n2_
                obtain ⟨Ao22, co22, eo22⟩ := Kd.R_slice HO_4.out
                (first | subst eo22 | (injection eo22 with f1_ f2_ f3_; have f4_ := f1_.symm; have f5_ := f3_.symm; clear f1_ f2_ f3_; subst f4_; subst f5_))
                have p254 : 0 ≤ (0 : Int) := (by omega)
                have q254 : 0 < (t250.length : Int) := of_decide_eq_true (by first | (with_reducible assumption) | assumption)
                obtain ⟨ad254, e254, hx254_0⟩ := Kd.at_string (Kd.R_reads' HO_4.out).2.2 0 p254 q254
                cases e254
                have qi254 : (0 < t250.length) = True := eq_true (by omega)
                (try rw [show ((0 : Int)).toNat = 0 from rfl] at hx254_0)
                (try rw [Addr.add_zero'] at hx254_0)
                replace p254 := eq_true p254
                replace q254 := eq_true q254
                (try (have qz254 := q254; rw [ByteArray.size_extract, Nat.min_self] at qz254))
                have p255 : 0 ≤ (0 : Int) := (by omega)
                have q255 : 0 < (t250.length : Int) := of_decide_eq_true (by first | (with_reducible assumption) | assumption)
                obtain ⟨ad255, e255, hx255_0⟩ := Kd.at_string (Kd.R_reads' HO_4.out).2.2 0 p255 q255
                obtain rfl : ad254 = ad255 := (by injection e255)
                have qi255 : (0 < t250.length) = True := eq_true (by omega)
                (try rw [show ((0 : Int)).toNat = 0 from rfl] at hx255_0)
                (try rw [Addr.add_zero'] at hx255_0)
                replace p255 := eq_true p255
                replace q255 := eq_true q255
                (try (have qz255 := q255; rw [ByteArray.size_extract, Nat.min_self] at qz255))
                have p257 : 0 ≤ (1 : Int) := (by omega)
                have q257 : 1 < (t250.length : Int) := of_decide_eq_true (by first | (with_reducible assumption) | assumption)
                obtain ⟨ad257, e257, hx257_0⟩ := Kd.at_string (Kd.R_reads' HO_4.out).2.2 1 p257 q257
                obtain rfl : ad254 = ad257 := (by injection e257)
                (try simp only [show (1 : Int).toNat = 1 from rfl, Nat.reduceMul, Nat.reduceEqDiff, Go.Addr.add, ↓reduceIte] at hx257_0)
                have qi257 : (1 < t250.length) = True := eq_true (by omega)
                (try rw [show ((1 : Int)).toNat = 1 from rfl] at hx257_0)
                replace p257 := eq_true p257
                replace q257 := eq_true q257
                (try (have qz257 := q257; rw [ByteArray.size_extract, Nat.min_self] at qz257))
                refine start_ (n := 16) (S := fun w' => w'.cell? ad254 = some (.string (rdOf ByteArray.empty t250 0)) ∧ w'.cell? ad254 = some (.string (rdOf ByteArray.empty t250 0)) ∧ w'.cell? ⟨ad254.block, ad254.off + 1, none⟩ = some (.string (rdOf ByteArray.empty t250 1))) (ds := []) #[false, false, false, false, false, false, false, false, false, false, false, false, false, false, false, false] (by kernel_rfl) rfl rfl ⟨hx254_0, hx255_0, hx257_0⟩ (fun hHeld => ?_); refine with_tabW triremeref32_read.tab4 triremeref32_read.bits4 (fun HT_ HW_ => ?_)
                generalize wc.drew = w21 at HO_4 BK249 HB hx254_0 hx255_0 hx257_0 hHeld ⊢
                refine pure_ (i := 0) (N := some 24) (v := ?_) (a' := ?_) #[true, false, false, false, false, false, false, false, false, false, false, false, false, false, false, false] rfl rfl (any_of HT_.out (by kernel_rfl)) (fun _ _ _ h => h) (Or.inl ⟨by rfl, ?_⟩) ?_ ?_
                rotate_left
                · intro w'; go_simp; with_reducible rfl
                rotate_left
                · simp only [Act.put, List.setIfInBounds_toArray, List.set_cons_zero, List.set_cons_succ, i64_w, i32_w]; rfl
                refine pure_ (i := 1) (N := some 25) (v := ?_) (a' := ?_) #[true, true, false, false, false, false, false, false, false, false, false, false, false, false, false, false] rfl rfl (any_of HT_.out (by kernel_rfl)) (fun _ _ _ h => h) (Or.inl ⟨by rfl, ?_⟩) ?_ ?_
                rotate_left
                · intro w'; go_simp; with_reducible rfl
                rotate_left
                · simp only [Act.put, List.setIfInBounds_toArray, List.set_cons_zero, List.set_cons_succ, i64_w, i32_w]; rfl
                refine pure_ (i := 3) (N := some 27) (v := ?_) (a' := ?_) #[true, true, false, true, false, false, false, false, false, false, false, false, false, false, false, false] rfl rfl (any_of HT_.out (by kernel_rfl)) (fun _ _ _ h => h) (Or.inl ⟨by rfl, ?_⟩) ?_ ?_
                rotate_left
                · intro w'; go_simp; with_reducible rfl
                rotate_left
                · simp only [Act.put, List.setIfInBounds_toArray, List.set_cons_zero, List.set_cons_succ, i64_w, i32_w]; rfl
                refine pure_ (i := 4) (N := some 28) (v := ?_) (a' := ?_) #[true, true, false, true, true, false, false, false, false, false, false, false, false, false, false, false] rfl rfl (any_of HT_.out (by kernel_rfl)) (fun _ _ _ h => h) (Or.inl ⟨by rfl, ?_⟩) ?_ ?_
                rotate_left
                · intro w'; go_simp; with_reducible rfl
                rotate_left
                · simp only [Act.put, List.setIfInBounds_toArray, List.set_cons_zero, List.set_cons_succ, i64_w, i32_w]; rfl
                refine pure_ (i := 10) (N := some 34) (v := ?_) (a' := ?_) #[true, true, false, true, true, false, false, false, false, false, true, false, false, false, false, false] rfl rfl (any_of HT_.out (by kernel_rfl)) (fun _ _ _ h => h) (Or.inl ⟨by rfl, ?_⟩) ?_ ?_
                rotate_left
                · intro w'; go_simp; with_reducible rfl
                rotate_left
                · simp only [Act.put, List.setIfInBounds_toArray, List.set_cons_zero, List.set_cons_succ, i64_w, i32_w]; rfl
                refine pure_ (i := 11) (N := some 35) (v := ?_) (a' := ?_) #[true, true, false, true, true, false, false, false, false, false, true, true, false, false, false, false] rfl rfl (any_of HT_.out (by kernel_rfl)) (fun _ _ _ h => h) (Or.inl ⟨by rfl, ?_⟩) ?_ ?_
                rotate_left
                · intro w'; go_simp; with_reducible rfl
                rotate_left
                · simp only [Act.put, List.setIfInBounds_toArray, List.set_cons_zero, List.set_cons_succ, i64_w, i32_w]; rfl
                refine take_ (i := 2) (N := some 26) (v := ?_) (a' := ?_) #[true, true, true, true, true, false, false, false, false, false, true, true, false, false, false, false] rfl rfl (take_ofW HT_.out HW_.out (by kernel_rfl)) (fun _ _ _ h => h) (Or.inl ⟨by rfl, ?_⟩) hHeld ?_ ?_
                rotate_left
                · rintro w' ⟨s0, s1, s2⟩; go_simp; with_reducible rfl
                rotate_left
                · simp only [Act.put, List.setIfInBounds_toArray, List.set_cons_zero, List.set_cons_succ, i64_w, i32_w]; rfl
                refine take_ (i := 5) (N := some 29) (v := ?_) (a' := ?_) #[true, true, true, true, true, true, false, false, false, false, true, true, false, false, false, false] rfl rfl (take_ofW HT_.out HW_.out (by kernel_rfl)) (fun _ _ _ h => h) (Or.inl ⟨by rfl, ?_⟩) hHeld ?_ ?_
                rotate_left
                · rintro w' ⟨s0, s1, s2⟩; go_simp; with_reducible rfl
                rotate_left
                · simp only [Act.put, List.setIfInBounds_toArray, List.set_cons_zero, List.set_cons_succ, i64_w, i32_w]; rfl
                refine pure_ (i := 6) (N := some 30) (v := ?_) (a' := ?_) #[true, true, true, true, true, true, true, false, false, false, true, true, false, false, false, false] rfl rfl (any_of HT_.out (by kernel_rfl)) (fun _ _ _ h => h) (Or.inl ⟨by rfl, ?_⟩) ?_ ?_
                rotate_left
                · intro w'; go_simp; with_reducible rfl
                rotate_left
                · simp only [Act.put, List.setIfInBounds_toArray, List.set_cons_zero, List.set_cons_succ, i64_w, i32_w]; rfl
                refine pure_ (i := 7) (N := some 31) (v := ?_) (a' := ?_) #[true, true, true, true, true, true, true, true, false, false, true, true, false, false, false, false] rfl rfl (any_of HT_.out (by kernel_rfl)) (fun _ _ _ h => h) (Or.inl ⟨by rfl, ?_⟩) ?_ ?_
                rotate_left
                · intro w'; go_simp; with_reducible rfl
                rotate_left
                · simp only [Act.put, List.setIfInBounds_toArray, List.set_cons_zero, List.set_cons_succ, i64_w, i32_w]; rfl
                refine pure_ (i := 8) (N := some 32) (v := ?_) (a' := ?_) #[true, true, true, true, true, true, true, true, true, false, true, true, false, false, false, false] rfl rfl (any_of HT_.out (by kernel_rfl)) (fun _ _ _ h => h) (Or.inl ⟨by rfl, ?_⟩) ?_ ?_
                rotate_left
                · intro w'; go_simp; with_reducible rfl
                rotate_left
                · simp only [Act.put, List.setIfInBounds_toArray, List.set_cons_zero, List.set_cons_succ, i64_w, i32_w]; rfl
                refine take_ (i := 12) (N := some 36) (v := ?_) (a' := ?_) #[true, true, true, true, true, true, true, true, true, false, true, true, true, false, false, false] rfl rfl (take_ofW HT_.out HW_.out (by kernel_rfl)) (fun _ _ _ h => h) (Or.inl ⟨by rfl, ?_⟩) hHeld ?_ ?_
                rotate_left
                · rintro w' ⟨s0, s1, s2⟩; go_simp; with_reducible rfl
                rotate_left
                · simp only [Act.put, List.setIfInBounds_toArray, List.set_cons_zero, List.set_cons_succ, i64_w, i32_w]; rfl
                refine join_ (σ := Nat) 1 #[true, true, true, true, true, true, true, true, true, true, true, true, true, true, true, false] (fun s_ => [(33, .int .i64 t256), (5, .pointer (some ⟨s_, 0, none⟩)), (37, .agg #[.int .i64 t256, .string (rdOf ByteArray.empty t250 1), .string (⟨#[]⟩ : ByteArray), .int .i64 0])]) (fun s_ w' => (w'.cell? ad254 = some (.string (rdOf ByteArray.empty t250 0)) ∧ w'.cell? ad254 = some (.string (rdOf ByteArray.empty t250 0)) ∧ w'.cell? ⟨ad254.block, ad254.off + 1, none⟩ = some (.string (rdOf ByteArray.empty t250 1))) ∧ (Kd.R Kd.string 9 w' w.heap.size (fun _ => True) (.slice (some ad254) t250.length co22) t250) ∧ (w'.heap[gb249]? = some (.cells #[.int .i64 0, .string (⟨#[]⟩ : ByteArray), .string (⟨#[]⟩ : ByteArray), .int .i64 0] 39 (0, 0))) ∧ (w'.heap[s_]? = some (.cells #[.int .i64 0, .string (⟨#[]⟩ : ByteArray), .string (⟨#[]⟩ : ByteArray), .int .i64 0] 39 (0, 0))) ∧ (w.heap.size ≤ s_) ∧ (w.heap.size ≤ s_) ∧ (gb249 ≠ s_) ∧ (s_ ≠ gb249) ∧ (Below w.heap.size w w')) ?_ ?_
                rotate_left
                · intro hCont
                  refine two_ (i := 9) (j := 14) (Ni := some 33) (Nj := some 5) #[true, true, true, true, true, true, true, true, true, true, true, true, true, false, false, false] #[true, true, true, true, true, true, true, true, true, false, true, true, true, false, true, false] rfl rfl rfl rfl (two_of HT_.out (by kernel_rfl)) (by decide) (by decide) (fun K hK => ?_) (fun K hK => ?_)
                  · skip
                    refine goes_ Try.func40 (by kernel_rfl) rfl #[.string ((rdOf ByteArray.empty t250 0).extract 0 ((ji15) : Int).toNat)] (by rfl) rfl rfl (by (try simp only [List.map_toArray, List.map_cons, List.map_nil]); first | done | (simp only [hji15]; rfl) | rfl | (simp only [List.length_drop, List.length_take]; rfl)) ?_
                    with_reducible refine (triremeref32_number.calls kj2 ((rdOf ByteArray.empty t250 0).extract 0 ((ji15) : Int).toNat) t256 _ A18.out).mono ?_
                    rintro e w' ⟨rfl, ⟨nd, rfl⟩⟩
                    refine ⟨_, rfl, ?_⟩
                    refine hK.out _ _ ⟨hHeld.1, hHeld.2.1, hHeld.2.2⟩ (fun hHeld => ?_)
                    clear hK K
                    refine norm_ (a' := ?_) ?_ ?_
                    rotate_left
                    · show Act.put _ (some 33) _ = _
                      simp only [Act.put, List.setIfInBounds_toArray, List.set_cons_zero, List.set_cons_succ, i64_w, i32_w]
                      rfl
                    refine pure_ (i := 13) (N := some 37) (v := ?_) (a' := ?_) #[true, true, true, true, true, true, true, true, true, true, true, true, true, true, false, false] rfl rfl (any_of HT_.out (by kernel_rfl)) (fun _ _ _ h => h) (Or.inl ⟨by rfl, ?_⟩) ?_ ?_
                    rotate_left
                    · intro w'; go_simp; with_reducible rfl
                    rotate_left
                    · simp only [Act.put, List.setIfInBounds_toArray, List.set_cons_zero, List.set_cons_succ, i64_w, i32_w]; rfl
                    refine one_ (i := 14) (N := some 5) #[true, true, true, true, true, true, true, true, true, true, true, true, true, true, true, false] rfl rfl (one_of HT_.out (by kernel_rfl)) (by decide) (fun K hK => ?_)
                    refine box_step ?hg (N := 5) ?hd (cs := #[.int .i64 0, .string (⟨#[]⟩ : ByteArray), .string (⟨#[]⟩ : ByteArray), .int .i64 0]) (t := 39) ?hr ?_; (case hd => rfl); (case hg => rfl); (case hr => first | (go_simp; done) | (go_simp; rfl))
                    intro gb258 hg w23 hbox hb
                    have HS0_ := (hb.cell (World.block_lt_of_cell? _ _ (hHeld.1))).trans (hHeld.1)
                    have HS1_ := (hb.cell (World.block_lt_of_cell? _ _ (hHeld.2.1))).trans (hHeld.2.1)
                    have HS2_ := (hb.cell (World.block_lt_of_cell? _ _ (hHeld.2.2))).trans (hHeld.2.2)
                    have n0_ := Aside0.mk (Kd.R_below (by (with_reducible repeat (first | apply Kd.R_alloc | apply Kd.R_drewN | apply Kd.R_drew)); exact HO_4.out) hb)
                    have n1_ := Aside0.mk (blk_below (g := gb249) (o := .cells #[.int .i64 0, .string (⟨#[]⟩ : ByteArray), .string (⟨#[]⟩ : ByteArray), .int .i64 0] 39 (0, 0)) (by (with_reducible repeat (first | refine blk_drewN ?_ _ | refine blk_drew ?_ | refine blk_alloc ?_ _)); exact BK249.out) hb)
                    have n2_ := Aside0.mk (below_step (by repeat (first | (with_reducible first | exact HB.out | apply below_alloc | apply pw_below_drewN | apply below_drew1 | refine below_set ?_ GE249.out) | exact HB.out)) hb)
                    have n3_ := Aside0.mk (hbox)
                    have n4_ := Aside0.mk ((by rw [hg]; exact (below_size (by repeat (first | (with_reducible first | exact HB.out | apply below_alloc | apply pw_below_drewN | apply below_drew1 | refine below_set ?_ GE249.out) | exact HB.out))) : w.heap.size ≤ gb258))
                    have n5_ := Aside0.mk ((by rw [hg]; exact (below_size (by repeat (first | (with_reducible first | exact HB.out | apply below_alloc | apply pw_below_drewN | apply below_drew1 | refine below_set ?_ GE249.out) | exact HB.out))) : w.heap.size ≤ gb258))
                    have n6_ := Aside0.mk ((by rw [hg]; exact Nat.ne_of_lt (blk_lt (g := gb249) (o := .cells #[.int .i64 0, .string (⟨#[]⟩ : ByteArray), .string (⟨#[]⟩ : ByteArray), .int .i64 0] 39 (0, 0)) (by (with_reducible repeat (first | refine blk_drewN ?_ _ | refine blk_drew ?_ | refine blk_alloc ?_ _)); exact BK249.out)) : gb249 ≠ gb258))
                    have n7_ := Aside0.mk ((by rw [hg]; exact Nat.ne_of_gt (blk_lt (g := gb249) (o := .cells #[.int .i64 0, .string (⟨#[]⟩ : ByteArray), .string (⟨#[]⟩ : ByteArray), .int .i64 0] 39 (0, 0)) (by (with_reducible repeat (first | refine blk_drewN ?_ _ | refine blk_drew ?_ | refine blk_alloc ?_ _)); exact BK249.out)) : gb258 ≠ gb249))
                    clear HO_4
                    clear BK249
                    clear HB
                    have HO_4 := n0_
                    have BK249 := n1_
                    have HB := n2_
                    have BK258 := n3_
                    have GW258 := n4_
                    have GE258 := n5_
                    have NB249_258 := n6_
                    have NB258_249 := n7_
                    clear n0_ n1_ n2_ n3_ n4_ n5_ n6_ n7_
                    clear hb hbox hg
                    refine hK.out _ _ ⟨HS0_, HS1_, HS2_⟩ (fun hHeld => ?_)
                    clear hK K
                    refine norm_ (a' := ?_) ?_ ?_
                    rotate_left
                    · show Act.put _ (some 5) _ = _
                      simp only [Act.put, List.setIfInBounds_toArray, List.set_cons_zero, List.set_cons_succ, i64_w, i32_w]
                      rfl
                    exact norm_ (by simp only [putAll, Act.put, List.setIfInBounds_toArray, List.set_cons_zero, List.set_cons_succ]) (hCont (gb258) _ ⟨hHeld, (by (with_reducible repeat (first | apply Kd.R_alloc | apply Kd.R_drewN | apply Kd.R_drew)); exact HO_4.out), (by (with_reducible repeat (first | refine blk_drewN ?_ _ | refine blk_drew ?_ | refine blk_alloc ?_ _)); exact BK249.out), (by (with_reducible repeat (first | refine blk_drewN ?_ _ | refine blk_drew ?_ | refine blk_alloc ?_ _)); exact BK258.out), GW258.out, GE258.out, NB249_258.out, NB258_249.out, (by repeat (first | (with_reducible first | exact HB.out | apply below_alloc | apply pw_below_drewN | apply below_drew1 | refine below_set ?_ GE249.out | refine below_set ?_ GE258.out) | exact HB.out))⟩)
                  · skip
                    refine box_step ?hg (N := 5) ?hd (cs := #[.int .i64 0, .string (⟨#[]⟩ : ByteArray), .string (⟨#[]⟩ : ByteArray), .int .i64 0]) (t := 39) ?hr ?_; (case hd => rfl); (case hg => rfl); (case hr => first | (go_simp; done) | (go_simp; rfl))
                    intro gb258 hg w23 hbox hb
                    have HS0_ := (hb.cell (World.block_lt_of_cell? _ _ (hHeld.1))).trans (hHeld.1)
                    have HS1_ := (hb.cell (World.block_lt_of_cell? _ _ (hHeld.2.1))).trans (hHeld.2.1)
                    have HS2_ := (hb.cell (World.block_lt_of_cell? _ _ (hHeld.2.2))).trans (hHeld.2.2)
                    have n0_ := Aside0.mk (Kd.R_below (by (with_reducible repeat (first | apply Kd.R_alloc | apply Kd.R_drewN | apply Kd.R_drew)); exact HO_4.out) hb)
                    have n1_ := Aside0.mk (blk_below (g := gb249) (o := .cells #[.int .i64 0, .string (⟨#[]⟩ : ByteArray), .string (⟨#[]⟩ : ByteArray), .int .i64 0] 39 (0, 0)) (by (with_reducible repeat (first | refine blk_drewN ?_ _ | refine blk_drew ?_ | refine blk_alloc ?_ _)); exact BK249.out) hb)
                    have n2_ := Aside0.mk (below_step (by repeat (first | (with_reducible first | exact HB.out | apply below_alloc | apply pw_below_drewN | apply below_drew1 | refine below_set ?_ GE249.out) | exact HB.out)) hb)
                    have n3_ := Aside0.mk (hbox)
                    have n4_ := Aside0.mk ((by rw [hg]; exact (below_size (by repeat (first | (with_reducible first | exact HB.out | apply below_alloc | apply pw_below_drewN | apply below_drew1 | refine below_set ?_ GE249.out) | exact HB.out))) : w.heap.size ≤ gb258))
                    have n5_ := Aside0.mk ((by rw [hg]; exact (below_size (by repeat (first | (with_reducible first | exact HB.out | apply below_alloc | apply pw_below_drewN | apply below_drew1 | refine below_set ?_ GE249.out) | exact HB.out))) : w.heap.size ≤ gb258))
                    have n6_ := Aside0.mk ((by rw [hg]; exact Nat.ne_of_lt (blk_lt (g := gb249) (o := .cells #[.int .i64 0, .string (⟨#[]⟩ : ByteArray), .string (⟨#[]⟩ : ByteArray), .int .i64 0] 39 (0, 0)) (by (with_reducible repeat (first | refine blk_drewN ?_ _ | refine blk_drew ?_ | refine blk_alloc ?_ _)); exact BK249.out)) : gb249 ≠ gb258))
                    have n7_ := Aside0.mk ((by rw [hg]; exact Nat.ne_of_gt (blk_lt (g := gb249) (o := .cells #[.int .i64 0, .string (⟨#[]⟩ : ByteArray), .string (⟨#[]⟩ : ByteArray), .int .i64 0] 39 (0, 0)) (by (with_reducible repeat (first | refine blk_drewN ?_ _ | refine blk_drew ?_ | refine blk_alloc ?_ _)); exact BK249.out)) : gb258 ≠ gb249))
                    clear HO_4
                    clear BK249
                    clear HB
                    have HO_4 := n0_
                    have BK249 := n1_
                    have HB := n2_
                    have BK258 := n3_
                    have GW258 := n4_
                    have GE258 := n5_
                    have NB249_258 := n6_
                    have NB258_249 := n7_
                    clear n0_ n1_ n2_ n3_ n4_ n5_ n6_ n7_
                    clear hb hbox hg
                    refine hK.out _ _ ⟨HS0_, HS1_, HS2_⟩ (fun hHeld => ?_)
                    clear hK K
                    refine norm_ (a' := ?_) ?_ ?_
                    rotate_left
                    · show Act.put _ (some 5) _ = _
                      simp only [Act.put, List.setIfInBounds_toArray, List.set_cons_zero, List.set_cons_succ, i64_w, i32_w]
                      rfl
                    refine one_ (i := 9) (N := some 33) #[true, true, true, true, true, true, true, true, true, true, true, true, true, false, true, false] rfl rfl (one_of HT_.out (by kernel_rfl)) (by decide) (fun K hK => ?_)
                    refine goes_ Try.func40 (by kernel_rfl) rfl #[.string ((rdOf ByteArray.empty t250 0).extract 0 ((ji15) : Int).toNat)] (by rfl) rfl rfl (by (try simp only [List.map_toArray, List.map_cons, List.map_nil]); first | done | (simp only [hji15]; rfl) | rfl | (simp only [List.length_drop, List.length_take]; rfl)) ?_
                    with_reducible refine (triremeref32_number.calls kj2 ((rdOf ByteArray.empty t250 0).extract 0 ((ji15) : Int).toNat) t256 _ A18.out).mono ?_
                    rintro e w' ⟨rfl, ⟨nd, rfl⟩⟩
                    refine ⟨_, rfl, ?_⟩
                    refine hK.out _ _ ⟨hHeld.1, hHeld.2.1, hHeld.2.2⟩ (fun hHeld => ?_)
                    clear hK K
                    refine norm_ (a' := ?_) ?_ ?_
                    rotate_left
                    · show Act.put _ (some 33) _ = _
                      simp only [Act.put, List.setIfInBounds_toArray, List.set_cons_zero, List.set_cons_succ, i64_w, i32_w]
                      rfl
                    refine pure_ (i := 13) (N := some 37) (v := ?_) (a' := ?_) #[true, true, true, true, true, true, true, true, true, true, true, true, true, true, true, false] rfl rfl (any_of HT_.out (by kernel_rfl)) (fun _ _ _ h => h) (Or.inl ⟨by rfl, ?_⟩) ?_ ?_
                    rotate_left
                    · intro w'; go_simp; with_reducible rfl
                    rotate_left
                    · simp only [Act.put, List.setIfInBounds_toArray, List.set_cons_zero, List.set_cons_succ, i64_w, i32_w]; rfl
                    exact norm_ (by simp only [putAll, Act.put, List.setIfInBounds_toArray, List.set_cons_zero, List.set_cons_succ]) (hCont (gb258) _ ⟨hHeld, (by (with_reducible repeat (first | apply Kd.R_alloc | apply Kd.R_drewN | apply Kd.R_drew)); exact HO_4.out), (by (with_reducible repeat (first | refine blk_drewN ?_ _ | refine blk_drew ?_ | refine blk_alloc ?_ _)); exact BK249.out), (by (with_reducible repeat (first | refine blk_drewN ?_ _ | refine blk_drew ?_ | refine blk_alloc ?_ _)); exact BK258.out), GW258.out, GE258.out, NB249_258.out, NB258_249.out, (by repeat (first | (with_reducible first | exact HB.out | apply below_alloc | apply pw_below_drewN | apply below_drew1 | refine below_set ?_ GE249.out | refine below_set ?_ GE258.out) | exact HB.out))⟩)
                rintro gb258 w24 ⟨hS_, h0_, h1_, h2_, h3_, h4_, h5_, h6_, h7_⟩
                have n0_ : Aside0 (Kd.R Kd.string 9 w24 w.heap.size (fun _ => True) (.slice (some ad254) t250.length co22) t250) := ⟨h0_⟩
                have n1_ : Aside0 (w24.heap[gb249]? = some (.cells #[.int .i64 0, .string (⟨#[]⟩ : ByteArray), .string (⟨#[]⟩ : ByteArray), .int .i64 0] 39 (0, 0))) := ⟨h1_⟩
                have n2_ : Aside0 (w24.heap[gb258]? = some (.cells #[.int .i64 0, .string (⟨#[]⟩ : ByteArray), .string (⟨#[]⟩ : ByteArray), .int .i64 0] 39 (0, 0))) := ⟨h2_⟩
                have n3_ : Aside0 (w.heap.size ≤ gb258) := ⟨h3_⟩
                have n4_ : Aside0 (w.heap.size ≤ gb258) := ⟨h4_⟩
                have n5_ : Aside0 (gb249 ≠ gb258) := ⟨h5_⟩
                have n6_ : Aside0 (gb258 ≠ gb249) := ⟨h6_⟩
                have n7_ : Aside0 (Below w.heap.size w w24) := ⟨h7_⟩
                clear HO_4
                clear BK249
                clear HB
                clear h0_ h1_ h2_ h3_ h4_ h5_ h6_ h7_
                have HO_4 := n0_
                have BK249 := n1_
                have BK258 := n2_
                have GW258 := n3_
                have GE258 := n4_
                have NB249_258 := n5_
                have NB258_249 := n6_
                have HB := n7_
                clear n0_ n1_ n2_ n3_ n4_ n5_ n6_ n7_
                have hHeld : w24.cell? ad254 = some (.string (rdOf ByteArray.empty t250 0)) ∧ w24.cell? ad254 = some (.string (rdOf ByteArray.empty t250 0)) ∧ w24.cell? ⟨ad254.block, ad254.off + 1, none⟩ = some (.string (rdOf ByteArray.empty t250 1)) := hS_
                refine norm_ (a' := ?_) ?_ ?_
                rotate_left
                · simp only [putAll, Act.put, List.setIfInBounds_toArray, List.set_cons_zero, List.set_cons_succ]
                  rfl
                refine one_ (i := 15) (N := none) #[true, true, true, true, true, true, true, true, true, true, true, true, true, true, true, true] rfl rfl (one_of HT_.out (by kernel_rfl)) (by decide) (fun K hK => ?_)
                have hs25 : w24.cell? ⟨gb258, 0, none⟩ = some (.int .i64 0) := (blk_cell BK258.out 0).trans rfl
                have hfs25 := blk_frozen BK258.out 0
                have hns25_0 := NB249_258.out
                have hms25_0 := NB258_249.out
                have hs26 : w24.cell? ⟨gb258, 1, none⟩ = some (.string (⟨#[]⟩ : ByteArray)) := (blk_cell BK258.out 1).trans rfl
                have hfs26 := blk_frozen BK258.out 1
                have hns26_0 := NB249_258.out
                have hms26_0 := NB258_249.out
                have hs27 : w24.cell? ⟨gb258, 2, none⟩ = some (.string (⟨#[]⟩ : ByteArray)) := (blk_cell BK258.out 2).trans rfl
                have hfs27 := blk_frozen BK258.out 2
                have hns27_0 := NB249_258.out
                have hms27_0 := NB258_249.out
                have hs28 : w24.cell? ⟨gb258, 3, none⟩ = some (.int .i64 0) := (blk_cell BK258.out 3).trans rfl
                have hfs28 := blk_frozen BK258.out 3
                have hns28_0 := NB249_258.out
                have hms28_0 := NB258_249.out
                refine skip_ (w1 := ?_) (by rfl) rfl ?_ ?_
                rotate_left
                · go_simp
                  rfl
                refine hK.out _ _ ⟨((cell_far (p := ⟨gb258, _, none⟩) (by first | exact Kd.own_blk (Kd.R_ne HO_4.out BK258.out (by decide)) | (rw [add_block]; exact Kd.own_blk (Kd.R_ne HO_4.out BK258.out (by decide))) | (show (Addr.add _ _).block ≠ _; rw [add_block]; exact Kd.own_blk (Kd.R_ne HO_4.out BK258.out (by decide))) | (dsimp only; exact Kd.own_blk (Kd.R_ne HO_4.out BK258.out (by decide)))) _).trans (((cell_far (p := ⟨gb258, _, none⟩) (by first | exact Kd.own_blk (Kd.R_ne HO_4.out BK258.out (by decide)) | (rw [add_block]; exact Kd.own_blk (Kd.R_ne HO_4.out BK258.out (by decide))) | (show (Addr.add _ _).block ≠ _; rw [add_block]; exact Kd.own_blk (Kd.R_ne HO_4.out BK258.out (by decide))) | (dsimp only; exact Kd.own_blk (Kd.R_ne HO_4.out BK258.out (by decide)))) _).trans (((cell_far (p := ⟨gb258, _, none⟩) (by first | exact Kd.own_blk (Kd.R_ne HO_4.out BK258.out (by decide)) | (rw [add_block]; exact Kd.own_blk (Kd.R_ne HO_4.out BK258.out (by decide))) | (show (Addr.add _ _).block ≠ _; rw [add_block]; exact Kd.own_blk (Kd.R_ne HO_4.out BK258.out (by decide))) | (dsimp only; exact Kd.own_blk (Kd.R_ne HO_4.out BK258.out (by decide)))) _).trans (((cell_far (p := ⟨gb258, _, none⟩) (by first | exact Kd.own_blk (Kd.R_ne HO_4.out BK258.out (by decide)) | (rw [add_block]; exact Kd.own_blk (Kd.R_ne HO_4.out BK258.out (by decide))) | (show (Addr.add _ _).block ≠ _; rw [add_block]; exact Kd.own_blk (Kd.R_ne HO_4.out BK258.out (by decide))) | (dsimp only; exact Kd.own_blk (Kd.R_ne HO_4.out BK258.out (by decide)))) _).trans (hHeld.1)))))))), ((cell_far (p := ⟨gb258, _, none⟩) (by first | exact Kd.own_blk (Kd.R_ne HO_4.out BK258.out (by decide)) | (rw [add_block]; exact Kd.own_blk (Kd.R_ne HO_4.out BK258.out (by decide))) | (show (Addr.add _ _).block ≠ _; rw [add_block]; exact Kd.own_blk (Kd.R_ne HO_4.out BK258.out (by decide))) | (dsimp only; exact Kd.own_blk (Kd.R_ne HO_4.out BK258.out (by decide)))) _).trans (((cell_far (p := ⟨gb258, _, none⟩) (by first | exact Kd.own_blk (Kd.R_ne HO_4.out BK258.out (by decide)) | (rw [add_block]; exact Kd.own_blk (Kd.R_ne HO_4.out BK258.out (by decide))) | (show (Addr.add _ _).block ≠ _; rw [add_block]; exact Kd.own_blk (Kd.R_ne HO_4.out BK258.out (by decide))) | (dsimp only; exact Kd.own_blk (Kd.R_ne HO_4.out BK258.out (by decide)))) _).trans (((cell_far (p := ⟨gb258, _, none⟩) (by first | exact Kd.own_blk (Kd.R_ne HO_4.out BK258.out (by decide)) | (rw [add_block]; exact Kd.own_blk (Kd.R_ne HO_4.out BK258.out (by decide))) | (show (Addr.add _ _).block ≠ _; rw [add_block]; exact Kd.own_blk (Kd.R_ne HO_4.out BK258.out (by decide))) | (dsimp only; exact Kd.own_blk (Kd.R_ne HO_4.out BK258.out (by decide)))) _).trans (((cell_far (p := ⟨gb258, _, none⟩) (by first | exact Kd.own_blk (Kd.R_ne HO_4.out BK258.out (by decide)) | (rw [add_block]; exact Kd.own_blk (Kd.R_ne HO_4.out BK258.out (by decide))) | (show (Addr.add _ _).block ≠ _; rw [add_block]; exact Kd.own_blk (Kd.R_ne HO_4.out BK258.out (by decide))) | (dsimp only; exact Kd.own_blk (Kd.R_ne HO_4.out BK258.out (by decide)))) _).trans (hHeld.2.1)))))))), ((cell_far (p := ⟨gb258, _, none⟩) (by first | exact Kd.own_blk (Kd.R_ne HO_4.out BK258.out (by decide)) | (rw [add_block]; exact Kd.own_blk (Kd.R_ne HO_4.out BK258.out (by decide))) | (show (Addr.add _ _).block ≠ _; rw [add_block]; exact Kd.own_blk (Kd.R_ne HO_4.out BK258.out (by decide))) | (dsimp only; exact Kd.own_blk (Kd.R_ne HO_4.out BK258.out (by decide)))) _).trans (((cell_far (p := ⟨gb258, _, none⟩) (by first | exact Kd.own_blk (Kd.R_ne HO_4.out BK258.out (by decide)) | (rw [add_block]; exact Kd.own_blk (Kd.R_ne HO_4.out BK258.out (by decide))) | (show (Addr.add _ _).block ≠ _; rw [add_block]; exact Kd.own_blk (Kd.R_ne HO_4.out BK258.out (by decide))) | (dsimp only; exact Kd.own_blk (Kd.R_ne HO_4.out BK258.out (by decide)))) _).trans (((cell_far (p := ⟨gb258, _, none⟩) (by first | exact Kd.own_blk (Kd.R_ne HO_4.out BK258.out (by decide)) | (rw [add_block]; exact Kd.own_blk (Kd.R_ne HO_4.out BK258.out (by decide))) | (show (Addr.add _ _).block ≠ _; rw [add_block]; exact Kd.own_blk (Kd.R_ne HO_4.out BK258.out (by decide))) | (dsimp only; exact Kd.own_blk (Kd.R_ne HO_4.out BK258.out (by decide)))) _).trans (((cell_far (p := ⟨gb258, _, none⟩) (by first | exact Kd.own_blk (Kd.R_ne HO_4.out BK258.out (by decide)) | (rw [add_block]; exact Kd.own_blk (Kd.R_ne HO_4.out BK258.out (by decide))) | (show (Addr.add _ _).block ≠ _; rw [add_block]; exact Kd.own_blk (Kd.R_ne HO_4.out BK258.out (by decide))) | (dsimp only; exact Kd.own_blk (Kd.R_ne HO_4.out BK258.out (by decide)))) _).trans (hHeld.2.2))))))))⟩ (fun hHeld => ?_)
                clear hK K
                refine done_ (done_of HT_.out (by kernel_rfl)) ?_
                go_upto_if 40 with (fail)
                go_cut [] (fun wc => ∃ (kq : Nat) (x259002_19 : ByteArray), Aside0 (triremeref32_read.j1 kq a0 t250 t256 (rdOf ByteArray.empty t250 1) x259002_19 0 = some (r1, r2, r3, r4, r5)) ∧ Aside0 (kq ≤ kj2) ∧ Aside0 (Kd.R Kd.string 9 wc w.heap.size (fun _ => True) (.slice (some ad254) t250.length co22) t250) ∧ Aside0 (wc.heap[gb249]? = some (.cells #[.int .i64 0, .string (⟨#[]⟩ : ByteArray), .string (⟨#[]⟩ : ByteArray), .int .i64 0] 39 (0, 0))) ∧ Aside0 (wc.heap[gb258]? = some (.cells #[.int .i64 t256, .string (rdOf ByteArray.empty t250 1), .string x259002_19, .int .i64 0] 39 (0, 0))) ∧ Aside0 (Below w.heap.size w wc))
                case first =>
                  have H := HC20.out
                  clear HC20
                  by_cases c29 : (t250.length : Int) > 2
                  · rw [if_pos c29] at H
                    have c29b0 : decide (2 < (t250.length : Int)) = true := decide_eq_true c29
                    have c29b1 : decide (2 < t250.length) = true := decide_eq_true (by omega)
                    clear c29
                    (first | rw [c29b0] | (simp only [i64_w, i32_w]; rw [c29b0]) | skip)
                    by_cases c30 : 2 < (t250.length : Int)
                    · rw [if_pos c30] at H
                      have c30b0 : decide (2 < (t250.length : Int)) = true := decide_eq_true c30
                      have c30b1 : decide (2 < t250.length) = true := decide_eq_true (by omega)
                      clear c30
                      have H' := Aside0.mk H
                      clear H
                      have p259 : 0 ≤ (2 : Int) := (by omega)
                      have q259 : 2 < (t250.length : Int) := of_decide_eq_true (by first | (with_reducible assumption) | assumption)
                      obtain ⟨ad259, e259, hx259_0⟩ := Kd.at_string (Kd.R_reads' HO_4.out).2.2 2 p259 q259
                      obtain rfl : ad254 = ad259 := (by injection e259)
                      (try simp only [show (2 : Int).toNat = 2 from rfl, Nat.reduceMul, Nat.reduceEqDiff, Go.Addr.add, ↓reduceIte] at hx259_0)
                      have qi259 : (2 < t250.length) = True := eq_true (by omega)
                      (try rw [show ((2 : Int)).toNat = 2 from rfl] at hx259_0)
                      have hn259_0 : ad254.block ≠ gb258 := Kd.own_blk (Kd.R_ne HO_4.out BK258.out (by decide))
                      have hn259_1 : ad254.block ≠ gb258 := Kd.own_blk (Kd.R_ne HO_4.out BK258.out (by decide))
                      have hn259_2 : ad254.block ≠ gb258 := Kd.own_blk (Kd.R_ne HO_4.out BK258.out (by decide))
                      have hn259_3 : ad254.block ≠ gb258 := Kd.own_blk (Kd.R_ne HO_4.out BK258.out (by decide))
                      replace hx259_0 := (cell_far (p := ⟨gb258, 0, none⟩) (by first | (rw [add_block]; exact hn259_0) | (show (Addr.add _ _).block ≠ _; rw [add_block]; exact hn259_0) | exact hn259_0) (.int .i64 t256)).trans hx259_0
                      replace hx259_0 := (cell_far (p := ⟨gb258, 1, none⟩) (by first | (rw [add_block]; exact hn259_1) | (show (Addr.add _ _).block ≠ _; rw [add_block]; exact hn259_1) | exact hn259_1) (.string (rdOf ByteArray.empty t250 1))).trans hx259_0
                      replace hx259_0 := (cell_far (p := ⟨gb258, 2, none⟩) (by first | (rw [add_block]; exact hn259_2) | (show (Addr.add _ _).block ≠ _; rw [add_block]; exact hn259_2) | exact hn259_2) (.string (⟨#[]⟩ : ByteArray))).trans hx259_0
                      replace hx259_0 := (cell_far (p := ⟨gb258, 3, none⟩) (by first | (rw [add_block]; exact hn259_3) | (show (Addr.add _ _).block ≠ _; rw [add_block]; exact hn259_3) | exact hn259_3) (.int .i64 0)).trans hx259_0
                      clear hn259_0
                      clear hn259_1
                      clear hn259_2
                      clear hn259_3
                      replace p259 := eq_true p259
                      replace q259 := eq_true q259
                      (try (have qz259 := q259; rw [ByteArray.size_extract, Nat.min_self] at qz259))
                      have hnb31 := NB258_249.out
                      have hnc31 := NB249_258.out
                      have hcz32_0 : w24.cell? ⟨gb258, 0, none⟩ = some (.int .i64 0) := (blk_cell BK258.out 0).trans rfl
                      have hcz32_1 : w24.cell? ⟨gb258, 1, none⟩ = some (.string (⟨#[]⟩ : ByteArray)) := (blk_cell BK258.out 1).trans rfl
                      have hcz32_2 : w24.cell? ⟨gb258, 2, none⟩ = some (.string (⟨#[]⟩ : ByteArray)) := (blk_cell BK258.out 2).trans rfl
                      have hcz32_3 : w24.cell? ⟨gb258, 3, none⟩ = some (.int .i64 0) := (blk_cell BK258.out 3).trans rfl
                      have hfz32_0 := blk_frozen BK258.out 0
                      have hfz32_1 := blk_frozen BK258.out 1
                      have hfz32_2 := blk_frozen BK258.out 2
                      have hfz32_3 := blk_frozen BK258.out 3
                      go_wp2
                      go_meet
                      case rel => exact ⟨_, (rdOf ByteArray.empty t250 2), H', ⟨by have := HJ2.out; first | omega | exact Nat.le_refl _⟩, ⟨by (with_reducible repeat (first | apply Kd.R_alloc | apply Kd.R_drewN | apply Kd.R_drew)); exact Kd.R_mono (Kd.R_far (p := ⟨gb258, 2, none⟩) (Kd.R_far (p := ⟨gb258, 3, none⟩) (Kd.R_far (p := ⟨gb258, 2, none⟩) (Kd.R_far (p := ⟨gb258, 1, none⟩) (Kd.R_far (p := ⟨gb258, 0, none⟩) (Kd.R_types HO_4.out BK258.out (by decide)) (fun _ hk => hk.2) (.int .i64 t256)) (fun _ hk => hk.2) (.string (rdOf ByteArray.empty t250 1))) (fun _ hk => hk.2) (.string (⟨#[]⟩ : ByteArray))) (fun _ hk => hk.2) (.int .i64 0)) (fun _ hk => hk.2) (.string (rdOf ByteArray.empty t250 2))) (fun _ hk => trivial)⟩, ⟨by (with_reducible repeat (first | refine blk_drewN ?_ _ | refine blk_drew ?_ | refine blk_alloc ?_ _)); refine blk_far ?_ NB249_258.out _; (with_reducible repeat (first | refine blk_drewN ?_ _ | refine blk_drew ?_ | refine blk_alloc ?_ _)); refine blk_far ?_ NB249_258.out _; (with_reducible repeat (first | refine blk_drewN ?_ _ | refine blk_drew ?_ | refine blk_alloc ?_ _)); refine blk_far ?_ NB249_258.out _; (with_reducible repeat (first | refine blk_drewN ?_ _ | refine blk_drew ?_ | refine blk_alloc ?_ _)); refine blk_far ?_ NB249_258.out _; (with_reducible repeat (first | refine blk_drewN ?_ _ | refine blk_drew ?_ | refine blk_alloc ?_ _)); refine blk_far ?_ NB249_258.out _; (with_reducible repeat (first | refine blk_drewN ?_ _ | refine blk_drew ?_ | refine blk_alloc ?_ _)); exact BK249.out⟩, ⟨by (with_reducible repeat (first | refine blk_drewN ?_ _ | refine blk_drew ?_ | refine blk_alloc ?_ _)); refine blk_put (cs := #[.int .i64 t256, .string (rdOf ByteArray.empty t250 1), .string (⟨#[]⟩ : ByteArray), .int .i64 0]) ?_ 2 _ rfl; (with_reducible repeat (first | refine blk_drewN ?_ _ | refine blk_drew ?_ | refine blk_alloc ?_ _)); refine blk_put (cs := #[.int .i64 t256, .string (rdOf ByteArray.empty t250 1), .string (⟨#[]⟩ : ByteArray), .int .i64 0]) ?_ 3 _ rfl; (with_reducible repeat (first | refine blk_drewN ?_ _ | refine blk_drew ?_ | refine blk_alloc ?_ _)); refine blk_put (cs := #[.int .i64 t256, .string (rdOf ByteArray.empty t250 1), .string (⟨#[]⟩ : ByteArray), .int .i64 0]) ?_ 2 _ rfl; (with_reducible repeat (first | refine blk_drewN ?_ _ | refine blk_drew ?_ | refine blk_alloc ?_ _)); refine blk_put (cs := #[.int .i64 t256, .string (⟨#[]⟩ : ByteArray), .string (⟨#[]⟩ : ByteArray), .int .i64 0]) ?_ 1 _ rfl; (with_reducible repeat (first | refine blk_drewN ?_ _ | refine blk_drew ?_ | refine blk_alloc ?_ _)); refine blk_put (cs := #[.int .i64 0, .string (⟨#[]⟩ : ByteArray), .string (⟨#[]⟩ : ByteArray), .int .i64 0]) ?_ 0 _ rfl; (with_reducible repeat (first | refine blk_drewN ?_ _ | refine blk_drew ?_ | refine blk_alloc ?_ _)); exact BK258.out⟩, ⟨by repeat (first | (with_reducible first | exact HB.out | apply below_alloc | apply pw_below_drewN | apply below_drew1 | refine below_set ?_ GE249.out | refine below_set ?_ GE258.out) | exact HB.out)⟩⟩
                    · rw [if_neg c30] at H
                      exact absurd H (by simp)
                  · rw [if_neg c29] at H
                    have c29b0 : decide (2 < (t250.length : Int)) = false := decide_eq_false c29
                    have c29b1 : decide (2 < t250.length) = false := decide_eq_false (by omega)
                    clear c29
                    (first | rw [c29b0] | (simp only [i64_w, i32_w]; rw [c29b0]) | skip)
                    have H' := Aside0.mk H
                    clear H
                    go_wp2
                    go_meet
                    case rel => exact ⟨_, ((⟨#[]⟩ : ByteArray)), H', ⟨by have := HJ2.out; first | omega | exact Nat.le_refl _⟩, ⟨by (with_reducible repeat (first | apply Kd.R_alloc | apply Kd.R_drewN | apply Kd.R_drew)); exact Kd.R_mono (Kd.R_far (p := ⟨gb258, 3, none⟩) (Kd.R_far (p := ⟨gb258, 2, none⟩) (Kd.R_far (p := ⟨gb258, 1, none⟩) (Kd.R_far (p := ⟨gb258, 0, none⟩) (Kd.R_types HO_4.out BK258.out (by decide)) (fun _ hk => hk.2) (.int .i64 t256)) (fun _ hk => hk.2) (.string (rdOf ByteArray.empty t250 1))) (fun _ hk => hk.2) (.string (⟨#[]⟩ : ByteArray))) (fun _ hk => hk.2) (.int .i64 0)) (fun _ hk => trivial)⟩, ⟨by (with_reducible repeat (first | refine blk_drewN ?_ _ | refine blk_drew ?_ | refine blk_alloc ?_ _)); refine blk_far ?_ NB249_258.out _; (with_reducible repeat (first | refine blk_drewN ?_ _ | refine blk_drew ?_ | refine blk_alloc ?_ _)); refine blk_far ?_ NB249_258.out _; (with_reducible repeat (first | refine blk_drewN ?_ _ | refine blk_drew ?_ | refine blk_alloc ?_ _)); refine blk_far ?_ NB249_258.out _; (with_reducible repeat (first | refine blk_drewN ?_ _ | refine blk_drew ?_ | refine blk_alloc ?_ _)); refine blk_far ?_ NB249_258.out _; (with_reducible repeat (first | refine blk_drewN ?_ _ | refine blk_drew ?_ | refine blk_alloc ?_ _)); exact BK249.out⟩, ⟨by (with_reducible repeat (first | refine blk_drewN ?_ _ | refine blk_drew ?_ | refine blk_alloc ?_ _)); refine blk_put (cs := #[.int .i64 t256, .string (rdOf ByteArray.empty t250 1), .string (⟨#[]⟩ : ByteArray), .int .i64 0]) ?_ 3 _ rfl; (with_reducible repeat (first | refine blk_drewN ?_ _ | refine blk_drew ?_ | refine blk_alloc ?_ _)); refine blk_put (cs := #[.int .i64 t256, .string (rdOf ByteArray.empty t250 1), .string (⟨#[]⟩ : ByteArray), .int .i64 0]) ?_ 2 _ rfl; (with_reducible repeat (first | refine blk_drewN ?_ _ | refine blk_drew ?_ | refine blk_alloc ?_ _)); refine blk_put (cs := #[.int .i64 t256, .string (⟨#[]⟩ : ByteArray), .string (⟨#[]⟩ : ByteArray), .int .i64 0]) ?_ 1 _ rfl; (with_reducible repeat (first | refine blk_drewN ?_ _ | refine blk_drew ?_ | refine blk_alloc ?_ _)); refine blk_put (cs := #[.int .i64 0, .string (⟨#[]⟩ : ByteArray), .string (⟨#[]⟩ : ByteArray), .int .i64 0]) ?_ 0 _ rfl; (with_reducible repeat (first | refine blk_drewN ?_ _ | refine blk_drew ?_ | refine blk_alloc ?_ _)); exact BK258.out⟩, ⟨by repeat (first | (with_reducible first | exact HB.out | apply below_alloc | apply pw_below_drewN | apply below_drew1 | refine below_set ?_ GE249.out | refine below_set ?_ GE258.out) | exact HB.out)⟩⟩
                case rest =>
                  clear HC20
                  try clear c1
                  try clear c2
                  try clear p2
                  try clear q2
                  try clear hx2
                  try clear qi2
                  try clear c3
                  try clear c4
                  try clear c6
                  try clear c6b0
                  try clear c6b1
                  try clear p6
                  try clear c8
                  try clear c8b0
                  try clear c8b1
                  try clear c10
                  try clear c10b0
                  try clear c10b1
                  try clear c12
                  try clear c14
                  try clear c14b0
                  try clear c14b1
                  try clear c16
                  try clear c16b0
                  try clear c16b1
                  try clear c17
                  try clear c17b0
                  try clear c17b1
                  try clear c19
                  try clear c19b0
                  try clear c19b1
                  try clear p25
                  try clear q25
                  try clear hx25
                  try clear qi25
                  try clear c26
                  try clear c29
                  try clear c29b0
                  try clear c29b1
                  try clear c30
                  try clear c30b0
                  try clear c30b1
                  try clear c31
                  try clear hcz13_0
                  try clear hcz13_1
                  try clear hcz13_2
                  try clear hcz13_3
                  try clear hcz32_0
                  try clear hcz32_1
                  try clear hcz32_2
                  try clear hcz32_3
                  try clear hfz13_0
                  try clear hfz13_1
                  try clear hfz13_2
                  try clear hfz13_3
                  try clear hfz32_0
                  try clear hfz32_1
                  try clear hfz32_2
                  try clear hfz32_3
                  try clear hx253_0
                  try clear hx254_0
                  try clear hx255_0
                  try clear hx257_0
                  try clear hx259_0
                  try clear p2
                  try clear p253
                  try clear p254
                  try clear p255
                  try clear p257
                  try clear p259
                  try clear q2
                  try clear q253
                  try clear q254
                  try clear q255
                  try clear q257
                  try clear q259
                  obtain ⟨kq, x259002_19, HA, HJ19, HO_4, BK249, BK258, HB⟩ := hcut
                  cases kq with
                  | zero => exact absurd HA.out (by simp [triremeref32_read.j1])
                  | succ kj19 =>
                    have H := HA.out
                    clear HA
                    simp only [triremeref32_read.j1] at H
                    by_cases c33 : (t250.length : Int) > 3
                    · rw [if_pos c33] at H
                      have c33b0 : decide (3 < (t250.length : Int)) = true := decide_eq_true c33
                      have c33b1 : decide (3 < t250.length) = true := decide_eq_true (by omega)
                      clear c33
                      by_cases c34 : 3 < (t250.length : Int)
                      · rw [if_pos c34] at H
                        have c34b0 : decide (3 < (t250.length : Int)) = true := decide_eq_true c34
                        have c34b1 : decide (3 < t250.length) = true := decide_eq_true (by omega)
                        clear c34
                        replace H := Option.bind_eq_some_iff.mp H
                        obtain ⟨t261, A350, H⟩ := H
                        replace H : ((triremeref32_Right.f kj19 t256 (rdOf ByteArray.empty t250 1) x259002_19 t261).bind fun t262 => (if t262 = true then ((triremeref32_line.f kj19 t256 (rdOf ByteArray.empty t250 1) x259002_19 t261).bind fun t263 => (some (t256, (rdOf ByteArray.empty t250 1), x259002_19, t261, (t263.toList == a0.toList)))) else (some (t256, (rdOf ByteArray.empty t250 1), x259002_19, t261, false)))) = some (r1, r2, r3, r4, r5) := H
                        have A35 := Aside0.mk A350
                        clear A350
                        replace H := Option.bind_eq_some_iff.mp H
                        obtain ⟨t262, A360, H⟩ := H
                        replace H : (if t262 = true then ((triremeref32_line.f kj19 t256 (rdOf ByteArray.empty t250 1) x259002_19 t261).bind fun t263 => (some (t256, (rdOf ByteArray.empty t250 1), x259002_19, t261, (t263.toList == a0.toList)))) else (some (t256, (rdOf ByteArray.empty t250 1), x259002_19, t261, false))) = some (r1, r2, r3, r4, r5) := H
                        have A36 := Aside0.mk A360
                        clear A360
                        by_cases c37 : t262 = true
                        · subst c37
                          have H1 : ((triremeref32_line.f kj19 t256 (rdOf ByteArray.empty t250 1) x259002_19 t261).bind fun t263 => (some (t256, (rdOf ByteArray.empty t250 1), x259002_19, t261, (t263.toList == a0.toList)))) = some (r1, r2, r3, r4, r5) := by rw [if_pos rfl] at H; exact H
                          clear H
                          have H := H1
                          clear H1
                          replace H := Option.bind_eq_some_iff.mp H
                          obtain ⟨t263, A380, H⟩ := H
                          replace H : (some (t256, (rdOf ByteArray.empty t250 1), x259002_19, t261, (t263.toList == a0.toList))) = some (r1, r2, r3, r4, r5) := H
                          have A38 := Aside0.mk A380
                          clear A380
                          simp only [Option.some.injEq, Prod.mk.injEq] at H
                          obtain ⟨rfl, rfl, rfl, rfl, rfl⟩ := H
                          have p260 : 0 ≤ (3 : Int) := (by omega)
                          have q260 : 3 < (t250.length : Int) := of_decide_eq_true (by first | (with_reducible assumption) | assumption)
                          obtain ⟨ad260, e260, hx260_0⟩ := Kd.at_string (Kd.R_reads' HO_4.out).2.2 3 p260 q260
                          obtain rfl : ad254 = ad260 := (by injection e260)
                          (try simp only [show (3 : Int).toNat = 3 from rfl, Nat.reduceMul, Nat.reduceEqDiff, Go.Addr.add, ↓reduceIte] at hx260_0)
                          have qi260 : (3 < t250.length) = True := eq_true (by omega)
                          (try rw [show ((3 : Int)).toNat = 3 from rfl] at hx260_0)
                          replace p260 := eq_true p260
                          replace q260 := eq_true q260
                          (try (have qz260 := q260; rw [ByteArray.size_extract, Nat.min_self] at qz260))
                          try go_wp2_with (first | ((first | ((with_reducible refine gate_callee (f := 40) rfl ?_); refine goesL_ (some 51) rfl rfl Try.func40 (by kernel_rfl) rfl #[.string (rdOf ByteArray.empty t250 3)] rfl (by (try simp only [List.map_toArray, List.map_cons, List.map_nil]); first | done | rfl | (simp only [List.length_drop, List.length_take]; rfl)) ?_; (with_reducible refine (triremeref32_number.calls kj19 (rdOf ByteArray.empty t250 3) t261 _ A35.out).mono ?_); rintro e w' ⟨rfl, ⟨nd, rfl⟩⟩; refine ⟨_, rfl, ?_⟩) | (go_at_call 40; (with_reducible refine (triremeref32_number.calls kj19 (rdOf ByteArray.empty t250 3) t261 _ A35.out).mono ?_); rintro e w' ⟨rfl, ⟨nd, rfl⟩⟩)); (try (rw [drewN_self wc]; generalize hq_ : World.drewN wc _ = wc; have n0_ : Aside0 (Kd.R Kd.string 9 wc w.heap.size (fun _ => True) (.slice (some ad254) t250.length co22) t250) := ⟨by rw [← hq_]; exact (by (with_reducible repeat (first | apply Kd.R_alloc | apply Kd.R_drewN | apply Kd.R_drew)); exact HO_4.out)⟩; have n1_ : Aside0 (wc.heap[gb249]? = some (.cells #[.int .i64 0, .string (⟨#[]⟩ : ByteArray), .string (⟨#[]⟩ : ByteArray), .int .i64 0] 39 (0, 0))) := ⟨by rw [← hq_]; exact (by (with_reducible repeat (first | refine blk_drewN ?_ _ | refine blk_drew ?_ | refine blk_alloc ?_ _)); exact BK249.out)⟩; have n2_ : Aside0 (wc.heap[gb258]? = some (.cells #[.int .i64 t256, .string (rdOf ByteArray.empty t250 1), .string x259002_19, .int .i64 0] 39 (0, 0))) := ⟨by rw [← hq_]; exact (by (with_reducible repeat (first | refine blk_drewN ?_ _ | refine blk_drew ?_ | refine blk_alloc ?_ _)); exact BK258.out)⟩; have n3_ : Aside0 (Below w.heap.size w wc) := ⟨by rw [← hq_]; exact (by repeat (first | (with_reducible first | exact HB.out | apply below_alloc | apply pw_below_drewN | apply below_drew1 | refine below_set ?_ GE249.out | refine below_set ?_ GE258.out) | exact HB.out))⟩; clear HO_4 BK249 BK258 HB hq_; have HO_4 := n0_; have BK249 := n1_; have BK258 := n2_; have HB := n3_; clear n0_ n1_ n2_ n3_)); have hnb39 := NB258_249.out; have hnc39 := NB249_258.out; have hcz40_0 : wc.cell? ⟨gb258, 0, none⟩ = some (.int .i64 t256) := (blk_cell BK258.out 0).trans rfl; have hcz40_1 : wc.cell? ⟨gb258, 1, none⟩ = some (.string (rdOf ByteArray.empty t250 1)) := (blk_cell BK258.out 1).trans rfl; have hcz40_2 : wc.cell? ⟨gb258, 2, none⟩ = some (.string x259002_19) := (blk_cell BK258.out 2).trans rfl; have hcz40_3 : wc.cell? ⟨gb258, 3, none⟩ = some (.int .i64 0) := (blk_cell BK258.out 3).trans rfl; have hfz40_0 := blk_frozen BK258.out 0; have hfz40_1 := blk_frozen BK258.out 1; have hfz40_2 := blk_frozen BK258.out 2; have hfz40_3 := blk_frozen BK258.out 3))
                          have n0_ : Aside0 (Kd.R Kd.string 9 (wc.setCell ⟨gb258, 3, none⟩ (.int .i64 t261)) w.heap.size (fun _ => True) (.slice (some ad254) t250.length co22) t250) := ⟨by (with_reducible repeat (first | apply Kd.R_alloc | apply Kd.R_drewN | apply Kd.R_drew)); exact Kd.R_mono (Kd.R_far (p := ⟨gb258, 3, none⟩) (Kd.R_types HO_4.out BK258.out (by decide)) (fun _ hk => hk.2) (.int .i64 t261)) (fun _ hk => trivial)⟩
                          have n1_ : Aside0 ((wc.setCell ⟨gb258, 3, none⟩ (.int .i64 t261)).heap[gb249]? = some (.cells #[.int .i64 0, .string (⟨#[]⟩ : ByteArray), .string (⟨#[]⟩ : ByteArray), .int .i64 0] 39 (0, 0))) := ⟨by (with_reducible repeat (first | refine blk_drewN ?_ _ | refine blk_drew ?_ | refine blk_alloc ?_ _)); refine blk_far ?_ NB249_258.out _; (with_reducible repeat (first | refine blk_drewN ?_ _ | refine blk_drew ?_ | refine blk_alloc ?_ _)); exact BK249.out⟩
                          have n2_ : Aside0 ((wc.setCell ⟨gb258, 3, none⟩ (.int .i64 t261)).heap[gb258]? = some (.cells #[.int .i64 t256, .string (rdOf ByteArray.empty t250 1), .string x259002_19, .int .i64 t261] 39 (0, 0))) := ⟨by (with_reducible repeat (first | refine blk_drewN ?_ _ | refine blk_drew ?_ | refine blk_alloc ?_ _)); refine blk_put (cs := #[.int .i64 t256, .string (rdOf ByteArray.empty t250 1), .string x259002_19, .int .i64 0]) ?_ 3 _ rfl; (with_reducible repeat (first | refine blk_drewN ?_ _ | refine blk_drew ?_ | refine blk_alloc ?_ _)); exact BK258.out⟩
                          have n3_ : Aside0 (Below w.heap.size w (wc.setCell ⟨gb258, 3, none⟩ (.int .i64 t261))) := ⟨by repeat (first | (with_reducible first | exact HB.out | apply below_alloc | apply pw_below_drewN | apply below_drew1 | refine below_set ?_ GE249.out | refine below_set ?_ GE258.out) | exact HB.out)⟩
                          (try clear HO_4)
                          (try clear BK249)
                          (try clear BK258)
                          (try clear HB)
                          generalize (wc.setCell ⟨gb258, 3, none⟩ (.int .i64 t261)) = w41 at n0_ n1_ n2_ n3_ ⊢
                          have HO_4 := n0_
                          have BK249 := n1_
                          have BK258 := n2_
                          have HB := n3_
                          clear n0_ n1_ n2_ n3_
                          have n0_ := Aside0.mk (Kd.R_drew HO_4.out)
                          have n1_ := Aside0.mk (blk_drew BK249.out)
                          have n2_ := Aside0.mk (blk_drew BK258.out)
                          have n3_ := Aside0.mk (below_drew1 HB.out)
                          clear HO_4
                          clear BK249
                          clear BK258
                          clear HB
                          have HO_4 := n0_
                          have BK249 := n1_
                          have BK258 := n2_
                          have HB := n3_
                          clear n0_ n1_ n2_ n3_
                          refine start_ (n := 11) (S := fun w' => w'.cell? ⟨gb258, 0, none⟩ = some (.int .i64 t256) ∧ w'.cell? ⟨gb258, 1, none⟩ = some (.string (rdOf ByteArray.empty t250 1)) ∧ w'.cell? ⟨gb258, 2, none⟩ = some (.string x259002_19) ∧ w'.cell? ⟨gb258, 3, none⟩ = some (.int .i64 t261)) (ds := []) #[false, false, false, false, false, false, false, false, false, false, false] (by kernel_rfl) rfl rfl ⟨(blk_cell BK258.out 0).trans rfl, (blk_cell BK258.out 1).trans rfl, (blk_cell BK258.out 2).trans rfl, (blk_cell BK258.out 3).trans rfl⟩ (fun hHeld => ?_); refine with_tabW triremeref32_read.tab9 triremeref32_read.bits9 (fun HT_ HW_ => ?_)
                          generalize w41.drew = w42 at HO_4 BK249 BK258 HB hHeld ⊢
                          refine take_ (i := 0) (N := some 53) (v := ?_) (a' := ?_) #[true, false, false, false, false, false, false, false, false, false, false] rfl rfl (take_ofW HT_.out HW_.out (by kernel_rfl)) (fun _ _ _ h => h) (Or.inl ⟨by rfl, ?_⟩) hHeld ?_ ?_
                          rotate_left
                          · rintro w' ⟨s0, s1, s2, s3⟩; go_simp; with_reducible rfl
                          rotate_left
                          · simp only [Act.put, List.setIfInBounds_toArray, List.set_cons_zero, List.set_cons_succ, i64_w, i32_w]; rfl
                          refine take_ (i := 1) (N := some 54) (v := ?_) (a' := ?_) #[true, true, false, false, false, false, false, false, false, false, false] rfl rfl (take_ofW HT_.out HW_.out (by kernel_rfl)) (fun _ _ _ h => h) (Or.inl ⟨by rfl, ?_⟩) hHeld ?_ ?_
                          rotate_left
                          · rintro w' ⟨s0, s1, s2, s3⟩; go_simp; with_reducible rfl
                          rotate_left
                          · simp only [Act.put, List.setIfInBounds_toArray, List.set_cons_zero, List.set_cons_succ, i64_w, i32_w]; rfl
                          refine one_ (i := 2) (N := some 55) #[true, true, true, false, false, false, false, false, false, false, false] rfl rfl (one_of HT_.out (by kernel_rfl)) (by decide) (fun K hK => ?_)
                          refine goes_ Try.func15 (by kernel_rfl) rfl #[.agg #[.int .i64 t256, .string (rdOf ByteArray.empty t250 1), .string x259002_19, .int .i64 t261]] (by rfl) rfl rfl (by (try simp only [List.map_toArray, List.map_cons, List.map_nil]); first | done | rfl | (simp only [List.length_drop, List.length_take]; rfl)) ?_
                          with_reducible refine (triremeref32_Right.calls kj19 t256 (rdOf ByteArray.empty t250 1) x259002_19 t261 true _ A36.out).mono ?_
                          rintro e w43 ⟨rfl, hb⟩
                          refine ⟨_, rfl, ?_⟩
                          have n0_ := Aside0.mk (Kd.R_below (by (with_reducible repeat (first | apply Kd.R_alloc | apply Kd.R_drewN | apply Kd.R_drew)); exact HO_4.out) hb)
                          have n1_ := Aside0.mk (blk_below (g := gb249) (o := .cells #[.int .i64 0, .string (⟨#[]⟩ : ByteArray), .string (⟨#[]⟩ : ByteArray), .int .i64 0] 39 (0, 0)) (by (with_reducible repeat (first | refine blk_drewN ?_ _ | refine blk_drew ?_ | refine blk_alloc ?_ _)); exact BK249.out) hb)
                          have n2_ := Aside0.mk (blk_below (g := gb258) (o := .cells #[.int .i64 t256, .string (rdOf ByteArray.empty t250 1), .string x259002_19, .int .i64 t261] 39 (0, 0)) (by (with_reducible repeat (first | refine blk_drewN ?_ _ | refine blk_drew ?_ | refine blk_alloc ?_ _)); exact BK258.out) hb)
                          have n3_ := Aside0.mk (below_step (by repeat (first | (with_reducible first | exact HB.out | apply below_alloc | apply pw_below_drewN | apply below_drew1 | refine below_set ?_ GE249.out | refine below_set ?_ GE258.out) | exact HB.out)) hb)
                          clear HO_4
                          clear BK249
                          clear BK258
                          clear HB
                          have HO_4 := n0_
                          have BK249 := n1_
                          have BK258 := n2_
                          have HB := n3_
                          clear n0_ n1_ n2_ n3_
                          (try clear hb); (try clear hb2); (try clear hk); (try clear hi)
                          refine hK.out _ _ ⟨(blk_cell BK258.out 0).trans rfl, (blk_cell BK258.out 1).trans rfl, (blk_cell BK258.out 2).trans rfl, (blk_cell BK258.out 3).trans rfl⟩ (fun hHeld => ?_)
                          clear hK K
                          refine norm_ (a' := ?_) ?_ ?_
                          rotate_left
                          · show Act.put _ (some 55) _ = _
                            simp only [Act.put, List.setIfInBounds_toArray, List.set_cons_zero, List.set_cons_succ, i64_w, i32_w]
                            rfl
                          refine pure_ (i := 3) (N := some 56) (v := ?_) (a' := ?_) #[true, true, true, true, false, false, false, false, false, false, false] rfl rfl (any_of HT_.out (by kernel_rfl)) (fun _ _ _ h => h) (Or.inl ⟨by rfl, ?_⟩) ?_ ?_
                          rotate_left
                          · intro w'; go_simp; with_reducible rfl
                          rotate_left
                          · simp only [Act.put, List.setIfInBounds_toArray, List.set_cons_zero, List.set_cons_succ, i64_w, i32_w]; rfl
                          refine pure_ (i := 6) (N := some 59) (v := ?_) (a' := ?_) #[true, true, true, true, false, false, true, false, false, false, false] rfl rfl (any_of HT_.out (by kernel_rfl)) (fun _ _ _ h => h) (Or.inl ⟨by rfl, ?_⟩) ?_ ?_
                          rotate_left
                          · intro w'; go_simp; with_reducible rfl
                          rotate_left
                          · simp only [Act.put, List.setIfInBounds_toArray, List.set_cons_zero, List.set_cons_succ, i64_w, i32_w]; rfl
                          refine take_ (i := 4) (N := some 57) (v := ?_) (a' := ?_) #[true, true, true, true, true, false, true, false, false, false, false] rfl rfl (take_ofW HT_.out HW_.out (by kernel_rfl)) (fun _ _ _ h => h) (Or.inl ⟨by rfl, ?_⟩) hHeld ?_ ?_
                          rotate_left
                          · rintro w' ⟨s0, s1, s2, s3⟩; go_simp; with_reducible rfl
                          rotate_left
                          · simp only [Act.put, List.setIfInBounds_toArray, List.set_cons_zero, List.set_cons_succ, i64_w, i32_w]; rfl
                          refine one_ (i := 5) (N := some 58) #[true, true, true, true, true, true, true, false, false, false, false] rfl rfl (one_of HT_.out (by kernel_rfl)) (by decide) (fun K hK => ?_)
                          refine goes_ Try.func34 (by kernel_rfl) rfl #[.agg #[.int .i64 t256, .string (rdOf ByteArray.empty t250 1), .string x259002_19, .int .i64 t261]] (by rfl) rfl rfl (by (try simp only [List.map_toArray, List.map_cons, List.map_nil]); first | done | rfl | (simp only [List.length_drop, List.length_take]; rfl)) ?_
                          with_reducible refine (triremeref32_line.calls kj19 t256 (rdOf ByteArray.empty t250 1) x259002_19 t261 t263 _ A38.out).mono ?_
                          rintro e w44 ⟨rfl, hb⟩
                          refine ⟨_, rfl, ?_⟩
                          have n0_ := Aside0.mk (Kd.R_below (by (with_reducible repeat (first | apply Kd.R_alloc | apply Kd.R_drewN | apply Kd.R_drew)); exact HO_4.out) hb)
                          have n1_ := Aside0.mk (blk_below (g := gb249) (o := .cells #[.int .i64 0, .string (⟨#[]⟩ : ByteArray), .string (⟨#[]⟩ : ByteArray), .int .i64 0] 39 (0, 0)) (by (with_reducible repeat (first | refine blk_drewN ?_ _ | refine blk_drew ?_ | refine blk_alloc ?_ _)); exact BK249.out) hb)
                          have n2_ := Aside0.mk (blk_below (g := gb258) (o := .cells #[.int .i64 t256, .string (rdOf ByteArray.empty t250 1), .string x259002_19, .int .i64 t261] 39 (0, 0)) (by (with_reducible repeat (first | refine blk_drewN ?_ _ | refine blk_drew ?_ | refine blk_alloc ?_ _)); exact BK258.out) hb)
                          have n3_ := Aside0.mk (below_step (by repeat (first | (with_reducible first | exact HB.out | apply below_alloc | apply pw_below_drewN | apply below_drew1 | refine below_set ?_ GE249.out | refine below_set ?_ GE258.out) | exact HB.out)) hb)
                          clear HO_4
                          clear BK249
                          clear BK258
                          clear HB
                          have HO_4 := n0_
                          have BK249 := n1_
                          have BK258 := n2_
                          have HB := n3_
                          clear n0_ n1_ n2_ n3_
                          (try clear hb); (try clear hb2); (try clear hk); (try clear hi)
                          refine hK.out _ _ ⟨(blk_cell BK258.out 0).trans rfl, (blk_cell BK258.out 1).trans rfl, (blk_cell BK258.out 2).trans rfl, (blk_cell BK258.out 3).trans rfl⟩ (fun hHeld => ?_)
                          clear hK K
                          refine norm_ (a' := ?_) ?_ ?_
                          rotate_left
                          · show Act.put _ (some 58) _ = _
                            simp only [Act.put, List.setIfInBounds_toArray, List.set_cons_zero, List.set_cons_succ, i64_w, i32_w]
                            rfl
                          refine pure_ (i := 7) (N := some 60) (v := ?_) (a' := ?_) #[true, true, true, true, true, true, true, true, false, false, false] rfl rfl (any_of HT_.out (by kernel_rfl)) (fun _ _ _ h => h) (Or.inl ⟨by rfl, ?_⟩) ?_ ?_
                          rotate_left
                          · intro w'; go_simp; with_reducible rfl
                          rotate_left
                          · simp only [Act.put, List.setIfInBounds_toArray, List.set_cons_zero, List.set_cons_succ, i64_w, i32_w]; rfl
                          refine pure_ (i := 8) (N := some 61) (v := ?_) (a' := ?_) #[true, true, true, true, true, true, true, true, true, false, false] rfl rfl (any_of HT_.out (by kernel_rfl)) (fun _ _ _ h => h) (Or.inl ⟨by rfl, ?_⟩) ?_ ?_
                          rotate_left
                          · intro w'; go_simp; with_reducible rfl
                          rotate_left
                          · simp only [Act.put, List.setIfInBounds_toArray, List.set_cons_zero, List.set_cons_succ, i64_w, i32_w]; rfl
                          refine one_ (i := 9) (N := none) #[true, true, true, true, true, true, true, true, true, true, false] rfl rfl (one_of HT_.out (by kernel_rfl)) (by decide) (fun K hK => ?_)
                          have hs45 : w44.cell? ⟨gb249, 0, none⟩ = some (.int .i64 0) := (blk_cell BK249.out 0).trans rfl
                          have hfs45 := blk_frozen BK249.out 0
                          have hns45_1 := NB258_249.out
                          have hms45_1 := NB249_258.out
                          have hs46 : w44.cell? ⟨gb249, 1, none⟩ = some (.string (⟨#[]⟩ : ByteArray)) := (blk_cell BK249.out 1).trans rfl
                          have hfs46 := blk_frozen BK249.out 1
                          have hns46_1 := NB258_249.out
                          have hms46_1 := NB249_258.out
                          have hs47 : w44.cell? ⟨gb249, 2, none⟩ = some (.string (⟨#[]⟩ : ByteArray)) := (blk_cell BK249.out 2).trans rfl
                          have hfs47 := blk_frozen BK249.out 2
                          have hns47_1 := NB258_249.out
                          have hms47_1 := NB249_258.out
                          have hs48 : w44.cell? ⟨gb249, 3, none⟩ = some (.int .i64 0) := (blk_cell BK249.out 3).trans rfl
                          have hfs48 := blk_frozen BK249.out 3
                          have hns48_1 := NB258_249.out
                          have hms48_1 := NB249_258.out
                          refine skip_ (w1 := ?_) (by rfl) rfl ?_ ?_
                          rotate_left
                          · go_simp
                            rfl
                          refine hK.out _ _ ⟨((cell_far (p := ⟨gb249, _, none⟩) NB258_249.out _).trans (((cell_far (p := ⟨gb249, _, none⟩) NB258_249.out _).trans (((cell_far (p := ⟨gb249, _, none⟩) NB258_249.out _).trans (((cell_far (p := ⟨gb249, _, none⟩) NB258_249.out _).trans (hHeld.1)))))))), ((cell_far (p := ⟨gb249, _, none⟩) NB258_249.out _).trans (((cell_far (p := ⟨gb249, _, none⟩) NB258_249.out _).trans (((cell_far (p := ⟨gb249, _, none⟩) NB258_249.out _).trans (((cell_far (p := ⟨gb249, _, none⟩) NB258_249.out _).trans (hHeld.2.1)))))))), ((cell_far (p := ⟨gb249, _, none⟩) NB258_249.out _).trans (((cell_far (p := ⟨gb249, _, none⟩) NB258_249.out _).trans (((cell_far (p := ⟨gb249, _, none⟩) NB258_249.out _).trans (((cell_far (p := ⟨gb249, _, none⟩) NB258_249.out _).trans (hHeld.2.2.1)))))))), ((cell_far (p := ⟨gb249, _, none⟩) NB258_249.out _).trans (((cell_far (p := ⟨gb249, _, none⟩) NB258_249.out _).trans (((cell_far (p := ⟨gb249, _, none⟩) NB258_249.out _).trans (((cell_far (p := ⟨gb249, _, none⟩) NB258_249.out _).trans (hHeld.2.2.2))))))))⟩ (fun hHeld => ?_)
                          clear hK K
                          refine pure_ (i := 10) (N := some 3) (v := ?_) (a' := ?_) #[true, true, true, true, true, true, true, true, true, true, true] rfl rfl (any_of HT_.out (by kernel_rfl)) (fun _ _ _ h => h) (Or.inl ⟨by rfl, ?_⟩) ?_ ?_
                          rotate_left
                          · intro w'; go_simp; with_reducible rfl
                          rotate_left
                          · simp only [Act.put, List.setIfInBounds_toArray, List.set_cons_zero, List.set_cons_succ, i64_w, i32_w]; rfl
                          refine done_ (done_of HT_.out (by kernel_rfl)) ?_
                          try go_wp2
                          refine bodyPost_ret (results_ct rfl _ _ gb249 39 #[.int .i64 t256, .string (rdOf ByteArray.empty t250 1), .string x259002_19, .int .i64 t261] (0, 0) _ rfl (by (with_reducible repeat (first | refine blk_drewN ?_ _ | refine blk_drew ?_ | refine blk_alloc ?_ _)); refine blk_put (cs := #[.int .i64 t256, .string (rdOf ByteArray.empty t250 1), .string x259002_19, .int .i64 0]) ?_ 3 _ rfl; (with_reducible repeat (first | refine blk_drewN ?_ _ | refine blk_drew ?_ | refine blk_alloc ?_ _)); refine blk_put (cs := #[.int .i64 t256, .string (rdOf ByteArray.empty t250 1), .string (⟨#[]⟩ : ByteArray), .int .i64 0]) ?_ 2 _ rfl; (with_reducible repeat (first | refine blk_drewN ?_ _ | refine blk_drew ?_ | refine blk_alloc ?_ _)); refine blk_put (cs := #[.int .i64 t256, .string (⟨#[]⟩ : ByteArray), .string (⟨#[]⟩ : ByteArray), .int .i64 0]) ?_ 1 _ rfl; (with_reducible repeat (first | refine blk_drewN ?_ _ | refine blk_drew ?_ | refine blk_alloc ?_ _)); refine blk_put (cs := #[.int .i64 0, .string (⟨#[]⟩ : ByteArray), .string (⟨#[]⟩ : ByteArray), .int .i64 0]) ?_ 0 _ rfl; (with_reducible repeat (first | refine blk_drewN ?_ _ | refine blk_drew ?_ | refine blk_alloc ?_ _)); exact BK249.out) Try.underlying39 rfl (by kernel_rfl)) rfl ?_
                          exact ⟨by first | rfl | (simp [errW_none, errW_some] <;> rfl) | (simp only [← hji15]; first | rfl | (simp [errW_none, errW_some] <;> rfl)) | (simp [*, errW_none, errW_some] <;> rfl), by repeat (first | (with_reducible first | exact HB.out | apply below_alloc | apply pw_below_drewN | apply below_drew1 | refine below_set ?_ GE249.out | refine below_set ?_ GE258.out) | exact HB.out)⟩
                        · replace c37 := Bool.eq_false_iff.mpr c37
                          subst c37
                          have H1 : (some (t256, (rdOf ByteArray.empty t250 1), x259002_19, t261, false)) = some (r1, r2, r3, r4, r5) := by rw [if_neg (show ¬ (false = true) by decide)] at H; exact H
                          clear H
                          have H := H1
                          clear H1
                          simp only [Option.some.injEq, Prod.mk.injEq] at H
                          obtain ⟨rfl, rfl, rfl, rfl, rfl⟩ := H
                          have p260 : 0 ≤ (3 : Int) := (by omega)
                          have q260 : 3 < (t250.length : Int) := of_decide_eq_true (by first | (with_reducible assumption) | assumption)
                          obtain ⟨ad260, e260, hx260_0⟩ := Kd.at_string (Kd.R_reads' HO_4.out).2.2 3 p260 q260
                          obtain rfl : ad254 = ad260 := (by injection e260)
                          (try simp only [show (3 : Int).toNat = 3 from rfl, Nat.reduceMul, Nat.reduceEqDiff, Go.Addr.add, ↓reduceIte] at hx260_0)
                          have qi260 : (3 < t250.length) = True := eq_true (by omega)
                          (try rw [show ((3 : Int)).toNat = 3 from rfl] at hx260_0)
                          replace p260 := eq_true p260
                          replace q260 := eq_true q260
                          (try (have qz260 := q260; rw [ByteArray.size_extract, Nat.min_self] at qz260))
                          try go_wp2_with (first | ((first | ((with_reducible refine gate_callee (f := 40) rfl ?_); refine goesL_ (some 51) rfl rfl Try.func40 (by kernel_rfl) rfl #[.string (rdOf ByteArray.empty t250 3)] rfl (by (try simp only [List.map_toArray, List.map_cons, List.map_nil]); first | done | rfl | (simp only [List.length_drop, List.length_take]; rfl)) ?_; (with_reducible refine (triremeref32_number.calls kj19 (rdOf ByteArray.empty t250 3) t261 _ A35.out).mono ?_); rintro e w' ⟨rfl, ⟨nd, rfl⟩⟩; refine ⟨_, rfl, ?_⟩) | (go_at_call 40; (with_reducible refine (triremeref32_number.calls kj19 (rdOf ByteArray.empty t250 3) t261 _ A35.out).mono ?_); rintro e w' ⟨rfl, ⟨nd, rfl⟩⟩)); (try (rw [drewN_self wc]; generalize hq_ : World.drewN wc _ = wc; have n0_ : Aside0 (Kd.R Kd.string 9 wc w.heap.size (fun _ => True) (.slice (some ad254) t250.length co22) t250) := ⟨by rw [← hq_]; exact (by (with_reducible repeat (first | apply Kd.R_alloc | apply Kd.R_drewN | apply Kd.R_drew)); exact HO_4.out)⟩; have n1_ : Aside0 (wc.heap[gb249]? = some (.cells #[.int .i64 0, .string (⟨#[]⟩ : ByteArray), .string (⟨#[]⟩ : ByteArray), .int .i64 0] 39 (0, 0))) := ⟨by rw [← hq_]; exact (by (with_reducible repeat (first | refine blk_drewN ?_ _ | refine blk_drew ?_ | refine blk_alloc ?_ _)); exact BK249.out)⟩; have n2_ : Aside0 (wc.heap[gb258]? = some (.cells #[.int .i64 t256, .string (rdOf ByteArray.empty t250 1), .string x259002_19, .int .i64 0] 39 (0, 0))) := ⟨by rw [← hq_]; exact (by (with_reducible repeat (first | refine blk_drewN ?_ _ | refine blk_drew ?_ | refine blk_alloc ?_ _)); exact BK258.out)⟩; have n3_ : Aside0 (Below w.heap.size w wc) := ⟨by rw [← hq_]; exact (by repeat (first | (with_reducible first | exact HB.out | apply below_alloc | apply pw_below_drewN | apply below_drew1 | refine below_set ?_ GE249.out | refine below_set ?_ GE258.out) | exact HB.out))⟩; clear HO_4 BK249 BK258 HB hq_; have HO_4 := n0_; have BK249 := n1_; have BK258 := n2_; have HB := n3_; clear n0_ n1_ n2_ n3_)); have hnb49 := NB258_249.out; have hnc49 := NB249_258.out; have hcz50_0 : wc.cell? ⟨gb258, 0, none⟩ = some (.int .i64 t256) := (blk_cell BK258.out 0).trans rfl; have hcz50_1 : wc.cell? ⟨gb258, 1, none⟩ = some (.string (rdOf ByteArray.empty t250 1)) := (blk_cell BK258.out 1).trans rfl; have hcz50_2 : wc.cell? ⟨gb258, 2, none⟩ = some (.string x259002_19) := (blk_cell BK258.out 2).trans rfl; have hcz50_3 : wc.cell? ⟨gb258, 3, none⟩ = some (.int .i64 0) := (blk_cell BK258.out 3).trans rfl; have hfz50_0 := blk_frozen BK258.out 0; have hfz50_1 := blk_frozen BK258.out 1; have hfz50_2 := blk_frozen BK258.out 2; have hfz50_3 := blk_frozen BK258.out 3))
                          have n0_ : Aside0 (Kd.R Kd.string 9 (wc.setCell ⟨gb258, 3, none⟩ (.int .i64 t261)) w.heap.size (fun _ => True) (.slice (some ad254) t250.length co22) t250) := ⟨by (with_reducible repeat (first | apply Kd.R_alloc | apply Kd.R_drewN | apply Kd.R_drew)); exact Kd.R_mono (Kd.R_far (p := ⟨gb258, 3, none⟩) (Kd.R_types HO_4.out BK258.out (by decide)) (fun _ hk => hk.2) (.int .i64 t261)) (fun _ hk => trivial)⟩
                          have n1_ : Aside0 ((wc.setCell ⟨gb258, 3, none⟩ (.int .i64 t261)).heap[gb249]? = some (.cells #[.int .i64 0, .string (⟨#[]⟩ : ByteArray), .string (⟨#[]⟩ : ByteArray), .int .i64 0] 39 (0, 0))) := ⟨by (with_reducible repeat (first | refine blk_drewN ?_ _ | refine blk_drew ?_ | refine blk_alloc ?_ _)); refine blk_far ?_ NB249_258.out _; (with_reducible repeat (first | refine blk_drewN ?_ _ | refine blk_drew ?_ | refine blk_alloc ?_ _)); exact BK249.out⟩
                          have n2_ : Aside0 ((wc.setCell ⟨gb258, 3, none⟩ (.int .i64 t261)).heap[gb258]? = some (.cells #[.int .i64 t256, .string (rdOf ByteArray.empty t250 1), .string x259002_19, .int .i64 t261] 39 (0, 0))) := ⟨by (with_reducible repeat (first | refine blk_drewN ?_ _ | refine blk_drew ?_ | refine blk_alloc ?_ _)); refine blk_put (cs := #[.int .i64 t256, .string (rdOf ByteArray.empty t250 1), .string x259002_19, .int .i64 0]) ?_ 3 _ rfl; (with_reducible repeat (first | refine blk_drewN ?_ _ | refine blk_drew ?_ | refine blk_alloc ?_ _)); exact BK258.out⟩
                          have n3_ : Aside0 (Below w.heap.size w (wc.setCell ⟨gb258, 3, none⟩ (.int .i64 t261))) := ⟨by repeat (first | (with_reducible first | exact HB.out | apply below_alloc | apply pw_below_drewN | apply below_drew1 | refine below_set ?_ GE249.out | refine below_set ?_ GE258.out) | exact HB.out)⟩
                          (try clear HO_4)
                          (try clear BK249)
                          (try clear BK258)
                          (try clear HB)
                          generalize (wc.setCell ⟨gb258, 3, none⟩ (.int .i64 t261)) = w51 at n0_ n1_ n2_ n3_ ⊢
                          have HO_4 := n0_
                          have BK249 := n1_
                          have BK258 := n2_
                          have HB := n3_
                          clear n0_ n1_ n2_ n3_
                          have n0_ := Aside0.mk (Kd.R_drew HO_4.out)
                          have n1_ := Aside0.mk (blk_drew BK249.out)
                          have n2_ := Aside0.mk (blk_drew BK258.out)
                          have n3_ := Aside0.mk (below_drew1 HB.out)
                          clear HO_4
                          clear BK249
                          clear BK258
                          clear HB
                          have HO_4 := n0_
                          have BK249 := n1_
                          have BK258 := n2_
                          have HB := n3_
                          clear n0_ n1_ n2_ n3_
                          refine start_ (n := 11) (S := fun w' => w'.cell? ⟨gb258, 0, none⟩ = some (.int .i64 t256) ∧ w'.cell? ⟨gb258, 1, none⟩ = some (.string (rdOf ByteArray.empty t250 1)) ∧ w'.cell? ⟨gb258, 2, none⟩ = some (.string x259002_19) ∧ w'.cell? ⟨gb258, 3, none⟩ = some (.int .i64 t261)) (ds := []) #[false, false, false, false, false, false, false, false, false, false, false] (by kernel_rfl) rfl rfl ⟨(blk_cell BK258.out 0).trans rfl, (blk_cell BK258.out 1).trans rfl, (blk_cell BK258.out 2).trans rfl, (blk_cell BK258.out 3).trans rfl⟩ (fun hHeld => ?_); refine with_tabW triremeref32_read.tab9 triremeref32_read.bits9 (fun HT_ HW_ => ?_)
                          generalize w51.drew = w52 at HO_4 BK249 BK258 HB hHeld ⊢
                          refine take_ (i := 0) (N := some 53) (v := ?_) (a' := ?_) #[true, false, false, false, false, false, false, false, false, false, false] rfl rfl (take_ofW HT_.out HW_.out (by kernel_rfl)) (fun _ _ _ h => h) (Or.inl ⟨by rfl, ?_⟩) hHeld ?_ ?_
                          rotate_left
                          · rintro w' ⟨s0, s1, s2, s3⟩; go_simp; with_reducible rfl
                          rotate_left
                          · simp only [Act.put, List.setIfInBounds_toArray, List.set_cons_zero, List.set_cons_succ, i64_w, i32_w]; rfl
                          refine take_ (i := 1) (N := some 54) (v := ?_) (a' := ?_) #[true, true, false, false, false, false, false, false, false, false, false] rfl rfl (take_ofW HT_.out HW_.out (by kernel_rfl)) (fun _ _ _ h => h) (Or.inl ⟨by rfl, ?_⟩) hHeld ?_ ?_
                          rotate_left
                          · rintro w' ⟨s0, s1, s2, s3⟩; go_simp; with_reducible rfl
                          rotate_left
                          · simp only [Act.put, List.setIfInBounds_toArray, List.set_cons_zero, List.set_cons_succ, i64_w, i32_w]; rfl
                          refine one_ (i := 2) (N := some 55) #[true, true, true, false, false, false, false, false, false, false, false] rfl rfl (one_of HT_.out (by kernel_rfl)) (by decide) (fun K hK => ?_)
                          refine goes_ Try.func15 (by kernel_rfl) rfl #[.agg #[.int .i64 t256, .string (rdOf ByteArray.empty t250 1), .string x259002_19, .int .i64 t261]] (by rfl) rfl rfl (by (try simp only [List.map_toArray, List.map_cons, List.map_nil]); first | done | rfl | (simp only [List.length_drop, List.length_take]; rfl)) ?_
                          with_reducible refine (triremeref32_Right.calls kj19 t256 (rdOf ByteArray.empty t250 1) x259002_19 t261 false _ A36.out).mono ?_
                          rintro e w53 ⟨rfl, hb⟩
                          refine ⟨_, rfl, ?_⟩
                          have n0_ := Aside0.mk (Kd.R_below (by (with_reducible repeat (first | apply Kd.R_alloc | apply Kd.R_drewN | apply Kd.R_drew)); exact HO_4.out) hb)
                          have n1_ := Aside0.mk (blk_below (g := gb249) (o := .cells #[.int .i64 0, .string (⟨#[]⟩ : ByteArray), .string (⟨#[]⟩ : ByteArray), .int .i64 0] 39 (0, 0)) (by (with_reducible repeat (first | refine blk_drewN ?_ _ | refine blk_drew ?_ | refine blk_alloc ?_ _)); exact BK249.out) hb)
                          have n2_ := Aside0.mk (blk_below (g := gb258) (o := .cells #[.int .i64 t256, .string (rdOf ByteArray.empty t250 1), .string x259002_19, .int .i64 t261] 39 (0, 0)) (by (with_reducible repeat (first | refine blk_drewN ?_ _ | refine blk_drew ?_ | refine blk_alloc ?_ _)); exact BK258.out) hb)
                          have n3_ := Aside0.mk (below_step (by repeat (first | (with_reducible first | exact HB.out | apply below_alloc | apply pw_below_drewN | apply below_drew1 | refine below_set ?_ GE249.out | refine below_set ?_ GE258.out) | exact HB.out)) hb)
                          clear HO_4
                          clear BK249
                          clear BK258
                          clear HB
                          have HO_4 := n0_
                          have BK249 := n1_
                          have BK258 := n2_
                          have HB := n3_
                          clear n0_ n1_ n2_ n3_
                          (try clear hb); (try clear hb2); (try clear hk); (try clear hi)
                          refine hK.out _ _ ⟨(blk_cell BK258.out 0).trans rfl, (blk_cell BK258.out 1).trans rfl, (blk_cell BK258.out 2).trans rfl, (blk_cell BK258.out 3).trans rfl⟩ (fun hHeld => ?_)
                          clear hK K
                          refine norm_ (a' := ?_) ?_ ?_
                          rotate_left
                          · show Act.put _ (some 55) _ = _
                            simp only [Act.put, List.setIfInBounds_toArray, List.set_cons_zero, List.set_cons_succ, i64_w, i32_w]
                            rfl
                          refine pure_ (i := 3) (N := some 56) (v := ?_) (a' := ?_) #[true, true, true, true, false, false, false, false, false, false, false] rfl rfl (any_of HT_.out (by kernel_rfl)) (fun _ _ _ h => h) (Or.inl ⟨by rfl, ?_⟩) ?_ ?_
                          rotate_left
                          · intro w'; go_simp; with_reducible rfl
                          rotate_left
                          · simp only [Act.put, List.setIfInBounds_toArray, List.set_cons_zero, List.set_cons_succ, i64_w, i32_w]; rfl
                          refine pure_ (i := 4) (N := some 57) (v := undef) (a' := ?_) #[true, true, true, true, true, false, false, false, false, false, false] rfl rfl (any_of HT_.out (by kernel_rfl)) (fun _ _ _ h => h) (Or.inr ⟨by rfl, rfl⟩) ?_ ?_
                          rotate_left
                          · simp only [Act.put, List.setIfInBounds_toArray, List.set_cons_zero, List.set_cons_succ, i64_w, i32_w]; rfl
                          refine pure_ (i := 5) (N := some 58) (v := undef) (a' := ?_) #[true, true, true, true, true, true, false, false, false, false, false] rfl rfl (any_of HT_.out (by kernel_rfl)) (fun _ _ _ h => h) (Or.inr ⟨by rfl, rfl⟩) ?_ ?_
                          rotate_left
                          · simp only [Act.put, List.setIfInBounds_toArray, List.set_cons_zero, List.set_cons_succ, i64_w, i32_w]; rfl
                          refine pure_ (i := 6) (N := some 59) (v := undef) (a' := ?_) #[true, true, true, true, true, true, true, false, false, false, false] rfl rfl (any_of HT_.out (by kernel_rfl)) (fun _ _ _ h => h) (Or.inr ⟨by rfl, rfl⟩) ?_ ?_
                          rotate_left
                          · simp only [Act.put, List.setIfInBounds_toArray, List.set_cons_zero, List.set_cons_succ, i64_w, i32_w]; rfl
                          refine pure_ (i := 7) (N := some 60) (v := undef) (a' := ?_) #[true, true, true, true, true, true, true, true, false, false, false] rfl rfl (any_of HT_.out (by kernel_rfl)) (fun _ _ _ h => h) (Or.inr ⟨by rfl, rfl⟩) ?_ ?_
                          rotate_left
                          · simp only [Act.put, List.setIfInBounds_toArray, List.set_cons_zero, List.set_cons_succ, i64_w, i32_w]; rfl
                          refine pure_ (i := 8) (N := some 61) (v := ?_) (a' := ?_) #[true, true, true, true, true, true, true, true, true, false, false] rfl rfl (any_of HT_.out (by kernel_rfl)) (fun _ _ _ h => h) (Or.inl ⟨by rfl, ?_⟩) ?_ ?_
                          rotate_left
                          · intro w'; go_simp; with_reducible rfl
                          rotate_left
                          · simp only [Act.put, List.setIfInBounds_toArray, List.set_cons_zero, List.set_cons_succ, i64_w, i32_w]; rfl
                          refine one_ (i := 9) (N := none) #[true, true, true, true, true, true, true, true, true, true, false] rfl rfl (one_of HT_.out (by kernel_rfl)) (by decide) (fun K hK => ?_)
                          have hs54 : w53.cell? ⟨gb249, 0, none⟩ = some (.int .i64 0) := (blk_cell BK249.out 0).trans rfl
                          have hfs54 := blk_frozen BK249.out 0
                          have hns54_1 := NB258_249.out
                          have hms54_1 := NB249_258.out
                          have hs55 : w53.cell? ⟨gb249, 1, none⟩ = some (.string (⟨#[]⟩ : ByteArray)) := (blk_cell BK249.out 1).trans rfl
                          have hfs55 := blk_frozen BK249.out 1
                          have hns55_1 := NB258_249.out
                          have hms55_1 := NB249_258.out
                          have hs56 : w53.cell? ⟨gb249, 2, none⟩ = some (.string (⟨#[]⟩ : ByteArray)) := (blk_cell BK249.out 2).trans rfl
                          have hfs56 := blk_frozen BK249.out 2
                          have hns56_1 := NB258_249.out
                          have hms56_1 := NB249_258.out
                          have hs57 : w53.cell? ⟨gb249, 3, none⟩ = some (.int .i64 0) := (blk_cell BK249.out 3).trans rfl
                          have hfs57 := blk_frozen BK249.out 3
                          have hns57_1 := NB258_249.out
                          have hms57_1 := NB249_258.out
                          refine skip_ (w1 := ?_) (by rfl) rfl ?_ ?_
                          rotate_left
                          · go_simp
                            rfl
                          refine hK.out _ _ ⟨((cell_far (p := ⟨gb249, _, none⟩) NB258_249.out _).trans (((cell_far (p := ⟨gb249, _, none⟩) NB258_249.out _).trans (((cell_far (p := ⟨gb249, _, none⟩) NB258_249.out _).trans (((cell_far (p := ⟨gb249, _, none⟩) NB258_249.out _).trans (hHeld.1)))))))), ((cell_far (p := ⟨gb249, _, none⟩) NB258_249.out _).trans (((cell_far (p := ⟨gb249, _, none⟩) NB258_249.out _).trans (((cell_far (p := ⟨gb249, _, none⟩) NB258_249.out _).trans (((cell_far (p := ⟨gb249, _, none⟩) NB258_249.out _).trans (hHeld.2.1)))))))), ((cell_far (p := ⟨gb249, _, none⟩) NB258_249.out _).trans (((cell_far (p := ⟨gb249, _, none⟩) NB258_249.out _).trans (((cell_far (p := ⟨gb249, _, none⟩) NB258_249.out _).trans (((cell_far (p := ⟨gb249, _, none⟩) NB258_249.out _).trans (hHeld.2.2.1)))))))), ((cell_far (p := ⟨gb249, _, none⟩) NB258_249.out _).trans (((cell_far (p := ⟨gb249, _, none⟩) NB258_249.out _).trans (((cell_far (p := ⟨gb249, _, none⟩) NB258_249.out _).trans (((cell_far (p := ⟨gb249, _, none⟩) NB258_249.out _).trans (hHeld.2.2.2))))))))⟩ (fun hHeld => ?_)
                          clear hK K
                          refine pure_ (i := 10) (N := some 3) (v := ?_) (a' := ?_) #[true, true, true, true, true, true, true, true, true, true, true] rfl rfl (any_of HT_.out (by kernel_rfl)) (fun _ _ _ h => h) (Or.inl ⟨by rfl, ?_⟩) ?_ ?_
                          rotate_left
                          · intro w'; go_simp; with_reducible rfl
                          rotate_left
                          · simp only [Act.put, List.setIfInBounds_toArray, List.set_cons_zero, List.set_cons_succ, i64_w, i32_w]; rfl
                          refine done_ (done_of HT_.out (by kernel_rfl)) ?_
                          try go_wp2
                          refine bodyPost_ret (results_ct rfl _ _ gb249 39 #[.int .i64 t256, .string (rdOf ByteArray.empty t250 1), .string x259002_19, .int .i64 t261] (0, 0) _ rfl (by (with_reducible repeat (first | refine blk_drewN ?_ _ | refine blk_drew ?_ | refine blk_alloc ?_ _)); refine blk_put (cs := #[.int .i64 t256, .string (rdOf ByteArray.empty t250 1), .string x259002_19, .int .i64 0]) ?_ 3 _ rfl; (with_reducible repeat (first | refine blk_drewN ?_ _ | refine blk_drew ?_ | refine blk_alloc ?_ _)); refine blk_put (cs := #[.int .i64 t256, .string (rdOf ByteArray.empty t250 1), .string (⟨#[]⟩ : ByteArray), .int .i64 0]) ?_ 2 _ rfl; (with_reducible repeat (first | refine blk_drewN ?_ _ | refine blk_drew ?_ | refine blk_alloc ?_ _)); refine blk_put (cs := #[.int .i64 t256, .string (⟨#[]⟩ : ByteArray), .string (⟨#[]⟩ : ByteArray), .int .i64 0]) ?_ 1 _ rfl; (with_reducible repeat (first | refine blk_drewN ?_ _ | refine blk_drew ?_ | refine blk_alloc ?_ _)); refine blk_put (cs := #[.int .i64 0, .string (⟨#[]⟩ : ByteArray), .string (⟨#[]⟩ : ByteArray), .int .i64 0]) ?_ 0 _ rfl; (with_reducible repeat (first | refine blk_drewN ?_ _ | refine blk_drew ?_ | refine blk_alloc ?_ _)); exact BK249.out) Try.underlying39 rfl (by kernel_rfl)) rfl ?_
                          exact ⟨by first | rfl | (simp [errW_none, errW_some] <;> rfl) | (simp only [← hji15]; first | rfl | (simp [errW_none, errW_some] <;> rfl)) | (simp [*, errW_none, errW_some] <;> rfl), by repeat (first | (with_reducible first | exact HB.out | apply below_alloc | apply pw_below_drewN | apply below_drew1 | refine below_set ?_ GE249.out | refine below_set ?_ GE258.out) | exact HB.out)⟩
                      · rw [if_neg c34] at H
                        exact absurd H (by simp)
                    · rw [if_neg c33] at H
                      have c33b0 : decide (3 < (t250.length : Int)) = false := decide_eq_false c33
                      have c33b1 : decide (3 < t250.length) = false := decide_eq_false (by omega)
                      clear c33
                      replace H := Option.bind_eq_some_iff.mp H
                      obtain ⟨t264, A580, H⟩ := H
                      replace H : (if t264 = true then ((triremeref32_line.f kj19 t256 (rdOf ByteArray.empty t250 1) x259002_19 0).bind fun t265 => (some (t256, (rdOf ByteArray.empty t250 1), x259002_19, 0, (t265.toList == a0.toList)))) else (some (t256, (rdOf ByteArray.empty t250 1), x259002_19, 0, false))) = some (r1, r2, r3, r4, r5) := H
                      have A58 := Aside0.mk A580
                      clear A580
                      by_cases c59 : t264 = true
                      · subst c59
                        have H1 : ((triremeref32_line.f kj19 t256 (rdOf ByteArray.empty t250 1) x259002_19 0).bind fun t265 => (some (t256, (rdOf ByteArray.empty t250 1), x259002_19, 0, (t265.toList == a0.toList)))) = some (r1, r2, r3, r4, r5) := by rw [if_pos rfl] at H; exact H
                        clear H
                        have H := H1
                        clear H1
                        replace H := Option.bind_eq_some_iff.mp H
                        obtain ⟨t265, A600, H⟩ := H
                        replace H : (some (t256, (rdOf ByteArray.empty t250 1), x259002_19, 0, (t265.toList == a0.toList))) = some (r1, r2, r3, r4, r5) := H
                        have A60 := Aside0.mk A600
                        clear A600
                        simp only [Option.some.injEq, Prod.mk.injEq] at H
                        obtain ⟨rfl, rfl, rfl, rfl, rfl⟩ := H
                        try go_wp2
                        have n0_ := Aside0.mk (Kd.R_drew HO_4.out)
                        have n1_ := Aside0.mk (blk_drew BK249.out)
                        have n2_ := Aside0.mk (blk_drew BK258.out)
                        have n3_ := Aside0.mk (below_drew1 HB.out)
                        clear HO_4
                        clear BK249
                        clear BK258
                        clear HB
                        have HO_4 := n0_
                        have BK249 := n1_
                        have BK258 := n2_
                        have HB := n3_
                        clear n0_ n1_ n2_ n3_
                        refine start_ (n := 11) (S := fun w' => w'.cell? ⟨gb258, 0, none⟩ = some (.int .i64 t256) ∧ w'.cell? ⟨gb258, 1, none⟩ = some (.string (rdOf ByteArray.empty t250 1)) ∧ w'.cell? ⟨gb258, 2, none⟩ = some (.string x259002_19) ∧ w'.cell? ⟨gb258, 3, none⟩ = some (.int .i64 0)) (ds := []) #[false, false, false, false, false, false, false, false, false, false, false] (by kernel_rfl) rfl rfl ⟨(blk_cell BK258.out 0).trans rfl, (blk_cell BK258.out 1).trans rfl, (blk_cell BK258.out 2).trans rfl, (blk_cell BK258.out 3).trans rfl⟩ (fun hHeld => ?_); refine with_tabW triremeref32_read.tab9 triremeref32_read.bits9 (fun HT_ HW_ => ?_)
                        generalize wc.drew = w61 at HO_4 BK249 BK258 HB hHeld ⊢
                        refine take_ (i := 0) (N := some 53) (v := ?_) (a' := ?_) #[true, false, false, false, false, false, false, false, false, false, false] rfl rfl (take_ofW HT_.out HW_.out (by kernel_rfl)) (fun _ _ _ h => h) (Or.inl ⟨by rfl, ?_⟩) hHeld ?_ ?_
                        rotate_left
                        · rintro w' ⟨s0, s1, s2, s3⟩; go_simp; with_reducible rfl
                        rotate_left
                        · simp only [Act.put, List.setIfInBounds_toArray, List.set_cons_zero, List.set_cons_succ, i64_w, i32_w]; rfl
                        refine take_ (i := 1) (N := some 54) (v := ?_) (a' := ?_) #[true, true, false, false, false, false, false, false, false, false, false] rfl rfl (take_ofW HT_.out HW_.out (by kernel_rfl)) (fun _ _ _ h => h) (Or.inl ⟨by rfl, ?_⟩) hHeld ?_ ?_
                        rotate_left
                        · rintro w' ⟨s0, s1, s2, s3⟩; go_simp; with_reducible rfl
                        rotate_left
                        · simp only [Act.put, List.setIfInBounds_toArray, List.set_cons_zero, List.set_cons_succ, i64_w, i32_w]; rfl
                        refine one_ (i := 2) (N := some 55) #[true, true, true, false, false, false, false, false, false, false, false] rfl rfl (one_of HT_.out (by kernel_rfl)) (by decide) (fun K hK => ?_)
                        refine goes_ Try.func15 (by kernel_rfl) rfl #[.agg #[.int .i64 t256, .string (rdOf ByteArray.empty t250 1), .string x259002_19, .int .i64 0]] (by rfl) rfl rfl (by (try simp only [List.map_toArray, List.map_cons, List.map_nil]); first | done | rfl | (simp only [List.length_drop, List.length_take]; rfl)) ?_
                        with_reducible refine (triremeref32_Right.calls kj19 t256 (rdOf ByteArray.empty t250 1) x259002_19 0 true _ A58.out).mono ?_
                        rintro e w62 ⟨rfl, hb⟩
                        refine ⟨_, rfl, ?_⟩
                        have n0_ := Aside0.mk (Kd.R_below (by (with_reducible repeat (first | apply Kd.R_alloc | apply Kd.R_drewN | apply Kd.R_drew)); exact HO_4.out) hb)
                        have n1_ := Aside0.mk (blk_below (g := gb249) (o := .cells #[.int .i64 0, .string (⟨#[]⟩ : ByteArray), .string (⟨#[]⟩ : ByteArray), .int .i64 0] 39 (0, 0)) (by (with_reducible repeat (first | refine blk_drewN ?_ _ | refine blk_drew ?_ | refine blk_alloc ?_ _)); exact BK249.out) hb)
                        have n2_ := Aside0.mk (blk_below (g := gb258) (o := .cells #[.int .i64 t256, .string (rdOf ByteArray.empty t250 1), .string x259002_19, .int .i64 0] 39 (0, 0)) (by (with_reducible repeat (first | refine blk_drewN ?_ _ | refine blk_drew ?_ | refine blk_alloc ?_ _)); exact BK258.out) hb)
                        have n3_ := Aside0.mk (below_step (by repeat (first | (with_reducible first | exact HB.out | apply below_alloc | apply pw_below_drewN | apply below_drew1 | refine below_set ?_ GE249.out | refine below_set ?_ GE258.out) | exact HB.out)) hb)
                        clear HO_4
                        clear BK249
                        clear BK258
                        clear HB
                        have HO_4 := n0_
                        have BK249 := n1_
                        have BK258 := n2_
                        have HB := n3_
                        clear n0_ n1_ n2_ n3_
                        (try clear hb); (try clear hb2); (try clear hk); (try clear hi)
                        refine hK.out _ _ ⟨(blk_cell BK258.out 0).trans rfl, (blk_cell BK258.out 1).trans rfl, (blk_cell BK258.out 2).trans rfl, (blk_cell BK258.out 3).trans rfl⟩ (fun hHeld => ?_)
                        clear hK K
                        refine norm_ (a' := ?_) ?_ ?_
                        rotate_left
                        · show Act.put _ (some 55) _ = _
                          simp only [Act.put, List.setIfInBounds_toArray, List.set_cons_zero, List.set_cons_succ, i64_w, i32_w]
                          rfl
                        refine pure_ (i := 3) (N := some 56) (v := ?_) (a' := ?_) #[true, true, true, true, false, false, false, false, false, false, false] rfl rfl (any_of HT_.out (by kernel_rfl)) (fun _ _ _ h => h) (Or.inl ⟨by rfl, ?_⟩) ?_ ?_
                        rotate_left
                        · intro w'; go_simp; with_reducible rfl
                        rotate_left
                        · simp only [Act.put, List.setIfInBounds_toArray, List.set_cons_zero, List.set_cons_succ, i64_w, i32_w]; rfl
                        refine pure_ (i := 6) (N := some 59) (v := ?_) (a' := ?_) #[true, true, true, true, false, false, true, false, false, false, false] rfl rfl (any_of HT_.out (by kernel_rfl)) (fun _ _ _ h => h) (Or.inl ⟨by rfl, ?_⟩) ?_ ?_
                        rotate_left
                        · intro w'; go_simp; with_reducible rfl
                        rotate_left
                        · simp only [Act.put, List.setIfInBounds_toArray, List.set_cons_zero, List.set_cons_succ, i64_w, i32_w]; rfl
                        refine take_ (i := 4) (N := some 57) (v := ?_) (a' := ?_) #[true, true, true, true, true, false, true, false, false, false, false] rfl rfl (take_ofW HT_.out HW_.out (by kernel_rfl)) (fun _ _ _ h => h) (Or.inl ⟨by rfl, ?_⟩) hHeld ?_ ?_
                        rotate_left
                        · rintro w' ⟨s0, s1, s2, s3⟩; go_simp; with_reducible rfl
                        rotate_left
                        · simp only [Act.put, List.setIfInBounds_toArray, List.set_cons_zero, List.set_cons_succ, i64_w, i32_w]; rfl
                        refine one_ (i := 5) (N := some 58) #[true, true, true, true, true, true, true, false, false, false, false] rfl rfl (one_of HT_.out (by kernel_rfl)) (by decide) (fun K hK => ?_)
                        refine goes_ Try.func34 (by kernel_rfl) rfl #[.agg #[.int .i64 t256, .string (rdOf ByteArray.empty t250 1), .string x259002_19, .int .i64 0]] (by rfl) rfl rfl (by (try simp only [List.map_toArray, List.map_cons, List.map_nil]); first | done | rfl | (simp only [List.length_drop, List.length_take]; rfl)) ?_
                        with_reducible refine (triremeref32_line.calls kj19 t256 (rdOf ByteArray.empty t250 1) x259002_19 0 t265 _ A60.out).mono ?_
                        rintro e w63 ⟨rfl, hb⟩
                        refine ⟨_, rfl, ?_⟩
                        have n0_ := Aside0.mk (Kd.R_below (by (with_reducible repeat (first | apply Kd.R_alloc | apply Kd.R_drewN | apply Kd.R_drew)); exact HO_4.out) hb)
                        have n1_ := Aside0.mk (blk_below (g := gb249) (o := .cells #[.int .i64 0, .string (⟨#[]⟩ : ByteArray), .string (⟨#[]⟩ : ByteArray), .int .i64 0] 39 (0, 0)) (by (with_reducible repeat (first | refine blk_drewN ?_ _ | refine blk_drew ?_ | refine blk_alloc ?_ _)); exact BK249.out) hb)
                        have n2_ := Aside0.mk (blk_below (g := gb258) (o := .cells #[.int .i64 t256, .string (rdOf ByteArray.empty t250 1), .string x259002_19, .int .i64 0] 39 (0, 0)) (by (with_reducible repeat (first | refine blk_drewN ?_ _ | refine blk_drew ?_ | refine blk_alloc ?_ _)); exact BK258.out) hb)
                        have n3_ := Aside0.mk (below_step (by repeat (first | (with_reducible first | exact HB.out | apply below_alloc | apply pw_below_drewN | apply below_drew1 | refine below_set ?_ GE249.out | refine below_set ?_ GE258.out) | exact HB.out)) hb)
                        clear HO_4
                        clear BK249
                        clear BK258
                        clear HB
                        have HO_4 := n0_
                        have BK249 := n1_
                        have BK258 := n2_
                        have HB := n3_
                        clear n0_ n1_ n2_ n3_
                        (try clear hb); (try clear hb2); (try clear hk); (try clear hi)
                        refine hK.out _ _ ⟨(blk_cell BK258.out 0).trans rfl, (blk_cell BK258.out 1).trans rfl, (blk_cell BK258.out 2).trans rfl, (blk_cell BK258.out 3).trans rfl⟩ (fun hHeld => ?_)
                        clear hK K
                        refine norm_ (a' := ?_) ?_ ?_
                        rotate_left
                        · show Act.put _ (some 58) _ = _
                          simp only [Act.put, List.setIfInBounds_toArray, List.set_cons_zero, List.set_cons_succ, i64_w, i32_w]
                          rfl
                        refine pure_ (i := 7) (N := some 60) (v := ?_) (a' := ?_) #[true, true, true, true, true, true, true, true, false, false, false] rfl rfl (any_of HT_.out (by kernel_rfl)) (fun _ _ _ h => h) (Or.inl ⟨by rfl, ?_⟩) ?_ ?_
                        rotate_left
                        · intro w'; go_simp; with_reducible rfl
                        rotate_left
                        · simp only [Act.put, List.setIfInBounds_toArray, List.set_cons_zero, List.set_cons_succ, i64_w, i32_w]; rfl
                        refine pure_ (i := 8) (N := some 61) (v := ?_) (a' := ?_) #[true, true, true, true, true, true, true, true, true, false, false] rfl rfl (any_of HT_.out (by kernel_rfl)) (fun _ _ _ h => h) (Or.inl ⟨by rfl, ?_⟩) ?_ ?_
                        rotate_left
                        · intro w'; go_simp; with_reducible rfl
                        rotate_left
                        · simp only [Act.put, List.setIfInBounds_toArray, List.set_cons_zero, List.set_cons_succ, i64_w, i32_w]; rfl
                        refine one_ (i := 9) (N := none) #[true, true, true, true, true, true, true, true, true, true, false] rfl rfl (one_of HT_.out (by kernel_rfl)) (by decide) (fun K hK => ?_)
                        have hs64 : w63.cell? ⟨gb249, 0, none⟩ = some (.int .i64 0) := (blk_cell BK249.out 0).trans rfl
                        have hfs64 := blk_frozen BK249.out 0
                        have hns64_1 := NB258_249.out
                        have hms64_1 := NB249_258.out
                        have hs65 : w63.cell? ⟨gb249, 1, none⟩ = some (.string (⟨#[]⟩ : ByteArray)) := (blk_cell BK249.out 1).trans rfl
                        have hfs65 := blk_frozen BK249.out 1
                        have hns65_1 := NB258_249.out
                        have hms65_1 := NB249_258.out
                        have hs66 : w63.cell? ⟨gb249, 2, none⟩ = some (.string (⟨#[]⟩ : ByteArray)) := (blk_cell BK249.out 2).trans rfl
                        have hfs66 := blk_frozen BK249.out 2
                        have hns66_1 := NB258_249.out
                        have hms66_1 := NB249_258.out
                        have hs67 : w63.cell? ⟨gb249, 3, none⟩ = some (.int .i64 0) := (blk_cell BK249.out 3).trans rfl
                        have hfs67 := blk_frozen BK249.out 3
                        have hns67_1 := NB258_249.out
                        have hms67_1 := NB249_258.out
                        refine skip_ (w1 := ?_) (by rfl) rfl ?_ ?_
                        rotate_left
                        · go_simp
                          rfl
                        refine hK.out _ _ ⟨((cell_far (p := ⟨gb249, _, none⟩) NB258_249.out _).trans (((cell_far (p := ⟨gb249, _, none⟩) NB258_249.out _).trans (((cell_far (p := ⟨gb249, _, none⟩) NB258_249.out _).trans (((cell_far (p := ⟨gb249, _, none⟩) NB258_249.out _).trans (hHeld.1)))))))), ((cell_far (p := ⟨gb249, _, none⟩) NB258_249.out _).trans (((cell_far (p := ⟨gb249, _, none⟩) NB258_249.out _).trans (((cell_far (p := ⟨gb249, _, none⟩) NB258_249.out _).trans (((cell_far (p := ⟨gb249, _, none⟩) NB258_249.out _).trans (hHeld.2.1)))))))), ((cell_far (p := ⟨gb249, _, none⟩) NB258_249.out _).trans (((cell_far (p := ⟨gb249, _, none⟩) NB258_249.out _).trans (((cell_far (p := ⟨gb249, _, none⟩) NB258_249.out _).trans (((cell_far (p := ⟨gb249, _, none⟩) NB258_249.out _).trans (hHeld.2.2.1)))))))), ((cell_far (p := ⟨gb249, _, none⟩) NB258_249.out _).trans (((cell_far (p := ⟨gb249, _, none⟩) NB258_249.out _).trans (((cell_far (p := ⟨gb249, _, none⟩) NB258_249.out _).trans (((cell_far (p := ⟨gb249, _, none⟩) NB258_249.out _).trans (hHeld.2.2.2))))))))⟩ (fun hHeld => ?_)
                        clear hK K
                        refine pure_ (i := 10) (N := some 3) (v := ?_) (a' := ?_) #[true, true, true, true, true, true, true, true, true, true, true] rfl rfl (any_of HT_.out (by kernel_rfl)) (fun _ _ _ h => h) (Or.inl ⟨by rfl, ?_⟩) ?_ ?_
                        rotate_left
                        · intro w'; go_simp; with_reducible rfl
                        rotate_left
                        · simp only [Act.put, List.setIfInBounds_toArray, List.set_cons_zero, List.set_cons_succ, i64_w, i32_w]; rfl
                        refine done_ (done_of HT_.out (by kernel_rfl)) ?_
                        try go_wp2
                        refine bodyPost_ret (results_ct rfl _ _ gb249 39 #[.int .i64 t256, .string (rdOf ByteArray.empty t250 1), .string x259002_19, .int .i64 0] (0, 0) _ rfl (by (with_reducible repeat (first | refine blk_drewN ?_ _ | refine blk_drew ?_ | refine blk_alloc ?_ _)); refine blk_put (cs := #[.int .i64 t256, .string (rdOf ByteArray.empty t250 1), .string x259002_19, .int .i64 0]) ?_ 3 _ rfl; (with_reducible repeat (first | refine blk_drewN ?_ _ | refine blk_drew ?_ | refine blk_alloc ?_ _)); refine blk_put (cs := #[.int .i64 t256, .string (rdOf ByteArray.empty t250 1), .string (⟨#[]⟩ : ByteArray), .int .i64 0]) ?_ 2 _ rfl; (with_reducible repeat (first | refine blk_drewN ?_ _ | refine blk_drew ?_ | refine blk_alloc ?_ _)); refine blk_put (cs := #[.int .i64 t256, .string (⟨#[]⟩ : ByteArray), .string (⟨#[]⟩ : ByteArray), .int .i64 0]) ?_ 1 _ rfl; (with_reducible repeat (first | refine blk_drewN ?_ _ | refine blk_drew ?_ | refine blk_alloc ?_ _)); refine blk_put (cs := #[.int .i64 0, .string (⟨#[]⟩ : ByteArray), .string (⟨#[]⟩ : ByteArray), .int .i64 0]) ?_ 0 _ rfl; (with_reducible repeat (first | refine blk_drewN ?_ _ | refine blk_drew ?_ | refine blk_alloc ?_ _)); exact BK249.out) Try.underlying39 rfl (by kernel_rfl)) rfl ?_
                        exact ⟨by first | rfl | (simp [errW_none, errW_some] <;> rfl) | (simp only [← hji15]; first | rfl | (simp [errW_none, errW_some] <;> rfl)) | (simp [*, errW_none, errW_some] <;> rfl), by repeat (first | (with_reducible first | exact HB.out | apply below_alloc | apply pw_below_drewN | apply below_drew1 | refine below_set ?_ GE249.out | refine below_set ?_ GE258.out) | exact HB.out)⟩
                      · replace c59 := Bool.eq_false_iff.mpr c59
                        subst c59
                        have H1 : (some (t256, (rdOf ByteArray.empty t250 1), x259002_19, 0, false)) = some (r1, r2, r3, r4, r5) := by rw [if_neg (show ¬ (false = true) by decide)] at H; exact H
                        clear H
                        have H := H1
                        clear H1
                        simp only [Option.some.injEq, Prod.mk.injEq] at H
                        obtain ⟨rfl, rfl, rfl, rfl, rfl⟩ := H
                        try go_wp2
                        have n0_ := Aside0.mk (Kd.R_drew HO_4.out)
                        have n1_ := Aside0.mk (blk_drew BK249.out)
                        have n2_ := Aside0.mk (blk_drew BK258.out)
                        have n3_ := Aside0.mk (below_drew1 HB.out)
                        clear HO_4
                        clear BK249
                        clear BK258
                        clear HB
                        have HO_4 := n0_
                        have BK249 := n1_
                        have BK258 := n2_
                        have HB := n3_
                        clear n0_ n1_ n2_ n3_
                        refine start_ (n := 11) (S := fun w' => w'.cell? ⟨gb258, 0, none⟩ = some (.int .i64 t256) ∧ w'.cell? ⟨gb258, 1, none⟩ = some (.string (rdOf ByteArray.empty t250 1)) ∧ w'.cell? ⟨gb258, 2, none⟩ = some (.string x259002_19) ∧ w'.cell? ⟨gb258, 3, none⟩ = some (.int .i64 0)) (ds := []) #[false, false, false, false, false, false, false, false, false, false, false] (by kernel_rfl) rfl rfl ⟨(blk_cell BK258.out 0).trans rfl, (blk_cell BK258.out 1).trans rfl, (blk_cell BK258.out 2).trans rfl, (blk_cell BK258.out 3).trans rfl⟩ (fun hHeld => ?_); refine with_tabW triremeref32_read.tab9 triremeref32_read.bits9 (fun HT_ HW_ => ?_)
                        generalize wc.drew = w68 at HO_4 BK249 BK258 HB hHeld ⊢
                        refine take_ (i := 0) (N := some 53) (v := ?_) (a' := ?_) #[true, false, false, false, false, false, false, false, false, false, false] rfl rfl (take_ofW HT_.out HW_.out (by kernel_rfl)) (fun _ _ _ h => h) (Or.inl ⟨by rfl, ?_⟩) hHeld ?_ ?_
                        rotate_left
                        · rintro w' ⟨s0, s1, s2, s3⟩; go_simp; with_reducible rfl
                        rotate_left
                        · simp only [Act.put, List.setIfInBounds_toArray, List.set_cons_zero, List.set_cons_succ, i64_w, i32_w]; rfl
                        refine take_ (i := 1) (N := some 54) (v := ?_) (a' := ?_) #[true, true, false, false, false, false, false, false, false, false, false] rfl rfl (take_ofW HT_.out HW_.out (by kernel_rfl)) (fun _ _ _ h => h) (Or.inl ⟨by rfl, ?_⟩) hHeld ?_ ?_
                        rotate_left
                        · rintro w' ⟨s0, s1, s2, s3⟩; go_simp; with_reducible rfl
                        rotate_left
                        · simp only [Act.put, List.setIfInBounds_toArray, List.set_cons_zero, List.set_cons_succ, i64_w, i32_w]; rfl
                        refine one_ (i := 2) (N := some 55) #[true, true, true, false, false, false, false, false, false, false, false] rfl rfl (one_of HT_.out (by kernel_rfl)) (by decide) (fun K hK => ?_)
                        refine goes_ Try.func15 (by kernel_rfl) rfl #[.agg #[.int .i64 t256, .string (rdOf ByteArray.empty t250 1), .string x259002_19, .int .i64 0]] (by rfl) rfl rfl (by (try simp only [List.map_toArray, List.map_cons, List.map_nil]); first | done | rfl | (simp only [List.length_drop, List.length_take]; rfl)) ?_
                        with_reducible refine (triremeref32_Right.calls kj19 t256 (rdOf ByteArray.empty t250 1) x259002_19 0 false _ A58.out).mono ?_
                        rintro e w69 ⟨rfl, hb⟩
                        refine ⟨_, rfl, ?_⟩
                        have n0_ := Aside0.mk (Kd.R_below (by (with_reducible repeat (first | apply Kd.R_alloc | apply Kd.R_drewN | apply Kd.R_drew)); exact HO_4.out) hb)
                        have n1_ := Aside0.mk (blk_below (g := gb249) (o := .cells #[.int .i64 0, .string (⟨#[]⟩ : ByteArray), .string (⟨#[]⟩ : ByteArray), .int .i64 0] 39 (0, 0)) (by (with_reducible repeat (first | refine blk_drewN ?_ _ | refine blk_drew ?_ | refine blk_alloc ?_ _)); exact BK249.out) hb)
                        have n2_ := Aside0.mk (blk_below (g := gb258) (o := .cells #[.int .i64 t256, .string (rdOf ByteArray.empty t250 1), .string x259002_19, .int .i64 0] 39 (0, 0)) (by (with_reducible repeat (first | refine blk_drewN ?_ _ | refine blk_drew ?_ | refine blk_alloc ?_ _)); exact BK258.out) hb)
                        have n3_ := Aside0.mk (below_step (by repeat (first | (with_reducible first | exact HB.out | apply below_alloc | apply pw_below_drewN | apply below_drew1 | refine below_set ?_ GE249.out | refine below_set ?_ GE258.out) | exact HB.out)) hb)
                        clear HO_4
                        clear BK249
                        clear BK258
                        clear HB
                        have HO_4 := n0_
                        have BK249 := n1_
                        have BK258 := n2_
                        have HB := n3_
                        clear n0_ n1_ n2_ n3_
                        (try clear hb); (try clear hb2); (try clear hk); (try clear hi)
                        refine hK.out _ _ ⟨(blk_cell BK258.out 0).trans rfl, (blk_cell BK258.out 1).trans rfl, (blk_cell BK258.out 2).trans rfl, (blk_cell BK258.out 3).trans rfl⟩ (fun hHeld => ?_)
                        clear hK K
                        refine norm_ (a' := ?_) ?_ ?_
                        rotate_left
                        · show Act.put _ (some 55) _ = _
                          simp only [Act.put, List.setIfInBounds_toArray, List.set_cons_zero, List.set_cons_succ, i64_w, i32_w]
                          rfl
                        refine pure_ (i := 3) (N := some 56) (v := ?_) (a' := ?_) #[true, true, true, true, false, false, false, false, false, false, false] rfl rfl (any_of HT_.out (by kernel_rfl)) (fun _ _ _ h => h) (Or.inl ⟨by rfl, ?_⟩) ?_ ?_
                        rotate_left
                        · intro w'; go_simp; with_reducible rfl
                        rotate_left
                        · simp only [Act.put, List.setIfInBounds_toArray, List.set_cons_zero, List.set_cons_succ, i64_w, i32_w]; rfl
                        refine pure_ (i := 4) (N := some 57) (v := undef) (a' := ?_) #[true, true, true, true, true, false, false, false, false, false, false] rfl rfl (any_of HT_.out (by kernel_rfl)) (fun _ _ _ h => h) (Or.inr ⟨by rfl, rfl⟩) ?_ ?_
                        rotate_left
                        · simp only [Act.put, List.setIfInBounds_toArray, List.set_cons_zero, List.set_cons_succ, i64_w, i32_w]; rfl
                        refine pure_ (i := 5) (N := some 58) (v := undef) (a' := ?_) #[true, true, true, true, true, true, false, false, false, false, false] rfl rfl (any_of HT_.out (by kernel_rfl)) (fun _ _ _ h => h) (Or.inr ⟨by rfl, rfl⟩) ?_ ?_
                        rotate_left
                        · simp only [Act.put, List.setIfInBounds_toArray, List.set_cons_zero, List.set_cons_succ, i64_w, i32_w]; rfl
                        refine pure_ (i := 6) (N := some 59) (v := undef) (a' := ?_) #[true, true, true, true, true, true, true, false, false, false, false] rfl rfl (any_of HT_.out (by kernel_rfl)) (fun _ _ _ h => h) (Or.inr ⟨by rfl, rfl⟩) ?_ ?_
                        rotate_left
                        · simp only [Act.put, List.setIfInBounds_toArray, List.set_cons_zero, List.set_cons_succ, i64_w, i32_w]; rfl
                        refine pure_ (i := 7) (N := some 60) (v := undef) (a' := ?_) #[true, true, true, true, true, true, true, true, false, false, false] rfl rfl (any_of HT_.out (by kernel_rfl)) (fun _ _ _ h => h) (Or.inr ⟨by rfl, rfl⟩) ?_ ?_
                        rotate_left
                        · simp only [Act.put, List.setIfInBounds_toArray, List.set_cons_zero, List.set_cons_succ, i64_w, i32_w]; rfl
                        refine pure_ (i := 8) (N := some 61) (v := ?_) (a' := ?_) #[true, true, true, true, true, true, true, true, true, false, false] rfl rfl (any_of HT_.out (by kernel_rfl)) (fun _ _ _ h => h) (Or.inl ⟨by rfl, ?_⟩) ?_ ?_
                        rotate_left
                        · intro w'; go_simp; with_reducible rfl
                        rotate_left
                        · simp only [Act.put, List.setIfInBounds_toArray, List.set_cons_zero, List.set_cons_succ, i64_w, i32_w]; rfl
                        refine one_ (i := 9) (N := none) #[true, true, true, true, true, true, true, true, true, true, false] rfl rfl (one_of HT_.out (by kernel_rfl)) (by decide) (fun K hK => ?_)
                        have hs70 : w69.cell? ⟨gb249, 0, none⟩ = some (.int .i64 0) := (blk_cell BK249.out 0).trans rfl
                        have hfs70 := blk_frozen BK249.out 0
                        have hns70_1 := NB258_249.out
                        have hms70_1 := NB249_258.out
                        have hs71 : w69.cell? ⟨gb249, 1, none⟩ = some (.string (⟨#[]⟩ : ByteArray)) := (blk_cell BK249.out 1).trans rfl
                        have hfs71 := blk_frozen BK249.out 1
                        have hns71_1 := NB258_249.out
                        have hms71_1 := NB249_258.out
                        have hs72 : w69.cell? ⟨gb249, 2, none⟩ = some (.string (⟨#[]⟩ : ByteArray)) := (blk_cell BK249.out 2).trans rfl
                        have hfs72 := blk_frozen BK249.out 2
                        have hns72_1 := NB258_249.out
                        have hms72_1 := NB249_258.out
                        have hs73 : w69.cell? ⟨gb249, 3, none⟩ = some (.int .i64 0) := (blk_cell BK249.out 3).trans rfl
                        have hfs73 := blk_frozen BK249.out 3
                        have hns73_1 := NB258_249.out
                        have hms73_1 := NB249_258.out
                        refine skip_ (w1 := ?_) (by rfl) rfl ?_ ?_
                        rotate_left
                        · go_simp
                          rfl
                        refine hK.out _ _ ⟨((cell_far (p := ⟨gb249, _, none⟩) NB258_249.out _).trans (((cell_far (p := ⟨gb249, _, none⟩) NB258_249.out _).trans (((cell_far (p := ⟨gb249, _, none⟩) NB258_249.out _).trans (((cell_far (p := ⟨gb249, _, none⟩) NB258_249.out _).trans (hHeld.1)))))))), ((cell_far (p := ⟨gb249, _, none⟩) NB258_249.out _).trans (((cell_far (p := ⟨gb249, _, none⟩) NB258_249.out _).trans (((cell_far (p := ⟨gb249, _, none⟩) NB258_249.out _).trans (((cell_far (p := ⟨gb249, _, none⟩) NB258_249.out _).trans (hHeld.2.1)))))))), ((cell_far (p := ⟨gb249, _, none⟩) NB258_249.out _).trans (((cell_far (p := ⟨gb249, _, none⟩) NB258_249.out _).trans (((cell_far (p := ⟨gb249, _, none⟩) NB258_249.out _).trans (((cell_far (p := ⟨gb249, _, none⟩) NB258_249.out _).trans (hHeld.2.2.1)))))))), ((cell_far (p := ⟨gb249, _, none⟩) NB258_249.out _).trans (((cell_far (p := ⟨gb249, _, none⟩) NB258_249.out _).trans (((cell_far (p := ⟨gb249, _, none⟩) NB258_249.out _).trans (((cell_far (p := ⟨gb249, _, none⟩) NB258_249.out _).trans (hHeld.2.2.2))))))))⟩ (fun hHeld => ?_)
                        clear hK K
                        refine pure_ (i := 10) (N := some 3) (v := ?_) (a' := ?_) #[true, true, true, true, true, true, true, true, true, true, true] rfl rfl (any_of HT_.out (by kernel_rfl)) (fun _ _ _ h => h) (Or.inl ⟨by rfl, ?_⟩) ?_ ?_
                        rotate_left
                        · intro w'; go_simp; with_reducible rfl
                        rotate_left
                        · simp only [Act.put, List.setIfInBounds_toArray, List.set_cons_zero, List.set_cons_succ, i64_w, i32_w]; rfl
                        refine done_ (done_of HT_.out (by kernel_rfl)) ?_
                        try go_wp2
                        refine bodyPost_ret (results_ct rfl _ _ gb249 39 #[.int .i64 t256, .string (rdOf ByteArray.empty t250 1), .string x259002_19, .int .i64 0] (0, 0) _ rfl (by (with_reducible repeat (first | refine blk_drewN ?_ _ | refine blk_drew ?_ | refine blk_alloc ?_ _)); refine blk_put (cs := #[.int .i64 t256, .string (rdOf ByteArray.empty t250 1), .string x259002_19, .int .i64 0]) ?_ 3 _ rfl; (with_reducible repeat (first | refine blk_drewN ?_ _ | refine blk_drew ?_ | refine blk_alloc ?_ _)); refine blk_put (cs := #[.int .i64 t256, .string (rdOf ByteArray.empty t250 1), .string (⟨#[]⟩ : ByteArray), .int .i64 0]) ?_ 2 _ rfl; (with_reducible repeat (first | refine blk_drewN ?_ _ | refine blk_drew ?_ | refine blk_alloc ?_ _)); refine blk_put (cs := #[.int .i64 t256, .string (⟨#[]⟩ : ByteArray), .string (⟨#[]⟩ : ByteArray), .int .i64 0]) ?_ 1 _ rfl; (with_reducible repeat (first | refine blk_drewN ?_ _ | refine blk_drew ?_ | refine blk_alloc ?_ _)); refine blk_put (cs := #[.int .i64 0, .string (⟨#[]⟩ : ByteArray), .string (⟨#[]⟩ : ByteArray), .int .i64 0]) ?_ 0 _ rfl; (with_reducible repeat (first | refine blk_drewN ?_ _ | refine blk_drew ?_ | refine blk_alloc ?_ _)); exact BK249.out) Try.underlying39 rfl (by kernel_rfl)) rfl ?_
                        exact ⟨by first | rfl | (simp [errW_none, errW_some] <;> rfl) | (simp only [← hji15]; first | rfl | (simp [errW_none, errW_some] <;> rfl)) | (simp [*, errW_none, errW_some] <;> rfl), by repeat (first | (with_reducible first | exact HB.out | apply below_alloc | apply pw_below_drewN | apply below_drew1 | refine below_set ?_ GE249.out | refine below_set ?_ GE258.out) | exact HB.out)⟩
              · rw [if_neg c19] at H
                exact absurd H (by simp)
            · rw [if_neg c17] at H
              exact absurd H (by simp)
          · rw [if_neg c16] at H
            exact absurd H (by simp)
        · rw [if_neg c14] at H
          exact absurd H (by simp)
end Go.Proofs.Ytngmcigkihfnkaa.H
end
section
namespace Go.Proofs.Ytngmcigkihfnkaa.H
open Go.RowKit Go.Proofs.YtngmcigkihfnkaaW.PrintWords Go.Proofs.YtngmcigkihfnkaaW.PrintLast Go.Proofs.YtngmcigkihfnkaaW.PrintMore
set_option linter.unusedVariables false
set_option linter.unusedSimpArgs false
theorem mk_sub (s : ByteArray) (i j : Nat) : s.extract i j = mkB ((s.toList.take j).drop i) := by
  apply toList_inj; rw [extract_toList, mkB_toList]
theorem sub_snoc (s : ByteArray) (a i : Nat) (h : a ≤ i) (hi : i < s.size) : (s.toList.take (i + 1)).drop a = (s.toList.take i).drop a ++ [s[i]] := by
  have hl : i < s.toList.length := by rw [toList_len]; exact hi
  rw [List.take_succ_eq_append_getElem hl, List.drop_append_of_le_length (by rw [List.length_take]; omega)]
  congr 2
  have := drop_bt s i hi
  rw [List.drop_eq_getElem_cons hl] at this
  exact (List.cons.inj this).1
theorem byte_eq (c : UInt8) (b : Nat) (hb : b < 256) : ((c.toNat : Int) = (b : Int)) ↔ c = UInt8.ofNat b := by
  constructor
  · intro h
    apply UInt8.toNat_inj.1
    rw [UInt8.toNat_ofNat']; omega
  · intro h
    subst h
    rw [UInt8.toNat_ofNat']; omega
theorem parts_l0 (s : ByteArray) (hs : s.size ≤ 1000000) (b : Nat) (hb : b < 256) : ∀ (d i a : Nat) (acc : List ByteArray), i + d = s.size → a ≤ i → acc.length ≤ i →
    Ev (fun k => trace_parts.l0 k s (b : Int) acc (a : Int) (s.size : Int) (i : Int)) (acc ++ (splitF (UInt8.ofNat b) ((s.toList.take i).drop a) (s.toList.drop i)).map mkB) := by
  intro d
  induction d with
  | zero =>
    intro i a acc h ha hc
    refine Ev.step (fun k => by rw [trace_parts.l0]) ?_
    rw [show s.toList.drop i = [] from List.drop_eq_nil_of_le (by rw [toList_len]; omega)]
    simp only [show ¬ ((i : Int) < (s.size : Int)) by omega, show (0 : Int) ≤ (a : Int) by omega, show (a : Int) ≤ (s.size : Int) by omega, show acc.length < 8796093022208 by omega, if_true, if_false, splitF, List.map_cons, List.map_nil, Int.toNat_natCast]
    rw [mk_sub, show s.size = i by omega]
    exact Ev.now _
  | succ d ih =>
    intro i a acc h ha hc
    have h5 : i < s.size := by omega
    refine Ev.step (fun k => by rw [trace_parts.l0]) ?_
    rw [drop_bt s i h5, bt_nat s i h5, wrap_small (i := (i : Int) + 1) (by omega) (by omega)]
    simp only [show (i : Int) < (s.size : Int) by omega, show (0 : Int) ≤ (i : Int) by omega, show (0 : Int) ≤ (a : Int) by omega, show (a : Int) ≤ (i : Int) by omega, show (i : Int) ≤ (s.size : Int) by omega, show acc.length < 8796093022208 by omega, if_true, splitF, Int.toNat_natCast, byte_eq _ b hb]
    refine ev_if (fun h6 => ?_) (fun h6 => ?_)
    · rw [if_pos h6, mk_sub, List.map_cons]
      have := ih (i + 1) (i + 1) (acc ++ [mkB ((s.toList.take i).drop a)]) (by omega) (by omega) (by simp; omega)
      rw [List.append_assoc, show (s.toList.take (i + 1)).drop (i + 1) = [] from List.drop_eq_nil_of_le (by rw [List.length_take]; omega)] at this
      exact this
    · rw [if_neg h6, ← sub_snoc s a i ha h5]
      exact ih (i + 1) a acc (by omega) (by omega) (by omega)
theorem parts_ev (s : ByteArray) (hs : s.size ≤ 1000000) (b : Nat) (hb : b < 256) : Ev (fun k => trace_parts.f k s (b : Int)) ((splitF (UInt8.ofNat b) [] s.toList).map mkB) := by
  have := parts_l0 s hs b hb s.size 0 0 [] (by omega) (by omega) (by simp)
  simp only [List.take_zero, List.drop_zero, List.drop_nil, List.nil_append] at this
  exact this
theorem cut_l0 (s : ByteArray) (hs : s.size ≤ 1000000) : ∀ (d i a : Nat) (acc : List ByteArray), i + d = s.size → a ≤ i → acc.length ≤ i →
    Ev (fun k => triremeref32_cut.l0 k s acc (a : Int) (i : Int)) (acc ++ (splitF 32 ((s.toList.take i).drop a) (s.toList.drop i)).map mkB) := by
  intro d
  induction d with
  | zero =>
    intro i a acc h ha hc
    obtain rfl : i = s.size := by omega
    refine Ev.step (fun k => by rw [triremeref32_cut.l0]) ?_
    rw [show s.toList.drop s.size = [] from List.drop_eq_nil_of_le (by rw [toList_len]; omega), wrap_small (i := (s.size : Int) + 1) (by omega) (by omega)]
    simp only [Int.le_refl, show (0 : Int) ≤ (a : Int) by omega, show (a : Int) ≤ (s.size : Int) by omega, show acc.length < 8796093022208 by omega, if_true, splitF, List.map_cons, List.map_nil, Int.toNat_natCast]
    refine Ev.step (fun k => by rw [triremeref32_cut.l0]) ?_
    simp only [show ¬ ((s.size : Int) + 1 ≤ (s.size : Int)) by omega, if_false]
    rw [mk_sub]
    exact Ev.now _
  | succ d ih =>
    intro i a acc h ha hc
    have h5 : i < s.size := by omega
    refine Ev.step (fun k => by rw [triremeref32_cut.l0]) ?_
    have hb : (((s[i]'h5).toNat : Int) = 32) ↔ (s[i]'h5) = 32 := byte_eq (s[i]'h5) 32 (by decide)
    rw [drop_bt s i h5, bt_nat s i h5, wrap_small (i := (i : Int) + 1) (by omega) (by omega)]
    simp only [show (i : Int) ≤ (s.size : Int) by omega, show ¬ (i : Int) = (s.size : Int) by omega, show (i : Int) < (s.size : Int) by omega, show (0 : Int) ≤ (i : Int) by omega, show (0 : Int) ≤ (a : Int) by omega, show (a : Int) ≤ (i : Int) by omega, show acc.length < 8796093022208 by omega, if_true, if_false, splitF, Int.toNat_natCast]
    refine ev_if (fun h6 => ?_) (fun h6 => ?_)
    · rw [if_pos (hb.1 h6), mk_sub, List.map_cons]
      have := ih (i + 1) (i + 1) (acc ++ [mkB ((s.toList.take i).drop a)]) (by omega) (by omega) (by simp; omega)
      rw [List.append_assoc, show (s.toList.take (i + 1)).drop (i + 1) = [] from List.drop_eq_nil_of_le (by rw [List.length_take]; omega)] at this
      exact this
    · rw [if_neg (fun e => h6 (hb.2 e)), ← sub_snoc s a i ha h5]
      exact ih (i + 1) a acc (by omega) (by omega) (by omega)
theorem cut_ev (s : ByteArray) (hs : s.size ≤ 1000000) : Ev (fun k => triremeref32_cut.f k s) ((splitF 32 [] s.toList).map mkB) := by
  have := cut_l0 s hs s.size 0 0 [] (by omega) (by omega) (by simp)
  simp only [List.take_zero, List.drop_zero, List.drop_nil, List.nil_append] at this
  exact this
theorem number_ev (s : ByteArray) (hs : s.size ≤ 1000000) : Ev (fun k => trace_number.f k s) (numS s) := by
  unfold trace_number.f numS
  refine Ev.bind (quantNumber_ev s (by omega)) ?_
  have hr : 0 ≤ (numR s).1 ∧ (numR s).1 ≤ 1125899906842624 := by
    unfold numR
    repeat' split
    all_goals simp
    omega
  refine ev_if (fun h => ?_) (fun h => ?_)
  · rw [digits_some _ hr.1 (by omega)]
    simp only [Option.bind_some]
    rw [decide_eq_true h, Bool.true_and]
    have e : ((decB (numR s).1).toList == s.toList) = decide (decB (numR s).1 = s) := by
      by_cases h2 : decB (numR s).1 = s
      · rw [decide_eq_true h2, h2]; exact beq_self_eq_true _
      · rw [decide_eq_false h2]; exact beq_eq_false_iff_ne.2 (fun e => h2 (toList_inj e))
    rw [e]
    exact Ev.now _
  · rw [decide_eq_false h, Bool.false_and]; exact Ev.now _
/-- An event and whether it was read, as the program lays them. -/
def flat (p : EvT × Bool) : Int × ByteArray × ByteArray × Int × Bool := (p.1.now, p.1.what, p.1.name, p.1.n, p.2)
theorem last_bt (p : List UInt8) (hne : p ≠ []) : bt (mkB p) ((p.length : Int) - 1) = 58 ↔ p.getLast? = some 58 := by
  obtain ⟨ys, c, rfl⟩ : ∃ ys c, p = ys ++ [c] := ⟨p.dropLast, p.getLast hne, (List.dropLast_concat_getLast hne).symm⟩
  have hz : (mkB (ys ++ [c])).size = ys.length + 1 := by rw [← toList_len, mkB_toList]; simp
  have hi : ys.length < (mkB (ys ++ [c])).size := by omega
  have e1 : ((ys ++ [c]).length : Int) - 1 = (ys.length : Int) := by simp
  rw [e1, bt_nat _ ys.length hi]
  have h2 := drop_bt (mkB (ys ++ [c])) ys.length hi
  rw [mkB_toList, List.drop_left] at h2
  rw [← (List.cons.inj h2).1, List.getLast?_concat, Option.some.injEq]
  exact byte_eq c 58 (by decide)
theorem mk_dropLast (p : List UInt8) (hne : p ≠ []) : (mkB p).extract 0 (p.length - 1) = mkB p.dropLast := by
  rw [mk_sub, mkB_toList, List.drop_zero, List.dropLast_eq_take]
theorem mk_size (p : List UInt8) : (mkB p).size = p.length := by rw [← toList_len, mkB_toList]
theorem split_len (b : UInt8) : ∀ (l cur : List UInt8), ∀ p ∈ splitF b cur l, p.length ≤ cur.length + l.length
  | [], cur, p, h => by simp only [splitF, List.mem_singleton] at h; subst h; simp
  | c :: l, cur, p, h => by
    unfold splitF at h
    by_cases hc : c = b
    · rw [if_pos hc] at h
      rcases List.mem_cons.1 h with rfl | h
      · simp
      · have := split_len b l [] p h; simp at this ⊢; omega
    · rw [if_neg hc] at h
      have := split_len b l _ p h; simp at this ⊢; omega
end Go.Proofs.Ytngmcigkihfnkaa.H
end
section
namespace Go.Proofs.Ytngmcigkihfnkaa.H
open Go.RowKit Go.Proofs.YtngmcigkihfnkaaW.PrintWords Go.Proofs.YtngmcigkihfnkaaW.PrintLast Go.Proofs.YtngmcigkihfnkaaW.PrintMore
set_option linter.unusedVariables false
set_option linter.unusedSimpArgs false
theorem j1_short (L : List ByteArray) (hL : (L.length : Int) ≤ 3) (ok : Bool) (now : Int) (what name : ByteArray) (n : Int) (hn : name.size ≤ 1000000) :
    Ev (fun k => trace_read.j1 k L ok now what name n) (flat (⟨now, what, name, n⟩, ok && rightR ⟨now, what, name, n⟩)) := by
  refine Ev.step (fun k => by rw [trace_read.j1]) ?_
  simp only [show ¬ (L.length : Int) > 3 by omega, if_false]
  cases ok with
  | false => simp only [Bool.false_eq_true, if_false, Bool.false_and]; exact Ev.now _
  | true =>
    simp only [if_true, Bool.true_and]
    exact Ev.bind (right_ev now what name n (by omega)) (Ev.now _)
theorem j1_long (p0 p1 p2 p3 : ByteArray) (ok : Bool) (now : Int) (what name : ByteArray) (n : Int) (hn : name.size ≤ 1000000) (h3 : p3.size ≤ 1000000) :
    Ev (fun k => trace_read.j1 k [p0, p1, p2, p3] ok now what name n) (flat (⟨now, what, name, (numS p3).1⟩, ok && (((numS p3).2 && decide (0 < (numS p3).1)) && rightR ⟨now, what, name, (numS p3).1⟩))) := by
  refine Ev.step (fun k => by rw [trace_read.j1]) ?_
  simp only [show (([p0, p1, p2, p3] : List ByteArray).length : Int) > 3 by simp, show (3 : Int) < (([p0, p1, p2, p3] : List ByteArray).length : Int) by simp, show rdOf ByteArray.empty [p0, p1, p2, p3] 3 = p3 from rfl, if_true]
  refine Ev.bind (number_ev p3 h3) ?_
  cases ok with
  | false => simp only [Bool.false_eq_true, if_false, Bool.false_and]; exact Ev.now _
  | true =>
    simp only [if_true, Bool.true_and]
    cases hb : (numS p3).2 with
    | false => simp only [Bool.false_eq_true, if_false, Bool.false_and]; exact Ev.now _
    | true =>
      simp only [if_true, Bool.true_and]
      refine ev_if (fun h => ?_) (fun h => ?_)
      · rw [decide_eq_true (show 0 < (numS p3).1 by omega), Bool.true_and]
        exact Ev.bind (right_ev now what name _ (by omega)) (Ev.now _)
      · rw [decide_eq_false (show ¬ 0 < (numS p3).1 by omega), Bool.false_and]; exact Ev.now _
def noE : EvT × Bool := (⟨0, ⟨#[]⟩, ⟨#[]⟩, 0⟩, false)
theorem read_no (L : List ByteArray) : Ev (fun k => trace_read.j0 k L true) (flat noE) := by
  refine Ev.step (fun k => by rw [trace_read.j0]) ?_
  simp only [if_true]; exact Ev.now _
theorem read_head (p0 : List UInt8) (L : List ByteArray) (hL : rdOf ByteArray.empty L 0 = mkB p0) (h2 : ¬ (L.length : Int) < 2) (h4 : ¬ (L.length : Int) > 4) (hz : p0.length ≤ 1000000) (r : EvT × Bool)
    (hbad : p0.getLast? ≠ some 58 → r = noE) (hgood : p0 ≠ [] → p0.getLast? = some 58 → Ev (fun k => trace_read.j0 k L false) (flat r)) :
    Ev (fun k => if (L.length : Int) < 2 then (trace_read.j0 k L true) else (if (L.length : Int) > 4 then (trace_read.j0 k L true) else (if 0 < (L.length : Int) then (if (rdOf ByteArray.empty L 0).toList = ([] : List UInt8) then (trace_read.j0 k L true) else (if 0 ≤ (wrap64 (((rdOf ByteArray.empty L 0).size : Int) - 1)) then (if (wrap64 (((rdOf ByteArray.empty L 0).size : Int) - 1)) < ((rdOf ByteArray.empty L 0).size : Int) then (trace_read.j0 k L ((bt (rdOf ByteArray.empty L 0) (wrap64 (((rdOf ByteArray.empty L 0).size : Int) - 1))) != 58)) else (none)) else (none))) else (none)))) (flat r) := by
  simp only [h2, h4, if_false, show (0 : Int) < (L.length : Int) by omega, if_true, hL, mkB_toList, mk_size]
  refine ev_if (fun h => ?_) (fun h => ?_)
  · rw [hbad (by rw [h]; simp)]; exact read_no L
  · have hp : 0 < p0.length := List.length_pos_iff.2 h
    rw [wrap_small (i := (p0.length : Int) - 1) (by omega) (by omega)]
    simp only [show (0 : Int) ≤ (p0.length : Int) - 1 by omega, show (p0.length : Int) - 1 < (p0.length : Int) by omega, if_true]
    by_cases hl : p0.getLast? = some 58
    · rw [show (bt (mkB p0) ((p0.length : Int) - 1) != 58) = false by rw [(last_bt p0 h).2 hl]; rfl]
      exact hgood h hl
    · rw [show (bt (mkB p0) ((p0.length : Int) - 1) != 58) = true from bne_iff_ne.2 (fun e => hl ((last_bt p0 h).1 e)), hbad hl]
      exact read_no L
theorem read_ev (s : ByteArray) (hs : s.size ≤ 1000000) : Ev (fun k => trace_read.f k s) (flat (readR s)) := by
  unfold trace_read.f
  refine Ev.bind (parts_ev s hs 32 (by decide)) ?_
  have hlen := split_len 32 s.toList []
  rw [toList_len, List.length_nil, Nat.zero_add] at hlen
  unfold readR
  rw [show UInt8.ofNat 32 = 32 from rfl]
  generalize splitF 32 [] s.toList = ps at *
  match ps, hlen with
  | [], _ => simp only [List.map_nil, show (([] : List ByteArray).length : Int) < 2 by decide, if_true]; exact read_no _
  | [p0], _ => simp only [List.map_cons, List.map_nil, show ∀ a : ByteArray, (([a] : List ByteArray).length : Int) < 2 from fun a => by simp, if_true]; exact read_no _
  | p0 :: p1 :: p2 :: p3 :: p4 :: r, _ =>
    simp only [List.map_cons]
    have h2 : ¬ ((mkB p0 :: mkB p1 :: mkB p2 :: mkB p3 :: mkB p4 :: r.map mkB).length : Int) < 2 := by simp; omega
    have h4 : ((mkB p0 :: mkB p1 :: mkB p2 :: mkB p3 :: mkB p4 :: r.map mkB).length : Int) > 4 := by simp; omega
    simp only [h2, h4, if_true, if_false]
    exact read_no _
  | [p0, p1], hlen =>
    have l0 := hlen p0 (by simp)
    refine read_head p0 [mkB p0, mkB p1] rfl (by simp) (by simp) (by omega) _ (fun h => ?_) (fun hne h => ?_)
    · simp only [h, if_false]; rfl
    · simp only [h, if_true]
      refine Ev.step (fun k => by rw [trace_read.j0]) ?_
      simp only [Bool.false_eq_true, if_false, show (0 : Int) < (([mkB p0, mkB p1] : List ByteArray).length : Int) by simp, show rdOf ByteArray.empty [mkB p0, mkB p1] 0 = mkB p0 from rfl, show rdOf ByteArray.empty [mkB p0, mkB p1] 1 = mkB p1 from rfl, mk_size, if_true]
      have hp : 0 < p0.length := List.length_pos_iff.2 hne
      rw [wrap_small (i := (p0.length : Int) - 1) (by omega) (by omega), show ((p0.length : Int) - 1).toNat = p0.length - 1 by omega, mk_dropLast p0 hne]
      simp only [show (0 : Int) ≤ (p0.length : Int) - 1 by omega, show (p0.length : Int) - 1 ≤ (p0.length : Int) by omega, if_true]
      refine Ev.bind (number_ev _ (by rw [mk_size]; simp; omega)) ?_
      simp only [show (1 : Int) < (([mkB p0, mkB p1] : List ByteArray).length : Int) by simp, show ¬ (([mkB p0, mkB p1] : List ByteArray).length : Int) > 2 by simp, if_true, if_false]
      exact j1_short _ (by simp) _ _ _ _ _ (by decide)
  | [p0, p1, p2], hlen =>
    have l0 := hlen p0 (by simp)
    have l2 := hlen p2 (by simp)
    refine read_head p0 [mkB p0, mkB p1, mkB p2] rfl (by simp) (by simp) (by omega) _ (fun h => ?_) (fun hne h => ?_)
    · simp only [h, if_false]; rfl
    · simp only [h, if_true]
      refine Ev.step (fun k => by rw [trace_read.j0]) ?_
      simp only [Bool.false_eq_true, if_false, show (0 : Int) < (([mkB p0, mkB p1, mkB p2] : List ByteArray).length : Int) by simp, show rdOf ByteArray.empty [mkB p0, mkB p1, mkB p2] 0 = mkB p0 from rfl, show rdOf ByteArray.empty [mkB p0, mkB p1, mkB p2] 1 = mkB p1 from rfl, show rdOf ByteArray.empty [mkB p0, mkB p1, mkB p2] 2 = mkB p2 from rfl, mk_size, if_true]
      have hp : 0 < p0.length := List.length_pos_iff.2 hne
      rw [wrap_small (i := (p0.length : Int) - 1) (by omega) (by omega), show ((p0.length : Int) - 1).toNat = p0.length - 1 by omega, mk_dropLast p0 hne]
      simp only [show (0 : Int) ≤ (p0.length : Int) - 1 by omega, show (p0.length : Int) - 1 ≤ (p0.length : Int) by omega, if_true]
      refine Ev.bind (number_ev _ (by rw [mk_size]; simp; omega)) ?_
      simp only [show (1 : Int) < (([mkB p0, mkB p1, mkB p2] : List ByteArray).length : Int) by simp, show (([mkB p0, mkB p1, mkB p2] : List ByteArray).length : Int) > 2 by simp, show (2 : Int) < (([mkB p0, mkB p1, mkB p2] : List ByteArray).length : Int) by simp, if_true, mkB_toList]
      have hb : (p2 != ([] : List UInt8)) = decide (p2 ≠ []) := by cases p2 <;> rfl
      refine ev_if (fun ha => ?_) (fun ha => ?_)
      · rw [ha, hb, Bool.true_and]
        exact j1_short _ (by simp) _ _ _ _ _ (by rw [mk_size]; omega)
      · rw [Bool.eq_false_iff.2 ha, Bool.false_and]
        exact j1_short _ (by simp) false _ _ _ _ (by rw [mk_size]; omega)
  | [p0, p1, p2, p3], hlen =>
    have l0 := hlen p0 (by simp)
    have l2 := hlen p2 (by simp)
    have l3 := hlen p3 (by simp)
    refine read_head p0 [mkB p0, mkB p1, mkB p2, mkB p3] rfl (by simp) (by simp) (by omega) _ (fun h => ?_) (fun hne h => ?_)
    · simp only [h, if_false]; rfl
    · simp only [h, if_true]
      refine Ev.step (fun k => by rw [trace_read.j0]) ?_
      simp only [Bool.false_eq_true, if_false, show (0 : Int) < (([mkB p0, mkB p1, mkB p2, mkB p3] : List ByteArray).length : Int) by simp, show rdOf ByteArray.empty [mkB p0, mkB p1, mkB p2, mkB p3] 0 = mkB p0 from rfl, show rdOf ByteArray.empty [mkB p0, mkB p1, mkB p2, mkB p3] 1 = mkB p1 from rfl, show rdOf ByteArray.empty [mkB p0, mkB p1, mkB p2, mkB p3] 2 = mkB p2 from rfl, mk_size, if_true]
      have hp : 0 < p0.length := List.length_pos_iff.2 hne
      rw [wrap_small (i := (p0.length : Int) - 1) (by omega) (by omega), show ((p0.length : Int) - 1).toNat = p0.length - 1 by omega, mk_dropLast p0 hne]
      simp only [show (0 : Int) ≤ (p0.length : Int) - 1 by omega, show (p0.length : Int) - 1 ≤ (p0.length : Int) by omega, if_true]
      refine Ev.bind (number_ev _ (by rw [mk_size]; simp; omega)) ?_
      simp only [show (1 : Int) < (([mkB p0, mkB p1, mkB p2, mkB p3] : List ByteArray).length : Int) by simp, show (([mkB p0, mkB p1, mkB p2, mkB p3] : List ByteArray).length : Int) > 2 by simp, show (2 : Int) < (([mkB p0, mkB p1, mkB p2, mkB p3] : List ByteArray).length : Int) by simp, if_true, mkB_toList]
      have hb : (p2 != ([] : List UInt8)) = decide (p2 ≠ []) := by cases p2 <;> rfl
      refine ev_if (fun ha => ?_) (fun ha => ?_)
      · rw [ha, hb, Bool.true_and]
        exact j1_long _ _ _ _ _ _ _ _ _ (by rw [mk_size]; omega) (by rw [mk_size]; omega)
      · rw [Bool.eq_false_iff.2 ha, Bool.false_and]
        exact j1_long _ _ _ _ false _ _ _ _ (by rw [mk_size]; omega) (by rw [mk_size]; omega)
def numA : Nat → List UInt8 → Nat
  | n, [] => n
  | n, c :: l => if digB c = true then numA (10 * n + (c.toNat - 48)) l else numA n l
theorem numA_dig : ∀ (l : List UInt8) (n : Nat), (∀ c ∈ l, digB c = true) → numA n l = dval l n
  | [], n, _ => rfl
  | c :: l, n, h => by
    simp only [numA, dval, h c List.mem_cons_self, if_true]
    exact numA_dig l _ (fun c hc => h c (List.mem_cons_of_mem _ hc))
def refNum (l : List UInt8) : Int := ((numA 0 (l.take 13) : Nat) : Int)
theorem refNumber_l0 (s : ByteArray) (hs : s.size ≤ 1000000) : ∀ (d i n : Nat), i + d = min s.size 13 → n < 10 ^ i →
    Ev (fun k => triremeref32_number.l0 k s (n : Int) (i : Int)) ((numA n ((s.toList.take 13).drop i) : Nat) : Int) := by
  intro d
  induction d with
  | zero =>
    intro i n h hn
    refine Ev.step (fun k => by rw [triremeref32_number.l0]) ?_
    rw [List.drop_eq_nil_of_le (by rw [List.length_take, toList_len]; omega)]
    have hf : Ev (fun k => triremeref32_number.j1 k s (n : Int) (i : Int) false) ((n : Nat) : Int) := by
      refine Ev.step (fun k => by rw [triremeref32_number.j1]) ?_
      simp only [Bool.false_eq_true, if_false]; exact Ev.now _
    simp only [numA]
    refine ev_if (fun h1 => ?_) (fun h1 => hf)
    rw [decide_eq_false (by omega)]; exact hf
  | succ d ih =>
    intro i n h hn
    have h5 : i < s.size := by omega
    have h13 : i < 13 := by omega
    refine Ev.step (fun k => by rw [triremeref32_number.l0]) ?_
    have h6 : i < (s.toList.take 13).length := by rw [List.length_take, toList_len]; omega
    have hl : i < s.toList.length := by rw [toList_len]; exact h5
    have hg : s.toList[i] = s[i] := by
      have := drop_bt s i h5
      rw [List.drop_eq_getElem_cons hl] at this
      exact (List.cons.inj this).1
    rw [List.drop_eq_getElem_cons h6, List.getElem_take, hg]
    simp only [show (i : Int) < (s.size : Int) by omega, if_true, numA]
    rw [decide_eq_true (by omega)]
    refine Ev.step (fun k => by rw [triremeref32_number.j1]) ?_
    simp only [if_true, show (0 : Int) ≤ (i : Int) by omega, show (i : Int) < (s.size : Int) by omega]
    rw [bt_nat s i h5, wrap_small (i := (i : Int) + 1) (by omega) (by omega)]
    have hpow : (10 : Nat) ^ i ≤ 10 ^ 13 := Nat.pow_le_pow_right (by decide) (by omega)
    have hnb : n < 10000000000000 := Nat.lt_of_lt_of_le hn hpow
    have hp1 : 10 ^ (i + 1) = 10 * 10 ^ i := by rw [Nat.pow_succ, Nat.mul_comm]
    by_cases hd : digB (s[i]'h5) = true
    · rw [if_pos hd]
      simp only [digB, Bool.and_eq_true, decide_eq_true_eq] at hd
      have ec : (((s[i]'h5).toNat : Int) - 48) % 256 = (((s[i]'h5).toNat - 48 : Nat) : Int) := by omega
      have hx : 10 * n + ((s[i]'h5).toNat - 48) < 10 ^ (i + 1) := by rw [hp1]; omega
      have := ih (i + 1) (10 * n + ((s[i]'h5).toNat - 48)) (by omega) hx
      clear hpow hp1 hx hn
      rw [ec, wrap_small (i := 10 * (n : Int)) (by omega) (by omega), wrap_small (i := 10 * (n : Int) + (((s[i]'h5).toNat - 48 : Nat) : Int)) (by omega) (by omega)]
      simp only [show (((s[i]'h5).toNat : Int) ≥ 48) by omega, show (((s[i]'h5).toNat : Int) ≤ 57) by omega, if_true]
      rw [show 10 * (n : Int) + (((s[i]'h5).toNat - 48 : Nat) : Int) = ((10 * n + ((s[i]'h5).toNat - 48) : Nat) : Int) by push_cast; rfl]
      exact this
    · rw [if_neg hd]
      have := ih (i + 1) n (by omega) (by rw [hp1]; omega)
      simp only [digB, Bool.and_eq_true, decide_eq_true_eq] at hd
      refine ev_if (fun g1 => ?_) (fun g1 => this)
      exact ev_if (fun g2 => absurd ⟨by omega, by omega⟩ hd) (fun g2 => this)
theorem refNumber_ev' (s : ByteArray) (hs : s.size ≤ 1000000) : Ev (fun k => triremeref32_number.f k s) (refNum s.toList) := by
  have := refNumber_l0 s hs (min s.size 13) 0 0 (by omega) (by decide)
  rw [List.drop_zero] at this
  exact this
theorem decGo_short : ∀ (e f n : Nat), n < 10 ^ (e + 1) → e ≤ f → (decGo (f + 1) n []).length ≤ e + 1
  | 0, f, n, h, _ => by
    have h1 : n < 10 := by simpa using h
    simp [decGo, h1]
  | e + 1, 0, n, h, hf => by omega
  | e + 1, f + 1, n, h, hf => by
    rw [decGo]
    by_cases h1 : n < 10
    · simp [h1]
    · have hq : n / 10 < 10 ^ (e + 1) := by rw [Nat.pow_succ] at h; omega
      rw [if_neg h1, decGo_app, List.length_append]
      have := decGo_short e f (n / 10) hq (by omega)
      simp only [List.length_cons, List.length_nil]
      omega
theorem refNum_dec (n : Int) (h0 : 0 ≤ n) (h1 : n ≤ 1099511627776) : refNum (decB n).toList = n := by
  obtain ⟨m, rfl⟩ : ∃ m : Nat, n = m := ⟨n.toNat, by omega⟩
  obtain ⟨d1, d2, d3⟩ := decB_val m (by omega)
  have hz : (decB (m : Int)).size ≤ 13 := by
    unfold decB
    rw [strOfNums_size, Int.toNat_natCast]
    exact decGo_short 12 19 m (Nat.lt_of_le_of_lt (show m ≤ 1099511627776 by omega) (by decide)) (by decide)
  unfold refNum
  rw [List.take_of_length_le (by rw [toList_len]; exact hz), numA_dig _ _ d1, d2]
def refReadR (s : ByteArray) : EvT × Bool :=
  match splitF 32 [] s.toList with
  | [p0, p1] => if p0.length < 2 then noE else (⟨refNum p0.dropLast, mkB p1, ⟨#[]⟩, 0⟩, rightR ⟨refNum p0.dropLast, mkB p1, ⟨#[]⟩, 0⟩ && decide (lineR ⟨refNum p0.dropLast, mkB p1, ⟨#[]⟩, 0⟩ = s))
  | [p0, p1, p2] => if p0.length < 2 then noE else (⟨refNum p0.dropLast, mkB p1, mkB p2, 0⟩, rightR ⟨refNum p0.dropLast, mkB p1, mkB p2, 0⟩ && decide (lineR ⟨refNum p0.dropLast, mkB p1, mkB p2, 0⟩ = s))
  | [p0, p1, p2, p3] => if p0.length < 2 then noE else (⟨refNum p0.dropLast, mkB p1, mkB p2, refNum p3⟩, rightR ⟨refNum p0.dropLast, mkB p1, mkB p2, refNum p3⟩ && decide (lineR ⟨refNum p0.dropLast, mkB p1, mkB p2, refNum p3⟩ = s))
  | _ => noE
theorem ref_sound (s : ByteArray) (h : (refReadR s).2 = true) : rightR (refReadR s).1 = true ∧ lineR (refReadR s).1 = s := by
  unfold refReadR at h ⊢
  split at h
  · rename_i p0 p1 hs
    (try simp only [hs])
    by_cases hl : p0.length < 2
    · simp only [hl, if_true] at h; cases h
    · simp only [hl, if_false, Bool.and_eq_true, decide_eq_true_eq] at h ⊢
      exact h
  · rename_i p0 p1 p2 hs
    (try simp only [hs])
    by_cases hl : p0.length < 2
    · simp only [hl, if_true] at h; cases h
    · simp only [hl, if_false, Bool.and_eq_true, decide_eq_true_eq] at h ⊢
      exact h
  · rename_i p0 p1 p2 p3 hs
    (try simp only [hs])
    by_cases hl : p0.length < 2
    · simp only [hl, if_true] at h; cases h
    · simp only [hl, if_false, Bool.and_eq_true, decide_eq_true_eq] at h ⊢
      exact h
  · cases h
theorem ref_line (e : EvT) (hw : ∀ s, lexWordB s = true → CleanB s ∧ s ≠ ⟨#[]⟩) (h : rightR e = true) : refReadR (lineR e) = (e, true) := by
  obtain ⟨⟨a1, a2⟩, ⟨b1, b2⟩, h3⟩ := right_parts e h
  have hnow := refNum_dec e.now a1 a2
  have hdn : ∀ c ∈ (decB e.now).toList ++ [58], c ≠ 32 := by
    intro c hc
    rcases List.mem_append.1 hc with hc | hc
    · obtain ⟨m, hm⟩ : ∃ m : Nat, e.now = m := ⟨e.now.toNat, by omega⟩
      rw [hm] at hc
      exact (clean_dig (decB_val m (by omega)).1 c hc).1
    · rcases List.mem_singleton.1 hc with rfl; decide
  have hlen : ¬ ((decB e.now).toList ++ [58]).length < 2 := by
    obtain ⟨m, hm⟩ : ∃ m : Nat, e.now = m := ⟨e.now.toNat, by omega⟩
    have := (decB_val m (by omega)).2.2
    rw [List.length_append, toList_len, hm]; simp; omega
  have hdrop : (((decB e.now).toList ++ [58]).dropLast) = (decB e.now).toList := List.dropLast_concat
  unfold refReadR
  have ht := lineR_toList e
  generalize hs : lineR e = s at *
  rw [ht, splitF_app 32 _ _ [] hdn, List.nil_append]
  rcases h3 with ⟨c1, c2⟩ | ⟨c1, c2, c3⟩
  · rw [if_pos c1, c2, if_neg (by decide), List.append_nil, List.append_nil, splitF_none 32 _ [] (fun c hc => (b1 c hc).1), List.nil_append]
    have he : (⟨e.now, e.what, ⟨#[]⟩, 0⟩ : EvT) = e := by cases e; simp_all
    simp only [hlen, if_false, hdrop, hnow, mkB_of, he, h, hs, decide_true, Bool.and_self]
  · obtain ⟨d1, d2⟩ := hw _ c1
    rw [if_neg d2, List.cons_append, splitF_app 32 _ _ [] (fun c hc => (b1 c hc).1), List.nil_append]
    by_cases hn : 0 < e.n
    · rw [if_pos hn, splitF_app 32 _ _ [] (fun c hc => (d1 c hc).1), List.nil_append]
      have hdd : ∀ c ∈ (decB e.n).toList, c ≠ 32 := by
        intro c hc
        obtain ⟨m, hm⟩ : ∃ m : Nat, e.n = m := ⟨e.n.toNat, by omega⟩
        rw [hm] at hc
        exact (clean_dig (decB_val m (by omega)).1 c hc).1
      rw [splitF_none 32 _ [] hdd, List.nil_append]
      have he : (⟨e.now, e.what, e.name, e.n⟩ : EvT) = e := rfl
      simp only [hlen, if_false, hdrop, hnow, mkB_of, refNum_dec e.n c2 (by omega), he, h, hs, decide_true, Bool.and_self]
    · rw [if_neg hn, List.append_nil, splitF_none 32 _ [] (fun c hc => (d1 c hc).1), List.nil_append]
      have h0 : e.n = 0 := by omega
      have he : (⟨e.now, e.what, e.name, 0⟩ : EvT) = e := by cases e; simp_all
      simp only [hlen, if_false, hdrop, hnow, mkB_of, he, h, hs, decide_true, Bool.and_self]
theorem word_clean (s : ByteArray) (h : lexWordB s = true) : CleanB s ∧ s ≠ ⟨#[]⟩ := by
  obtain ⟨h1, h2⟩ := word_bytes s h
  refine ⟨fun c hc => ?_, h2⟩
  have := h1 c hc
  constructor
  · rintro rfl; exact absurd this (by decide)
  · rintro rfl; exact absurd this (by decide)
theorem ref_read_eq (s : ByteArray) : (refReadR s).2 = (readR s).2 ∧ ((readR s).2 = true → (refReadR s).1 = (readR s).1) := by
  rcases Bool.eq_false_or_eq_true (readR s).2 with h | h
  · obtain ⟨h1, h2⟩ := read_sound s h
    have h3 := ref_line _ word_clean h1
    rw [h2] at h3
    rw [h3, h]; exact ⟨rfl, fun _ => rfl⟩
  · refine ⟨?_, fun h' => by rw [h] at h'; cases h'⟩
    rw [h]
    rcases Bool.eq_false_or_eq_true (refReadR s).2 with g | g
    · obtain ⟨h1, h2⟩ := ref_sound s g
      have h3 := read_line _ word_clean h1
      rw [h2] at h3
      rw [h3] at h; cases h
    · exact g
end Go.Proofs.Ytngmcigkihfnkaa.H
end
