import Derived.Maps.Own
import Derived.Maps.OwnOps
import Derived.Maps.OwnSet
import Derived.Test.YtngmcigkihfnkaaCTraceBase0
import Derived.Test.YtngmcigkihfnkaaCTraceBase1
import Derived.Test.YtngmcigkihfnkaaCTraceBase2
section
namespace Go.Proofs.Ytngmcigkihfnkaa.H
open Go.RowKit Go.Proofs.YtngmcigkihfnkaaW.PrintWords Go.Proofs.YtngmcigkihfnkaaW.PrintLast Go.Proofs.YtngmcigkihfnkaaW.PrintMore
attribute [local go_sem] max2_int min2_int max_two min_two max_three min_three max_four min_four   -- for this text's walks alone
set_option linter.unusedVariables false
set_option linter.unusedSimpArgs false
def trace_Event_line.f (a0_0 : Int) (a0_1 : ByteArray) (a0_2 : ByteArray) (a0_3 : Int) : Option (ByteArray) := (trace_digits.f a0_0).bind fun t172 => (if t172.size + 2 ≤ 9223372036854775807 then (if (t172 ++ (⟨#[58, 32]⟩ : ByteArray)).size + a0_1.size ≤ 9223372036854775807 then (if a0_2.toList = ([] : List UInt8) then (if a0_3 > 0 then ((trace_digits.f a0_3).bind fun t173 => (if 1 + t173.size ≤ 9223372036854775807 then (if ((t172 ++ (⟨#[58, 32]⟩ : ByteArray)) ++ a0_1).size + ((⟨#[32]⟩ : ByteArray) ++ t173).size ≤ 9223372036854775807 then (some (((t172 ++ (⟨#[58, 32]⟩ : ByteArray)) ++ a0_1) ++ ((⟨#[32]⟩ : ByteArray) ++ t173))) else (none)) else (none))) else (some ((t172 ++ (⟨#[58, 32]⟩ : ByteArray)) ++ a0_1))) else (if 1 + a0_2.size ≤ 9223372036854775807 then (if ((t172 ++ (⟨#[58, 32]⟩ : ByteArray)) ++ a0_1).size + ((⟨#[32]⟩ : ByteArray) ++ a0_2).size ≤ 9223372036854775807 then (if a0_3 > 0 then ((trace_digits.f a0_3).bind fun t174 => (if 1 + t174.size ≤ 9223372036854775807 then (if (((t172 ++ (⟨#[58, 32]⟩ : ByteArray)) ++ a0_1) ++ ((⟨#[32]⟩ : ByteArray) ++ a0_2)).size + ((⟨#[32]⟩ : ByteArray) ++ t174).size ≤ 9223372036854775807 then (some ((((t172 ++ (⟨#[58, 32]⟩ : ByteArray)) ++ a0_1) ++ ((⟨#[32]⟩ : ByteArray) ++ a0_2)) ++ ((⟨#[32]⟩ : ByteArray) ++ t174))) else (none)) else (none))) else (some (((t172 ++ (⟨#[58, 32]⟩ : ByteArray)) ++ a0_1) ++ ((⟨#[32]⟩ : ByteArray) ++ a0_2)))) else (none)) else (none))) else (none)) else (none))
def trace_Event_line.T1 : Bool × List (List Nat × List Nat) := (true, [([], []), ([0], [0]), ([1], [1]), ([2], [2]), ([], []), ([4], [4]), ([3, 5], [3, 5]), ([6, 2, 0, 1, 2, 3, 4, 5, 6], [6])])
def trace_Event_line.B1 : List Nat := [0, 1, 3, 7, 0, 16, 63, 127]
theorem trace_Event_line.tab1 : rtab .any (opsOf Try.f33 1) = trace_Event_line.T1 := by kernel_rfl
theorem trace_Event_line.bits1 : waitsOk trace_Event_line.T1.2 trace_Event_line.B1 = true := by kernel_rfl
set_option maxHeartbeats 8000000 in
set_option maxRecDepth 100000 in
theorem trace_Event_line.calls (a0_0 : Int) (a0_1 : ByteArray) (a0_2 : ByteArray) (a0_3 : Int) (r : ByteArray) (w : World) (h : trace_Event_line.f a0_0 a0_1 a0_2 a0_3 = some r) :
    Calls Try.prog 33 #[.agg #[.int .i64 a0_0, .string a0_1, .string a0_2, .int .i64 a0_3]] w fun e w' => e = .returned (.string r) ∧ Below w.heap.size w w' := by
  have hu37 := Try.underlying37
  have HB := Aside0.mk (Below.refl w.heap.size w)
  have H : ((trace_digits.f a0_0).bind fun t172 => (if t172.size + 2 ≤ 9223372036854775807 then (if (t172 ++ (⟨#[58, 32]⟩ : ByteArray)).size + a0_1.size ≤ 9223372036854775807 then (if a0_2.toList = ([] : List UInt8) then (if a0_3 > 0 then ((trace_digits.f a0_3).bind fun t173 => (if 1 + t173.size ≤ 9223372036854775807 then (if ((t172 ++ (⟨#[58, 32]⟩ : ByteArray)) ++ a0_1).size + ((⟨#[32]⟩ : ByteArray) ++ t173).size ≤ 9223372036854775807 then (some (((t172 ++ (⟨#[58, 32]⟩ : ByteArray)) ++ a0_1) ++ ((⟨#[32]⟩ : ByteArray) ++ t173))) else (none)) else (none))) else (some ((t172 ++ (⟨#[58, 32]⟩ : ByteArray)) ++ a0_1))) else (if 1 + a0_2.size ≤ 9223372036854775807 then (if ((t172 ++ (⟨#[58, 32]⟩ : ByteArray)) ++ a0_1).size + ((⟨#[32]⟩ : ByteArray) ++ a0_2).size ≤ 9223372036854775807 then (if a0_3 > 0 then ((trace_digits.f a0_3).bind fun t174 => (if 1 + t174.size ≤ 9223372036854775807 then (if (((t172 ++ (⟨#[58, 32]⟩ : ByteArray)) ++ a0_1) ++ ((⟨#[32]⟩ : ByteArray) ++ a0_2)).size + ((⟨#[32]⟩ : ByteArray) ++ t174).size ≤ 9223372036854775807 then (some ((((t172 ++ (⟨#[58, 32]⟩ : ByteArray)) ++ a0_1) ++ ((⟨#[32]⟩ : ByteArray) ++ a0_2)) ++ ((⟨#[32]⟩ : ByteArray) ++ t174))) else (none)) else (none))) else (some (((t172 ++ (⟨#[58, 32]⟩ : ByteArray)) ++ a0_1) ++ ((⟨#[32]⟩ : ByteArray) ++ a0_2)))) else (none)) else (none))) else (none)) else (none))) = some r := h
  clear h
  replace H := Option.bind_eq_some_iff.mp H
  obtain ⟨t172, A20, H⟩ := H
  replace H : (if t172.size + 2 ≤ 9223372036854775807 then (if (t172 ++ (⟨#[58, 32]⟩ : ByteArray)).size + a0_1.size ≤ 9223372036854775807 then (if a0_2.toList = ([] : List UInt8) then (if a0_3 > 0 then ((trace_digits.f a0_3).bind fun t173 => (if 1 + t173.size ≤ 9223372036854775807 then (if ((t172 ++ (⟨#[58, 32]⟩ : ByteArray)) ++ a0_1).size + ((⟨#[32]⟩ : ByteArray) ++ t173).size ≤ 9223372036854775807 then (some (((t172 ++ (⟨#[58, 32]⟩ : ByteArray)) ++ a0_1) ++ ((⟨#[32]⟩ : ByteArray) ++ t173))) else (none)) else (none))) else (some ((t172 ++ (⟨#[58, 32]⟩ : ByteArray)) ++ a0_1))) else (if 1 + a0_2.size ≤ 9223372036854775807 then (if ((t172 ++ (⟨#[58, 32]⟩ : ByteArray)) ++ a0_1).size + ((⟨#[32]⟩ : ByteArray) ++ a0_2).size ≤ 9223372036854775807 then (if a0_3 > 0 then ((trace_digits.f a0_3).bind fun t174 => (if 1 + t174.size ≤ 9223372036854775807 then (if (((t172 ++ (⟨#[58, 32]⟩ : ByteArray)) ++ a0_1) ++ ((⟨#[32]⟩ : ByteArray) ++ a0_2)).size + ((⟨#[32]⟩ : ByteArray) ++ t174).size ≤ 9223372036854775807 then (some ((((t172 ++ (⟨#[58, 32]⟩ : ByteArray)) ++ a0_1) ++ ((⟨#[32]⟩ : ByteArray) ++ a0_2)) ++ ((⟨#[32]⟩ : ByteArray) ++ t174))) else (none)) else (none))) else (some (((t172 ++ (⟨#[58, 32]⟩ : ByteArray)) ++ a0_1) ++ ((⟨#[32]⟩ : ByteArray) ++ a0_2)))) else (none)) else (none))) else (none)) else (none)) = some r := H
  have A2 := Aside0.mk A20
  clear A20
  by_cases c3 : t172.size + 2 ≤ 9223372036854775807
  · rw [if_pos c3] at H
    have c3b0 := eq_true c3
    (try (have c3z := c3b0; rw [ByteArray.size_extract, Nat.min_self] at c3z))
    have c3b1 : decide (t172.size + 2 ≤ 9223372036854775807) = true := decide_eq_true c3
    try have c3b2 : (9223372036854775807 < t172.size + 2) = False := eq_false (Nat.not_lt.2 c3)
    by_cases c4 : (t172 ++ (⟨#[58, 32]⟩ : ByteArray)).size + a0_1.size ≤ 9223372036854775807
    · rw [if_pos c4] at H
      have c4b0 := eq_true c4
      (try (have c4z := c4b0; rw [ByteArray.size_extract, Nat.min_self] at c4z))
      have c4b1 : decide ((t172 ++ (⟨#[58, 32]⟩ : ByteArray)).size + a0_1.size ≤ 9223372036854775807) = true := decide_eq_true c4
      try have c4b2 : (9223372036854775807 < (t172 ++ (⟨#[58, 32]⟩ : ByteArray)).size + a0_1.size) = False := eq_false (Nat.not_lt.2 c4)
      (try (have c4z2 := c4b2; simp only [ByteArray.size_append, ByteArray.size_extract, Nat.min_self, show (⟨#[58, 32]⟩ : ByteArray).size = 2 from rfl] at c4z2))
      by_cases c5 : a0_2.toList = ([] : List UInt8)
      · rw [if_pos c5] at H
        have c5b0 : (a0_2.toList == ([] : List UInt8)) = true := beq_iff_eq.mpr c5
        have c5b1 : (a0_2.toList != ([] : List UInt8)) = false := bne_eq_false_iff_eq.mpr c5
        clear c5
        by_cases c6 : a0_3 > 0
        · rw [if_pos c6] at H
          have c6b0 : decide (0 < a0_3) = true := decide_eq_true c6
          clear c6
          replace H := Option.bind_eq_some_iff.mp H
          obtain ⟨t173, A70, H⟩ := H
          replace H : (if 1 + t173.size ≤ 9223372036854775807 then (if ((t172 ++ (⟨#[58, 32]⟩ : ByteArray)) ++ a0_1).size + ((⟨#[32]⟩ : ByteArray) ++ t173).size ≤ 9223372036854775807 then (some (((t172 ++ (⟨#[58, 32]⟩ : ByteArray)) ++ a0_1) ++ ((⟨#[32]⟩ : ByteArray) ++ t173))) else (none)) else (none)) = some r := H
          have A7 := Aside0.mk A70
          clear A70
          by_cases c8 : 1 + t173.size ≤ 9223372036854775807
          · rw [if_pos c8] at H
            have c8b0 := eq_true c8
            (try (have c8z := c8b0; rw [ByteArray.size_extract, Nat.min_self] at c8z))
            have c8b1 : decide (1 + t173.size ≤ 9223372036854775807) = true := decide_eq_true c8
            try have c8b2 : (9223372036854775807 < 1 + t173.size) = False := eq_false (Nat.not_lt.2 c8)
            by_cases c9 : ((t172 ++ (⟨#[58, 32]⟩ : ByteArray)) ++ a0_1).size + ((⟨#[32]⟩ : ByteArray) ++ t173).size ≤ 9223372036854775807
            · rw [if_pos c9] at H
              have c9b0 := eq_true c9
              (try (have c9z := c9b0; rw [ByteArray.size_extract, Nat.min_self] at c9z))
              have c9b1 : decide (((t172 ++ (⟨#[58, 32]⟩ : ByteArray)) ++ a0_1).size + ((⟨#[32]⟩ : ByteArray) ++ t173).size ≤ 9223372036854775807) = true := decide_eq_true c9
              try have c9b2 : (9223372036854775807 < ((t172 ++ (⟨#[58, 32]⟩ : ByteArray)) ++ a0_1).size + ((⟨#[32]⟩ : ByteArray) ++ t173).size) = False := eq_false (Nat.not_lt.2 c9)
              (try (have c9z2 := c9b2; simp only [ByteArray.size_append, ByteArray.size_extract, Nat.min_self, show (⟨#[32]⟩ : ByteArray).size = 1 from rfl, show (⟨#[58, 32]⟩ : ByteArray).size = 2 from rfl] at c9z2))
              obtain rfl := Option.some.inj H
              go_enter Try.func33, Try.ntmps33
              try go_wp2_with (first | ((with_reducible refine gate_dst (N := 1) rfl ?_); refine box_event ?hg (N := 1) ?hd (cs := #[.int .i64 a0_0, .string a0_1, .string a0_2, .int .i64 a0_3]) (t := 37) ?hr ?_; (case hd => rfl); (case hg => rfl); (case hr => first | (go_simp; done) | (go_simp; rfl)); intro gb171 hg w10 hbox hb; have n0_ := Aside0.mk (below_step (by repeat (first | (with_reducible first | exact HB.out | apply below_alloc | apply pw_below_drewN | apply below_drew1) | exact HB.out)) hb); have n1_ := Aside0.mk (hbox); have n2_ := Aside0.mk ((by rw [hg]; exact (below_size (by repeat (first | (with_reducible first | exact HB.out | apply below_alloc | apply pw_below_drewN | apply below_drew1) | exact HB.out))) : w.heap.size ≤ gb171)); have n3_ := Aside0.mk ((by rw [hg]; exact (below_size (by repeat (first | (with_reducible first | exact HB.out | apply below_alloc | apply pw_below_drewN | apply below_drew1) | exact HB.out))) : w.heap.size ≤ gb171)); clear HB; have HB := n0_; have BK171 := n1_; have GW171 := n2_; have GE171 := n3_; clear n0_ n1_ n2_ n3_; clear hb hbox hg))
              have n0_ := Aside0.mk (blk_drew BK171.out)
              have n1_ := Aside0.mk (below_drew1 HB.out)
              clear BK171
              clear HB
              have BK171 := n0_
              have HB := n1_
              clear n0_ n1_
              refine start_ (n := 8) (S := fun w' => w'.cell? ⟨gb171, 0, none⟩ = some (.int .i64 a0_0) ∧ w'.cell? ⟨gb171, 1, none⟩ = some (.string a0_1) ∧ w'.cell? ⟨gb171, 2, none⟩ = some (.string a0_2) ∧ w'.cell? ⟨gb171, 3, none⟩ = some (.int .i64 a0_3)) (ds := []) #[false, false, false, false, false, false, false, false] (by kernel_rfl) rfl rfl ⟨(blk_cell BK171.out 0).trans rfl, (blk_cell BK171.out 1).trans rfl, (blk_cell BK171.out 2).trans rfl, (blk_cell BK171.out 3).trans rfl⟩ (fun hHeld => ?_); refine with_tabW trace_Event_line.tab1 trace_Event_line.bits1 (fun HT_ HW_ => ?_)
              generalize w10.drew = w11 at BK171 HB hHeld ⊢
              refine pure_ (i := 0) (N := some 4) (v := ?_) (a' := ?_) #[true, false, false, false, false, false, false, false] rfl rfl (any_of HT_.out (by kernel_rfl)) (fun _ _ _ h => h) (Or.inl ⟨by rfl, ?_⟩) ?_ ?_
              rotate_left
              · intro w'; go_simp; with_reducible rfl
              rotate_left
              · simp only [Act.put, List.setIfInBounds_toArray, List.set_cons_zero, List.set_cons_succ, i64_w, i32_w]; rfl
              refine pure_ (i := 4) (N := some 8) (v := ?_) (a' := ?_) #[true, false, false, false, true, false, false, false] rfl rfl (any_of HT_.out (by kernel_rfl)) (fun _ _ _ h => h) (Or.inl ⟨by rfl, ?_⟩) ?_ ?_
              rotate_left
              · intro w'; go_simp; with_reducible rfl
              rotate_left
              · simp only [Act.put, List.setIfInBounds_toArray, List.set_cons_zero, List.set_cons_succ, i64_w, i32_w]; rfl
              refine take_ (i := 1) (N := some 5) (v := ?_) (a' := ?_) #[true, true, false, false, true, false, false, false] rfl rfl (take_ofW HT_.out HW_.out (by kernel_rfl)) (fun _ _ _ h => h) (Or.inl ⟨by rfl, ?_⟩) hHeld ?_ ?_
              rotate_left
              · rintro w' ⟨s0, s1, s2, s3⟩; go_simp; with_reducible rfl
              rotate_left
              · simp only [Act.put, List.setIfInBounds_toArray, List.set_cons_zero, List.set_cons_succ, i64_w, i32_w]; rfl
              refine take_ (i := 5) (N := some 9) (v := ?_) (a' := ?_) #[true, true, false, false, true, true, false, false] rfl rfl (take_ofW HT_.out HW_.out (by kernel_rfl)) (fun _ _ _ h => h) (Or.inl ⟨by rfl, ?_⟩) hHeld ?_ ?_
              rotate_left
              · rintro w' ⟨s0, s1, s2, s3⟩; go_simp; with_reducible rfl
              rotate_left
              · simp only [Act.put, List.setIfInBounds_toArray, List.set_cons_zero, List.set_cons_succ, i64_w, i32_w]; rfl
              refine one_ (i := 2) (N := some 6) #[true, true, true, false, true, true, false, false] rfl rfl (one_of HT_.out (by kernel_rfl)) (by decide) (fun K hK => ?_)
              refine goes_ Try.func46 (by kernel_rfl) rfl #[.int .i64 a0_0] (by rfl) rfl rfl (by (try simp only [List.map_toArray, List.map_cons, List.map_nil]); first | done | rfl | (simp only [List.length_drop, List.length_take]; rfl)) ?_
              with_reducible refine (trace_digits.calls a0_0 t172 _ A2.out).mono ?_
              rintro e w12 ⟨rfl, hb⟩
              refine ⟨_, rfl, ?_⟩
              have n0_ := Aside0.mk (blk_below (g := gb171) (o := .cells #[.int .i64 a0_0, .string a0_1, .string a0_2, .int .i64 a0_3] 37 (0, 0)) (by (with_reducible repeat (first | refine blk_drewN ?_ _ | refine blk_drew ?_ | refine blk_alloc ?_ _)); exact BK171.out) hb)
              have n1_ := Aside0.mk (below_step (by repeat (first | (with_reducible first | exact HB.out | apply below_alloc | apply pw_below_drewN | apply below_drew1 | refine below_set ?_ GE171.out) | exact HB.out)) hb)
              clear BK171
              clear HB
              have BK171 := n0_
              have HB := n1_
              clear n0_ n1_
              (try clear hb); (try clear hb2); (try clear hk); (try clear hi)
              refine hK.out _ _ ⟨(blk_cell BK171.out 0).trans rfl, (blk_cell BK171.out 1).trans rfl, (blk_cell BK171.out 2).trans rfl, (blk_cell BK171.out 3).trans rfl⟩ (fun hHeld => ?_)
              clear hK K
              refine norm_ (a' := ?_) ?_ ?_
              rotate_left
              · show Act.put _ (some 6) _ = _
                simp only [Act.put, List.setIfInBounds_toArray, List.set_cons_zero, List.set_cons_succ, i64_w, i32_w]
                rfl
              refine pure_ (i := 3) (N := some 7) (v := ?_) (a' := ?_) #[true, true, true, true, true, true, false, false] rfl rfl (any_of HT_.out (by kernel_rfl)) (fun _ _ _ h => h) (Or.inl ⟨by rfl, ?_⟩) ?_ ?_
              rotate_left
              · intro w'; go_simp; with_reducible rfl
              rotate_left
              · simp only [Act.put, List.setIfInBounds_toArray, List.set_cons_zero, List.set_cons_succ, i64_w, i32_w]; rfl
              refine pure_ (i := 6) (N := some 10) (v := ?_) (a' := ?_) #[true, true, true, true, true, true, true, false] rfl rfl (any_of HT_.out (by kernel_rfl)) (fun _ _ _ h => h) (Or.inl ⟨by rfl, ?_⟩) ?_ ?_
              rotate_left
              · intro w'; go_simp; with_reducible rfl
              rotate_left
              · simp only [Act.put, List.setIfInBounds_toArray, List.set_cons_zero, List.set_cons_succ, i64_w, i32_w]; rfl
              refine pure_ (i := 7) (N := some 3) (v := ?_) (a' := ?_) #[true, true, true, true, true, true, true, true] rfl rfl (any_of HT_.out (by kernel_rfl)) (fun _ _ _ h => h) (Or.inl ⟨by rfl, ?_⟩) ?_ ?_
              rotate_left
              · intro w'; go_simp; with_reducible rfl
              rotate_left
              · simp only [Act.put, List.setIfInBounds_toArray, List.set_cons_zero, List.set_cons_succ, i64_w, i32_w]; rfl
              refine done_ (done_of HT_.out (by kernel_rfl)) ?_
              have hcz13_0 : w12.cell? ⟨gb171, 0, none⟩ = some (.int .i64 a0_0) := (blk_cell BK171.out 0).trans rfl
              have hcz13_1 : w12.cell? ⟨gb171, 1, none⟩ = some (.string a0_1) := (blk_cell BK171.out 1).trans rfl
              have hcz13_2 : w12.cell? ⟨gb171, 2, none⟩ = some (.string a0_2) := (blk_cell BK171.out 2).trans rfl
              have hcz13_3 : w12.cell? ⟨gb171, 3, none⟩ = some (.int .i64 a0_3) := (blk_cell BK171.out 3).trans rfl
              have hfz13_0 := blk_frozen BK171.out 0
              have hfz13_1 := blk_frozen BK171.out 1
              have hfz13_2 := blk_frozen BK171.out 2
              have hfz13_3 := blk_frozen BK171.out 3
              try go_wp2_with (first | ((first | ((with_reducible refine gate_callee (f := 46) rfl ?_); refine goesL_ (some 25) rfl rfl Try.func46 (by kernel_rfl) rfl #[.int .i64 a0_3] rfl (by (try simp only [List.map_toArray, List.map_cons, List.map_nil]); first | done | rfl | (simp only [List.length_drop, List.length_take]; rfl)) ?_; (with_reducible refine (trace_digits.calls a0_3 t173 _ A7.out).mono ?_); rintro e w14 ⟨rfl, hb⟩; refine ⟨_, rfl, ?_⟩) | (go_at_call 46; (with_reducible refine (trace_digits.calls a0_3 t173 _ A7.out).mono ?_); rintro e w14 ⟨rfl, hb⟩)); have n0_ := Aside0.mk (blk_below (g := gb171) (o := .cells #[.int .i64 a0_0, .string a0_1, .string a0_2, .int .i64 a0_3] 37 (0, 0)) (by (with_reducible repeat (first | refine blk_drewN ?_ _ | refine blk_drew ?_ | refine blk_alloc ?_ _)); exact BK171.out) hb); have n1_ := Aside0.mk (below_step (by repeat (first | (with_reducible first | exact HB.out | apply below_alloc | apply pw_below_drewN | apply below_drew1 | refine below_set ?_ GE171.out) | exact HB.out)) hb); clear BK171; clear HB; have BK171 := n0_; have HB := n1_; clear n0_ n1_; (try clear hb); (try clear hb2); (try clear hk); (try clear hi)))
              go_ret
              exact ⟨by first | rfl | (simp [errW_none, errW_some] <;> rfl) | (simp [*, errW_none, errW_some] <;> rfl), by repeat (first | (with_reducible first | exact HB.out | apply below_alloc | apply pw_below_drewN | apply below_drew1 | refine below_set ?_ GE171.out) | exact HB.out)⟩
            · rw [if_neg c9] at H
              exact absurd H (by simp)
          · rw [if_neg c8] at H
            exact absurd H (by simp)
        · rw [if_neg c6] at H
          have c6b0 : decide (0 < a0_3) = false := decide_eq_false c6
          clear c6
          obtain rfl := Option.some.inj H
          go_enter Try.func33, Try.ntmps33
          try go_wp2_with (first | ((with_reducible refine gate_dst (N := 1) rfl ?_); refine box_event ?hg (N := 1) ?hd (cs := #[.int .i64 a0_0, .string a0_1, .string a0_2, .int .i64 a0_3]) (t := 37) ?hr ?_; (case hd => rfl); (case hg => rfl); (case hr => first | (go_simp; done) | (go_simp; rfl)); intro gb171 hg w15 hbox hb; have n0_ := Aside0.mk (below_step (by repeat (first | (with_reducible first | exact HB.out | apply below_alloc | apply pw_below_drewN | apply below_drew1) | exact HB.out)) hb); have n1_ := Aside0.mk (hbox); have n2_ := Aside0.mk ((by rw [hg]; exact (below_size (by repeat (first | (with_reducible first | exact HB.out | apply below_alloc | apply pw_below_drewN | apply below_drew1) | exact HB.out))) : w.heap.size ≤ gb171)); have n3_ := Aside0.mk ((by rw [hg]; exact (below_size (by repeat (first | (with_reducible first | exact HB.out | apply below_alloc | apply pw_below_drewN | apply below_drew1) | exact HB.out))) : w.heap.size ≤ gb171)); clear HB; have HB := n0_; have BK171 := n1_; have GW171 := n2_; have GE171 := n3_; clear n0_ n1_ n2_ n3_; clear hb hbox hg))
          have n0_ := Aside0.mk (blk_drew BK171.out)
          have n1_ := Aside0.mk (below_drew1 HB.out)
          clear BK171
          clear HB
          have BK171 := n0_
          have HB := n1_
          clear n0_ n1_
          refine start_ (n := 8) (S := fun w' => w'.cell? ⟨gb171, 0, none⟩ = some (.int .i64 a0_0) ∧ w'.cell? ⟨gb171, 1, none⟩ = some (.string a0_1) ∧ w'.cell? ⟨gb171, 2, none⟩ = some (.string a0_2) ∧ w'.cell? ⟨gb171, 3, none⟩ = some (.int .i64 a0_3)) (ds := []) #[false, false, false, false, false, false, false, false] (by kernel_rfl) rfl rfl ⟨(blk_cell BK171.out 0).trans rfl, (blk_cell BK171.out 1).trans rfl, (blk_cell BK171.out 2).trans rfl, (blk_cell BK171.out 3).trans rfl⟩ (fun hHeld => ?_); refine with_tabW trace_Event_line.tab1 trace_Event_line.bits1 (fun HT_ HW_ => ?_)
          generalize w15.drew = w16 at BK171 HB hHeld ⊢
          refine pure_ (i := 0) (N := some 4) (v := ?_) (a' := ?_) #[true, false, false, false, false, false, false, false] rfl rfl (any_of HT_.out (by kernel_rfl)) (fun _ _ _ h => h) (Or.inl ⟨by rfl, ?_⟩) ?_ ?_
          rotate_left
          · intro w'; go_simp; with_reducible rfl
          rotate_left
          · simp only [Act.put, List.setIfInBounds_toArray, List.set_cons_zero, List.set_cons_succ, i64_w, i32_w]; rfl
          refine pure_ (i := 4) (N := some 8) (v := ?_) (a' := ?_) #[true, false, false, false, true, false, false, false] rfl rfl (any_of HT_.out (by kernel_rfl)) (fun _ _ _ h => h) (Or.inl ⟨by rfl, ?_⟩) ?_ ?_
          rotate_left
          · intro w'; go_simp; with_reducible rfl
          rotate_left
          · simp only [Act.put, List.setIfInBounds_toArray, List.set_cons_zero, List.set_cons_succ, i64_w, i32_w]; rfl
          refine take_ (i := 1) (N := some 5) (v := ?_) (a' := ?_) #[true, true, false, false, true, false, false, false] rfl rfl (take_ofW HT_.out HW_.out (by kernel_rfl)) (fun _ _ _ h => h) (Or.inl ⟨by rfl, ?_⟩) hHeld ?_ ?_
          rotate_left
          · rintro w' ⟨s0, s1, s2, s3⟩; go_simp; with_reducible rfl
          rotate_left
          · simp only [Act.put, List.setIfInBounds_toArray, List.set_cons_zero, List.set_cons_succ, i64_w, i32_w]; rfl
          refine take_ (i := 5) (N := some 9) (v := ?_) (a' := ?_) #[true, true, false, false, true, true, false, false] rfl rfl (take_ofW HT_.out HW_.out (by kernel_rfl)) (fun _ _ _ h => h) (Or.inl ⟨by rfl, ?_⟩) hHeld ?_ ?_
          rotate_left
          · rintro w' ⟨s0, s1, s2, s3⟩; go_simp; with_reducible rfl
          rotate_left
          · simp only [Act.put, List.setIfInBounds_toArray, List.set_cons_zero, List.set_cons_succ, i64_w, i32_w]; rfl
          refine one_ (i := 2) (N := some 6) #[true, true, true, false, true, true, false, false] rfl rfl (one_of HT_.out (by kernel_rfl)) (by decide) (fun K hK => ?_)
          refine goes_ Try.func46 (by kernel_rfl) rfl #[.int .i64 a0_0] (by rfl) rfl rfl (by (try simp only [List.map_toArray, List.map_cons, List.map_nil]); first | done | rfl | (simp only [List.length_drop, List.length_take]; rfl)) ?_
          with_reducible refine (trace_digits.calls a0_0 t172 _ A2.out).mono ?_
          rintro e w17 ⟨rfl, hb⟩
          refine ⟨_, rfl, ?_⟩
          have n0_ := Aside0.mk (blk_below (g := gb171) (o := .cells #[.int .i64 a0_0, .string a0_1, .string a0_2, .int .i64 a0_3] 37 (0, 0)) (by (with_reducible repeat (first | refine blk_drewN ?_ _ | refine blk_drew ?_ | refine blk_alloc ?_ _)); exact BK171.out) hb)
          have n1_ := Aside0.mk (below_step (by repeat (first | (with_reducible first | exact HB.out | apply below_alloc | apply pw_below_drewN | apply below_drew1 | refine below_set ?_ GE171.out) | exact HB.out)) hb)
          clear BK171
          clear HB
          have BK171 := n0_
          have HB := n1_
          clear n0_ n1_
          (try clear hb); (try clear hb2); (try clear hk); (try clear hi)
          refine hK.out _ _ ⟨(blk_cell BK171.out 0).trans rfl, (blk_cell BK171.out 1).trans rfl, (blk_cell BK171.out 2).trans rfl, (blk_cell BK171.out 3).trans rfl⟩ (fun hHeld => ?_)
          clear hK K
          refine norm_ (a' := ?_) ?_ ?_
          rotate_left
          · show Act.put _ (some 6) _ = _
            simp only [Act.put, List.setIfInBounds_toArray, List.set_cons_zero, List.set_cons_succ, i64_w, i32_w]
            rfl
          refine pure_ (i := 3) (N := some 7) (v := ?_) (a' := ?_) #[true, true, true, true, true, true, false, false] rfl rfl (any_of HT_.out (by kernel_rfl)) (fun _ _ _ h => h) (Or.inl ⟨by rfl, ?_⟩) ?_ ?_
          rotate_left
          · intro w'; go_simp; with_reducible rfl
          rotate_left
          · simp only [Act.put, List.setIfInBounds_toArray, List.set_cons_zero, List.set_cons_succ, i64_w, i32_w]; rfl
          refine pure_ (i := 6) (N := some 10) (v := ?_) (a' := ?_) #[true, true, true, true, true, true, true, false] rfl rfl (any_of HT_.out (by kernel_rfl)) (fun _ _ _ h => h) (Or.inl ⟨by rfl, ?_⟩) ?_ ?_
          rotate_left
          · intro w'; go_simp; with_reducible rfl
          rotate_left
          · simp only [Act.put, List.setIfInBounds_toArray, List.set_cons_zero, List.set_cons_succ, i64_w, i32_w]; rfl
          refine pure_ (i := 7) (N := some 3) (v := ?_) (a' := ?_) #[true, true, true, true, true, true, true, true] rfl rfl (any_of HT_.out (by kernel_rfl)) (fun _ _ _ h => h) (Or.inl ⟨by rfl, ?_⟩) ?_ ?_
          rotate_left
          · intro w'; go_simp; with_reducible rfl
          rotate_left
          · simp only [Act.put, List.setIfInBounds_toArray, List.set_cons_zero, List.set_cons_succ, i64_w, i32_w]; rfl
          refine done_ (done_of HT_.out (by kernel_rfl)) ?_
          have hcz18_0 : w17.cell? ⟨gb171, 0, none⟩ = some (.int .i64 a0_0) := (blk_cell BK171.out 0).trans rfl
          have hcz18_1 : w17.cell? ⟨gb171, 1, none⟩ = some (.string a0_1) := (blk_cell BK171.out 1).trans rfl
          have hcz18_2 : w17.cell? ⟨gb171, 2, none⟩ = some (.string a0_2) := (blk_cell BK171.out 2).trans rfl
          have hcz18_3 : w17.cell? ⟨gb171, 3, none⟩ = some (.int .i64 a0_3) := (blk_cell BK171.out 3).trans rfl
          have hfz18_0 := blk_frozen BK171.out 0
          have hfz18_1 := blk_frozen BK171.out 1
          have hfz18_2 := blk_frozen BK171.out 2
          have hfz18_3 := blk_frozen BK171.out 3
          try go_wp2
          go_ret
          exact ⟨by first | rfl | (simp [errW_none, errW_some] <;> rfl) | (simp [*, errW_none, errW_some] <;> rfl), by repeat (first | (with_reducible first | exact HB.out | apply below_alloc | apply pw_below_drewN | apply below_drew1 | refine below_set ?_ GE171.out) | exact HB.out)⟩
      · rw [if_neg c5] at H
        have c5b0 : (a0_2.toList == ([] : List UInt8)) = false := beq_eq_false_iff_ne.mpr c5
        have c5b1 : (a0_2.toList != ([] : List UInt8)) = true := bne_iff_ne.mpr c5
        by_cases c19 : 1 + a0_2.size ≤ 9223372036854775807
        · rw [if_pos c19] at H
          have c19b0 := eq_true c19
          (try (have c19z := c19b0; rw [ByteArray.size_extract, Nat.min_self] at c19z))
          have c19b1 : decide (1 + a0_2.size ≤ 9223372036854775807) = true := decide_eq_true c19
          try have c19b2 : (9223372036854775807 < 1 + a0_2.size) = False := eq_false (Nat.not_lt.2 c19)
          by_cases c20 : ((t172 ++ (⟨#[58, 32]⟩ : ByteArray)) ++ a0_1).size + ((⟨#[32]⟩ : ByteArray) ++ a0_2).size ≤ 9223372036854775807
          · rw [if_pos c20] at H
            have c20b0 := eq_true c20
            (try (have c20z := c20b0; rw [ByteArray.size_extract, Nat.min_self] at c20z))
            have c20b1 : decide (((t172 ++ (⟨#[58, 32]⟩ : ByteArray)) ++ a0_1).size + ((⟨#[32]⟩ : ByteArray) ++ a0_2).size ≤ 9223372036854775807) = true := decide_eq_true c20
            try have c20b2 : (9223372036854775807 < ((t172 ++ (⟨#[58, 32]⟩ : ByteArray)) ++ a0_1).size + ((⟨#[32]⟩ : ByteArray) ++ a0_2).size) = False := eq_false (Nat.not_lt.2 c20)
            (try (have c20z2 := c20b2; simp only [ByteArray.size_append, ByteArray.size_extract, Nat.min_self, show (⟨#[32]⟩ : ByteArray).size = 1 from rfl, show (⟨#[58, 32]⟩ : ByteArray).size = 2 from rfl] at c20z2))
            by_cases c21 : a0_3 > 0
            · rw [if_pos c21] at H
              have c21b0 : decide (0 < a0_3) = true := decide_eq_true c21
              clear c21
              replace H := Option.bind_eq_some_iff.mp H
              obtain ⟨t174, A220, H⟩ := H
              replace H : (if 1 + t174.size ≤ 9223372036854775807 then (if (((t172 ++ (⟨#[58, 32]⟩ : ByteArray)) ++ a0_1) ++ ((⟨#[32]⟩ : ByteArray) ++ a0_2)).size + ((⟨#[32]⟩ : ByteArray) ++ t174).size ≤ 9223372036854775807 then (some ((((t172 ++ (⟨#[58, 32]⟩ : ByteArray)) ++ a0_1) ++ ((⟨#[32]⟩ : ByteArray) ++ a0_2)) ++ ((⟨#[32]⟩ : ByteArray) ++ t174))) else (none)) else (none)) = some r := H
              have A22 := Aside0.mk A220
              clear A220
              by_cases c23 : 1 + t174.size ≤ 9223372036854775807
              · rw [if_pos c23] at H
                have c23b0 := eq_true c23
                (try (have c23z := c23b0; rw [ByteArray.size_extract, Nat.min_self] at c23z))
                have c23b1 : decide (1 + t174.size ≤ 9223372036854775807) = true := decide_eq_true c23
                try have c23b2 : (9223372036854775807 < 1 + t174.size) = False := eq_false (Nat.not_lt.2 c23)
                by_cases c24 : (((t172 ++ (⟨#[58, 32]⟩ : ByteArray)) ++ a0_1) ++ ((⟨#[32]⟩ : ByteArray) ++ a0_2)).size + ((⟨#[32]⟩ : ByteArray) ++ t174).size ≤ 9223372036854775807
                · rw [if_pos c24] at H
                  have c24b0 := eq_true c24
                  (try (have c24z := c24b0; rw [ByteArray.size_extract, Nat.min_self] at c24z))
                  have c24b1 : decide ((((t172 ++ (⟨#[58, 32]⟩ : ByteArray)) ++ a0_1) ++ ((⟨#[32]⟩ : ByteArray) ++ a0_2)).size + ((⟨#[32]⟩ : ByteArray) ++ t174).size ≤ 9223372036854775807) = true := decide_eq_true c24
                  try have c24b2 : (9223372036854775807 < (((t172 ++ (⟨#[58, 32]⟩ : ByteArray)) ++ a0_1) ++ ((⟨#[32]⟩ : ByteArray) ++ a0_2)).size + ((⟨#[32]⟩ : ByteArray) ++ t174).size) = False := eq_false (Nat.not_lt.2 c24)
                  (try (have c24z2 := c24b2; simp only [ByteArray.size_append, ByteArray.size_extract, Nat.min_self, show (⟨#[32]⟩ : ByteArray).size = 1 from rfl, show (⟨#[58, 32]⟩ : ByteArray).size = 2 from rfl] at c24z2))
                  obtain rfl := Option.some.inj H
                  go_enter Try.func33, Try.ntmps33
                  try go_wp2_with (first | ((with_reducible refine gate_dst (N := 1) rfl ?_); refine box_event ?hg (N := 1) ?hd (cs := #[.int .i64 a0_0, .string a0_1, .string a0_2, .int .i64 a0_3]) (t := 37) ?hr ?_; (case hd => rfl); (case hg => rfl); (case hr => first | (go_simp; done) | (go_simp; rfl)); intro gb171 hg w25 hbox hb; have n0_ := Aside0.mk (below_step (by repeat (first | (with_reducible first | exact HB.out | apply below_alloc | apply pw_below_drewN | apply below_drew1) | exact HB.out)) hb); have n1_ := Aside0.mk (hbox); have n2_ := Aside0.mk ((by rw [hg]; exact (below_size (by repeat (first | (with_reducible first | exact HB.out | apply below_alloc | apply pw_below_drewN | apply below_drew1) | exact HB.out))) : w.heap.size ≤ gb171)); have n3_ := Aside0.mk ((by rw [hg]; exact (below_size (by repeat (first | (with_reducible first | exact HB.out | apply below_alloc | apply pw_below_drewN | apply below_drew1) | exact HB.out))) : w.heap.size ≤ gb171)); clear HB; have HB := n0_; have BK171 := n1_; have GW171 := n2_; have GE171 := n3_; clear n0_ n1_ n2_ n3_; clear hb hbox hg))
                  have n0_ := Aside0.mk (blk_drew BK171.out)
                  have n1_ := Aside0.mk (below_drew1 HB.out)
                  clear BK171
                  clear HB
                  have BK171 := n0_
                  have HB := n1_
                  clear n0_ n1_
                  refine start_ (n := 8) (S := fun w' => w'.cell? ⟨gb171, 0, none⟩ = some (.int .i64 a0_0) ∧ w'.cell? ⟨gb171, 1, none⟩ = some (.string a0_1) ∧ w'.cell? ⟨gb171, 2, none⟩ = some (.string a0_2) ∧ w'.cell? ⟨gb171, 3, none⟩ = some (.int .i64 a0_3)) (ds := []) #[false, false, false, false, false, false, false, false] (by kernel_rfl) rfl rfl ⟨(blk_cell BK171.out 0).trans rfl, (blk_cell BK171.out 1).trans rfl, (blk_cell BK171.out 2).trans rfl, (blk_cell BK171.out 3).trans rfl⟩ (fun hHeld => ?_); refine with_tabW trace_Event_line.tab1 trace_Event_line.bits1 (fun HT_ HW_ => ?_)
                  generalize w25.drew = w26 at BK171 HB hHeld ⊢
                  refine pure_ (i := 0) (N := some 4) (v := ?_) (a' := ?_) #[true, false, false, false, false, false, false, false] rfl rfl (any_of HT_.out (by kernel_rfl)) (fun _ _ _ h => h) (Or.inl ⟨by rfl, ?_⟩) ?_ ?_
                  rotate_left
                  · intro w'; go_simp; with_reducible rfl
                  rotate_left
                  · simp only [Act.put, List.setIfInBounds_toArray, List.set_cons_zero, List.set_cons_succ, i64_w, i32_w]; rfl
                  refine pure_ (i := 4) (N := some 8) (v := ?_) (a' := ?_) #[true, false, false, false, true, false, false, false] rfl rfl (any_of HT_.out (by kernel_rfl)) (fun _ _ _ h => h) (Or.inl ⟨by rfl, ?_⟩) ?_ ?_
                  rotate_left
                  · intro w'; go_simp; with_reducible rfl
                  rotate_left
                  · simp only [Act.put, List.setIfInBounds_toArray, List.set_cons_zero, List.set_cons_succ, i64_w, i32_w]; rfl
                  refine take_ (i := 1) (N := some 5) (v := ?_) (a' := ?_) #[true, true, false, false, true, false, false, false] rfl rfl (take_ofW HT_.out HW_.out (by kernel_rfl)) (fun _ _ _ h => h) (Or.inl ⟨by rfl, ?_⟩) hHeld ?_ ?_
                  rotate_left
                  · rintro w' ⟨s0, s1, s2, s3⟩; go_simp; with_reducible rfl
                  rotate_left
                  · simp only [Act.put, List.setIfInBounds_toArray, List.set_cons_zero, List.set_cons_succ, i64_w, i32_w]; rfl
                  refine take_ (i := 5) (N := some 9) (v := ?_) (a' := ?_) #[true, true, false, false, true, true, false, false] rfl rfl (take_ofW HT_.out HW_.out (by kernel_rfl)) (fun _ _ _ h => h) (Or.inl ⟨by rfl, ?_⟩) hHeld ?_ ?_
                  rotate_left
                  · rintro w' ⟨s0, s1, s2, s3⟩; go_simp; with_reducible rfl
                  rotate_left
                  · simp only [Act.put, List.setIfInBounds_toArray, List.set_cons_zero, List.set_cons_succ, i64_w, i32_w]; rfl
                  refine one_ (i := 2) (N := some 6) #[true, true, true, false, true, true, false, false] rfl rfl (one_of HT_.out (by kernel_rfl)) (by decide) (fun K hK => ?_)
                  refine goes_ Try.func46 (by kernel_rfl) rfl #[.int .i64 a0_0] (by rfl) rfl rfl (by (try simp only [List.map_toArray, List.map_cons, List.map_nil]); first | done | rfl | (simp only [List.length_drop, List.length_take]; rfl)) ?_
                  with_reducible refine (trace_digits.calls a0_0 t172 _ A2.out).mono ?_
                  rintro e w27 ⟨rfl, hb⟩
                  refine ⟨_, rfl, ?_⟩
                  have n0_ := Aside0.mk (blk_below (g := gb171) (o := .cells #[.int .i64 a0_0, .string a0_1, .string a0_2, .int .i64 a0_3] 37 (0, 0)) (by (with_reducible repeat (first | refine blk_drewN ?_ _ | refine blk_drew ?_ | refine blk_alloc ?_ _)); exact BK171.out) hb)
                  have n1_ := Aside0.mk (below_step (by repeat (first | (with_reducible first | exact HB.out | apply below_alloc | apply pw_below_drewN | apply below_drew1 | refine below_set ?_ GE171.out) | exact HB.out)) hb)
                  clear BK171
                  clear HB
                  have BK171 := n0_
                  have HB := n1_
                  clear n0_ n1_
                  (try clear hb); (try clear hb2); (try clear hk); (try clear hi)
                  refine hK.out _ _ ⟨(blk_cell BK171.out 0).trans rfl, (blk_cell BK171.out 1).trans rfl, (blk_cell BK171.out 2).trans rfl, (blk_cell BK171.out 3).trans rfl⟩ (fun hHeld => ?_)
                  clear hK K
                  refine norm_ (a' := ?_) ?_ ?_
                  rotate_left
                  · show Act.put _ (some 6) _ = _
                    simp only [Act.put, List.setIfInBounds_toArray, List.set_cons_zero, List.set_cons_succ, i64_w, i32_w]
                    rfl
                  refine pure_ (i := 3) (N := some 7) (v := ?_) (a' := ?_) #[true, true, true, true, true, true, false, false] rfl rfl (any_of HT_.out (by kernel_rfl)) (fun _ _ _ h => h) (Or.inl ⟨by rfl, ?_⟩) ?_ ?_
                  rotate_left
                  · intro w'; go_simp; with_reducible rfl
                  rotate_left
                  · simp only [Act.put, List.setIfInBounds_toArray, List.set_cons_zero, List.set_cons_succ, i64_w, i32_w]; rfl
                  refine pure_ (i := 6) (N := some 10) (v := ?_) (a' := ?_) #[true, true, true, true, true, true, true, false] rfl rfl (any_of HT_.out (by kernel_rfl)) (fun _ _ _ h => h) (Or.inl ⟨by rfl, ?_⟩) ?_ ?_
                  rotate_left
                  · intro w'; go_simp; with_reducible rfl
                  rotate_left
                  · simp only [Act.put, List.setIfInBounds_toArray, List.set_cons_zero, List.set_cons_succ, i64_w, i32_w]; rfl
                  refine pure_ (i := 7) (N := some 3) (v := ?_) (a' := ?_) #[true, true, true, true, true, true, true, true] rfl rfl (any_of HT_.out (by kernel_rfl)) (fun _ _ _ h => h) (Or.inl ⟨by rfl, ?_⟩) ?_ ?_
                  rotate_left
                  · intro w'; go_simp; with_reducible rfl
                  rotate_left
                  · simp only [Act.put, List.setIfInBounds_toArray, List.set_cons_zero, List.set_cons_succ, i64_w, i32_w]; rfl
                  refine done_ (done_of HT_.out (by kernel_rfl)) ?_
                  have hcz28_0 : w27.cell? ⟨gb171, 0, none⟩ = some (.int .i64 a0_0) := (blk_cell BK171.out 0).trans rfl
                  have hcz28_1 : w27.cell? ⟨gb171, 1, none⟩ = some (.string a0_1) := (blk_cell BK171.out 1).trans rfl
                  have hcz28_2 : w27.cell? ⟨gb171, 2, none⟩ = some (.string a0_2) := (blk_cell BK171.out 2).trans rfl
                  have hcz28_3 : w27.cell? ⟨gb171, 3, none⟩ = some (.int .i64 a0_3) := (blk_cell BK171.out 3).trans rfl
                  have hfz28_0 := blk_frozen BK171.out 0
                  have hfz28_1 := blk_frozen BK171.out 1
                  have hfz28_2 := blk_frozen BK171.out 2
                  have hfz28_3 := blk_frozen BK171.out 3
                  try go_wp2_with (first | ((first | ((with_reducible refine gate_callee (f := 46) rfl ?_); refine goesL_ (some 25) rfl rfl Try.func46 (by kernel_rfl) rfl #[.int .i64 a0_3] rfl (by (try simp only [List.map_toArray, List.map_cons, List.map_nil]); first | done | rfl | (simp only [List.length_drop, List.length_take]; rfl)) ?_; (with_reducible refine (trace_digits.calls a0_3 t174 _ A22.out).mono ?_); rintro e w29 ⟨rfl, hb⟩; refine ⟨_, rfl, ?_⟩) | (go_at_call 46; (with_reducible refine (trace_digits.calls a0_3 t174 _ A22.out).mono ?_); rintro e w29 ⟨rfl, hb⟩)); have n0_ := Aside0.mk (blk_below (g := gb171) (o := .cells #[.int .i64 a0_0, .string a0_1, .string a0_2, .int .i64 a0_3] 37 (0, 0)) (by (with_reducible repeat (first | refine blk_drewN ?_ _ | refine blk_drew ?_ | refine blk_alloc ?_ _)); exact BK171.out) hb); have n1_ := Aside0.mk (below_step (by repeat (first | (with_reducible first | exact HB.out | apply below_alloc | apply pw_below_drewN | apply below_drew1 | refine below_set ?_ GE171.out) | exact HB.out)) hb); clear BK171; clear HB; have BK171 := n0_; have HB := n1_; clear n0_ n1_; (try clear hb); (try clear hb2); (try clear hk); (try clear hi)))
                  go_ret
                  exact ⟨by first | rfl | (simp [errW_none, errW_some] <;> rfl) | (simp [*, errW_none, errW_some] <;> rfl), by repeat (first | (with_reducible first | exact HB.out | apply below_alloc | apply pw_below_drewN | apply below_drew1 | refine below_set ?_ GE171.out) | exact HB.out)⟩
                · rw [if_neg c24] at H
                  exact absurd H (by simp)
              · rw [if_neg c23] at H
                exact absurd H (by simp)
            · rw [if_neg c21] at H
              have c21b0 : decide (0 < a0_3) = false := decide_eq_false c21
              clear c21
              obtain rfl := Option.some.inj H
              go_enter Try.func33, Try.ntmps33
              try go_wp2_with (first | ((with_reducible refine gate_dst (N := 1) rfl ?_); refine box_event ?hg (N := 1) ?hd (cs := #[.int .i64 a0_0, .string a0_1, .string a0_2, .int .i64 a0_3]) (t := 37) ?hr ?_; (case hd => rfl); (case hg => rfl); (case hr => first | (go_simp; done) | (go_simp; rfl)); intro gb171 hg w30 hbox hb; have n0_ := Aside0.mk (below_step (by repeat (first | (with_reducible first | exact HB.out | apply below_alloc | apply pw_below_drewN | apply below_drew1) | exact HB.out)) hb); have n1_ := Aside0.mk (hbox); have n2_ := Aside0.mk ((by rw [hg]; exact (below_size (by repeat (first | (with_reducible first | exact HB.out | apply below_alloc | apply pw_below_drewN | apply below_drew1) | exact HB.out))) : w.heap.size ≤ gb171)); have n3_ := Aside0.mk ((by rw [hg]; exact (below_size (by repeat (first | (with_reducible first | exact HB.out | apply below_alloc | apply pw_below_drewN | apply below_drew1) | exact HB.out))) : w.heap.size ≤ gb171)); clear HB; have HB := n0_; have BK171 := n1_; have GW171 := n2_; have GE171 := n3_; clear n0_ n1_ n2_ n3_; clear hb hbox hg))
              have n0_ := Aside0.mk (blk_drew BK171.out)
              have n1_ := Aside0.mk (below_drew1 HB.out)
              clear BK171
              clear HB
              have BK171 := n0_
              have HB := n1_
              clear n0_ n1_
              refine start_ (n := 8) (S := fun w' => w'.cell? ⟨gb171, 0, none⟩ = some (.int .i64 a0_0) ∧ w'.cell? ⟨gb171, 1, none⟩ = some (.string a0_1) ∧ w'.cell? ⟨gb171, 2, none⟩ = some (.string a0_2) ∧ w'.cell? ⟨gb171, 3, none⟩ = some (.int .i64 a0_3)) (ds := []) #[false, false, false, false, false, false, false, false] (by kernel_rfl) rfl rfl ⟨(blk_cell BK171.out 0).trans rfl, (blk_cell BK171.out 1).trans rfl, (blk_cell BK171.out 2).trans rfl, (blk_cell BK171.out 3).trans rfl⟩ (fun hHeld => ?_); refine with_tabW trace_Event_line.tab1 trace_Event_line.bits1 (fun HT_ HW_ => ?_)
              generalize w30.drew = w31 at BK171 HB hHeld ⊢
              refine pure_ (i := 0) (N := some 4) (v := ?_) (a' := ?_) #[true, false, false, false, false, false, false, false] rfl rfl (any_of HT_.out (by kernel_rfl)) (fun _ _ _ h => h) (Or.inl ⟨by rfl, ?_⟩) ?_ ?_
              rotate_left
              · intro w'; go_simp; with_reducible rfl
              rotate_left
              · simp only [Act.put, List.setIfInBounds_toArray, List.set_cons_zero, List.set_cons_succ, i64_w, i32_w]; rfl
              refine pure_ (i := 4) (N := some 8) (v := ?_) (a' := ?_) #[true, false, false, false, true, false, false, false] rfl rfl (any_of HT_.out (by kernel_rfl)) (fun _ _ _ h => h) (Or.inl ⟨by rfl, ?_⟩) ?_ ?_
              rotate_left
              · intro w'; go_simp; with_reducible rfl
              rotate_left
              · simp only [Act.put, List.setIfInBounds_toArray, List.set_cons_zero, List.set_cons_succ, i64_w, i32_w]; rfl
              refine take_ (i := 1) (N := some 5) (v := ?_) (a' := ?_) #[true, true, false, false, true, false, false, false] rfl rfl (take_ofW HT_.out HW_.out (by kernel_rfl)) (fun _ _ _ h => h) (Or.inl ⟨by rfl, ?_⟩) hHeld ?_ ?_
              rotate_left
              · rintro w' ⟨s0, s1, s2, s3⟩; go_simp; with_reducible rfl
              rotate_left
              · simp only [Act.put, List.setIfInBounds_toArray, List.set_cons_zero, List.set_cons_succ, i64_w, i32_w]; rfl
              refine take_ (i := 5) (N := some 9) (v := ?_) (a' := ?_) #[true, true, false, false, true, true, false, false] rfl rfl (take_ofW HT_.out HW_.out (by kernel_rfl)) (fun _ _ _ h => h) (Or.inl ⟨by rfl, ?_⟩) hHeld ?_ ?_
              rotate_left
              · rintro w' ⟨s0, s1, s2, s3⟩; go_simp; with_reducible rfl
              rotate_left
              · simp only [Act.put, List.setIfInBounds_toArray, List.set_cons_zero, List.set_cons_succ, i64_w, i32_w]; rfl
              refine one_ (i := 2) (N := some 6) #[true, true, true, false, true, true, false, false] rfl rfl (one_of HT_.out (by kernel_rfl)) (by decide) (fun K hK => ?_)
              refine goes_ Try.func46 (by kernel_rfl) rfl #[.int .i64 a0_0] (by rfl) rfl rfl (by (try simp only [List.map_toArray, List.map_cons, List.map_nil]); first | done | rfl | (simp only [List.length_drop, List.length_take]; rfl)) ?_
              with_reducible refine (trace_digits.calls a0_0 t172 _ A2.out).mono ?_
              rintro e w32 ⟨rfl, hb⟩
              refine ⟨_, rfl, ?_⟩
              have n0_ := Aside0.mk (blk_below (g := gb171) (o := .cells #[.int .i64 a0_0, .string a0_1, .string a0_2, .int .i64 a0_3] 37 (0, 0)) (by (with_reducible repeat (first | refine blk_drewN ?_ _ | refine blk_drew ?_ | refine blk_alloc ?_ _)); exact BK171.out) hb)
              have n1_ := Aside0.mk (below_step (by repeat (first | (with_reducible first | exact HB.out | apply below_alloc | apply pw_below_drewN | apply below_drew1 | refine below_set ?_ GE171.out) | exact HB.out)) hb)
              clear BK171
              clear HB
              have BK171 := n0_
              have HB := n1_
              clear n0_ n1_
              (try clear hb); (try clear hb2); (try clear hk); (try clear hi)
              refine hK.out _ _ ⟨(blk_cell BK171.out 0).trans rfl, (blk_cell BK171.out 1).trans rfl, (blk_cell BK171.out 2).trans rfl, (blk_cell BK171.out 3).trans rfl⟩ (fun hHeld => ?_)
              clear hK K
              refine norm_ (a' := ?_) ?_ ?_
              rotate_left
              · show Act.put _ (some 6) _ = _
                simp only [Act.put, List.setIfInBounds_toArray, List.set_cons_zero, List.set_cons_succ, i64_w, i32_w]
                rfl
              refine pure_ (i := 3) (N := some 7) (v := ?_) (a' := ?_) #[true, true, true, true, true, true, false, false] rfl rfl (any_of HT_.out (by kernel_rfl)) (fun _ _ _ h => h) (Or.inl ⟨by rfl, ?_⟩) ?_ ?_
              rotate_left
              · intro w'; go_simp; with_reducible rfl
              rotate_left
              · simp only [Act.put, List.setIfInBounds_toArray, List.set_cons_zero, List.set_cons_succ, i64_w, i32_w]; rfl
              refine pure_ (i := 6) (N := some 10) (v := ?_) (a' := ?_) #[true, true, true, true, true, true, true, false] rfl rfl (any_of HT_.out (by kernel_rfl)) (fun _ _ _ h => h) (Or.inl ⟨by rfl, ?_⟩) ?_ ?_
              rotate_left
              · intro w'; go_simp; with_reducible rfl
              rotate_left
              · simp only [Act.put, List.setIfInBounds_toArray, List.set_cons_zero, List.set_cons_succ, i64_w, i32_w]; rfl
              refine pure_ (i := 7) (N := some 3) (v := ?_) (a' := ?_) #[true, true, true, true, true, true, true, true] rfl rfl (any_of HT_.out (by kernel_rfl)) (fun _ _ _ h => h) (Or.inl ⟨by rfl, ?_⟩) ?_ ?_
              rotate_left
              · intro w'; go_simp; with_reducible rfl
              rotate_left
              · simp only [Act.put, List.setIfInBounds_toArray, List.set_cons_zero, List.set_cons_succ, i64_w, i32_w]; rfl
              refine done_ (done_of HT_.out (by kernel_rfl)) ?_
              have hcz33_0 : w32.cell? ⟨gb171, 0, none⟩ = some (.int .i64 a0_0) := (blk_cell BK171.out 0).trans rfl
              have hcz33_1 : w32.cell? ⟨gb171, 1, none⟩ = some (.string a0_1) := (blk_cell BK171.out 1).trans rfl
              have hcz33_2 : w32.cell? ⟨gb171, 2, none⟩ = some (.string a0_2) := (blk_cell BK171.out 2).trans rfl
              have hcz33_3 : w32.cell? ⟨gb171, 3, none⟩ = some (.int .i64 a0_3) := (blk_cell BK171.out 3).trans rfl
              have hfz33_0 := blk_frozen BK171.out 0
              have hfz33_1 := blk_frozen BK171.out 1
              have hfz33_2 := blk_frozen BK171.out 2
              have hfz33_3 := blk_frozen BK171.out 3
              try go_wp2
              go_ret
              exact ⟨by first | rfl | (simp [errW_none, errW_some] <;> rfl) | (simp [*, errW_none, errW_some] <;> rfl), by repeat (first | (with_reducible first | exact HB.out | apply below_alloc | apply pw_below_drewN | apply below_drew1 | refine below_set ?_ GE171.out) | exact HB.out)⟩
          · rw [if_neg c20] at H
            exact absurd H (by simp)
        · rw [if_neg c19] at H
          exact absurd H (by simp)
    · rw [if_neg c4] at H
      exact absurd H (by simp)
  · rw [if_neg c3] at H
    exact absurd H (by simp)
end Go.Proofs.Ytngmcigkihfnkaa.H
end
section
namespace Go.Proofs.Ytngmcigkihfnkaa.H
open Go.RowKit Go.Proofs.YtngmcigkihfnkaaW.PrintWords Go.Proofs.YtngmcigkihfnkaaW.PrintLast Go.Proofs.YtngmcigkihfnkaaW.PrintMore
attribute [local go_sem] max2_int min2_int max_two min_two max_three min_three max_four min_four   -- for this text's walks alone
set_option linter.unusedVariables false
set_option linter.unusedSimpArgs false
def trace_Show.l0 : Nat → ByteArray → List (S37) → Int → Int → Option (ByteArray)
  | 0, _, _, _, _ => none
  | k + 1, x3, x6, x7, x8 => if x8 < x7 then (if 0 ≤ x8 then (if x8 < (x6.length : Int) then ((trace_Right.f k ((rd_T37 x6 x8).f0) ((rd_T37 x6 x8).f1) ((rd_T37 x6 x8).f2) ((rd_T37 x6 x8).f3)).bind fun t177 => (if t177 = true then ((trace_Event_line.f ((rd_T37 x6 x8).f0) ((rd_T37 x6 x8).f1) ((rd_T37 x6 x8).f2) ((rd_T37 x6 x8).f3)).bind fun t178 => (if t178.size + 1 ≤ 9223372036854775807 then (if x3.size + (t178 ++ (⟨#[10]⟩ : ByteArray)).size ≤ 9223372036854775807 then (trace_Show.l0 k (x3 ++ (t178 ++ (⟨#[10]⟩ : ByteArray))) x6 x7 (wrap64 (x8 + 1))) else (none)) else (none))) else (trace_Show.l0 k x3 x6 x7 (wrap64 (x8 + 1))))) else (none)) else (none)) else (some x3)
def trace_Show.f (k : Nat) (l0 : List (S37)) : Option (ByteArray) := trace_Show.l0 k (⟨#[]⟩ : ByteArray) l0 (l0.length : Int) 0
theorem trace_Show.mono_l : ∀ k, (∀ y0 y1 y2 y3, LeO (trace_Show.l0 k y0 y1 y2 y3) (trace_Show.l0 (k + 1) y0 y1 y2 y3))
  | 0 => fun _ _ _ _ r h => by simp [trace_Show.l0] at h
  | k + 1 => by
    have ih0 := trace_Show.mono_l k
    · intro y0 y1 y2 y3
      unfold trace_Show.l0
      repeat' first
      | (with_reducible exact ih0 _ _ _ _)
      | (with_reducible exact trace_Right.mono _ _ _ _ _)
      | (with_reducible exact LeO.refl _)
      | (with_reducible exact LeO.none _)
      | (with_reducible refine LeO.ite ?_ ?_)
      | (with_reducible refine LeO.bind ?_ (fun _ => ?_))
      | exact ih0 _ _ _ _
      | exact trace_Right.mono _ _ _ _ _
      | exact LeO.none _
      | refine LeO.ite ?_ ?_
      | refine LeO.bind ?_ (fun _ => ?_)
theorem trace_Show.mono : ∀ a0 k, LeO (trace_Show.f k a0) (trace_Show.f (k + 1) a0) := by
  intro a0 k
  have ih0 := trace_Show.mono_l k
  unfold trace_Show.f
  repeat' first
      | (with_reducible exact ih0 _ _ _ _)
      | (with_reducible exact trace_Right.mono _ _ _ _ _)
      | (with_reducible exact LeO.refl _)
      | (with_reducible exact LeO.none _)
      | (with_reducible refine LeO.ite ?_ ?_)
      | (with_reducible refine LeO.bind ?_ (fun _ => ?_))
      | exact ih0 _ _ _ _
      | exact trace_Right.mono _ _ _ _ _
      | exact LeO.none _
      | refine LeO.ite ?_ ?_
      | refine LeO.bind ?_ (fun _ => ?_)
set_option maxHeartbeats 8000000 in
set_option maxRecDepth 100000 in
theorem trace_Show.calls (k : Nat) (A0 : Option Addr) (c0 : Nat) (l0 : List (S37)) (r : ByteArray) (w : World) (hr0 : Kd.C k37 w A0 l0.length l0) (hc0 : l0.length ≤ c0) (h : trace_Show.f k l0 = some r) :
    Calls Try.prog 16 #[.slice A0 l0.length c0] w fun e w' => e = .returned (.string r) ∧ Below w.heap.size w w' := by
  have hu37 := Try.underlying37
  have HR0 := Aside0.mk hr0
  have HC0 := Aside0.mk hc0
  clear hr0 hc0
  have HB := Aside0.mk (Below.refl w.heap.size w)
  have H : (trace_Show.l0 k (⟨#[]⟩ : ByteArray) l0 (l0.length : Int) 0) = some r := h
  clear h
  have H' := Aside0.mk H
  clear H
  go_enter Try.func16, Try.ntmps16
  go_wp2
  go_loopg [3, 8] k (fun kq v3 v8 w' => ∃ (x3_1 : ByteArray) (x8_1 : Int), v3 = .string x3_1 ∧ v8 = .int .i64 x8_1 ∧ Aside0 (trace_Show.l0 kq x3_1 l0 (l0.length : Int) x8_1 = some r) ∧ Aside0 (kq ≤ k) ∧ Aside0 (Below w.heap.size w w'))
  case atStart => exact ⟨((⟨#[]⟩ : ByteArray)), (0), (by first | rfl | (simp; done) | (simp [*]; done)), (by first | rfl | (simp; done) | (simp [*]; done)), H', ⟨Nat.le_refl _⟩, ⟨by repeat (first | (with_reducible first | exact HB.out | apply below_alloc | apply pw_below_drewN | apply below_drew1) | exact HB.out)⟩⟩
  case round =>
    clear H'
    try clear c1
    obtain ⟨x3_1, x8_1, rfl, rfl, HA, HK1, HB⟩ := hrel
    cases gk with
    | zero => exact absurd HA.out (by simp [trace_Show.l0])
    | succ k1 =>
      have H := HA.out
      clear HA
      simp only [trace_Show.l0] at H
      by_cases c2 : x8_1 < (l0.length : Int)
      · rw [if_pos c2] at H
        have c2b0 : decide (x8_1 < (l0.length : Int)) = true := decide_eq_true c2
        clear c2
        by_cases c3 : 0 ≤ x8_1
        · rw [if_pos c3] at H
          have c3b0 : decide (0 ≤ x8_1) = true := decide_eq_true c3
          clear c3
          by_cases c4 : x8_1 < (l0.length : Int)
          · rw [if_pos c4] at H
            have c4b0 : decide (x8_1 < (l0.length : Int)) = true := decide_eq_true c4
            clear c4
            replace H := Option.bind_eq_some_iff.mp H
            obtain ⟨t177, A50, H⟩ := H
            replace H : (if t177 = true then ((trace_Event_line.f ((rd_T37 l0 x8_1).f0) ((rd_T37 l0 x8_1).f1) ((rd_T37 l0 x8_1).f2) ((rd_T37 l0 x8_1).f3)).bind fun t178 => (if t178.size + 1 ≤ 9223372036854775807 then (if x3_1.size + (t178 ++ (⟨#[10]⟩ : ByteArray)).size ≤ 9223372036854775807 then (trace_Show.l0 k1 (x3_1 ++ (t178 ++ (⟨#[10]⟩ : ByteArray))) l0 (l0.length : Int) (wrap64 (x8_1 + 1))) else (none)) else (none))) else (trace_Show.l0 k1 x3_1 l0 (l0.length : Int) (wrap64 (x8_1 + 1)))) = some r := H
            have A5 := Aside0.mk A50
            clear A50
            by_cases c6 : t177 = true
            · subst c6
              have H1 : ((trace_Event_line.f ((rd_T37 l0 x8_1).f0) ((rd_T37 l0 x8_1).f1) ((rd_T37 l0 x8_1).f2) ((rd_T37 l0 x8_1).f3)).bind fun t178 => (if t178.size + 1 ≤ 9223372036854775807 then (if x3_1.size + (t178 ++ (⟨#[10]⟩ : ByteArray)).size ≤ 9223372036854775807 then (trace_Show.l0 k1 (x3_1 ++ (t178 ++ (⟨#[10]⟩ : ByteArray))) l0 (l0.length : Int) (wrap64 (x8_1 + 1))) else (none)) else (none))) = some r := by rw [if_pos rfl] at H; exact H
              clear H
              have H := H1
              clear H1
              replace H := Option.bind_eq_some_iff.mp H
              obtain ⟨t178, A70, H⟩ := H
              replace H : (if t178.size + 1 ≤ 9223372036854775807 then (if x3_1.size + (t178 ++ (⟨#[10]⟩ : ByteArray)).size ≤ 9223372036854775807 then (trace_Show.l0 k1 (x3_1 ++ (t178 ++ (⟨#[10]⟩ : ByteArray))) l0 (l0.length : Int) (wrap64 (x8_1 + 1))) else (none)) else (none)) = some r := H
              have A7 := Aside0.mk A70
              clear A70
              by_cases c8 : t178.size + 1 ≤ 9223372036854775807
              · rw [if_pos c8] at H
                have c8b0 := eq_true c8
                (try (have c8z := c8b0; rw [ByteArray.size_extract, Nat.min_self] at c8z))
                have c8b1 : decide (t178.size + 1 ≤ 9223372036854775807) = true := decide_eq_true c8
                try have c8b2 : (9223372036854775807 < t178.size + 1) = False := eq_false (Nat.not_lt.2 c8)
                by_cases c9 : x3_1.size + (t178 ++ (⟨#[10]⟩ : ByteArray)).size ≤ 9223372036854775807
                · rw [if_pos c9] at H
                  have c9b0 := eq_true c9
                  (try (have c9z := c9b0; rw [ByteArray.size_extract, Nat.min_self] at c9z))
                  have c9b1 : decide (x3_1.size + (t178 ++ (⟨#[10]⟩ : ByteArray)).size ≤ 9223372036854775807) = true := decide_eq_true c9
                  try have c9b2 : (9223372036854775807 < x3_1.size + (t178 ++ (⟨#[10]⟩ : ByteArray)).size) = False := eq_false (Nat.not_lt.2 c9)
                  (try (have c9z2 := c9b2; simp only [ByteArray.size_append, ByteArray.size_extract, Nat.min_self, show (⟨#[10]⟩ : ByteArray).size = 1 from rfl] at c9z2))
                  have H' := Aside0.mk H
                  clear H
                  have p175 : 0 ≤ (x8_1 : Int) := of_decide_eq_true (by first | (with_reducible assumption) | assumption)
                  have q175 : x8_1 < (l0.length : Int) := of_decide_eq_true (by first | (with_reducible assumption) | assumption)
                  obtain ⟨ad175, e175, hx175_0, hx175_1, hx175_2, hx175_3⟩ := at_T37 HR0.out x8_1 p175 q175
                  cases e175
                  replace hx175_0 := (HB.out.cell (World.block_lt_of_cell? w _ hx175_0)).trans hx175_0
                  replace hx175_1 := (HB.out.cell (World.block_lt_of_cell? w _ hx175_1)).trans hx175_1
                  replace hx175_2 := (HB.out.cell (World.block_lt_of_cell? w _ hx175_2)).trans hx175_2
                  replace hx175_3 := (HB.out.cell (World.block_lt_of_cell? w _ hx175_3)).trans hx175_3
                  replace p175 := eq_true p175
                  replace q175 := eq_true q175
                  (try (have qz175 := q175; rw [ByteArray.size_extract, Nat.min_self] at qz175))
                  go_wp2_with (first | ((with_reducible refine gate_dst (N := 5) rfl ?_); refine box_event ?hg (N := 5) ?hd (cs := #[.int .i64 0, .string (⟨#[]⟩ : ByteArray), .string (⟨#[]⟩ : ByteArray), .int .i64 0]) (t := 37) ?hr ?_; (case hd => rfl); (case hg => rfl); (case hr => first | (go_simp; done) | (go_simp; rfl)); intro gb176 hg w10 hbox hb; have n0_ := Aside0.mk (below_step (by repeat (first | (with_reducible first | exact HB.out | apply below_alloc | apply pw_below_drewN | apply below_drew1) | exact HB.out)) hb); have n1_ := Aside0.mk (hbox); have n2_ := Aside0.mk ((by rw [hg]; exact (below_size (by repeat (first | (with_reducible first | exact HB.out | apply below_alloc | apply pw_below_drewN | apply below_drew1) | exact HB.out))) : w.heap.size ≤ gb176)); have n3_ := Aside0.mk ((by rw [hg]; exact (below_size (by repeat (first | (with_reducible first | exact HB.out | apply below_alloc | apply pw_below_drewN | apply below_drew1) | exact HB.out))) : w.heap.size ≤ gb176)); clear HB; have HB := n0_; have BK176 := n1_; have GW176 := n2_; have GE176 := n3_; clear n0_ n1_ n2_ n3_; clear hb hbox hg; have hcz11_0 : w10.cell? ⟨gb176, 0, none⟩ = some (.int .i64 0) := (blk_cell BK176.out 0).trans rfl; have hcz11_1 : w10.cell? ⟨gb176, 1, none⟩ = some (.string (⟨#[]⟩ : ByteArray)) := (blk_cell BK176.out 1).trans rfl; have hcz11_2 : w10.cell? ⟨gb176, 2, none⟩ = some (.string (⟨#[]⟩ : ByteArray)) := (blk_cell BK176.out 2).trans rfl; have hcz11_3 : w10.cell? ⟨gb176, 3, none⟩ = some (.int .i64 0) := (blk_cell BK176.out 3).trans rfl; have hfz11_0 := blk_frozen BK176.out 0; have hfz11_1 := blk_frozen BK176.out 1; have hfz11_2 := blk_frozen BK176.out 2; have hfz11_3 := blk_frozen BK176.out 3) | ((first | ((with_reducible refine gate_callee (f := 14) rfl ?_); refine goesL_ (some 13) rfl rfl Try.func14 (by kernel_rfl) rfl #[.agg #[.int .i64 ((rd_T37 l0 x8_1).f0), .string ((rd_T37 l0 x8_1).f1), .string ((rd_T37 l0 x8_1).f2), .int .i64 ((rd_T37 l0 x8_1).f3)]] rfl (by (try simp only [List.map_toArray, List.map_cons, List.map_nil]); first | done | rfl | (simp only [List.length_drop, List.length_take]; rfl)) ?_; (with_reducible refine (trace_Right.calls k1 ((rd_T37 l0 x8_1).f0) ((rd_T37 l0 x8_1).f1) ((rd_T37 l0 x8_1).f2) ((rd_T37 l0 x8_1).f3) true _ A5.out).mono ?_); rintro e w12 ⟨rfl, hb⟩; refine ⟨_, rfl, ?_⟩) | (go_at_call 14; (with_reducible refine (trace_Right.calls k1 ((rd_T37 l0 x8_1).f0) ((rd_T37 l0 x8_1).f1) ((rd_T37 l0 x8_1).f2) ((rd_T37 l0 x8_1).f3) true _ A5.out).mono ?_); rintro e w12 ⟨rfl, hb⟩)); have n0_ := Aside0.mk (blk_below (g := gb176) (o := .cells #[.int .i64 ((rd_T37 l0 x8_1).f0), .string ((rd_T37 l0 x8_1).f1), .string ((rd_T37 l0 x8_1).f2), .int .i64 ((rd_T37 l0 x8_1).f3)] 37 (0, 0)) (by (with_reducible repeat (first | refine blk_drewN ?_ _ | refine blk_drew ?_ | refine blk_alloc ?_ _)); refine blk_put (cs := #[.int .i64 ((rd_T37 l0 x8_1).f0), .string ((rd_T37 l0 x8_1).f1), .string ((rd_T37 l0 x8_1).f2), .int .i64 0]) ?_ 3 _ rfl; (with_reducible repeat (first | refine blk_drewN ?_ _ | refine blk_drew ?_ | refine blk_alloc ?_ _)); refine blk_put (cs := #[.int .i64 ((rd_T37 l0 x8_1).f0), .string ((rd_T37 l0 x8_1).f1), .string (⟨#[]⟩ : ByteArray), .int .i64 0]) ?_ 2 _ rfl; (with_reducible repeat (first | refine blk_drewN ?_ _ | refine blk_drew ?_ | refine blk_alloc ?_ _)); refine blk_put (cs := #[.int .i64 ((rd_T37 l0 x8_1).f0), .string (⟨#[]⟩ : ByteArray), .string (⟨#[]⟩ : ByteArray), .int .i64 0]) ?_ 1 _ rfl; (with_reducible repeat (first | refine blk_drewN ?_ _ | refine blk_drew ?_ | refine blk_alloc ?_ _)); refine blk_put (cs := #[.int .i64 0, .string (⟨#[]⟩ : ByteArray), .string (⟨#[]⟩ : ByteArray), .int .i64 0]) ?_ 0 _ rfl; (with_reducible repeat (first | refine blk_drewN ?_ _ | refine blk_drew ?_ | refine blk_alloc ?_ _)); exact BK176.out) hb); have n1_ := Aside0.mk (below_step (by repeat (first | (with_reducible first | exact HB.out | apply below_alloc | apply pw_below_drewN | apply below_drew1 | refine below_set ?_ GE176.out) | exact HB.out)) hb); clear BK176; clear HB; have BK176 := n0_; have HB := n1_; clear n0_ n1_; (try clear hb); (try clear hb2); (try clear hk); (try clear hi); have hcz13_0 : w12.cell? ⟨gb176, 0, none⟩ = some (.int .i64 ((rd_T37 l0 x8_1).f0)) := (blk_cell BK176.out 0).trans rfl; have hcz13_1 : w12.cell? ⟨gb176, 1, none⟩ = some (.string ((rd_T37 l0 x8_1).f1)) := (blk_cell BK176.out 1).trans rfl; have hcz13_2 : w12.cell? ⟨gb176, 2, none⟩ = some (.string ((rd_T37 l0 x8_1).f2)) := (blk_cell BK176.out 2).trans rfl; have hcz13_3 : w12.cell? ⟨gb176, 3, none⟩ = some (.int .i64 ((rd_T37 l0 x8_1).f3)) := (blk_cell BK176.out 3).trans rfl; have hfz13_0 := blk_frozen BK176.out 0; have hfz13_1 := blk_frozen BK176.out 1; have hfz13_2 := blk_frozen BK176.out 2; have hfz13_3 := blk_frozen BK176.out 3) | ((first | ((with_reducible refine gate_callee (f := 33) rfl ?_); refine goesL_ (some 16) rfl rfl Try.func33 (by kernel_rfl) rfl #[.agg #[.int .i64 ((rd_T37 l0 x8_1).f0), .string ((rd_T37 l0 x8_1).f1), .string ((rd_T37 l0 x8_1).f2), .int .i64 ((rd_T37 l0 x8_1).f3)]] rfl (by (try simp only [List.map_toArray, List.map_cons, List.map_nil]); first | done | rfl | (simp only [List.length_drop, List.length_take]; rfl)) ?_; (with_reducible refine (trace_Event_line.calls ((rd_T37 l0 x8_1).f0) ((rd_T37 l0 x8_1).f1) ((rd_T37 l0 x8_1).f2) ((rd_T37 l0 x8_1).f3) t178 _ A7.out).mono ?_); rintro e w14 ⟨rfl, hb⟩; refine ⟨_, rfl, ?_⟩) | (go_at_call 33; (with_reducible refine (trace_Event_line.calls ((rd_T37 l0 x8_1).f0) ((rd_T37 l0 x8_1).f1) ((rd_T37 l0 x8_1).f2) ((rd_T37 l0 x8_1).f3) t178 _ A7.out).mono ?_); rintro e w14 ⟨rfl, hb⟩)); have n0_ := Aside0.mk (blk_below (g := gb176) (o := .cells #[.int .i64 ((rd_T37 l0 x8_1).f0), .string ((rd_T37 l0 x8_1).f1), .string ((rd_T37 l0 x8_1).f2), .int .i64 ((rd_T37 l0 x8_1).f3)] 37 (0, 0)) (by (with_reducible repeat (first | refine blk_drewN ?_ _ | refine blk_drew ?_ | refine blk_alloc ?_ _)); exact BK176.out) hb); have n1_ := Aside0.mk (below_step (by repeat (first | (with_reducible first | exact HB.out | apply below_alloc | apply pw_below_drewN | apply below_drew1 | refine below_set ?_ GE176.out) | exact HB.out)) hb); clear BK176; clear HB; have BK176 := n0_; have HB := n1_; clear n0_ n1_; (try clear hb); (try clear hb2); (try clear hk); (try clear hi)))
                  go_roundg k1
                  case measure => have := HK1.out; omega
                  case rel => exact ⟨(x3_1 ++ (t178 ++ (⟨#[10]⟩ : ByteArray))), (wrap64 (x8_1 + 1)), (by first | rfl | (simp; done) | (simp [*]; done)), (by first | rfl | (simp; done) | (simp [*]; done)), H', ⟨by have := HK1.out; omega⟩, ⟨by repeat (first | (with_reducible first | exact HB.out | apply below_alloc | apply pw_below_drewN | apply below_drew1 | refine below_set ?_ GE176.out) | exact HB.out)⟩⟩
                · rw [if_neg c9] at H
                  exact absurd H (by simp)
              · rw [if_neg c8] at H
                exact absurd H (by simp)
            · replace c6 := Bool.eq_false_iff.mpr c6
              subst c6
              have H1 : (trace_Show.l0 k1 x3_1 l0 (l0.length : Int) (wrap64 (x8_1 + 1))) = some r := by rw [if_neg (show ¬ (false = true) by decide)] at H; exact H
              clear H
              have H := H1
              clear H1
              have H' := Aside0.mk H
              clear H
              have p175 : 0 ≤ (x8_1 : Int) := of_decide_eq_true (by first | (with_reducible assumption) | assumption)
              have q175 : x8_1 < (l0.length : Int) := of_decide_eq_true (by first | (with_reducible assumption) | assumption)
              obtain ⟨ad175, e175, hx175_0, hx175_1, hx175_2, hx175_3⟩ := at_T37 HR0.out x8_1 p175 q175
              cases e175
              replace hx175_0 := (HB.out.cell (World.block_lt_of_cell? w _ hx175_0)).trans hx175_0
              replace hx175_1 := (HB.out.cell (World.block_lt_of_cell? w _ hx175_1)).trans hx175_1
              replace hx175_2 := (HB.out.cell (World.block_lt_of_cell? w _ hx175_2)).trans hx175_2
              replace hx175_3 := (HB.out.cell (World.block_lt_of_cell? w _ hx175_3)).trans hx175_3
              replace p175 := eq_true p175
              replace q175 := eq_true q175
              (try (have qz175 := q175; rw [ByteArray.size_extract, Nat.min_self] at qz175))
              go_wp2_with (first | ((with_reducible refine gate_dst (N := 5) rfl ?_); refine box_event ?hg (N := 5) ?hd (cs := #[.int .i64 0, .string (⟨#[]⟩ : ByteArray), .string (⟨#[]⟩ : ByteArray), .int .i64 0]) (t := 37) ?hr ?_; (case hd => rfl); (case hg => rfl); (case hr => first | (go_simp; done) | (go_simp; rfl)); intro gb176 hg w15 hbox hb; have n0_ := Aside0.mk (below_step (by repeat (first | (with_reducible first | exact HB.out | apply below_alloc | apply pw_below_drewN | apply below_drew1) | exact HB.out)) hb); have n1_ := Aside0.mk (hbox); have n2_ := Aside0.mk ((by rw [hg]; exact (below_size (by repeat (first | (with_reducible first | exact HB.out | apply below_alloc | apply pw_below_drewN | apply below_drew1) | exact HB.out))) : w.heap.size ≤ gb176)); have n3_ := Aside0.mk ((by rw [hg]; exact (below_size (by repeat (first | (with_reducible first | exact HB.out | apply below_alloc | apply pw_below_drewN | apply below_drew1) | exact HB.out))) : w.heap.size ≤ gb176)); clear HB; have HB := n0_; have BK176 := n1_; have GW176 := n2_; have GE176 := n3_; clear n0_ n1_ n2_ n3_; clear hb hbox hg; have hcz16_0 : w15.cell? ⟨gb176, 0, none⟩ = some (.int .i64 0) := (blk_cell BK176.out 0).trans rfl; have hcz16_1 : w15.cell? ⟨gb176, 1, none⟩ = some (.string (⟨#[]⟩ : ByteArray)) := (blk_cell BK176.out 1).trans rfl; have hcz16_2 : w15.cell? ⟨gb176, 2, none⟩ = some (.string (⟨#[]⟩ : ByteArray)) := (blk_cell BK176.out 2).trans rfl; have hcz16_3 : w15.cell? ⟨gb176, 3, none⟩ = some (.int .i64 0) := (blk_cell BK176.out 3).trans rfl; have hfz16_0 := blk_frozen BK176.out 0; have hfz16_1 := blk_frozen BK176.out 1; have hfz16_2 := blk_frozen BK176.out 2; have hfz16_3 := blk_frozen BK176.out 3) | ((first | ((with_reducible refine gate_callee (f := 14) rfl ?_); refine goesL_ (some 13) rfl rfl Try.func14 (by kernel_rfl) rfl #[.agg #[.int .i64 ((rd_T37 l0 x8_1).f0), .string ((rd_T37 l0 x8_1).f1), .string ((rd_T37 l0 x8_1).f2), .int .i64 ((rd_T37 l0 x8_1).f3)]] rfl (by (try simp only [List.map_toArray, List.map_cons, List.map_nil]); first | done | rfl | (simp only [List.length_drop, List.length_take]; rfl)) ?_; (with_reducible refine (trace_Right.calls k1 ((rd_T37 l0 x8_1).f0) ((rd_T37 l0 x8_1).f1) ((rd_T37 l0 x8_1).f2) ((rd_T37 l0 x8_1).f3) false _ A5.out).mono ?_); rintro e w17 ⟨rfl, hb⟩; refine ⟨_, rfl, ?_⟩) | (go_at_call 14; (with_reducible refine (trace_Right.calls k1 ((rd_T37 l0 x8_1).f0) ((rd_T37 l0 x8_1).f1) ((rd_T37 l0 x8_1).f2) ((rd_T37 l0 x8_1).f3) false _ A5.out).mono ?_); rintro e w17 ⟨rfl, hb⟩)); have n0_ := Aside0.mk (blk_below (g := gb176) (o := .cells #[.int .i64 ((rd_T37 l0 x8_1).f0), .string ((rd_T37 l0 x8_1).f1), .string ((rd_T37 l0 x8_1).f2), .int .i64 ((rd_T37 l0 x8_1).f3)] 37 (0, 0)) (by (with_reducible repeat (first | refine blk_drewN ?_ _ | refine blk_drew ?_ | refine blk_alloc ?_ _)); refine blk_put (cs := #[.int .i64 ((rd_T37 l0 x8_1).f0), .string ((rd_T37 l0 x8_1).f1), .string ((rd_T37 l0 x8_1).f2), .int .i64 0]) ?_ 3 _ rfl; (with_reducible repeat (first | refine blk_drewN ?_ _ | refine blk_drew ?_ | refine blk_alloc ?_ _)); refine blk_put (cs := #[.int .i64 ((rd_T37 l0 x8_1).f0), .string ((rd_T37 l0 x8_1).f1), .string (⟨#[]⟩ : ByteArray), .int .i64 0]) ?_ 2 _ rfl; (with_reducible repeat (first | refine blk_drewN ?_ _ | refine blk_drew ?_ | refine blk_alloc ?_ _)); refine blk_put (cs := #[.int .i64 ((rd_T37 l0 x8_1).f0), .string (⟨#[]⟩ : ByteArray), .string (⟨#[]⟩ : ByteArray), .int .i64 0]) ?_ 1 _ rfl; (with_reducible repeat (first | refine blk_drewN ?_ _ | refine blk_drew ?_ | refine blk_alloc ?_ _)); refine blk_put (cs := #[.int .i64 0, .string (⟨#[]⟩ : ByteArray), .string (⟨#[]⟩ : ByteArray), .int .i64 0]) ?_ 0 _ rfl; (with_reducible repeat (first | refine blk_drewN ?_ _ | refine blk_drew ?_ | refine blk_alloc ?_ _)); exact BK176.out) hb); have n1_ := Aside0.mk (below_step (by repeat (first | (with_reducible first | exact HB.out | apply below_alloc | apply pw_below_drewN | apply below_drew1 | refine below_set ?_ GE176.out) | exact HB.out)) hb); clear BK176; clear HB; have BK176 := n0_; have HB := n1_; clear n0_ n1_; (try clear hb); (try clear hb2); (try clear hk); (try clear hi)))
              go_roundg k1
              case measure => have := HK1.out; omega
              case rel => exact ⟨(x3_1), (wrap64 (x8_1 + 1)), (by first | rfl | (simp; done) | (simp [*]; done)), (by first | rfl | (simp; done) | (simp [*]; done)), H', ⟨by have := HK1.out; omega⟩, ⟨by repeat (first | (with_reducible first | exact HB.out | apply below_alloc | apply pw_below_drewN | apply below_drew1 | refine below_set ?_ GE176.out) | exact HB.out)⟩⟩
          · rw [if_neg c4] at H
            exact absurd H (by simp)
        · rw [if_neg c3] at H
          exact absurd H (by simp)
      · rw [if_neg c2] at H
        have c2b0 : decide (x8_1 < (l0.length : Int)) = false := decide_eq_false c2
        clear c2
        obtain rfl := Option.some.inj H
        go_wp2
        go_ret
        exact ⟨by first | rfl | (simp [errW_none, errW_some] <;> rfl) | (simp [*, errW_none, errW_some] <;> rfl), by repeat (first | (with_reducible first | exact HB.out | apply below_alloc | apply pw_below_drewN | apply below_drew1) | exact HB.out)⟩
end Go.Proofs.Ytngmcigkihfnkaa.H
end
section
namespace Go.Proofs.Ytngmcigkihfnkaa.H
open Go.RowKit Go.Proofs.YtngmcigkihfnkaaW.PrintWords Go.Proofs.YtngmcigkihfnkaaW.PrintLast Go.Proofs.YtngmcigkihfnkaaW.PrintMore
attribute [local go_sem] max2_int min2_int max_two min_two max_three min_three max_four min_four   -- for this text's walks alone
set_option linter.unusedVariables false
set_option linter.unusedSimpArgs false
def trace_Calls.l0 : Nat → Int → List (S37) → Int → Int → Option (Int)
  | 0, _, _, _, _ => none
  | k + 1, x3, x6, x7, x8 => if x8 < x7 then (if 0 ≤ x8 then (if x8 < (x6.length : Int) then ((trace_Event_counts.f k ((rd_T37 x6 x8).f0) ((rd_T37 x6 x8).f1) ((rd_T37 x6 x8).f2) ((rd_T37 x6 x8).f3)).bind fun t181 => (if t181 = true then (trace_Calls.l0 k (wrap64 (x3 + 1)) x6 x7 (wrap64 (x8 + 1))) else ((trace_among.f k ((rd_T37 x6 x8).f1) (([(⟨#[99, 108, 101, 97, 110]⟩ : ByteArray), (⟨#[100, 101, 108, 101, 116, 101]⟩ : ByteArray)] : List ByteArray))).bind fun t185 => (if t185 = true then (trace_Calls.l0 k (wrap64 (x3 + 1)) x6 x7 (wrap64 (x8 + 1))) else (trace_Calls.l0 k x3 x6 x7 (wrap64 (x8 + 1))))))) else (none)) else (none)) else (some x3)
def trace_Calls.f (k : Nat) (l0 : List (S37)) : Option (Int) := trace_Calls.l0 k 0 l0 (l0.length : Int) 0
theorem trace_Calls.mono_l : ∀ k, (∀ y0 y1 y2 y3, LeO (trace_Calls.l0 k y0 y1 y2 y3) (trace_Calls.l0 (k + 1) y0 y1 y2 y3))
  | 0 => fun _ _ _ _ r h => by simp [trace_Calls.l0] at h
  | k + 1 => by
    have ih0 := trace_Calls.mono_l k
    · intro y0 y1 y2 y3
      unfold trace_Calls.l0
      repeat' first
      | (with_reducible exact ih0 _ _ _ _)
      | (with_reducible exact trace_Event_counts.mono _ _ _ _ _)
      | (with_reducible exact trace_among.mono _ _ _)
      | (with_reducible exact LeO.refl _)
      | (with_reducible exact LeO.none _)
      | (with_reducible refine LeO.ite ?_ ?_)
      | (with_reducible refine LeO.bind ?_ (fun _ => ?_))
      | exact ih0 _ _ _ _
      | exact trace_Event_counts.mono _ _ _ _ _
      | exact trace_among.mono _ _ _
      | exact LeO.none _
      | refine LeO.ite ?_ ?_
      | refine LeO.bind ?_ (fun _ => ?_)
theorem trace_Calls.mono : ∀ a0 k, LeO (trace_Calls.f k a0) (trace_Calls.f (k + 1) a0) := by
  intro a0 k
  have ih0 := trace_Calls.mono_l k
  unfold trace_Calls.f
  repeat' first
      | (with_reducible exact ih0 _ _ _ _)
      | (with_reducible exact trace_Event_counts.mono _ _ _ _ _)
      | (with_reducible exact trace_among.mono _ _ _)
      | (with_reducible exact LeO.refl _)
      | (with_reducible exact LeO.none _)
      | (with_reducible refine LeO.ite ?_ ?_)
      | (with_reducible refine LeO.bind ?_ (fun _ => ?_))
      | exact ih0 _ _ _ _
      | exact trace_Event_counts.mono _ _ _ _ _
      | exact trace_among.mono _ _ _
      | exact LeO.none _
      | refine LeO.ite ?_ ?_
      | refine LeO.bind ?_ (fun _ => ?_)
set_option maxHeartbeats 8000000 in
set_option maxRecDepth 100000 in
theorem trace_Calls.calls (k : Nat) (A0 : Option Addr) (c0 : Nat) (l0 : List (S37)) (r : Int) (w : World) (hr0 : Kd.C k37 w A0 l0.length l0) (hc0 : l0.length ≤ c0) (h : trace_Calls.f k l0 = some r) :
    Calls Try.prog 18 #[.slice A0 l0.length c0] w fun e w' => e = .returned (.int .i64 r) ∧ Below w.heap.size w w' := by
  have hu37 := Try.underlying37
  have HR0 := Aside0.mk hr0
  have HC0 := Aside0.mk hc0
  clear hr0 hc0
  have HB := Aside0.mk (Below.refl w.heap.size w)
  have H : (trace_Calls.l0 k 0 l0 (l0.length : Int) 0) = some r := h
  clear h
  have H' := Aside0.mk H
  clear H
  go_enter Try.func18, Try.ntmps18
  go_wp2
  go_loopg [3, 8] k (fun kq v3 v8 w' => ∃ (x3_1 : Int) (x8_1 : Int), v3 = .int .i64 x3_1 ∧ v8 = .int .i64 x8_1 ∧ Aside0 (trace_Calls.l0 kq x3_1 l0 (l0.length : Int) x8_1 = some r) ∧ Aside0 (kq ≤ k) ∧ Aside0 (Below w.heap.size w w'))
  case atStart => exact ⟨(0), (0), (by first | rfl | (simp; done) | (simp [*]; done)), (by first | rfl | (simp; done) | (simp [*]; done)), H', ⟨Nat.le_refl _⟩, ⟨by repeat (first | (with_reducible first | exact HB.out | apply below_alloc | apply pw_below_drewN | apply below_drew1) | exact HB.out)⟩⟩
  case round =>
    clear H'
    try clear c1
    obtain ⟨x3_1, x8_1, rfl, rfl, HA, HK1, HB⟩ := hrel
    cases gk with
    | zero => exact absurd HA.out (by simp [trace_Calls.l0])
    | succ k1 =>
      have H := HA.out
      clear HA
      simp only [trace_Calls.l0] at H
      by_cases c2 : x8_1 < (l0.length : Int)
      · rw [if_pos c2] at H
        have c2b0 : decide (x8_1 < (l0.length : Int)) = true := decide_eq_true c2
        clear c2
        by_cases c3 : 0 ≤ x8_1
        · rw [if_pos c3] at H
          have c3b0 : decide (0 ≤ x8_1) = true := decide_eq_true c3
          clear c3
          by_cases c4 : x8_1 < (l0.length : Int)
          · rw [if_pos c4] at H
            have c4b0 : decide (x8_1 < (l0.length : Int)) = true := decide_eq_true c4
            clear c4
            replace H := Option.bind_eq_some_iff.mp H
            obtain ⟨t181, A50, H⟩ := H
            replace H : (if t181 = true then (trace_Calls.l0 k1 (wrap64 (x3_1 + 1)) l0 (l0.length : Int) (wrap64 (x8_1 + 1))) else ((trace_among.f k1 ((rd_T37 l0 x8_1).f1) (([(⟨#[99, 108, 101, 97, 110]⟩ : ByteArray), (⟨#[100, 101, 108, 101, 116, 101]⟩ : ByteArray)] : List ByteArray))).bind fun t185 => (if t185 = true then (trace_Calls.l0 k1 (wrap64 (x3_1 + 1)) l0 (l0.length : Int) (wrap64 (x8_1 + 1))) else (trace_Calls.l0 k1 x3_1 l0 (l0.length : Int) (wrap64 (x8_1 + 1)))))) = some r := H
            have A5 := Aside0.mk A50
            clear A50
            by_cases c6 : t181 = true
            · subst c6
              have H1 : (trace_Calls.l0 k1 (wrap64 (x3_1 + 1)) l0 (l0.length : Int) (wrap64 (x8_1 + 1))) = some r := by rw [if_pos rfl] at H; exact H
              clear H
              have H := H1
              clear H1
              have H' := Aside0.mk H
              clear H
              have p179 : 0 ≤ (x8_1 : Int) := of_decide_eq_true (by first | (with_reducible assumption) | assumption)
              have q179 : x8_1 < (l0.length : Int) := of_decide_eq_true (by first | (with_reducible assumption) | assumption)
              obtain ⟨ad179, e179, hx179_0, hx179_1, hx179_2, hx179_3⟩ := at_T37 HR0.out x8_1 p179 q179
              cases e179
              replace hx179_0 := (HB.out.cell (World.block_lt_of_cell? w _ hx179_0)).trans hx179_0
              replace hx179_1 := (HB.out.cell (World.block_lt_of_cell? w _ hx179_1)).trans hx179_1
              replace hx179_2 := (HB.out.cell (World.block_lt_of_cell? w _ hx179_2)).trans hx179_2
              replace hx179_3 := (HB.out.cell (World.block_lt_of_cell? w _ hx179_3)).trans hx179_3
              replace p179 := eq_true p179
              replace q179 := eq_true q179
              (try (have qz179 := q179; rw [ByteArray.size_extract, Nat.min_self] at qz179))
              go_wp2_with (first | ((with_reducible refine gate_dst (N := 5) rfl ?_); (try (refine gate_guard (by rfl) ?_; dsimp only)); refine box_event ?hg (N := 5) ?hd (cs := #[.int .i64 0, .string (⟨#[]⟩ : ByteArray), .string (⟨#[]⟩ : ByteArray), .int .i64 0]) (t := 37) ?hr ?_; (case hd => rfl); (case hg => rfl); (case hr => first | (go_simp; done) | (go_simp; rfl)); intro gb180 hg w7 hbox hb; have n0_ := Aside0.mk (below_step (by repeat (first | (with_reducible first | exact HB.out | apply below_alloc | apply pw_below_drewN | apply below_drew1) | exact HB.out)) hb); have n1_ := Aside0.mk (hbox); have n2_ := Aside0.mk ((by rw [hg]; exact (below_size (by repeat (first | (with_reducible first | exact HB.out | apply below_alloc | apply pw_below_drewN | apply below_drew1) | exact HB.out))) : w.heap.size ≤ gb180)); have n3_ := Aside0.mk ((by rw [hg]; exact (below_size (by repeat (first | (with_reducible first | exact HB.out | apply below_alloc | apply pw_below_drewN | apply below_drew1) | exact HB.out))) : w.heap.size ≤ gb180)); clear HB; have HB := n0_; have BK180 := n1_; have GW180 := n2_; have GE180 := n3_; clear n0_ n1_ n2_ n3_; clear hb hbox hg; have hcz8_0 : w7.cell? ⟨gb180, 0, none⟩ = some (.int .i64 0) := (blk_cell BK180.out 0).trans rfl; have hcz8_1 : w7.cell? ⟨gb180, 1, none⟩ = some (.string (⟨#[]⟩ : ByteArray)) := (blk_cell BK180.out 1).trans rfl; have hcz8_2 : w7.cell? ⟨gb180, 2, none⟩ = some (.string (⟨#[]⟩ : ByteArray)) := (blk_cell BK180.out 2).trans rfl; have hcz8_3 : w7.cell? ⟨gb180, 3, none⟩ = some (.int .i64 0) := (blk_cell BK180.out 3).trans rfl; have hfz8_0 := blk_frozen BK180.out 0; have hfz8_1 := blk_frozen BK180.out 1; have hfz8_2 := blk_frozen BK180.out 2; have hfz8_3 := blk_frozen BK180.out 3) | ((first | ((with_reducible refine gate_callee (f := 27) rfl ?_); refine goesL_ (some 13) rfl rfl Try.func27 (by kernel_rfl) rfl #[.agg #[.int .i64 ((rd_T37 l0 x8_1).f0), .string ((rd_T37 l0 x8_1).f1), .string ((rd_T37 l0 x8_1).f2), .int .i64 ((rd_T37 l0 x8_1).f3)]] rfl (by (try simp only [List.map_toArray, List.map_cons, List.map_nil]); first | done | rfl | (simp only [List.length_drop, List.length_take]; rfl)) ?_; (with_reducible refine (trace_Event_counts.calls k1 ((rd_T37 l0 x8_1).f0) ((rd_T37 l0 x8_1).f1) ((rd_T37 l0 x8_1).f2) ((rd_T37 l0 x8_1).f3) true _ A5.out).mono ?_); rintro e w9 ⟨rfl, hb⟩; refine ⟨_, rfl, ?_⟩) | (go_at_call 27; (with_reducible refine (trace_Event_counts.calls k1 ((rd_T37 l0 x8_1).f0) ((rd_T37 l0 x8_1).f1) ((rd_T37 l0 x8_1).f2) ((rd_T37 l0 x8_1).f3) true _ A5.out).mono ?_); rintro e w9 ⟨rfl, hb⟩)); have n0_ := Aside0.mk (blk_below (g := gb180) (o := .cells #[.int .i64 ((rd_T37 l0 x8_1).f0), .string ((rd_T37 l0 x8_1).f1), .string ((rd_T37 l0 x8_1).f2), .int .i64 ((rd_T37 l0 x8_1).f3)] 37 (0, 0)) (by (with_reducible repeat (first | refine blk_drewN ?_ _ | refine blk_drew ?_ | refine blk_alloc ?_ _)); refine blk_put (cs := #[.int .i64 ((rd_T37 l0 x8_1).f0), .string ((rd_T37 l0 x8_1).f1), .string ((rd_T37 l0 x8_1).f2), .int .i64 0]) ?_ 3 _ rfl; (with_reducible repeat (first | refine blk_drewN ?_ _ | refine blk_drew ?_ | refine blk_alloc ?_ _)); refine blk_put (cs := #[.int .i64 ((rd_T37 l0 x8_1).f0), .string ((rd_T37 l0 x8_1).f1), .string (⟨#[]⟩ : ByteArray), .int .i64 0]) ?_ 2 _ rfl; (with_reducible repeat (first | refine blk_drewN ?_ _ | refine blk_drew ?_ | refine blk_alloc ?_ _)); refine blk_put (cs := #[.int .i64 ((rd_T37 l0 x8_1).f0), .string (⟨#[]⟩ : ByteArray), .string (⟨#[]⟩ : ByteArray), .int .i64 0]) ?_ 1 _ rfl; (with_reducible repeat (first | refine blk_drewN ?_ _ | refine blk_drew ?_ | refine blk_alloc ?_ _)); refine blk_put (cs := #[.int .i64 0, .string (⟨#[]⟩ : ByteArray), .string (⟨#[]⟩ : ByteArray), .int .i64 0]) ?_ 0 _ rfl; (with_reducible repeat (first | refine blk_drewN ?_ _ | refine blk_drew ?_ | refine blk_alloc ?_ _)); exact BK180.out) hb); have n1_ := Aside0.mk (below_step (by repeat (first | (with_reducible first | exact HB.out | apply below_alloc | apply pw_below_drewN | apply below_drew1 | refine below_set ?_ GE180.out) | exact HB.out)) hb); clear BK180; clear HB; have BK180 := n0_; have HB := n1_; clear n0_ n1_; (try clear hb); (try clear hb2); (try clear hk); (try clear hi)))
              go_roundg k1
              case measure => have := HK1.out; omega
              case rel => exact ⟨(wrap64 (x3_1 + 1)), (wrap64 (x8_1 + 1)), (by first | rfl | (simp; done) | (simp [*]; done)), (by first | rfl | (simp; done) | (simp [*]; done)), H', ⟨by have := HK1.out; omega⟩, ⟨by repeat (first | (with_reducible first | exact HB.out | apply below_alloc | apply pw_below_drewN | apply below_drew1 | refine below_set ?_ GE180.out) | exact HB.out)⟩⟩
            · replace c6 := Bool.eq_false_iff.mpr c6
              subst c6
              have H1 : ((trace_among.f k1 ((rd_T37 l0 x8_1).f1) (([(⟨#[99, 108, 101, 97, 110]⟩ : ByteArray), (⟨#[100, 101, 108, 101, 116, 101]⟩ : ByteArray)] : List ByteArray))).bind fun t185 => (if t185 = true then (trace_Calls.l0 k1 (wrap64 (x3_1 + 1)) l0 (l0.length : Int) (wrap64 (x8_1 + 1))) else (trace_Calls.l0 k1 x3_1 l0 (l0.length : Int) (wrap64 (x8_1 + 1))))) = some r := by rw [if_neg (show ¬ (false = true) by decide)] at H; exact H
              clear H
              have H := H1
              clear H1
              obtain ⟨y182, hy182⟩ : ∃ y_ : List ByteArray, y_ = (([(⟨#[99, 108, 101, 97, 110]⟩ : ByteArray), (⟨#[100, 101, 108, 101, 116, 101]⟩ : ByteArray)] : List ByteArray)) := ⟨_, rfl⟩
              replace H : ((trace_among.f k1 ((rd_T37 l0 x8_1).f1) y182).bind fun t185 => (if t185 = true then (trace_Calls.l0 k1 (wrap64 (x3_1 + 1)) l0 (l0.length : Int) (wrap64 (x8_1 + 1))) else (trace_Calls.l0 k1 x3_1 l0 (l0.length : Int) (wrap64 (x8_1 + 1))))) = some r := by first | (rw [hy182]; with_reducible exact H) | (have H2_ := (Option.bind_some _ _).symm.trans H; rw [hy182]; with_reducible exact H2_) | (have H2_ := (Option.bind_some _ _).symm.trans H; with_reducible exact H2_) | with_reducible exact H | (rw [hy182]; exact H) | exact H
              have Ny182 := Aside0.mk hy182
              clear hy182
              replace H := Option.bind_eq_some_iff.mp H
              obtain ⟨t185, A100, H⟩ := H
              replace H : (if t185 = true then (trace_Calls.l0 k1 (wrap64 (x3_1 + 1)) l0 (l0.length : Int) (wrap64 (x8_1 + 1))) else (trace_Calls.l0 k1 x3_1 l0 (l0.length : Int) (wrap64 (x8_1 + 1)))) = some r := H
              have A10 := Aside0.mk A100
              clear A100
              by_cases c11 : t185 = true
              · subst c11
                have H1 : (trace_Calls.l0 k1 (wrap64 (x3_1 + 1)) l0 (l0.length : Int) (wrap64 (x8_1 + 1))) = some r := by rw [if_pos rfl] at H; exact H
                clear H
                have H := H1
                clear H1
                have H' := Aside0.mk H
                clear H
                have p179 : 0 ≤ (x8_1 : Int) := of_decide_eq_true (by first | (with_reducible assumption) | assumption)
                have q179 : x8_1 < (l0.length : Int) := of_decide_eq_true (by first | (with_reducible assumption) | assumption)
                obtain ⟨ad179, e179, hx179_0, hx179_1, hx179_2, hx179_3⟩ := at_T37 HR0.out x8_1 p179 q179
                cases e179
                replace hx179_0 := (HB.out.cell (World.block_lt_of_cell? w _ hx179_0)).trans hx179_0
                replace hx179_1 := (HB.out.cell (World.block_lt_of_cell? w _ hx179_1)).trans hx179_1
                replace hx179_2 := (HB.out.cell (World.block_lt_of_cell? w _ hx179_2)).trans hx179_2
                replace hx179_3 := (HB.out.cell (World.block_lt_of_cell? w _ hx179_3)).trans hx179_3
                replace p179 := eq_true p179
                replace q179 := eq_true q179
                (try (have qz179 := q179; rw [ByteArray.size_extract, Nat.min_self] at qz179))
                go_wp2_with (first | ((with_reducible refine gate_dst (N := 5) rfl ?_); (try (refine gate_guard (by rfl) ?_; dsimp only)); refine box_event ?hg (N := 5) ?hd (cs := #[.int .i64 0, .string (⟨#[]⟩ : ByteArray), .string (⟨#[]⟩ : ByteArray), .int .i64 0]) (t := 37) ?hr ?_; (case hd => rfl); (case hg => rfl); (case hr => first | (go_simp; done) | (go_simp; rfl)); intro gb180 hg w12 hbox hb; have n0_ := Aside0.mk (below_step (by repeat (first | (with_reducible first | exact HB.out | apply below_alloc | apply pw_below_drewN | apply below_drew1) | exact HB.out)) hb); have n1_ := Aside0.mk (hbox); have n2_ := Aside0.mk ((by rw [hg]; exact (below_size (by repeat (first | (with_reducible first | exact HB.out | apply below_alloc | apply pw_below_drewN | apply below_drew1) | exact HB.out))) : w.heap.size ≤ gb180)); have n3_ := Aside0.mk ((by rw [hg]; exact (below_size (by repeat (first | (with_reducible first | exact HB.out | apply below_alloc | apply pw_below_drewN | apply below_drew1) | exact HB.out))) : w.heap.size ≤ gb180)); clear HB; have HB := n0_; have BK180 := n1_; have GW180 := n2_; have GE180 := n3_; clear n0_ n1_ n2_ n3_; clear hb hbox hg; have hcz13_0 : w12.cell? ⟨gb180, 0, none⟩ = some (.int .i64 0) := (blk_cell BK180.out 0).trans rfl; have hcz13_1 : w12.cell? ⟨gb180, 1, none⟩ = some (.string (⟨#[]⟩ : ByteArray)) := (blk_cell BK180.out 1).trans rfl; have hcz13_2 : w12.cell? ⟨gb180, 2, none⟩ = some (.string (⟨#[]⟩ : ByteArray)) := (blk_cell BK180.out 2).trans rfl; have hcz13_3 : w12.cell? ⟨gb180, 3, none⟩ = some (.int .i64 0) := (blk_cell BK180.out 3).trans rfl; have hfz13_0 := blk_frozen BK180.out 0; have hfz13_1 := blk_frozen BK180.out 1; have hfz13_2 := blk_frozen BK180.out 2; have hfz13_3 := blk_frozen BK180.out 3) | ((first | ((with_reducible refine gate_callee (f := 27) rfl ?_); refine goesL_ (some 13) rfl rfl Try.func27 (by kernel_rfl) rfl #[.agg #[.int .i64 ((rd_T37 l0 x8_1).f0), .string ((rd_T37 l0 x8_1).f1), .string ((rd_T37 l0 x8_1).f2), .int .i64 ((rd_T37 l0 x8_1).f3)]] rfl (by (try simp only [List.map_toArray, List.map_cons, List.map_nil]); first | done | rfl | (simp only [List.length_drop, List.length_take]; rfl)) ?_; (with_reducible refine (trace_Event_counts.calls k1 ((rd_T37 l0 x8_1).f0) ((rd_T37 l0 x8_1).f1) ((rd_T37 l0 x8_1).f2) ((rd_T37 l0 x8_1).f3) false _ A5.out).mono ?_); rintro e w14 ⟨rfl, hb⟩; refine ⟨_, rfl, ?_⟩) | (go_at_call 27; (with_reducible refine (trace_Event_counts.calls k1 ((rd_T37 l0 x8_1).f0) ((rd_T37 l0 x8_1).f1) ((rd_T37 l0 x8_1).f2) ((rd_T37 l0 x8_1).f3) false _ A5.out).mono ?_); rintro e w14 ⟨rfl, hb⟩)); have n0_ := Aside0.mk (blk_below (g := gb180) (o := .cells #[.int .i64 ((rd_T37 l0 x8_1).f0), .string ((rd_T37 l0 x8_1).f1), .string ((rd_T37 l0 x8_1).f2), .int .i64 ((rd_T37 l0 x8_1).f3)] 37 (0, 0)) (by (with_reducible repeat (first | refine blk_drewN ?_ _ | refine blk_drew ?_ | refine blk_alloc ?_ _)); refine blk_put (cs := #[.int .i64 ((rd_T37 l0 x8_1).f0), .string ((rd_T37 l0 x8_1).f1), .string ((rd_T37 l0 x8_1).f2), .int .i64 0]) ?_ 3 _ rfl; (with_reducible repeat (first | refine blk_drewN ?_ _ | refine blk_drew ?_ | refine blk_alloc ?_ _)); refine blk_put (cs := #[.int .i64 ((rd_T37 l0 x8_1).f0), .string ((rd_T37 l0 x8_1).f1), .string (⟨#[]⟩ : ByteArray), .int .i64 0]) ?_ 2 _ rfl; (with_reducible repeat (first | refine blk_drewN ?_ _ | refine blk_drew ?_ | refine blk_alloc ?_ _)); refine blk_put (cs := #[.int .i64 ((rd_T37 l0 x8_1).f0), .string (⟨#[]⟩ : ByteArray), .string (⟨#[]⟩ : ByteArray), .int .i64 0]) ?_ 1 _ rfl; (with_reducible repeat (first | refine blk_drewN ?_ _ | refine blk_drew ?_ | refine blk_alloc ?_ _)); refine blk_put (cs := #[.int .i64 0, .string (⟨#[]⟩ : ByteArray), .string (⟨#[]⟩ : ByteArray), .int .i64 0]) ?_ 0 _ rfl; (with_reducible repeat (first | refine blk_drewN ?_ _ | refine blk_drew ?_ | refine blk_alloc ?_ _)); exact BK180.out) hb); have n1_ := Aside0.mk (below_step (by repeat (first | (with_reducible first | exact HB.out | apply below_alloc | apply pw_below_drewN | apply below_drew1 | refine below_set ?_ GE180.out) | exact HB.out)) hb); clear BK180; clear HB; have BK180 := n0_; have HB := n1_; clear n0_ n1_; (try clear hb); (try clear hb2); (try clear hk); (try clear hi); have hcz15_0 : w14.cell? ⟨gb180, 0, none⟩ = some (.int .i64 ((rd_T37 l0 x8_1).f0)) := (blk_cell BK180.out 0).trans rfl; have hcz15_1 : w14.cell? ⟨gb180, 1, none⟩ = some (.string ((rd_T37 l0 x8_1).f1)) := (blk_cell BK180.out 1).trans rfl; have hcz15_2 : w14.cell? ⟨gb180, 2, none⟩ = some (.string ((rd_T37 l0 x8_1).f2)) := (blk_cell BK180.out 2).trans rfl; have hcz15_3 : w14.cell? ⟨gb180, 3, none⟩ = some (.int .i64 ((rd_T37 l0 x8_1).f3)) := (blk_cell BK180.out 3).trans rfl; have hfz15_0 := blk_frozen BK180.out 0; have hfz15_1 := blk_frozen BK180.out 1; have hfz15_2 := blk_frozen BK180.out 2; have hfz15_3 := blk_frozen BK180.out 3) | ((with_reducible refine gate_dst (N := 17) rfl ?_); (try (refine gate_guard (by rfl) ?_; dsimp only)); refine Kd.R_lit Kd.string _ 9 ?hg (N := 17) ?hd (xs := ([(⟨#[99, 108, 101, 97, 110]⟩ : ByteArray), (⟨#[100, 101, 108, 101, 116, 101]⟩ : ByteArray)] : List ByteArray)) (inner := [.string (⟨#[99, 108, 101, 97, 110]⟩ : ByteArray), .string (⟨#[100, 101, 108, 101, 116, 101]⟩ : ByteArray)]) (ok := fun _ => True) (okp := fun _ => True) ?hr ?hp (fun _ hk => hk) trivial (Below.refl _ _) (Nat.le_refl _) (by simp) ?_; (case hd => rfl); (case hg => rfl); (case hr => first | (go_simp; done) | (go_simp; rfl)); (case hp => exact (Reps.one (show Kd.M Kd.string _ _ _ (⟨#[99, 108, 101, 97, 110]⟩ : ByteArray) [.string (⟨#[99, 108, 101, 97, 110]⟩ : ByteArray)] from rfl) (Reps.one (show Kd.M Kd.string _ _ _ (⟨#[100, 101, 108, 101, 116, 101]⟩ : ByteArray) [.string (⟨#[100, 101, 108, 101, 116, 101]⟩ : ByteArray)] from rfl) (Reps.none _ _)))); intro v183 w16 ho17 hb hg_ hnew_; clear hg_ hnew_; (first | rw [← Ny182.out] at ho17 | (simp only [Int.reduceToNat] at ho17; rw [← Ny182.out] at ho17)); have n0_ := Aside0.mk (Kd.R_lower ho17 (below_size (by repeat (first | (with_reducible first | exact HB.out | apply below_alloc | apply pw_below_drewN | apply below_drew1 | refine below_set ?_ GE180.out) | exact HB.out)))); have n1_ := Aside0.mk (blk_below (g := gb180) (o := .cells #[.int .i64 ((rd_T37 l0 x8_1).f0), .string ((rd_T37 l0 x8_1).f1), .string ((rd_T37 l0 x8_1).f2), .int .i64 ((rd_T37 l0 x8_1).f3)] 37 (0, 0)) (by (with_reducible repeat (first | refine blk_drewN ?_ _ | refine blk_drew ?_ | refine blk_alloc ?_ _)); exact BK180.out) hb); have n2_ := Aside0.mk (below_step (by repeat (first | (with_reducible first | exact HB.out | apply below_alloc | apply pw_below_drewN | apply below_drew1 | refine below_set ?_ GE180.out) | exact HB.out)) hb); clear BK180; clear HB; have HO184 := n0_; have BK180 := n1_; have HB := n2_; clear n0_ n1_ n2_; clear hb ho17; obtain ⟨Ao18, co18, eo18⟩ := Kd.R_slice HO184.out; subst eo18) | (go_at_call 35; (with_reducible refine (trace_among.calls k1 ((rd_T37 l0 x8_1).f1) _ _ y182 true _ ?side1 ?side2 A10.out).mono ?_); (case side1 => repeat (first | exact (Kd.R_reads' HO184.out).2.2 | (with_reducible refine Kd.C_alloc ?_ _) | (with_reducible refine Kd.C_drewN ?_ _) | (with_reducible refine Kd.C_drew ?_))); (case side2 => exact (Kd.R_reads' HO184.out).2.1); rintro e w' ⟨rfl, ⟨nd, rfl⟩⟩))
                go_roundg k1
                case measure => have := HK1.out; omega
                case rel => exact ⟨(wrap64 (x3_1 + 1)), (wrap64 (x8_1 + 1)), (by first | rfl | (simp; done) | (simp [*]; done)), (by first | rfl | (simp; done) | (simp [*]; done)), H', ⟨by have := HK1.out; omega⟩, ⟨by repeat (first | (with_reducible first | exact HB.out | apply below_alloc | apply pw_below_drewN | apply below_drew1 | refine below_set ?_ GE180.out) | exact HB.out)⟩⟩
              · replace c11 := Bool.eq_false_iff.mpr c11
                subst c11
                have H1 : (trace_Calls.l0 k1 x3_1 l0 (l0.length : Int) (wrap64 (x8_1 + 1))) = some r := by rw [if_neg (show ¬ (false = true) by decide)] at H; exact H
                clear H
                have H := H1
                clear H1
                have H' := Aside0.mk H
                clear H
                have p179 : 0 ≤ (x8_1 : Int) := of_decide_eq_true (by first | (with_reducible assumption) | assumption)
                have q179 : x8_1 < (l0.length : Int) := of_decide_eq_true (by first | (with_reducible assumption) | assumption)
                obtain ⟨ad179, e179, hx179_0, hx179_1, hx179_2, hx179_3⟩ := at_T37 HR0.out x8_1 p179 q179
                cases e179
                replace hx179_0 := (HB.out.cell (World.block_lt_of_cell? w _ hx179_0)).trans hx179_0
                replace hx179_1 := (HB.out.cell (World.block_lt_of_cell? w _ hx179_1)).trans hx179_1
                replace hx179_2 := (HB.out.cell (World.block_lt_of_cell? w _ hx179_2)).trans hx179_2
                replace hx179_3 := (HB.out.cell (World.block_lt_of_cell? w _ hx179_3)).trans hx179_3
                replace p179 := eq_true p179
                replace q179 := eq_true q179
                (try (have qz179 := q179; rw [ByteArray.size_extract, Nat.min_self] at qz179))
                go_wp2_with (first | ((with_reducible refine gate_dst (N := 5) rfl ?_); (try (refine gate_guard (by rfl) ?_; dsimp only)); refine box_event ?hg (N := 5) ?hd (cs := #[.int .i64 0, .string (⟨#[]⟩ : ByteArray), .string (⟨#[]⟩ : ByteArray), .int .i64 0]) (t := 37) ?hr ?_; (case hd => rfl); (case hg => rfl); (case hr => first | (go_simp; done) | (go_simp; rfl)); intro gb180 hg w19 hbox hb; have n0_ := Aside0.mk (below_step (by repeat (first | (with_reducible first | exact HB.out | apply below_alloc | apply pw_below_drewN | apply below_drew1) | exact HB.out)) hb); have n1_ := Aside0.mk (hbox); have n2_ := Aside0.mk ((by rw [hg]; exact (below_size (by repeat (first | (with_reducible first | exact HB.out | apply below_alloc | apply pw_below_drewN | apply below_drew1) | exact HB.out))) : w.heap.size ≤ gb180)); have n3_ := Aside0.mk ((by rw [hg]; exact (below_size (by repeat (first | (with_reducible first | exact HB.out | apply below_alloc | apply pw_below_drewN | apply below_drew1) | exact HB.out))) : w.heap.size ≤ gb180)); clear HB; have HB := n0_; have BK180 := n1_; have GW180 := n2_; have GE180 := n3_; clear n0_ n1_ n2_ n3_; clear hb hbox hg; have hcz20_0 : w19.cell? ⟨gb180, 0, none⟩ = some (.int .i64 0) := (blk_cell BK180.out 0).trans rfl; have hcz20_1 : w19.cell? ⟨gb180, 1, none⟩ = some (.string (⟨#[]⟩ : ByteArray)) := (blk_cell BK180.out 1).trans rfl; have hcz20_2 : w19.cell? ⟨gb180, 2, none⟩ = some (.string (⟨#[]⟩ : ByteArray)) := (blk_cell BK180.out 2).trans rfl; have hcz20_3 : w19.cell? ⟨gb180, 3, none⟩ = some (.int .i64 0) := (blk_cell BK180.out 3).trans rfl; have hfz20_0 := blk_frozen BK180.out 0; have hfz20_1 := blk_frozen BK180.out 1; have hfz20_2 := blk_frozen BK180.out 2; have hfz20_3 := blk_frozen BK180.out 3) | ((first | ((with_reducible refine gate_callee (f := 27) rfl ?_); refine goesL_ (some 13) rfl rfl Try.func27 (by kernel_rfl) rfl #[.agg #[.int .i64 ((rd_T37 l0 x8_1).f0), .string ((rd_T37 l0 x8_1).f1), .string ((rd_T37 l0 x8_1).f2), .int .i64 ((rd_T37 l0 x8_1).f3)]] rfl (by (try simp only [List.map_toArray, List.map_cons, List.map_nil]); first | done | rfl | (simp only [List.length_drop, List.length_take]; rfl)) ?_; (with_reducible refine (trace_Event_counts.calls k1 ((rd_T37 l0 x8_1).f0) ((rd_T37 l0 x8_1).f1) ((rd_T37 l0 x8_1).f2) ((rd_T37 l0 x8_1).f3) false _ A5.out).mono ?_); rintro e w21 ⟨rfl, hb⟩; refine ⟨_, rfl, ?_⟩) | (go_at_call 27; (with_reducible refine (trace_Event_counts.calls k1 ((rd_T37 l0 x8_1).f0) ((rd_T37 l0 x8_1).f1) ((rd_T37 l0 x8_1).f2) ((rd_T37 l0 x8_1).f3) false _ A5.out).mono ?_); rintro e w21 ⟨rfl, hb⟩)); have n0_ := Aside0.mk (blk_below (g := gb180) (o := .cells #[.int .i64 ((rd_T37 l0 x8_1).f0), .string ((rd_T37 l0 x8_1).f1), .string ((rd_T37 l0 x8_1).f2), .int .i64 ((rd_T37 l0 x8_1).f3)] 37 (0, 0)) (by (with_reducible repeat (first | refine blk_drewN ?_ _ | refine blk_drew ?_ | refine blk_alloc ?_ _)); refine blk_put (cs := #[.int .i64 ((rd_T37 l0 x8_1).f0), .string ((rd_T37 l0 x8_1).f1), .string ((rd_T37 l0 x8_1).f2), .int .i64 0]) ?_ 3 _ rfl; (with_reducible repeat (first | refine blk_drewN ?_ _ | refine blk_drew ?_ | refine blk_alloc ?_ _)); refine blk_put (cs := #[.int .i64 ((rd_T37 l0 x8_1).f0), .string ((rd_T37 l0 x8_1).f1), .string (⟨#[]⟩ : ByteArray), .int .i64 0]) ?_ 2 _ rfl; (with_reducible repeat (first | refine blk_drewN ?_ _ | refine blk_drew ?_ | refine blk_alloc ?_ _)); refine blk_put (cs := #[.int .i64 ((rd_T37 l0 x8_1).f0), .string (⟨#[]⟩ : ByteArray), .string (⟨#[]⟩ : ByteArray), .int .i64 0]) ?_ 1 _ rfl; (with_reducible repeat (first | refine blk_drewN ?_ _ | refine blk_drew ?_ | refine blk_alloc ?_ _)); refine blk_put (cs := #[.int .i64 0, .string (⟨#[]⟩ : ByteArray), .string (⟨#[]⟩ : ByteArray), .int .i64 0]) ?_ 0 _ rfl; (with_reducible repeat (first | refine blk_drewN ?_ _ | refine blk_drew ?_ | refine blk_alloc ?_ _)); exact BK180.out) hb); have n1_ := Aside0.mk (below_step (by repeat (first | (with_reducible first | exact HB.out | apply below_alloc | apply pw_below_drewN | apply below_drew1 | refine below_set ?_ GE180.out) | exact HB.out)) hb); clear BK180; clear HB; have BK180 := n0_; have HB := n1_; clear n0_ n1_; (try clear hb); (try clear hb2); (try clear hk); (try clear hi); have hcz22_0 : w21.cell? ⟨gb180, 0, none⟩ = some (.int .i64 ((rd_T37 l0 x8_1).f0)) := (blk_cell BK180.out 0).trans rfl; have hcz22_1 : w21.cell? ⟨gb180, 1, none⟩ = some (.string ((rd_T37 l0 x8_1).f1)) := (blk_cell BK180.out 1).trans rfl; have hcz22_2 : w21.cell? ⟨gb180, 2, none⟩ = some (.string ((rd_T37 l0 x8_1).f2)) := (blk_cell BK180.out 2).trans rfl; have hcz22_3 : w21.cell? ⟨gb180, 3, none⟩ = some (.int .i64 ((rd_T37 l0 x8_1).f3)) := (blk_cell BK180.out 3).trans rfl; have hfz22_0 := blk_frozen BK180.out 0; have hfz22_1 := blk_frozen BK180.out 1; have hfz22_2 := blk_frozen BK180.out 2; have hfz22_3 := blk_frozen BK180.out 3) | ((with_reducible refine gate_dst (N := 17) rfl ?_); (try (refine gate_guard (by rfl) ?_; dsimp only)); refine Kd.R_lit Kd.string _ 9 ?hg (N := 17) ?hd (xs := ([(⟨#[99, 108, 101, 97, 110]⟩ : ByteArray), (⟨#[100, 101, 108, 101, 116, 101]⟩ : ByteArray)] : List ByteArray)) (inner := [.string (⟨#[99, 108, 101, 97, 110]⟩ : ByteArray), .string (⟨#[100, 101, 108, 101, 116, 101]⟩ : ByteArray)]) (ok := fun _ => True) (okp := fun _ => True) ?hr ?hp (fun _ hk => hk) trivial (Below.refl _ _) (Nat.le_refl _) (by simp) ?_; (case hd => rfl); (case hg => rfl); (case hr => first | (go_simp; done) | (go_simp; rfl)); (case hp => exact (Reps.one (show Kd.M Kd.string _ _ _ (⟨#[99, 108, 101, 97, 110]⟩ : ByteArray) [.string (⟨#[99, 108, 101, 97, 110]⟩ : ByteArray)] from rfl) (Reps.one (show Kd.M Kd.string _ _ _ (⟨#[100, 101, 108, 101, 116, 101]⟩ : ByteArray) [.string (⟨#[100, 101, 108, 101, 116, 101]⟩ : ByteArray)] from rfl) (Reps.none _ _)))); intro v183 w23 ho24 hb hg_ hnew_; clear hg_ hnew_; (first | rw [← Ny182.out] at ho24 | (simp only [Int.reduceToNat] at ho24; rw [← Ny182.out] at ho24)); have n0_ := Aside0.mk (Kd.R_lower ho24 (below_size (by repeat (first | (with_reducible first | exact HB.out | apply below_alloc | apply pw_below_drewN | apply below_drew1 | refine below_set ?_ GE180.out) | exact HB.out)))); have n1_ := Aside0.mk (blk_below (g := gb180) (o := .cells #[.int .i64 ((rd_T37 l0 x8_1).f0), .string ((rd_T37 l0 x8_1).f1), .string ((rd_T37 l0 x8_1).f2), .int .i64 ((rd_T37 l0 x8_1).f3)] 37 (0, 0)) (by (with_reducible repeat (first | refine blk_drewN ?_ _ | refine blk_drew ?_ | refine blk_alloc ?_ _)); exact BK180.out) hb); have n2_ := Aside0.mk (below_step (by repeat (first | (with_reducible first | exact HB.out | apply below_alloc | apply pw_below_drewN | apply below_drew1 | refine below_set ?_ GE180.out) | exact HB.out)) hb); clear BK180; clear HB; have HO184 := n0_; have BK180 := n1_; have HB := n2_; clear n0_ n1_ n2_; clear hb ho24; obtain ⟨Ao25, co25, eo25⟩ := Kd.R_slice HO184.out; subst eo25) | (go_at_call 35; (with_reducible refine (trace_among.calls k1 ((rd_T37 l0 x8_1).f1) _ _ y182 false _ ?side1 ?side2 A10.out).mono ?_); (case side1 => repeat (first | exact (Kd.R_reads' HO184.out).2.2 | (with_reducible refine Kd.C_alloc ?_ _) | (with_reducible refine Kd.C_drewN ?_ _) | (with_reducible refine Kd.C_drew ?_))); (case side2 => exact (Kd.R_reads' HO184.out).2.1); rintro e w' ⟨rfl, ⟨nd, rfl⟩⟩))
                go_roundg k1
                case measure => have := HK1.out; omega
                case rel => exact ⟨(x3_1), (wrap64 (x8_1 + 1)), (by first | rfl | (simp; done) | (simp [*]; done)), (by first | rfl | (simp; done) | (simp [*]; done)), H', ⟨by have := HK1.out; omega⟩, ⟨by repeat (first | (with_reducible first | exact HB.out | apply below_alloc | apply pw_below_drewN | apply below_drew1 | refine below_set ?_ GE180.out) | exact HB.out)⟩⟩
          · rw [if_neg c4] at H
            exact absurd H (by simp)
        · rw [if_neg c3] at H
          exact absurd H (by simp)
      · rw [if_neg c2] at H
        have c2b0 : decide (x8_1 < (l0.length : Int)) = false := decide_eq_false c2
        clear c2
        obtain rfl := Option.some.inj H
        go_wp2
        go_ret
        exact ⟨by first | rfl | (simp [errW_none, errW_some] <;> rfl) | (simp [*, errW_none, errW_some] <;> rfl), by repeat (first | (with_reducible first | exact HB.out | apply below_alloc | apply pw_below_drewN | apply below_drew1) | exact HB.out)⟩
end Go.Proofs.Ytngmcigkihfnkaa.H
end
section
namespace Go.Proofs.Ytngmcigkihfnkaa.H
open Go.RowKit Go.Proofs.YtngmcigkihfnkaaW.PrintWords Go.Proofs.YtngmcigkihfnkaaW.PrintLast Go.Proofs.YtngmcigkihfnkaaW.PrintMore
attribute [local go_sem] max2_int min2_int max_two min_two max_three min_three max_four min_four   -- for this text's walks alone
set_option linter.unusedVariables false
set_option linter.unusedSimpArgs false
/-- Block b is a map of at most n entries; it tells f of each key (0 of one that it hasn't). -/
structure MapSI (P : Program) (k e : TypeId) (w : World) (b n : Nat) (f : ByteArray → Int) : Prop where
  mk :: (out : ∃ D : DataW Unit, w.ownsMap P k (plainElem (H := Unit) P e) b n D ∧ Go.Maps.IsMap D ∧ ∀ s : ByteArray, s.size ≤ maxLen → D.atKey (.string s.data.toList) (.lit (.int .i64 0)) = .lit (.int .i64 (f s)))
theorem MapSI.made (P : Program) (k e : TypeId) (w : World) : MapSI P k e (w.alloc (.map #[] 0)) w.heap.size 0 (fun _ => 0) :=
  ⟨⟨.map [], World.ownsMap_made _ _ _ _, Go.Maps.isMap_empty, fun _ _ => rfl⟩⟩
theorem MapSI.kept {P : Program} {k e : TypeId} {w w' : World} {b n : Nat} {f : ByteArray → Int} {row : Option Nat} (h : MapSI P k e w b n f) (hg : w.grownBy w' row) (hne : some b ≠ row) : MapSI P k e w' b n f := by
  obtain ⟨D, h1, h2, h3⟩ := h.out
  exact ⟨⟨D, h1.kept hg hne, h2, h3⟩⟩
theorem MapSI.below {P : Program} {k e : TypeId} {w w' : World} {b n : Nat} {f : ByteArray → Int} (h : MapSI P k e w b n f) (hb : Below w.heap.size w w') : MapSI P k e w' b n f :=
  h.kept (grown_of_below hb none) (by simp)
theorem MapSI.lt {P : Program} {k e : TypeId} {w : World} {b n : Nat} {f : ByteArray → Int} (h : MapSI P k e w b n f) : b < w.heap.size := by
  obtain ⟨D, h1, _⟩ := h.out
  exact h1.lt
theorem MapSI.congr {P : Program} {k e : TypeId} {w : World} {b n : Nat} {f g : ByteArray → Int} (h : MapSI P k e w b n f) (hfg : ∀ s : ByteArray, s.size ≤ maxLen → f s = g s) : MapSI P k e w b n g := by
  obtain ⟨D, h1, h2, h3⟩ := h.out
  exact ⟨⟨D, h1, h2, fun s hs => by rw [← hfg s hs]; exact h3 s hs⟩⟩
theorem bytes_inj {a b : ByteArray} (h : a.data.toList = b.data.toList) : a = b := by
  cases a; cases b; simp at h; simp [h]
theorem lit_ne {a b : ByteArray} (h : a ≠ b) : (Lit.string a.data.toList) ≠ .string b.data.toList := fun e => h (bytes_inj (by injection e))
theorem MapSI.lookup {P : Program} {t k e : TypeId} {w : World} {b n : Nat} {f : ByteArray → Int} (h : MapSI P k e w b n f) (hk : P.underlying k = some .string) (he : P.underlying e = some (.int .i64)) (ht : P.underlying t = some (.map k e))
    (hz : ∀ w, (zeroValue e).run P w = .ok (.int .i64 0) w) {s : ByteArray} (hs : s.size ≤ maxLen) : (Instr.lookup t (.map (some b)) (.string s) false).run P w = .ok (.int .i64 (f s)) w := by
  obtain ⟨D, h1, h2, h3⟩ := h.out
  obtain ⟨c, hrun, hat, _⟩ := h1.lookup_int (Go.Maps.string_keyed hk) ht he (hz w) (Go.WideMaps.keyOf_string_mk hk hs)
  rw [hrun]
  rw [h3 s hs] at hat
  injection hat with hat
  injection hat with _ hat
  rw [hat]
theorem wpList_mapUpdate_si {P : Program} (w : World) {ops : Array Oper} {rest : List Oper} {o : Oper} {a : Act} {Q : Exit → Act → World → Prop}
    (hg : o.guard = none) (m x v : Operand) (t : TypeId) (hop : o.op = Op.mapUpdate t m x v)
    (k e : TypeId) (hk : P.underlying k = some .string) (he : P.underlying e = some (.int .i64)) (ht : P.underlying t = some (.map k e)) (b n : Nat) (f : ByteArray → Int)
    (hm : a.eval m = .map (some b)) (hown : MapSI P k e w b n f) (hn : n < maxLen) (s : ByteArray) (c : Int) (hx : a.eval x = .string s) (hv : a.eval v = .int .i64 c) (hs : s.size ≤ maxLen) (hc : (Lit.int .i64 c).wf = true)
    (hK : ∀ w', MapSI P k e w' b (n + 1) (fun y => if y = s then c else f y) → w.grownBy w' (some b) → wpList P ops Q rest (a.put o.dst undef) w') :
    wpList P ops Q (o :: rest) a w := by
  obtain ⟨D, h1, h2, h3⟩ := hown.out
  refine wpList_mapUpdate_own w hg m x v t hop k e (Go.Maps.string_keyed hk) ht (plainElem (H := Unit) P e) b n D hm h1 hn _ _ _ hx hv (Go.WideMaps.keyOf_string_mk hk hs) _ [] (plainElem_int he hc) ?_
  intro w' r1 r2
  refine hK w' ⟨⟨_, r1, h2.put _ _, fun y hy => ?_⟩⟩ r2
  by_cases hy2 : y = s
  · subst hy2
    rw [Go.Maps.atKey_put_same h2 (by exact trivial)]
    simp
  · rw [Go.Maps.atKey_put_other (lit_ne hy2), h3 y hy, if_neg hy2]
end Go.Proofs.Ytngmcigkihfnkaa.H
end
section
namespace Go.Proofs.Ytngmcigkihfnkaa.H
open Go.RowKit Go.Proofs.YtngmcigkihfnkaaW.PrintWords Go.Proofs.YtngmcigkihfnkaaW.PrintLast Go.Proofs.YtngmcigkihfnkaaW.PrintMore
attribute [local go_sem] max2_int min2_int max_two min_two max_three min_three max_four min_four   -- for this text's walks alone
set_option linter.unusedVariables false
set_option linter.unusedSimpArgs false
theorem wpList_delete_si {P : Program} (w : World) {ops : Array Oper} {rest : List Oper} {o : Oper} {a : Act} {Q : Exit → Act → World → Prop}
    (hg : o.guard = none) (m x : Operand) (t k : TypeId) (hop : o.op = Op.call { callee := Callee.builtin Builtin.delete, args := #[m, x], argTypes := #[t, k] })
    (e : TypeId) (hk : P.underlying k = some .string) (ht : P.underlying t = some (.map k e)) (b n : Nat) (f : ByteArray → Int)
    (hm : a.eval m = .map (some b)) (hown : MapSI P k e w b n f) (s : ByteArray) (hx : a.eval x = .string s) (hs : s.size ≤ maxLen)
    (hK : ∀ w', MapSI P k e w' b n (fun y => if y = s then 0 else f y) → w.grownBy w' (some b) → wpList P ops Q rest (a.put o.dst (.tuple #[])) w') :
    wpList P ops Q (o :: rest) a w := by
  obtain ⟨D, h1, h2, h3⟩ := hown.out
  refine wpList_delete_own w hg m x t k hop e (Go.Maps.string_keyed hk) ht (plainElem (H := Unit) P e) b n D hm h1 _ _ hx (Go.WideMaps.keyOf_string_mk hk hs) ?_
  intro w' r1 r2
  refine hK w' ⟨⟨_, r1, h2.del _, fun y hy => ?_⟩⟩ r2.grown
  by_cases hy2 : y = s
  · subst hy2
    rw [Go.Maps.atKey_del_same]
    simp
  · rw [Go.Maps.atKey_del_other (lit_ne hy2), h3 y hy, if_neg hy2]
end Go.Proofs.Ytngmcigkihfnkaa.H
end
section
namespace Go.Proofs.Ytngmcigkihfnkaa.H
open Go.RowKit Go.Proofs.YtngmcigkihfnkaaW.PrintWords Go.Proofs.YtngmcigkihfnkaaW.PrintLast Go.Proofs.YtngmcigkihfnkaaW.PrintMore
attribute [local go_sem] max2_int min2_int max_two min_two max_three min_three max_four min_four   -- for this text's walks alone
set_option linter.unusedVariables false
set_option linter.unusedSimpArgs false
def courseUpd (what name : ByteArray) (f : ByteArray → Int) : ByteArray → Int :=
  if what = ⟨#[100, 111, 119, 110]⟩ then fun y => if y = name then 1 else f y
  else if what = ⟨#[100, 101, 108, 101, 116, 101]⟩ then fun y => if y = name then 2 else f y
  else if what = ⟨#[107, 101, 101, 112]⟩ ∨ what = ⟨#[115, 116, 111, 112]⟩ ∨ what = ⟨#[103, 111, 110, 101]⟩ then fun y => if y = name then 0 else f y
  else f
def courseOk (what : ByteArray) (was : Int) : Bool :=
  if what = ⟨#[100, 111, 119, 110]⟩ then was == 0
  else if what = ⟨#[100, 101, 108, 101, 116, 101]⟩ then was == 1
  else if what = ⟨#[107, 101, 101, 112]⟩ ∨ what = ⟨#[115, 116, 111, 112]⟩ ∨ what = ⟨#[103, 111, 110, 101]⟩ then decide (0 < was)
  else true
theorem tc_ne {s : ByteArray} {a : List UInt8} (h : ¬ s = ⟨a.toArray⟩) : (s.toList == a) = false := by
  rw [beq_eq_false_iff_ne]
  intro e
  apply h
  rw [ByteArray.toList_eq] at e
  cases s with
  | mk d =>
    simp only at e
    rw [← e]
theorem tcZero (w : World) : (zeroValue 3).run Try.prog w = .ok (.int .i64 0) w := by kernel_rfl
theorem MapSI.more {P : Program} {k e : TypeId} {w : World} {b n m : Nat} {f : ByteArray → Int} (h : MapSI P k e w b n f) (hm : n ≤ m) : MapSI P k e w b m f := by
  obtain ⟨D, h1, h2, h3⟩ := h.out
  exact ⟨⟨D, h1.mono hm, h2, h3⟩⟩
set_option maxHeartbeats 8000000 in
set_option maxRecDepth 100000 in
theorem trace_can.calls (b n : Nat) (f : ByteArray → Int) (now : Int) (what name : ByteArray) (m : Int) (w : World) (hown : MapSI Try.prog 9 3 w b n f) (hn : n < maxLen) (hs : name.size ≤ maxLen) :
    Calls Try.prog 36 #[.map (some b), .agg #[.int .i64 now, .string what, .string name, .int .i64 m]] w fun e w' => e = .returned (.bool (courseOk what (f name))) ∧ MapSI Try.prog 9 3 w' b (n + 1) (courseUpd what name f) ∧ w.grownBy w' (some b) := by
  have hu := Try.underlying37
  have hlt := hown.lt
  have HM1 := Aside0.mk (hown.below (below_alloc (Below.refl _ _) (.cells #[.int .i64 now, .string what, .string name, .int .i64 m] 37)))
  have HG := Aside0.mk (World.grownBy_alloc w (.cells #[.int .i64 now, .string what, .string name, .int .i64 m] 37) (some b))
  have hlk := HM1.out.lookup Try.underlying9 Try.underlying3 Try.underlying58 tcZero hs
  by_cases h1 : what = ⟨#[100, 111, 119, 110]⟩
  · have e1 : courseUpd what name f = fun y => if y = name then 1 else f y := by unfold courseUpd; rw [if_pos h1]
    have e2 : courseOk what (f name) = (f name == 0) := by unfold courseOk; rw [if_pos h1]
    rw [e1, e2]
    clear e1 e2
    subst h1
    go_enter Try.func36, Try.ntmps36
    go_wp2_with (first | (at_mapUpdate; refine wpList_mapUpdate_si _ rfl _ _ _ 58 rfl 9 3 Try.underlying9 Try.underlying3 Try.underlying58 b n f rfl HM1.out hn name 1 rfl rfl hs (by decide) ?_; intro w2 HM2 hgrow))
    go_ret
    exact ⟨by first | rfl | (simp; done) | (simp [*]; done), HM2, HG.out.trans hgrow⟩
  · have q1 := tc_ne h1
    by_cases h2 : what = ⟨#[100, 101, 108, 101, 116, 101]⟩
    · have e1 : courseUpd what name f = fun y => if y = name then 2 else f y := by unfold courseUpd; rw [if_neg h1, if_pos h2]
      have e2 : courseOk what (f name) = (f name == 1) := by unfold courseOk; rw [if_neg h1, if_pos h2]
      rw [e1, e2]
      clear e1 e2 q1
      subst h2
      clear h1
      go_enter Try.func36, Try.ntmps36
      go_wp2_with (first | (at_mapUpdate; refine wpList_mapUpdate_si _ rfl _ _ _ 58 rfl 9 3 Try.underlying9 Try.underlying3 Try.underlying58 b n f rfl HM1.out hn name 2 rfl rfl hs (by decide) ?_; intro w2 HM2 hgrow))
      go_ret
      exact ⟨by first | rfl | (simp; done) | (simp [*]; done), HM2, HG.out.trans hgrow⟩
    · have q2 := tc_ne h2
      by_cases h3 : what = ⟨#[107, 101, 101, 112]⟩ ∨ what = ⟨#[115, 116, 111, 112]⟩ ∨ what = ⟨#[103, 111, 110, 101]⟩
      · have e1 : courseUpd what name f = fun y => if y = name then 0 else f y := by unfold courseUpd; rw [if_neg h1, if_neg h2, if_pos h3]
        have e2 : courseOk what (f name) = decide (0 < f name) := by unfold courseOk; rw [if_neg h1, if_neg h2, if_pos h3]
        rw [e1, e2]
        clear e1 e2 q1 q2
        rcases h3 with h3 | h3 | h3
        all_goals
          subst h3
          clear h1 h2
          go_enter Try.func36, Try.ntmps36
          go_wp2_with (first | (at_delete; refine wpList_delete_si _ rfl _ _ 58 9 rfl 3 Try.underlying9 Try.underlying58 b n f rfl HM1.out name rfl hs ?_; intro w2 HM2 hgrow))
          go_ret
          exact ⟨by first | rfl | (simp; done) | (simp [*]; done), HM2.more (Nat.le_succ n), HG.out.trans hgrow⟩
      · have e1 : courseUpd what name f = f := by unfold courseUpd; rw [if_neg h1, if_neg h2, if_neg h3]
        have e2 : courseOk what (f name) = true := by unfold courseOk; rw [if_neg h1, if_neg h2, if_neg h3]
        rw [e1, e2]
        clear e1 e2
        have q3 : (what.toList == [107, 101, 101, 112]) = false := tc_ne (fun h => h3 (.inl h))
        have q4 : (what.toList == [115, 116, 111, 112]) = false := tc_ne (fun h => h3 (.inr (.inl h)))
        have q5 : (what.toList == [103, 111, 110, 101]) = false := tc_ne (fun h => h3 (.inr (.inr h)))
        clear h1 h2 h3
        go_enter Try.func36, Try.ntmps36
        go_wp2_with fail
        go_ret
        exact ⟨by first | rfl | (simp; done) | (simp [*]; done), HM1.out.more (Nat.le_succ n), HG.out⟩
def trace_Check.go (k : Nat) : (ByteArray → Int) → Int → Nat → List S37 → Option Int
  | _, _, _, [] => some (-1)
  | f, now, i, x :: xs => if x.f2.size ≤ 140737488351232 then ((trace_Right.f k x.f0 x.f1 x.f2 x.f3).bind fun r => if r = false then some (i : Int) else if x.f0 < now then some (i : Int) else if courseOk x.f1 (f x.f2) = false then some (i : Int) else trace_Check.go k (courseUpd x.f1 x.f2 f) x.f0 (i + 1) xs) else none
def trace_Check.f (k : Nat) (l0 : List S37) : Option Int := trace_Check.go k (fun _ => 0) 0 0 l0
theorem trace_Check.go_mono (k : Nat) : ∀ (l : List S37) (f : ByteArray → Int) (now : Int) (i : Nat), LeO (trace_Check.go k f now i l) (trace_Check.go (k + 1) f now i l) := by
  intro l
  induction l with
  | nil => intro f now i; exact LeO.refl _
  | cons x xs ih =>
    intro f now i
    simp only [trace_Check.go]
    exact LeO.ite (LeO.bind (trace_Right.mono _ _ _ _ _) (fun r => LeO.ite (LeO.refl _) (LeO.ite (LeO.refl _) (LeO.ite (LeO.refl _) (ih _ _ _))))) (LeO.refl _)
theorem trace_Check.mono : ∀ l0 k, LeO (trace_Check.f k l0) (trace_Check.f (k + 1) l0) := fun l0 k => trace_Check.go_mono k l0 _ _ _
theorem tc_rd (pre : List S37) (x : S37) (xs : List S37) : rd_T37 (pre ++ x :: xs) (pre.length : Int) = x := by
  unfold rd_T37
  simp [List.getD_eq_getElem?_getD]
set_option maxHeartbeats 8000000 in
set_option maxRecDepth 100000 in
theorem trace_Check.calls (k : Nat) (A0 : Option Addr) (c0 : Nat) (l0 : List S37) (r : Int) (w : World) (hr0 : Kd.C k37 w A0 l0.length l0) (hc0 : l0.length ≤ c0) (h : trace_Check.f k l0 = some r) :
    Calls Try.prog 20 #[.slice A0 l0.length c0] w fun e w' => e = .returned (.int .i64 r) ∧ Below w.heap.size w w' := by
  have hmm := @run_makeMap Try.prog
  have hlen := hr0.1
  have hmax : l0.length ≤ 9223372036854775807 := hr0.2.1
  have HR0 := Aside0.mk hr0
  clear hr0
  have H := Aside0.mk h
  clear h
  have hu := Try.underlying37
  go_enter Try.func20, Try.ntmps20
  go_wp2
  go_loopw [4, 10] (fun v p w' => ∃ (pre suf : List S37) (i now : Int) (f : ByteArray → Int), Aside0 (l0 = pre ++ suf) ∧ Aside0 (i = pre.length) ∧ p = .int .i64 i ∧ v = .int .i64 now ∧ Aside0 (MapSI Try.prog 9 3 w' w.heap.size pre.length f) ∧ Aside0 (Below w.heap.size w w') ∧ Aside0 (trace_Check.go k f now pre.length suf = some r)) (fun v p w' => l0.length - (intOf p).toNat)
  case atStart => exact ⟨[], l0, 0, 0, fun _ => 0, ⟨rfl⟩, ⟨rfl⟩, rfl, rfl, ⟨MapSI.made _ _ _ _⟩, ⟨(Below.refl _ _).alloc (Nat.le_refl _) _⟩, H⟩
  case round =>
    clear H
    obtain ⟨pre, suf, i, now, f, HL, HI, rfl, rfl, HM, HB, HG⟩ := hrel
    cases suf with
    | nil =>
      have q1 : decide (i < (l0.length : Int)) = false := decide_eq_false (by rw [HL.out, HI.out]; simp)
      go_wp2
      go_ret
      have h1 := HG.out
      simp only [trace_Check.go, Option.some.injEq] at h1
      exact ⟨by rw [← h1]; first | rfl | (simp; done), HB.out⟩
    | cons x xs =>
      have q1 : i < (l0.length : Int) := by rw [HL.out, HI.out]; simp; omega
      have p1 : 0 ≤ i := by rw [HI.out]; omega
      obtain ⟨ad, e1, hx0, hx1, hx2, hx3⟩ := at_T37 HR0.out i p1 q1
      have hrd : rd_T37 l0 i = x := by rw [HL.out, HI.out]; exact tc_rd _ _ _
      rw [hrd] at hx0 hx1 hx2 hx3
      clear hrd
      subst e1
      replace hx0 := (HB.out.cell (World.block_lt_of_cell? w _ hx0)).trans hx0
      replace hx1 := (HB.out.cell (World.block_lt_of_cell? w _ hx1)).trans hx1
      replace hx2 := (HB.out.cell (World.block_lt_of_cell? w _ hx2)).trans hx2
      replace hx3 := (HB.out.cell (World.block_lt_of_cell? w _ hx3)).trans hx3
      have hg := HG.out
      simp only [trace_Check.go] at hg
      clear HG
      by_cases hs : x.f2.size ≤ 140737488351232
      · rw [if_pos hs] at hg
        have hs2 : x.f2.size ≤ maxLen := by unfold maxLen; omega
        obtain ⟨rg, hrg, hg⟩ := Option.bind_eq_some_iff.1 hg
        have HRG := Aside0.mk (fun W : World => trace_Right.calls k x.f0 x.f1 x.f2 x.f3 rg W hrg)
        clear hrg
        have hn : pre.length < maxLen := by have := HI.out; unfold maxLen; omega
        have hBm : w.heap.size < wr.heap.size := HM.out.lt
        have HM0 := Aside0.mk (HM.out.below (below_alloc (Below.refl _ _) (.cells #[.int .i64 x.f0, .string x.f1, .string x.f2, .int .i64 x.f3] 37)))
        have HB0 := Aside0.mk (HB.out.alloc HB.out.size (.cells #[.int .i64 x.f0, .string x.f1, .string x.f2, .int .i64 x.f3] 37))
        have HC := Aside0.mk (show (wr.alloc (.cells #[.int .i64 x.f0, .string x.f1, .string x.f2, .int .i64 x.f3] 37)).cell? ⟨wr.heap.size, 0, none⟩ = some (.int .i64 x.f0) ∧ (wr.alloc (.cells #[.int .i64 x.f0, .string x.f1, .string x.f2, .int .i64 x.f3] 37)).cell? ⟨wr.heap.size, 1, none⟩ = some (.string x.f1) ∧ (wr.alloc (.cells #[.int .i64 x.f0, .string x.f1, .string x.f2, .int .i64 x.f3] 37)).cell? ⟨wr.heap.size, 2, none⟩ = some (.string x.f2) ∧ (wr.alloc (.cells #[.int .i64 x.f0, .string x.f1, .string x.f2, .int .i64 x.f3] 37)).cell? ⟨wr.heap.size, 3, none⟩ = some (.int .i64 x.f3) from ⟨by simp, by simp, by simp, by simp⟩)
        have hsa : wr.heap.size < (wr.alloc (.cells #[.int .i64 x.f0, .string x.f1, .string x.f2, .int .i64 x.f3] 37)).heap.size := by simp
        have HSA := Aside0.mk hsa
        clear hsa
        cases rg with
        | false =>
          rw [if_pos rfl] at hg
          simp only [Option.some.injEq] at hg
          go_wp2_with (first | (go_at_call 14; refine (HRG.out _).mono ?_; rintro e w1 ⟨rfl, hb1⟩))
          go_ret
          exact ⟨by rw [← hg, ← HI.out]; first | rfl | (simp; done), below_then HB0.out HB0.out.size hb1⟩
        | true =>
          rw [if_neg (by decide)] at hg
          by_cases hnow : x.f0 < now
          · rw [if_pos hnow] at hg
            simp only [Option.some.injEq] at hg
            have hd : decide (x.f0 < now) = true := decide_eq_true hnow
            go_wp2_with (first | (go_at_call 14; refine (HRG.out _).mono ?_; rintro e w1 ⟨rfl, hb1⟩; have hc0 := (hb1.cell HSA.out).trans HC.out.1))
            go_ret
            exact ⟨by rw [← hg, ← HI.out]; first | rfl | (simp; done), below_then HB0.out HB0.out.size hb1⟩
          · rw [if_neg hnow] at hg
            have hd : decide (x.f0 < now) = false := decide_eq_false hnow
            generalize hok : courseOk x.f1 (f x.f2) = ok at hg
            have HCAN := Aside0.mk (fun (W : World) (hW : Below (wr.alloc (.cells #[.int .i64 x.f0, .string x.f1, .string x.f2, .int .i64 x.f3] 37)).heap.size (wr.alloc (.cells #[.int .i64 x.f0, .string x.f1, .string x.f2, .int .i64 x.f3] 37)) W) => trace_can.calls w.heap.size pre.length f x.f0 x.f1 x.f2 x.f3 W (HM0.out.below hW) hn hs2)
            rw [hok] at HCAN
            cases ok with
            | false =>
              rw [if_pos rfl] at hg
              simp only [Option.some.injEq] at hg
              go_wp2_with (first | (go_at_call 14; refine (HRG.out _).mono ?_; rintro e w1 ⟨rfl, hb1⟩; have hc0 := (hb1.cell HSA.out).trans HC.out.1; have hc1 := (hb1.cell (p := ⟨wr.heap.size, 1, none⟩) HSA.out).trans HC.out.2.1; have hc2 := (hb1.cell (p := ⟨wr.heap.size, 2, none⟩) HSA.out).trans HC.out.2.2.1; have hc3 := (hb1.cell (p := ⟨wr.heap.size, 3, none⟩) HSA.out).trans HC.out.2.2.2; replace HB := Aside0.mk hb1) | (go_at_call 36; refine (HCAN.out _ HB.out).mono ?_; rintro e w2 ⟨rfl, HM2, hg2⟩))
              go_ret
              exact ⟨by rw [← hg, ← HI.out]; first | rfl | (simp; done), (below_then HB0.out HB0.out.size HB.out).grown hg2 (below_then HB0.out HB0.out.size HB.out).size (fun j hj => by cases hj; exact Nat.le_refl _)⟩
            | true =>
              rw [if_neg (by decide)] at hg
              go_wp2_with (first | (go_at_call 14; refine (HRG.out _).mono ?_; rintro e w1 ⟨rfl, hb1⟩; have hc0 := (hb1.cell HSA.out).trans HC.out.1; have hc1 := (hb1.cell (p := ⟨wr.heap.size, 1, none⟩) HSA.out).trans HC.out.2.1; have hc2 := (hb1.cell (p := ⟨wr.heap.size, 2, none⟩) HSA.out).trans HC.out.2.2.1; have hc3 := (hb1.cell (p := ⟨wr.heap.size, 3, none⟩) HSA.out).trans HC.out.2.2.2; replace HB := Aside0.mk hb1) | (go_at_call 36; refine (HCAN.out _ HB.out).mono ?_; rintro e w2 ⟨rfl, HM2, hg2⟩; have hc4 := hg2.cell hc0 (by simp; omega); have HM3 := Aside0.mk HM2))
              go_roundw
              case rel => exact ⟨pre ++ [x], xs, i + 1, x.f0, courseUpd x.f1 x.f2 f, ⟨by rw [HL.out]; simp⟩, ⟨by rw [HI.out]; simp⟩, rfl, rfl, ⟨by rw [show (pre ++ [x]).length = pre.length + 1 by simp]; exact HM3.out⟩, ⟨(below_then HB0.out HB0.out.size HB.out).grown hg2 (below_then HB0.out HB0.out.size HB.out).size (fun j hj => by cases hj; exact Nat.le_refl _)⟩, ⟨by rw [show (pre ++ [x]).length = pre.length + 1 by simp]; exact hg⟩⟩
              case measure => simp [intOf]; omega
      · rw [if_neg hs] at hg
        cases hg
end Go.Proofs.Ytngmcigkihfnkaa.H
end
section
namespace Go.Proofs.Ytngmcigkihfnkaa.H
open Go.RowKit Go.Proofs.YtngmcigkihfnkaaW.PrintWords Go.Proofs.YtngmcigkihfnkaaW.PrintLast Go.Proofs.YtngmcigkihfnkaaW.PrintMore
attribute [local go_sem] max2_int min2_int max_two min_two max_three min_three max_four min_four   -- for this text's walks alone
set_option linter.unusedVariables false
set_option linter.unusedSimpArgs false
def trace_Added.l0 : Nat → ByteArray → Int → List (S37) → Int → Int → Option (Int)
  | 0, _, _, _, _, _ => none
  | k + 1, x1, x5, x8, x9, x10 => if x10 < x9 then (if 0 ≤ x10 then (if x10 < (x8.length : Int) then (if ((rd_T37 x8 x10).f2).toList = x1.toList then ((trace_among.f k ((rd_T37 x8 x10).f1) (([(⟨#[117, 112]⟩ : ByteArray), (⟨#[114, 97, 105, 115, 101]⟩ : ByteArray)] : List ByteArray))).bind fun t191 => (if t191 = true then (trace_Added.l0 k x1 (wrap64 (x5 + ((rd_T37 x8 x10).f3))) x8 x9 (wrap64 (x10 + 1))) else (trace_Added.l0 k x1 x5 x8 x9 (wrap64 (x10 + 1))))) else (trace_Added.l0 k x1 x5 x8 x9 (wrap64 (x10 + 1)))) else (none)) else (none)) else (some x5)
def trace_Added.f (k : Nat) (l0 : List (S37)) (a1 : ByteArray) : Option (Int) := trace_Added.l0 k a1 0 l0 (l0.length : Int) 0
theorem trace_Added.mono_l : ∀ k, (∀ y0 y1 y2 y3 y4, LeO (trace_Added.l0 k y0 y1 y2 y3 y4) (trace_Added.l0 (k + 1) y0 y1 y2 y3 y4))
  | 0 => fun _ _ _ _ _ r h => by simp [trace_Added.l0] at h
  | k + 1 => by
    have ih0 := trace_Added.mono_l k
    · intro y0 y1 y2 y3 y4
      unfold trace_Added.l0
      repeat' first
      | (with_reducible exact ih0 _ _ _ _ _)
      | (with_reducible exact trace_among.mono _ _ _)
      | (with_reducible exact LeO.refl _)
      | (with_reducible exact LeO.none _)
      | (with_reducible refine LeO.ite ?_ ?_)
      | (with_reducible refine LeO.bind ?_ (fun _ => ?_))
      | exact ih0 _ _ _ _ _
      | exact trace_among.mono _ _ _
      | exact LeO.none _
      | refine LeO.ite ?_ ?_
      | refine LeO.bind ?_ (fun _ => ?_)
theorem trace_Added.mono : ∀ a0 a1 k, LeO (trace_Added.f k a0 a1) (trace_Added.f (k + 1) a0 a1) := by
  intro a0 a1 k
  have ih0 := trace_Added.mono_l k
  unfold trace_Added.f
  repeat' first
      | (with_reducible exact ih0 _ _ _ _ _)
      | (with_reducible exact trace_among.mono _ _ _)
      | (with_reducible exact LeO.refl _)
      | (with_reducible exact LeO.none _)
      | (with_reducible refine LeO.ite ?_ ?_)
      | (with_reducible refine LeO.bind ?_ (fun _ => ?_))
      | exact ih0 _ _ _ _ _
      | exact trace_among.mono _ _ _
      | exact LeO.none _
      | refine LeO.ite ?_ ?_
      | refine LeO.bind ?_ (fun _ => ?_)
set_option maxHeartbeats 8000000 in
set_option maxRecDepth 100000 in
theorem trace_Added.calls (k : Nat) (A0 : Option Addr) (c0 : Nat) (l0 : List (S37)) (a1 : ByteArray) (r : Int) (w : World) (hr0 : Kd.C k37 w A0 l0.length l0) (hc0 : l0.length ≤ c0) (h : trace_Added.f k l0 a1 = some r) :
    Calls Try.prog 22 #[.slice A0 l0.length c0, .string a1] w fun e w' => e = .returned (.int .i64 r) ∧ Below w.heap.size w w' := by
  have hu37 := Try.underlying37
  have HR0 := Aside0.mk hr0
  have HC0 := Aside0.mk hc0
  clear hr0 hc0
  have HB := Aside0.mk (Below.refl w.heap.size w)
  have H : (trace_Added.l0 k a1 0 l0 (l0.length : Int) 0) = some r := h
  clear h
  have H' := Aside0.mk H
  clear H
  go_enter Try.func22, Try.ntmps22
  go_wp2
  go_loopg [5, 10] k (fun kq v5 v10 w' => ∃ (x5_1 : Int) (x10_1 : Int), v5 = .int .i64 x5_1 ∧ v10 = .int .i64 x10_1 ∧ Aside0 (trace_Added.l0 kq a1 x5_1 l0 (l0.length : Int) x10_1 = some r) ∧ Aside0 (kq ≤ k) ∧ Aside0 (Below w.heap.size w w'))
  case atStart => exact ⟨(0), (0), (by first | rfl | (simp; done) | (simp [*]; done)), (by first | rfl | (simp; done) | (simp [*]; done)), H', ⟨Nat.le_refl _⟩, ⟨by repeat (first | (with_reducible first | exact HB.out | apply below_alloc | apply pw_below_drewN | apply below_drew1) | exact HB.out)⟩⟩
  case round =>
    clear H'
    try clear c2
    try clear p2
    obtain ⟨x5_1, x10_1, rfl, rfl, HA, HK1, HB⟩ := hrel
    cases gk with
    | zero => exact absurd HA.out (by simp [trace_Added.l0])
    | succ k1 =>
      have H := HA.out
      clear HA
      simp only [trace_Added.l0] at H
      by_cases c3 : x10_1 < (l0.length : Int)
      · rw [if_pos c3] at H
        have c3b0 : decide (x10_1 < (l0.length : Int)) = true := decide_eq_true c3
        clear c3
        by_cases c4 : 0 ≤ x10_1
        · rw [if_pos c4] at H
          have c4b0 : decide (0 ≤ x10_1) = true := decide_eq_true c4
          clear c4
          by_cases c5 : x10_1 < (l0.length : Int)
          · rw [if_pos c5] at H
            have c5b0 : decide (x10_1 < (l0.length : Int)) = true := decide_eq_true c5
            clear c5
            by_cases c6 : ((rd_T37 l0 x10_1).f2).toList = a1.toList
            · rw [if_pos c6] at H
              have c6b0 : (((rd_T37 l0 x10_1).f2).toList == a1.toList) = true := beq_iff_eq.mpr c6
              have c6b1 : (((rd_T37 l0 x10_1).f2).toList != a1.toList) = false := bne_eq_false_iff_eq.mpr c6
              clear c6
              obtain ⟨y188, hy188⟩ : ∃ y_ : List ByteArray, y_ = (([(⟨#[117, 112]⟩ : ByteArray), (⟨#[114, 97, 105, 115, 101]⟩ : ByteArray)] : List ByteArray)) := ⟨_, rfl⟩
              replace H : ((trace_among.f k1 ((rd_T37 l0 x10_1).f1) y188).bind fun t191 => (if t191 = true then (trace_Added.l0 k1 a1 (wrap64 (x5_1 + ((rd_T37 l0 x10_1).f3))) l0 (l0.length : Int) (wrap64 (x10_1 + 1))) else (trace_Added.l0 k1 a1 x5_1 l0 (l0.length : Int) (wrap64 (x10_1 + 1))))) = some r := by first | (rw [hy188]; with_reducible exact H) | (have H2_ := (Option.bind_some _ _).symm.trans H; rw [hy188]; with_reducible exact H2_) | (have H2_ := (Option.bind_some _ _).symm.trans H; with_reducible exact H2_) | with_reducible exact H | (rw [hy188]; exact H) | exact H
              have Ny188 := Aside0.mk hy188
              clear hy188
              replace H := Option.bind_eq_some_iff.mp H
              obtain ⟨t191, A70, H⟩ := H
              replace H : (if t191 = true then (trace_Added.l0 k1 a1 (wrap64 (x5_1 + ((rd_T37 l0 x10_1).f3))) l0 (l0.length : Int) (wrap64 (x10_1 + 1))) else (trace_Added.l0 k1 a1 x5_1 l0 (l0.length : Int) (wrap64 (x10_1 + 1)))) = some r := H
              have A7 := Aside0.mk A70
              clear A70
              by_cases c8 : t191 = true
              · subst c8
                have H1 : (trace_Added.l0 k1 a1 (wrap64 (x5_1 + ((rd_T37 l0 x10_1).f3))) l0 (l0.length : Int) (wrap64 (x10_1 + 1))) = some r := by rw [if_pos rfl] at H; exact H
                clear H
                have H := H1
                clear H1
                have H' := Aside0.mk H
                clear H
                have p186 : 0 ≤ (x10_1 : Int) := of_decide_eq_true (by first | (with_reducible assumption) | assumption)
                have q186 : x10_1 < (l0.length : Int) := of_decide_eq_true (by first | (with_reducible assumption) | assumption)
                obtain ⟨ad186, e186, hx186_0, hx186_1, hx186_2, hx186_3⟩ := at_T37 HR0.out x10_1 p186 q186
                cases e186
                replace hx186_0 := (HB.out.cell (World.block_lt_of_cell? w _ hx186_0)).trans hx186_0
                replace hx186_1 := (HB.out.cell (World.block_lt_of_cell? w _ hx186_1)).trans hx186_1
                replace hx186_2 := (HB.out.cell (World.block_lt_of_cell? w _ hx186_2)).trans hx186_2
                replace hx186_3 := (HB.out.cell (World.block_lt_of_cell? w _ hx186_3)).trans hx186_3
                replace p186 := eq_true p186
                replace q186 := eq_true q186
                (try (have qz186 := q186; rw [ByteArray.size_extract, Nat.min_self] at qz186))
                go_wp2_with (first | ((with_reducible refine gate_dst (N := 7) rfl ?_); (try (refine gate_guard (by rfl) ?_; dsimp only)); refine box_event ?hg (N := 7) ?hd (cs := #[.int .i64 0, .string (⟨#[]⟩ : ByteArray), .string (⟨#[]⟩ : ByteArray), .int .i64 0]) (t := 37) ?hr ?_; (case hd => rfl); (case hg => rfl); (case hr => first | (go_simp; done) | (go_simp; rfl)); intro gb187 hg w9 hbox hb; have n0_ := Aside0.mk (below_step (by repeat (first | (with_reducible first | exact HB.out | apply below_alloc | apply pw_below_drewN | apply below_drew1) | exact HB.out)) hb); have n1_ := Aside0.mk (hbox); have n2_ := Aside0.mk ((by rw [hg]; exact (below_size (by repeat (first | (with_reducible first | exact HB.out | apply below_alloc | apply pw_below_drewN | apply below_drew1) | exact HB.out))) : w.heap.size ≤ gb187)); have n3_ := Aside0.mk ((by rw [hg]; exact (below_size (by repeat (first | (with_reducible first | exact HB.out | apply below_alloc | apply pw_below_drewN | apply below_drew1) | exact HB.out))) : w.heap.size ≤ gb187)); clear HB; have HB := n0_; have BK187 := n1_; have GW187 := n2_; have GE187 := n3_; clear n0_ n1_ n2_ n3_; clear hb hbox hg; have hcz10_0 : w9.cell? ⟨gb187, 0, none⟩ = some (.int .i64 0) := (blk_cell BK187.out 0).trans rfl; have hcz10_1 : w9.cell? ⟨gb187, 1, none⟩ = some (.string (⟨#[]⟩ : ByteArray)) := (blk_cell BK187.out 1).trans rfl; have hcz10_2 : w9.cell? ⟨gb187, 2, none⟩ = some (.string (⟨#[]⟩ : ByteArray)) := (blk_cell BK187.out 2).trans rfl; have hcz10_3 : w9.cell? ⟨gb187, 3, none⟩ = some (.int .i64 0) := (blk_cell BK187.out 3).trans rfl; have hfz10_0 := blk_frozen BK187.out 0; have hfz10_1 := blk_frozen BK187.out 1; have hfz10_2 := blk_frozen BK187.out 2; have hfz10_3 := blk_frozen BK187.out 3) | ((with_reducible refine gate_dst (N := 21) rfl ?_); (try (refine gate_guard (by rfl) ?_; dsimp only)); refine Kd.R_lit Kd.string _ 9 ?hg (N := 21) ?hd (xs := ([(⟨#[117, 112]⟩ : ByteArray), (⟨#[114, 97, 105, 115, 101]⟩ : ByteArray)] : List ByteArray)) (inner := [.string (⟨#[117, 112]⟩ : ByteArray), .string (⟨#[114, 97, 105, 115, 101]⟩ : ByteArray)]) (ok := fun _ => True) (okp := fun _ => True) ?hr ?hp (fun _ hk => hk) trivial (Below.refl _ _) (Nat.le_refl _) (by simp) ?_; (case hd => rfl); (case hg => rfl); (case hr => first | (go_simp; done) | (go_simp; rfl)); (case hp => exact (Reps.one (show Kd.M Kd.string _ _ _ (⟨#[117, 112]⟩ : ByteArray) [.string (⟨#[117, 112]⟩ : ByteArray)] from rfl) (Reps.one (show Kd.M Kd.string _ _ _ (⟨#[114, 97, 105, 115, 101]⟩ : ByteArray) [.string (⟨#[114, 97, 105, 115, 101]⟩ : ByteArray)] from rfl) (Reps.none _ _)))); intro v189 w11 ho12 hb hg_ hnew_; clear hg_ hnew_; (first | rw [← Ny188.out] at ho12 | (simp only [Int.reduceToNat] at ho12; rw [← Ny188.out] at ho12)); have n0_ := Aside0.mk (Kd.R_lower ho12 (below_size (by repeat (first | (with_reducible first | exact HB.out | apply below_alloc | apply pw_below_drewN | apply below_drew1 | refine below_set ?_ GE187.out) | exact HB.out)))); have n1_ := Aside0.mk (blk_below (g := gb187) (o := .cells #[.int .i64 ((rd_T37 l0 x10_1).f0), .string ((rd_T37 l0 x10_1).f1), .string ((rd_T37 l0 x10_1).f2), .int .i64 ((rd_T37 l0 x10_1).f3)] 37 (0, 0)) (by (with_reducible repeat (first | refine blk_drewN ?_ _ | refine blk_drew ?_ | refine blk_alloc ?_ _)); refine blk_put (cs := #[.int .i64 ((rd_T37 l0 x10_1).f0), .string ((rd_T37 l0 x10_1).f1), .string ((rd_T37 l0 x10_1).f2), .int .i64 0]) ?_ 3 _ rfl; (with_reducible repeat (first | refine blk_drewN ?_ _ | refine blk_drew ?_ | refine blk_alloc ?_ _)); refine blk_put (cs := #[.int .i64 ((rd_T37 l0 x10_1).f0), .string ((rd_T37 l0 x10_1).f1), .string (⟨#[]⟩ : ByteArray), .int .i64 0]) ?_ 2 _ rfl; (with_reducible repeat (first | refine blk_drewN ?_ _ | refine blk_drew ?_ | refine blk_alloc ?_ _)); refine blk_put (cs := #[.int .i64 ((rd_T37 l0 x10_1).f0), .string (⟨#[]⟩ : ByteArray), .string (⟨#[]⟩ : ByteArray), .int .i64 0]) ?_ 1 _ rfl; (with_reducible repeat (first | refine blk_drewN ?_ _ | refine blk_drew ?_ | refine blk_alloc ?_ _)); refine blk_put (cs := #[.int .i64 0, .string (⟨#[]⟩ : ByteArray), .string (⟨#[]⟩ : ByteArray), .int .i64 0]) ?_ 0 _ rfl; (with_reducible repeat (first | refine blk_drewN ?_ _ | refine blk_drew ?_ | refine blk_alloc ?_ _)); exact BK187.out) hb); have n2_ := Aside0.mk (below_step (by repeat (first | (with_reducible first | exact HB.out | apply below_alloc | apply pw_below_drewN | apply below_drew1 | refine below_set ?_ GE187.out) | exact HB.out)) hb); clear BK187; clear HB; have HO190 := n0_; have BK187 := n1_; have HB := n2_; clear n0_ n1_ n2_; clear hb ho12; obtain ⟨Ao13, co13, eo13⟩ := Kd.R_slice HO190.out; subst eo13) | (go_at_call 35; (with_reducible refine (trace_among.calls k1 ((rd_T37 l0 x10_1).f1) _ _ y188 true _ ?side1 ?side2 A7.out).mono ?_); (case side1 => repeat (first | exact (Kd.R_reads' HO190.out).2.2 | (with_reducible refine Kd.C_alloc ?_ _) | (with_reducible refine Kd.C_drewN ?_ _) | (with_reducible refine Kd.C_drew ?_))); (case side2 => exact (Kd.R_reads' HO190.out).2.1); rintro e w' ⟨rfl, ⟨nd, rfl⟩⟩; have hcz14_0 : w11.cell? ⟨gb187, 0, none⟩ = some (.int .i64 ((rd_T37 l0 x10_1).f0)) := (blk_cell BK187.out 0).trans rfl; have hcz14_1 : w11.cell? ⟨gb187, 1, none⟩ = some (.string ((rd_T37 l0 x10_1).f1)) := (blk_cell BK187.out 1).trans rfl; have hcz14_2 : w11.cell? ⟨gb187, 2, none⟩ = some (.string ((rd_T37 l0 x10_1).f2)) := (blk_cell BK187.out 2).trans rfl; have hcz14_3 : w11.cell? ⟨gb187, 3, none⟩ = some (.int .i64 ((rd_T37 l0 x10_1).f3)) := (blk_cell BK187.out 3).trans rfl; have hfz14_0 := blk_frozen BK187.out 0; have hfz14_1 := blk_frozen BK187.out 1; have hfz14_2 := blk_frozen BK187.out 2; have hfz14_3 := blk_frozen BK187.out 3))
                go_roundg k1
                case measure => have := HK1.out; omega
                case rel => exact ⟨(wrap64 (x5_1 + ((rd_T37 l0 x10_1).f3))), (wrap64 (x10_1 + 1)), (by first | rfl | (simp; done) | (simp [*]; done)), (by first | rfl | (simp; done) | (simp [*]; done)), H', ⟨by have := HK1.out; omega⟩, ⟨by repeat (first | (with_reducible first | exact HB.out | apply below_alloc | apply pw_below_drewN | apply below_drew1 | refine below_set ?_ GE187.out) | exact HB.out)⟩⟩
              · replace c8 := Bool.eq_false_iff.mpr c8
                subst c8
                have H1 : (trace_Added.l0 k1 a1 x5_1 l0 (l0.length : Int) (wrap64 (x10_1 + 1))) = some r := by rw [if_neg (show ¬ (false = true) by decide)] at H; exact H
                clear H
                have H := H1
                clear H1
                have H' := Aside0.mk H
                clear H
                have p186 : 0 ≤ (x10_1 : Int) := of_decide_eq_true (by first | (with_reducible assumption) | assumption)
                have q186 : x10_1 < (l0.length : Int) := of_decide_eq_true (by first | (with_reducible assumption) | assumption)
                obtain ⟨ad186, e186, hx186_0, hx186_1, hx186_2, hx186_3⟩ := at_T37 HR0.out x10_1 p186 q186
                cases e186
                replace hx186_0 := (HB.out.cell (World.block_lt_of_cell? w _ hx186_0)).trans hx186_0
                replace hx186_1 := (HB.out.cell (World.block_lt_of_cell? w _ hx186_1)).trans hx186_1
                replace hx186_2 := (HB.out.cell (World.block_lt_of_cell? w _ hx186_2)).trans hx186_2
                replace hx186_3 := (HB.out.cell (World.block_lt_of_cell? w _ hx186_3)).trans hx186_3
                replace p186 := eq_true p186
                replace q186 := eq_true q186
                (try (have qz186 := q186; rw [ByteArray.size_extract, Nat.min_self] at qz186))
                go_wp2_with (first | ((with_reducible refine gate_dst (N := 7) rfl ?_); (try (refine gate_guard (by rfl) ?_; dsimp only)); refine box_event ?hg (N := 7) ?hd (cs := #[.int .i64 0, .string (⟨#[]⟩ : ByteArray), .string (⟨#[]⟩ : ByteArray), .int .i64 0]) (t := 37) ?hr ?_; (case hd => rfl); (case hg => rfl); (case hr => first | (go_simp; done) | (go_simp; rfl)); intro gb187 hg w15 hbox hb; have n0_ := Aside0.mk (below_step (by repeat (first | (with_reducible first | exact HB.out | apply below_alloc | apply pw_below_drewN | apply below_drew1) | exact HB.out)) hb); have n1_ := Aside0.mk (hbox); have n2_ := Aside0.mk ((by rw [hg]; exact (below_size (by repeat (first | (with_reducible first | exact HB.out | apply below_alloc | apply pw_below_drewN | apply below_drew1) | exact HB.out))) : w.heap.size ≤ gb187)); have n3_ := Aside0.mk ((by rw [hg]; exact (below_size (by repeat (first | (with_reducible first | exact HB.out | apply below_alloc | apply pw_below_drewN | apply below_drew1) | exact HB.out))) : w.heap.size ≤ gb187)); clear HB; have HB := n0_; have BK187 := n1_; have GW187 := n2_; have GE187 := n3_; clear n0_ n1_ n2_ n3_; clear hb hbox hg; have hcz16_0 : w15.cell? ⟨gb187, 0, none⟩ = some (.int .i64 0) := (blk_cell BK187.out 0).trans rfl; have hcz16_1 : w15.cell? ⟨gb187, 1, none⟩ = some (.string (⟨#[]⟩ : ByteArray)) := (blk_cell BK187.out 1).trans rfl; have hcz16_2 : w15.cell? ⟨gb187, 2, none⟩ = some (.string (⟨#[]⟩ : ByteArray)) := (blk_cell BK187.out 2).trans rfl; have hcz16_3 : w15.cell? ⟨gb187, 3, none⟩ = some (.int .i64 0) := (blk_cell BK187.out 3).trans rfl; have hfz16_0 := blk_frozen BK187.out 0; have hfz16_1 := blk_frozen BK187.out 1; have hfz16_2 := blk_frozen BK187.out 2; have hfz16_3 := blk_frozen BK187.out 3) | ((with_reducible refine gate_dst (N := 21) rfl ?_); (try (refine gate_guard (by rfl) ?_; dsimp only)); refine Kd.R_lit Kd.string _ 9 ?hg (N := 21) ?hd (xs := ([(⟨#[117, 112]⟩ : ByteArray), (⟨#[114, 97, 105, 115, 101]⟩ : ByteArray)] : List ByteArray)) (inner := [.string (⟨#[117, 112]⟩ : ByteArray), .string (⟨#[114, 97, 105, 115, 101]⟩ : ByteArray)]) (ok := fun _ => True) (okp := fun _ => True) ?hr ?hp (fun _ hk => hk) trivial (Below.refl _ _) (Nat.le_refl _) (by simp) ?_; (case hd => rfl); (case hg => rfl); (case hr => first | (go_simp; done) | (go_simp; rfl)); (case hp => exact (Reps.one (show Kd.M Kd.string _ _ _ (⟨#[117, 112]⟩ : ByteArray) [.string (⟨#[117, 112]⟩ : ByteArray)] from rfl) (Reps.one (show Kd.M Kd.string _ _ _ (⟨#[114, 97, 105, 115, 101]⟩ : ByteArray) [.string (⟨#[114, 97, 105, 115, 101]⟩ : ByteArray)] from rfl) (Reps.none _ _)))); intro v189 w17 ho18 hb hg_ hnew_; clear hg_ hnew_; (first | rw [← Ny188.out] at ho18 | (simp only [Int.reduceToNat] at ho18; rw [← Ny188.out] at ho18)); have n0_ := Aside0.mk (Kd.R_lower ho18 (below_size (by repeat (first | (with_reducible first | exact HB.out | apply below_alloc | apply pw_below_drewN | apply below_drew1 | refine below_set ?_ GE187.out) | exact HB.out)))); have n1_ := Aside0.mk (blk_below (g := gb187) (o := .cells #[.int .i64 ((rd_T37 l0 x10_1).f0), .string ((rd_T37 l0 x10_1).f1), .string ((rd_T37 l0 x10_1).f2), .int .i64 ((rd_T37 l0 x10_1).f3)] 37 (0, 0)) (by (with_reducible repeat (first | refine blk_drewN ?_ _ | refine blk_drew ?_ | refine blk_alloc ?_ _)); refine blk_put (cs := #[.int .i64 ((rd_T37 l0 x10_1).f0), .string ((rd_T37 l0 x10_1).f1), .string ((rd_T37 l0 x10_1).f2), .int .i64 0]) ?_ 3 _ rfl; (with_reducible repeat (first | refine blk_drewN ?_ _ | refine blk_drew ?_ | refine blk_alloc ?_ _)); refine blk_put (cs := #[.int .i64 ((rd_T37 l0 x10_1).f0), .string ((rd_T37 l0 x10_1).f1), .string (⟨#[]⟩ : ByteArray), .int .i64 0]) ?_ 2 _ rfl; (with_reducible repeat (first | refine blk_drewN ?_ _ | refine blk_drew ?_ | refine blk_alloc ?_ _)); refine blk_put (cs := #[.int .i64 ((rd_T37 l0 x10_1).f0), .string (⟨#[]⟩ : ByteArray), .string (⟨#[]⟩ : ByteArray), .int .i64 0]) ?_ 1 _ rfl; (with_reducible repeat (first | refine blk_drewN ?_ _ | refine blk_drew ?_ | refine blk_alloc ?_ _)); refine blk_put (cs := #[.int .i64 0, .string (⟨#[]⟩ : ByteArray), .string (⟨#[]⟩ : ByteArray), .int .i64 0]) ?_ 0 _ rfl; (with_reducible repeat (first | refine blk_drewN ?_ _ | refine blk_drew ?_ | refine blk_alloc ?_ _)); exact BK187.out) hb); have n2_ := Aside0.mk (below_step (by repeat (first | (with_reducible first | exact HB.out | apply below_alloc | apply pw_below_drewN | apply below_drew1 | refine below_set ?_ GE187.out) | exact HB.out)) hb); clear BK187; clear HB; have HO190 := n0_; have BK187 := n1_; have HB := n2_; clear n0_ n1_ n2_; clear hb ho18; obtain ⟨Ao19, co19, eo19⟩ := Kd.R_slice HO190.out; subst eo19) | (go_at_call 35; (with_reducible refine (trace_among.calls k1 ((rd_T37 l0 x10_1).f1) _ _ y188 false _ ?side1 ?side2 A7.out).mono ?_); (case side1 => repeat (first | exact (Kd.R_reads' HO190.out).2.2 | (with_reducible refine Kd.C_alloc ?_ _) | (with_reducible refine Kd.C_drewN ?_ _) | (with_reducible refine Kd.C_drew ?_))); (case side2 => exact (Kd.R_reads' HO190.out).2.1); rintro e w' ⟨rfl, ⟨nd, rfl⟩⟩))
                go_roundg k1
                case measure => have := HK1.out; omega
                case rel => exact ⟨(x5_1), (wrap64 (x10_1 + 1)), (by first | rfl | (simp; done) | (simp [*]; done)), (by first | rfl | (simp; done) | (simp [*]; done)), H', ⟨by have := HK1.out; omega⟩, ⟨by repeat (first | (with_reducible first | exact HB.out | apply below_alloc | apply pw_below_drewN | apply below_drew1 | refine below_set ?_ GE187.out) | exact HB.out)⟩⟩
            · rw [if_neg c6] at H
              have c6b0 : (((rd_T37 l0 x10_1).f2).toList == a1.toList) = false := beq_eq_false_iff_ne.mpr c6
              have c6b1 : (((rd_T37 l0 x10_1).f2).toList != a1.toList) = true := bne_iff_ne.mpr c6
              have H' := Aside0.mk H
              clear H
              have p186 : 0 ≤ (x10_1 : Int) := of_decide_eq_true (by first | (with_reducible assumption) | assumption)
              have q186 : x10_1 < (l0.length : Int) := of_decide_eq_true (by first | (with_reducible assumption) | assumption)
              obtain ⟨ad186, e186, hx186_0, hx186_1, hx186_2, hx186_3⟩ := at_T37 HR0.out x10_1 p186 q186
              cases e186
              replace hx186_0 := (HB.out.cell (World.block_lt_of_cell? w _ hx186_0)).trans hx186_0
              replace hx186_1 := (HB.out.cell (World.block_lt_of_cell? w _ hx186_1)).trans hx186_1
              replace hx186_2 := (HB.out.cell (World.block_lt_of_cell? w _ hx186_2)).trans hx186_2
              replace hx186_3 := (HB.out.cell (World.block_lt_of_cell? w _ hx186_3)).trans hx186_3
              replace p186 := eq_true p186
              replace q186 := eq_true q186
              (try (have qz186 := q186; rw [ByteArray.size_extract, Nat.min_self] at qz186))
              go_wp2_with (first | ((with_reducible refine gate_dst (N := 7) rfl ?_); (try (refine gate_guard (by rfl) ?_; dsimp only)); refine box_event ?hg (N := 7) ?hd (cs := #[.int .i64 0, .string (⟨#[]⟩ : ByteArray), .string (⟨#[]⟩ : ByteArray), .int .i64 0]) (t := 37) ?hr ?_; (case hd => rfl); (case hg => rfl); (case hr => first | (go_simp; done) | (go_simp; rfl)); intro gb187 hg w20 hbox hb; have n0_ := Aside0.mk (below_step (by repeat (first | (with_reducible first | exact HB.out | apply below_alloc | apply pw_below_drewN | apply below_drew1) | exact HB.out)) hb); have n1_ := Aside0.mk (hbox); have n2_ := Aside0.mk ((by rw [hg]; exact (below_size (by repeat (first | (with_reducible first | exact HB.out | apply below_alloc | apply pw_below_drewN | apply below_drew1) | exact HB.out))) : w.heap.size ≤ gb187)); have n3_ := Aside0.mk ((by rw [hg]; exact (below_size (by repeat (first | (with_reducible first | exact HB.out | apply below_alloc | apply pw_below_drewN | apply below_drew1) | exact HB.out))) : w.heap.size ≤ gb187)); clear HB; have HB := n0_; have BK187 := n1_; have GW187 := n2_; have GE187 := n3_; clear n0_ n1_ n2_ n3_; clear hb hbox hg; have hcz21_0 : w20.cell? ⟨gb187, 0, none⟩ = some (.int .i64 0) := (blk_cell BK187.out 0).trans rfl; have hcz21_1 : w20.cell? ⟨gb187, 1, none⟩ = some (.string (⟨#[]⟩ : ByteArray)) := (blk_cell BK187.out 1).trans rfl; have hcz21_2 : w20.cell? ⟨gb187, 2, none⟩ = some (.string (⟨#[]⟩ : ByteArray)) := (blk_cell BK187.out 2).trans rfl; have hcz21_3 : w20.cell? ⟨gb187, 3, none⟩ = some (.int .i64 0) := (blk_cell BK187.out 3).trans rfl; have hfz21_0 := blk_frozen BK187.out 0; have hfz21_1 := blk_frozen BK187.out 1; have hfz21_2 := blk_frozen BK187.out 2; have hfz21_3 := blk_frozen BK187.out 3))
              go_roundg k1
              case measure => have := HK1.out; omega
              case rel => exact ⟨(x5_1), (wrap64 (x10_1 + 1)), (by first | rfl | (simp; done) | (simp [*]; done)), (by first | rfl | (simp; done) | (simp [*]; done)), H', ⟨by have := HK1.out; omega⟩, ⟨by repeat (first | (with_reducible first | exact HB.out | apply below_alloc | apply pw_below_drewN | apply below_drew1 | refine below_set ?_ GE187.out) | exact HB.out)⟩⟩
          · rw [if_neg c5] at H
            exact absurd H (by simp)
        · rw [if_neg c4] at H
          exact absurd H (by simp)
      · rw [if_neg c3] at H
        have c3b0 : decide (x10_1 < (l0.length : Int)) = false := decide_eq_false c3
        clear c3
        obtain rfl := Option.some.inj H
        go_wp2
        go_ret
        exact ⟨by first | rfl | (simp [errW_none, errW_some] <;> rfl) | (simp [*, errW_none, errW_some] <;> rfl), by repeat (first | (with_reducible first | exact HB.out | apply below_alloc | apply pw_below_drewN | apply below_drew1) | exact HB.out)⟩
end Go.Proofs.Ytngmcigkihfnkaa.H
end
section
namespace Go.Proofs.Ytngmcigkihfnkaa.H
open Go.RowKit Go.Proofs.YtngmcigkihfnkaaW.PrintWords Go.Proofs.YtngmcigkihfnkaaW.PrintLast Go.Proofs.YtngmcigkihfnkaaW.PrintMore
attribute [local go_sem] max2_int min2_int max_two min_two max_three min_three max_four min_four   -- for this text's walks alone
set_option linter.unusedVariables false
set_option linter.unusedSimpArgs false
theorem eqA37 (d : Nat) (w : World) (x0 y0 : Int) (x1 y1 : ByteArray) (x2 y2 : ByteArray) (x3 y3 : Int) :
    (Op.equalIn (d + 2) 37 (.agg #[.int .i64 x0, .string x1, .string x2, .int .i64 x3]) (.agg #[.int .i64 y0, .string y1, .string y2, .int .i64 y3])).run Try.prog w = .ok (x0 == y0 && (x1.toList == y1.toList && (x2.toList == y2.toList && (x3 == y3)))) w := by
  refine eqA_of Try.underlying37 (by kernel_rfl) ?_
  refine eqf_cons (by rfl) (by go_simp; rfl) (by go_simp; rfl) (by go_simp) ?_
  refine eqf_cons (by rfl) (by go_simp; rfl) (by go_simp; rfl) (by go_simp) ?_
  refine eqf_cons (by rfl) (by go_simp; rfl) (by go_simp; rfl) (by go_simp) ?_
  exact eqf_last (by rfl) (by go_simp; rfl) (by go_simp; rfl) (by go_simp)
end Go.Proofs.Ytngmcigkihfnkaa.H
end
section
namespace Go.Proofs.Ytngmcigkihfnkaa.H
open Go.RowKit Go.Proofs.YtngmcigkihfnkaaW.PrintWords Go.Proofs.YtngmcigkihfnkaaW.PrintLast Go.Proofs.YtngmcigkihfnkaaW.PrintMore
attribute [local go_sem] max2_int min2_int max_two min_two max_three min_three max_four min_four   -- for this text's walks alone
set_option linter.unusedVariables false
set_option linter.unusedSimpArgs false
attribute [local go_sem high] eqA37
def triremelaw32_known.j0 : Nat → List (S37) → Int → Int → Bool → Option (Bool)
  | 0, _, _, _, _ => none
  | k + 1, x1, x5, x6, x27 => if x27 = true then (some false) else (if 0 < (x1.length : Int) then (if (((rd_T37 x1 0).f0) == 3 && ((((rd_T37 x1 0).f1).toList) == ([117, 112] : List UInt8) && ((((rd_T37 x1 0).f2).toList) == ([103] : List UInt8) && (((rd_T37 x1 0).f3) == 1)))) = true then ((trace_Check.f k x1).bind fun t203 => (if t203 = (-1) then (if 2 ≤ (x1.length : Int) then ((trace_Check.f k (x1.drop 2)).bind fun t208 => (if t208 = 0 then (if x5 = 12 then (if x6 = 2 then ((trace_Calls.f k x1).bind fun t209 => (if t209 = 2 then ((trace_Added.f k x1 (⟨#[103]⟩ : ByteArray)).bind fun t210 => (if t210 = 1 then (if 4 < (x1.length : Int) then ((trace_Right.f k ((rd_T37 x1 4).f0) ((rd_T37 x1 4).f1) ((rd_T37 x1 4).f2) ((rd_T37 x1 4).f3)).bind fun t212 => (if t212 = true then ((trace_Right.f k 0 (⟨#[117, 112]⟩ : ByteArray) (⟨#[103]⟩ : ByteArray) 0).bind fun t213 => (if t213 = true then (some false) else (if 1 ≤ (x1.length : Int) then ((trace_Show.f k (x1.take 1)).bind fun t218 => (some (t218.toList == ([51, 58, 32, 117, 112, 32, 103, 32, 49, 10] : List UInt8)))) else (none)))) else (some false))) else (none)) else (some false))) else (some false))) else (some false)) else (some false)) else (some false))) else (none)) else (some false))) else (some false)) else (none))
def triremelaw32_known.f (k : Nat)  : Option (Bool) := (trace_Parse.f k (⟨#[51, 58, 32, 117, 112, 32, 103, 32, 49, 10, 52, 58, 32, 100, 111, 119, 110, 32, 103, 45, 49, 10, 53, 58, 32, 100, 101, 108, 101, 116, 101, 32, 103, 45, 49, 10, 54, 58, 32, 103, 111, 110, 101, 32, 103, 45, 49, 10, 54, 58, 32, 117, 110, 104, 101, 97, 108, 116, 104, 121, 10]⟩ : ByteArray)).bind fun bt192 => ((trace_Parse.f k (⟨#[51, 58, 32, 117, 112, 32, 103, 32, 49, 10, 52, 58, 32, 117, 112, 32, 103, 10]⟩ : ByteArray)).bind fun bt197 => (if bt192.2.1 = 0 then (if bt192.2.2 = 0 then (triremelaw32_known.j0 k bt192.1 bt197.2.1 bt197.2.2 ((bt192.1.length : Int) != 5)) else (triremelaw32_known.j0 k bt192.1 bt197.2.1 bt197.2.2 true)) else (triremelaw32_known.j0 k bt192.1 bt197.2.1 bt197.2.2 true)))
theorem triremelaw32_known.mono_l : ∀ k, (∀ y0 y1 y2 y3, LeO (triremelaw32_known.j0 k y0 y1 y2 y3) (triremelaw32_known.j0 (k + 1) y0 y1 y2 y3))
  | 0 => fun _ _ _ _ r h => by simp [triremelaw32_known.j0] at h
  | k + 1 => by
    have ih0 := triremelaw32_known.mono_l k
    · intro y0 y1 y2 y3
      unfold triremelaw32_known.j0
      repeat' first
      | (with_reducible exact ih0 _ _ _ _)
      | (with_reducible exact trace_Added.mono _ _ _)
      | (with_reducible exact trace_Calls.mono _ _)
      | (with_reducible exact trace_Check.mono _ _)
      | (with_reducible exact trace_Parse.mono _ _)
      | (with_reducible exact trace_Right.mono _ _ _ _ _)
      | (with_reducible exact trace_Show.mono _ _)
      | (with_reducible exact LeO.refl _)
      | (with_reducible exact LeO.none _)
      | (with_reducible refine LeO.ite ?_ ?_)
      | (with_reducible refine LeO.bind ?_ (fun _ => ?_))
      | exact ih0 _ _ _ _
      | exact trace_Added.mono _ _ _
      | exact trace_Calls.mono _ _
      | exact trace_Check.mono _ _
      | exact trace_Parse.mono _ _
      | exact trace_Right.mono _ _ _ _ _
      | exact trace_Show.mono _ _
      | exact LeO.none _
      | refine LeO.ite ?_ ?_
      | refine LeO.bind ?_ (fun _ => ?_)
theorem triremelaw32_known.mono : ∀ k, LeO (triremelaw32_known.f k ) (triremelaw32_known.f (k + 1) ) := by
  intro  k
  have ih0 := triremelaw32_known.mono_l k
  unfold triremelaw32_known.f
  repeat' first
      | (with_reducible exact ih0 _ _ _ _)
      | (with_reducible exact trace_Added.mono _ _ _)
      | (with_reducible exact trace_Calls.mono _ _)
      | (with_reducible exact trace_Check.mono _ _)
      | (with_reducible exact trace_Parse.mono _ _)
      | (with_reducible exact trace_Right.mono _ _ _ _ _)
      | (with_reducible exact trace_Show.mono _ _)
      | (with_reducible exact LeO.refl _)
      | (with_reducible exact LeO.none _)
      | (with_reducible refine LeO.ite ?_ ?_)
      | (with_reducible refine LeO.bind ?_ (fun _ => ?_))
      | exact ih0 _ _ _ _
      | exact trace_Added.mono _ _ _
      | exact trace_Calls.mono _ _
      | exact trace_Check.mono _ _
      | exact trace_Parse.mono _ _
      | exact trace_Right.mono _ _ _ _ _
      | exact trace_Show.mono _ _
      | exact LeO.none _
      | refine LeO.ite ?_ ?_
      | refine LeO.bind ?_ (fun _ => ?_)
set_option maxHeartbeats 8000000 in
set_option maxRecDepth 100000 in
theorem triremelaw32_known.calls (k : Nat)  (r : Bool) (w : World) (h : triremelaw32_known.f k  = some r) :
    Calls Try.prog 7 #[] w fun e w' => e = .returned (.bool r) ∧ Below w.heap.size w w' := by
  have hu37 := Try.underlying37
  have HB := Aside0.mk (Below.refl w.heap.size w)
  have H : ((trace_Parse.f k (⟨#[51, 58, 32, 117, 112, 32, 103, 32, 49, 10, 52, 58, 32, 100, 111, 119, 110, 32, 103, 45, 49, 10, 53, 58, 32, 100, 101, 108, 101, 116, 101, 32, 103, 45, 49, 10, 54, 58, 32, 103, 111, 110, 101, 32, 103, 45, 49, 10, 54, 58, 32, 117, 110, 104, 101, 97, 108, 116, 104, 121, 10]⟩ : ByteArray)).bind fun bt192 => ((trace_Parse.f k (⟨#[51, 58, 32, 117, 112, 32, 103, 32, 49, 10, 52, 58, 32, 117, 112, 32, 103, 10]⟩ : ByteArray)).bind fun bt197 => (if bt192.2.1 = 0 then (if bt192.2.2 = 0 then (triremelaw32_known.j0 k bt192.1 bt197.2.1 bt197.2.2 ((bt192.1.length : Int) != 5)) else (triremelaw32_known.j0 k bt192.1 bt197.2.1 bt197.2.2 true)) else (triremelaw32_known.j0 k bt192.1 bt197.2.1 bt197.2.2 true)))) = some r := h
  clear h
  replace H := Option.bind_eq_some_iff.mp H
  obtain ⟨⟨t192, t193, t194⟩, A10, H⟩ := H
  replace H : ((trace_Parse.f k (⟨#[51, 58, 32, 117, 112, 32, 103, 32, 49, 10, 52, 58, 32, 117, 112, 32, 103, 10]⟩ : ByteArray)).bind fun bt197 => (if t193 = 0 then (if t194 = 0 then (triremelaw32_known.j0 k t192 bt197.2.1 bt197.2.2 ((t192.length : Int) != 5)) else (triremelaw32_known.j0 k t192 bt197.2.1 bt197.2.2 true)) else (triremelaw32_known.j0 k t192 bt197.2.1 bt197.2.2 true))) = some r := H
  have A1 := Aside0.mk A10
  clear A10
  replace H := Option.bind_eq_some_iff.mp H
  obtain ⟨⟨t197, t198, t199⟩, A20, H⟩ := H
  replace H : (if t193 = 0 then (if t194 = 0 then (triremelaw32_known.j0 k t192 t198 t199 ((t192.length : Int) != 5)) else (triremelaw32_known.j0 k t192 t198 t199 true)) else (triremelaw32_known.j0 k t192 t198 t199 true)) = some r := H
  have A2 := Aside0.mk A20
  clear A20
  have HC3 := Aside0.mk H
  clear H
  go_enter Try.func7, Try.ntmps7
  go_upto_region 3 with (first | ((first | ((with_reducible refine gate_callee (f := 8) rfl ?_); refine goesL_ (some 8) rfl rfl Try.func8 (by kernel_rfl) rfl #[.string (⟨#[51, 58, 32, 117, 112, 32, 103, 32, 49, 10, 52, 58, 32, 100, 111, 119, 110, 32, 103, 45, 49, 10, 53, 58, 32, 100, 101, 108, 101, 116, 101, 32, 103, 45, 49, 10, 54, 58, 32, 103, 111, 110, 101, 32, 103, 45, 49, 10, 54, 58, 32, 117, 110, 104, 101, 97, 108, 116, 104, 121, 10]⟩ : ByteArray)] rfl (by (try simp only [List.map_toArray, List.map_cons, List.map_nil]); first | done | rfl | (simp only [List.length_drop, List.length_take]; rfl)) ?_; (with_reducible refine (trace_Parse.calls k (⟨#[51, 58, 32, 117, 112, 32, 103, 32, 49, 10, 52, 58, 32, 100, 111, 119, 110, 32, 103, 45, 49, 10, 53, 58, 32, 100, 101, 108, 101, 116, 101, 32, 103, 45, 49, 10, 54, 58, 32, 103, 111, 110, 101, 32, 103, 45, 49, 10, 54, 58, 32, 117, 110, 104, 101, 97, 108, 116, 104, 121, 10]⟩ : ByteArray) t192 t193 t194 _ A1.out).mono ?_); rintro e w4 ⟨v195, rfl, ho0, hb⟩; refine ⟨_, rfl, ?_⟩) | (go_at_call 8; (with_reducible refine (trace_Parse.calls k (⟨#[51, 58, 32, 117, 112, 32, 103, 32, 49, 10, 52, 58, 32, 100, 111, 119, 110, 32, 103, 45, 49, 10, 53, 58, 32, 100, 101, 108, 101, 116, 101, 32, 103, 45, 49, 10, 54, 58, 32, 103, 111, 110, 101, 32, 103, 45, 49, 10, 54, 58, 32, 117, 110, 104, 101, 97, 108, 116, 104, 121, 10]⟩ : ByteArray) t192 t193 t194 _ A1.out).mono ?_); rintro e w4 ⟨v195, rfl, ho0, hb⟩)); have n0_ := Aside0.mk (Kd.R_lower ho0 (below_size (by repeat (first | (with_reducible first | exact HB.out | apply below_alloc | apply pw_below_drewN | apply below_drew1) | exact HB.out)))); have n1_ := Aside0.mk (below_step (by repeat (first | (with_reducible first | exact HB.out | apply below_alloc | apply pw_below_drewN | apply below_drew1) | exact HB.out)) hb); clear HB; have HO196 := n0_; have HB := n1_; clear n0_ n1_; (try clear hb); (try clear hb2); (try clear hk); (try clear hi); (try clear ho0)) | ((first | ((with_reducible refine gate_callee (f := 8) rfl ?_); refine goesL_ (some 13) rfl rfl Try.func8 (by kernel_rfl) rfl #[.string (⟨#[51, 58, 32, 117, 112, 32, 103, 32, 49, 10, 52, 58, 32, 117, 112, 32, 103, 10]⟩ : ByteArray)] rfl (by (try simp only [List.map_toArray, List.map_cons, List.map_nil]); first | done | rfl | (simp only [List.length_drop, List.length_take]; rfl)) ?_; (with_reducible refine (trace_Parse.calls k (⟨#[51, 58, 32, 117, 112, 32, 103, 32, 49, 10, 52, 58, 32, 117, 112, 32, 103, 10]⟩ : ByteArray) t197 t198 t199 _ A2.out).mono ?_); rintro e w5 ⟨v200, rfl, ho0, hb⟩; refine ⟨_, rfl, ?_⟩) | (go_at_call 8; (with_reducible refine (trace_Parse.calls k (⟨#[51, 58, 32, 117, 112, 32, 103, 32, 49, 10, 52, 58, 32, 117, 112, 32, 103, 10]⟩ : ByteArray) t197 t198 t199 _ A2.out).mono ?_); rintro e w5 ⟨v200, rfl, ho0, hb⟩)); have n0_ := Aside0.mk (Kd.R_elder' (by (with_reducible repeat (first | apply Kd.R_alloc | apply Kd.R_drewN | apply Kd.R_drew)); exact HO196.out) (Kd.R_base ho0) hb); have n1_ := Aside0.mk (Kd.R_lower (Kd.R_new' ho0 (Kd.R_lt (by (with_reducible repeat (first | apply Kd.R_alloc | apply Kd.R_drewN | apply Kd.R_drew)); exact HO196.out))) (below_size (by repeat (first | (with_reducible first | exact HB.out | apply below_alloc | apply pw_below_drewN | apply below_drew1) | exact HB.out)))); have n2_ := Aside0.mk (below_step (by repeat (first | (with_reducible first | exact HB.out | apply below_alloc | apply pw_below_drewN | apply below_drew1) | exact HB.out)) hb); clear HO196; clear HB; have HO196 := n0_; have HO201 := n1_; have HB := n2_; clear n0_ n1_ n2_; (try clear hb); (try clear hb2); (try clear hk); (try clear hi); (try clear ho0)))
  (try simp only [Act.put, List.setIfInBounds_toArray, List.set_cons_zero, List.set_cons_succ])
  go_cut [27] (fun v27 wc => ∃ (kq : Nat) (x27_2 : Bool), v27 = .bool x27_2 ∧ Aside0 (triremelaw32_known.j0 kq t192 t198 t199 x27_2 = some r) ∧ Aside0 (kq ≤ k) ∧ Aside0 (Kd.R k37 37 wc w.heap.size (fun _ => True) v195 t192) ∧ Aside0 (Below w.heap.size w wc))
  case first =>
    have H := HC3.out
    clear HC3
    by_cases c6 : t193 = 0
    · rw [if_pos c6] at H
      have c6b0 : (t193 == 0) = true := beq_iff_eq.mpr c6
      have c6b1 : (t193 != 0) = false := bne_eq_false_iff_eq.mpr c6
      clear c6
      (first | rw [c6b0] | (simp only [i64_w, i32_w]; rw [c6b0]) | skip)
      by_cases c7 : t194 = 0
      · rw [if_pos c7] at H
        have c7b0 : (t194 == 0) = true := beq_iff_eq.mpr c7
        have c7b1 : (t194 != 0) = false := bne_eq_false_iff_eq.mpr c7
        clear c7
        have H' := Aside0.mk H
        clear H
        obtain ⟨Ao8, co8, eo8⟩ := Kd.R_slice HO196.out
        subst eo8
        go_wp2
        go_meet
        case rel => exact ⟨_, (((t192.length : Int) != 5)), (by first | rfl | (simp; done) | (simp [*]; done)), H', ⟨by first | omega | exact Nat.le_refl _⟩, ⟨by (with_reducible repeat (first | apply Kd.R_alloc | apply Kd.R_drewN | apply Kd.R_drew)); exact Kd.R_mono HO196.out (fun _ hk => trivial)⟩, ⟨by repeat (first | (with_reducible first | exact HB.out | apply below_alloc | apply pw_below_drewN | apply below_drew1) | exact HB.out)⟩⟩
      · rw [if_neg c7] at H
        have c7b0 : (t194 == 0) = false := beq_eq_false_iff_ne.mpr c7
        have c7b1 : (t194 != 0) = true := bne_iff_ne.mpr c7
        have H' := Aside0.mk H
        clear H
        go_wp2
        go_meet
        case rel => exact ⟨_, (true), (by first | rfl | (simp; done) | (simp [*]; done)), H', ⟨by first | omega | exact Nat.le_refl _⟩, ⟨by (with_reducible repeat (first | apply Kd.R_alloc | apply Kd.R_drewN | apply Kd.R_drew)); exact Kd.R_mono HO196.out (fun _ hk => trivial)⟩, ⟨by repeat (first | (with_reducible first | exact HB.out | apply below_alloc | apply pw_below_drewN | apply below_drew1) | exact HB.out)⟩⟩
    · rw [if_neg c6] at H
      have c6b0 : (t193 == 0) = false := beq_eq_false_iff_ne.mpr c6
      have c6b1 : (t193 != 0) = true := bne_iff_ne.mpr c6
      (first | rw [c6b0] | (simp only [i64_w, i32_w]; rw [c6b0]) | skip)
      have H' := Aside0.mk H
      clear H
      go_wp2
      go_meet
      case rel => exact ⟨_, (true), (by first | rfl | (simp; done) | (simp [*]; done)), H', ⟨by first | omega | exact Nat.le_refl _⟩, ⟨by (with_reducible repeat (first | apply Kd.R_alloc | apply Kd.R_drewN | apply Kd.R_drew)); exact Kd.R_mono HO196.out (fun _ hk => trivial)⟩, ⟨by repeat (first | (with_reducible first | exact HB.out | apply below_alloc | apply pw_below_drewN | apply below_drew1) | exact HB.out)⟩⟩
  case rest =>
    clear HC3
    try clear p2
    try clear c6
    try clear c6b0
    try clear c6b1
    try clear c7
    try clear c7b0
    try clear c7b1
    try clear c8
    obtain ⟨kq, x27_2, rfl, HA, HJ2, HO_1, HB⟩ := hcut
    cases kq with
    | zero => exact absurd HA.out (by simp [triremelaw32_known.j0])
    | succ kj2 =>
      have H := HA.out
      clear HA
      simp only [triremelaw32_known.j0] at H
      by_cases c9 : x27_2 = true
      · subst c9
        have H1 : (some false) = some r := by rw [if_pos rfl] at H; exact H
        clear H
        have H := H1
        clear H1
        obtain rfl := Option.some.inj H
        go_wp2
        go_ret
        exact ⟨by first | rfl | (simp [errW_none, errW_some] <;> rfl) | (simp [*, errW_none, errW_some] <;> rfl), by repeat (first | (with_reducible first | exact HB.out | apply below_alloc | apply pw_below_drewN | apply below_drew1) | exact HB.out)⟩
      · replace c9 := Bool.eq_false_iff.mpr c9
        subst c9
        have H1 : (if 0 < (t192.length : Int) then (if (((rd_T37 t192 0).f0) == 3 && ((((rd_T37 t192 0).f1).toList) == ([117, 112] : List UInt8) && ((((rd_T37 t192 0).f2).toList) == ([103] : List UInt8) && (((rd_T37 t192 0).f3) == 1)))) = true then ((trace_Check.f kj2 t192).bind fun t203 => (if t203 = (-1) then (if 2 ≤ (t192.length : Int) then ((trace_Check.f kj2 (t192.drop 2)).bind fun t208 => (if t208 = 0 then (if t198 = 12 then (if t199 = 2 then ((trace_Calls.f kj2 t192).bind fun t209 => (if t209 = 2 then ((trace_Added.f kj2 t192 (⟨#[103]⟩ : ByteArray)).bind fun t210 => (if t210 = 1 then (if 4 < (t192.length : Int) then ((trace_Right.f kj2 ((rd_T37 t192 4).f0) ((rd_T37 t192 4).f1) ((rd_T37 t192 4).f2) ((rd_T37 t192 4).f3)).bind fun t212 => (if t212 = true then ((trace_Right.f kj2 0 (⟨#[117, 112]⟩ : ByteArray) (⟨#[103]⟩ : ByteArray) 0).bind fun t213 => (if t213 = true then (some false) else (if 1 ≤ (t192.length : Int) then ((trace_Show.f kj2 (t192.take 1)).bind fun t218 => (some (t218.toList == ([51, 58, 32, 117, 112, 32, 103, 32, 49, 10] : List UInt8)))) else (none)))) else (some false))) else (none)) else (some false))) else (some false))) else (some false)) else (some false)) else (some false))) else (none)) else (some false))) else (some false)) else (none)) = some r := by rw [if_neg (show ¬ (false = true) by decide)] at H; exact H
        clear H
        have H := H1
        clear H1
        by_cases c10 : 0 < (t192.length : Int)
        · rw [if_pos c10] at H
          have c10b0 : decide (0 < (t192.length : Int)) = true := decide_eq_true c10
          have c10b1 : decide (0 < t192.length) = true := decide_eq_true (by omega)
          clear c10
          by_cases c11 : (((rd_T37 t192 0).f0) == 3 && ((((rd_T37 t192 0).f1).toList) == ([117, 112] : List UInt8) && ((((rd_T37 t192 0).f2).toList) == ([103] : List UInt8) && (((rd_T37 t192 0).f3) == 1)))) = true
          · rw [if_pos c11] at H
            have c11b0 : (((rd_T37 t192 0).f0) == 3 && ((((rd_T37 t192 0).f1).toList) == ([117, 112] : List UInt8) && ((((rd_T37 t192 0).f2).toList) == ([103] : List UInt8) && (((rd_T37 t192 0).f3) == 1)))) = true := c11
            (try (have c11b1 : decide (((rd_T37 t192 0).f0) = 3 && ((((rd_T37 t192 0).f1).toList) == ([117, 112] : List UInt8) && ((((rd_T37 t192 0).f2).toList) == ([103] : List UInt8) && (((rd_T37 t192 0).f3) == 1)))) = true := by simpa using c11))
            (try (have c11b2 : (((rd_T37 t192 0).f0) == 3 && ((((rd_T37 t192 0).f1).toList) == ([117, 112] : List UInt8) && ((((rd_T37 t192 0).f2).toList) == ([103] : List UInt8) && (((rd_T37 t192 0).f3) == 1)))) = true := by simpa using c11))
            clear c11
            replace H := Option.bind_eq_some_iff.mp H
            obtain ⟨t203, A120, H⟩ := H
            replace H : (if t203 = (-1) then (if 2 ≤ (t192.length : Int) then ((trace_Check.f kj2 (t192.drop 2)).bind fun t208 => (if t208 = 0 then (if t198 = 12 then (if t199 = 2 then ((trace_Calls.f kj2 t192).bind fun t209 => (if t209 = 2 then ((trace_Added.f kj2 t192 (⟨#[103]⟩ : ByteArray)).bind fun t210 => (if t210 = 1 then (if 4 < (t192.length : Int) then ((trace_Right.f kj2 ((rd_T37 t192 4).f0) ((rd_T37 t192 4).f1) ((rd_T37 t192 4).f2) ((rd_T37 t192 4).f3)).bind fun t212 => (if t212 = true then ((trace_Right.f kj2 0 (⟨#[117, 112]⟩ : ByteArray) (⟨#[103]⟩ : ByteArray) 0).bind fun t213 => (if t213 = true then (some false) else (if 1 ≤ (t192.length : Int) then ((trace_Show.f kj2 (t192.take 1)).bind fun t218 => (some (t218.toList == ([51, 58, 32, 117, 112, 32, 103, 32, 49, 10] : List UInt8)))) else (none)))) else (some false))) else (none)) else (some false))) else (some false))) else (some false)) else (some false)) else (some false))) else (none)) else (some false)) = some r := H
            have A12 := Aside0.mk A120
            clear A120
            by_cases c13 : t203 = (-1)
            · rw [if_pos c13] at H
              have c13b0 : (t203 == (-1)) = true := beq_iff_eq.mpr c13
              have c13b1 : (t203 != (-1)) = false := bne_eq_false_iff_eq.mpr c13
              clear c13
              by_cases c14 : 2 ≤ (t192.length : Int)
              · rw [if_pos c14] at H
                have c14b0 := eq_true c14
                (try (have c14z := c14b0; rw [ByteArray.size_extract, Nat.min_self] at c14z))
                have c14b1 : decide (2 ≤ (t192.length : Int)) = true := decide_eq_true c14
                clear c14
                obtain ⟨y204, hy204⟩ : ∃ y_ : List (S37), y_ = (t192.drop 2) := ⟨_, rfl⟩
                replace H : ((trace_Check.f kj2 y204).bind fun t208 => (if t208 = 0 then (if t198 = 12 then (if t199 = 2 then ((trace_Calls.f kj2 t192).bind fun t209 => (if t209 = 2 then ((trace_Added.f kj2 t192 (⟨#[103]⟩ : ByteArray)).bind fun t210 => (if t210 = 1 then (if 4 < (t192.length : Int) then ((trace_Right.f kj2 ((rd_T37 t192 4).f0) ((rd_T37 t192 4).f1) ((rd_T37 t192 4).f2) ((rd_T37 t192 4).f3)).bind fun t212 => (if t212 = true then ((trace_Right.f kj2 0 (⟨#[117, 112]⟩ : ByteArray) (⟨#[103]⟩ : ByteArray) 0).bind fun t213 => (if t213 = true then (some false) else (if 1 ≤ (t192.length : Int) then ((trace_Show.f kj2 (t192.take 1)).bind fun t218 => (some (t218.toList == ([51, 58, 32, 117, 112, 32, 103, 32, 49, 10] : List UInt8)))) else (none)))) else (some false))) else (none)) else (some false))) else (some false))) else (some false)) else (some false)) else (some false))) = some r := by first | (rw [hy204]; with_reducible exact H) | (have H2_ := (Option.bind_some _ _).symm.trans H; rw [hy204]; with_reducible exact H2_) | (have H2_ := (Option.bind_some _ _).symm.trans H; with_reducible exact H2_) | with_reducible exact H | (rw [hy204]; exact H) | exact H
                have Ny204 := Aside0.mk hy204
                clear hy204
                replace H := Option.bind_eq_some_iff.mp H
                obtain ⟨t208, A150, H⟩ := H
                replace H : (if t208 = 0 then (if t198 = 12 then (if t199 = 2 then ((trace_Calls.f kj2 t192).bind fun t209 => (if t209 = 2 then ((trace_Added.f kj2 t192 (⟨#[103]⟩ : ByteArray)).bind fun t210 => (if t210 = 1 then (if 4 < (t192.length : Int) then ((trace_Right.f kj2 ((rd_T37 t192 4).f0) ((rd_T37 t192 4).f1) ((rd_T37 t192 4).f2) ((rd_T37 t192 4).f3)).bind fun t212 => (if t212 = true then ((trace_Right.f kj2 0 (⟨#[117, 112]⟩ : ByteArray) (⟨#[103]⟩ : ByteArray) 0).bind fun t213 => (if t213 = true then (some false) else (if 1 ≤ (t192.length : Int) then ((trace_Show.f kj2 (t192.take 1)).bind fun t218 => (some (t218.toList == ([51, 58, 32, 117, 112, 32, 103, 32, 49, 10] : List UInt8)))) else (none)))) else (some false))) else (none)) else (some false))) else (some false))) else (some false)) else (some false)) else (some false)) = some r := H
                have A15 := Aside0.mk A150
                clear A150
                by_cases c16 : t208 = 0
                · rw [if_pos c16] at H
                  have c16b0 : (t208 == 0) = true := beq_iff_eq.mpr c16
                  have c16b1 : (t208 != 0) = false := bne_eq_false_iff_eq.mpr c16
                  clear c16
                  by_cases c17 : t198 = 12
                  · rw [if_pos c17] at H
                    have c17b0 : (t198 == 12) = true := beq_iff_eq.mpr c17
                    have c17b1 : (t198 != 12) = false := bne_eq_false_iff_eq.mpr c17
                    clear c17
                    by_cases c18 : t199 = 2
                    · rw [if_pos c18] at H
                      have c18b0 : (t199 == 2) = true := beq_iff_eq.mpr c18
                      have c18b1 : (t199 != 2) = false := bne_eq_false_iff_eq.mpr c18
                      clear c18
                      replace H := Option.bind_eq_some_iff.mp H
                      obtain ⟨t209, A190, H⟩ := H
                      replace H : (if t209 = 2 then ((trace_Added.f kj2 t192 (⟨#[103]⟩ : ByteArray)).bind fun t210 => (if t210 = 1 then (if 4 < (t192.length : Int) then ((trace_Right.f kj2 ((rd_T37 t192 4).f0) ((rd_T37 t192 4).f1) ((rd_T37 t192 4).f2) ((rd_T37 t192 4).f3)).bind fun t212 => (if t212 = true then ((trace_Right.f kj2 0 (⟨#[117, 112]⟩ : ByteArray) (⟨#[103]⟩ : ByteArray) 0).bind fun t213 => (if t213 = true then (some false) else (if 1 ≤ (t192.length : Int) then ((trace_Show.f kj2 (t192.take 1)).bind fun t218 => (some (t218.toList == ([51, 58, 32, 117, 112, 32, 103, 32, 49, 10] : List UInt8)))) else (none)))) else (some false))) else (none)) else (some false))) else (some false)) = some r := H
                      have A19 := Aside0.mk A190
                      clear A190
                      by_cases c20 : t209 = 2
                      · rw [if_pos c20] at H
                        have c20b0 : (t209 == 2) = true := beq_iff_eq.mpr c20
                        have c20b1 : (t209 != 2) = false := bne_eq_false_iff_eq.mpr c20
                        clear c20
                        replace H := Option.bind_eq_some_iff.mp H
                        obtain ⟨t210, A210, H⟩ := H
                        replace H : (if t210 = 1 then (if 4 < (t192.length : Int) then ((trace_Right.f kj2 ((rd_T37 t192 4).f0) ((rd_T37 t192 4).f1) ((rd_T37 t192 4).f2) ((rd_T37 t192 4).f3)).bind fun t212 => (if t212 = true then ((trace_Right.f kj2 0 (⟨#[117, 112]⟩ : ByteArray) (⟨#[103]⟩ : ByteArray) 0).bind fun t213 => (if t213 = true then (some false) else (if 1 ≤ (t192.length : Int) then ((trace_Show.f kj2 (t192.take 1)).bind fun t218 => (some (t218.toList == ([51, 58, 32, 117, 112, 32, 103, 32, 49, 10] : List UInt8)))) else (none)))) else (some false))) else (none)) else (some false)) = some r := H
                        have A21 := Aside0.mk A210
                        clear A210
                        by_cases c22 : t210 = 1
                        · rw [if_pos c22] at H
                          have c22b0 : (t210 == 1) = true := beq_iff_eq.mpr c22
                          have c22b1 : (t210 != 1) = false := bne_eq_false_iff_eq.mpr c22
                          clear c22
                          by_cases c23 : 4 < (t192.length : Int)
                          · rw [if_pos c23] at H
                            have c23b0 : decide (4 < (t192.length : Int)) = true := decide_eq_true c23
                            have c23b1 : decide (4 < t192.length) = true := decide_eq_true (by omega)
                            clear c23
                            replace H := Option.bind_eq_some_iff.mp H
                            obtain ⟨t212, A240, H⟩ := H
                            replace H : (if t212 = true then ((trace_Right.f kj2 0 (⟨#[117, 112]⟩ : ByteArray) (⟨#[103]⟩ : ByteArray) 0).bind fun t213 => (if t213 = true then (some false) else (if 1 ≤ (t192.length : Int) then ((trace_Show.f kj2 (t192.take 1)).bind fun t218 => (some (t218.toList == ([51, 58, 32, 117, 112, 32, 103, 32, 49, 10] : List UInt8)))) else (none)))) else (some false)) = some r := H
                            have A24 := Aside0.mk A240
                            clear A240
                            by_cases c25 : t212 = true
                            · subst c25
                              have H1 : ((trace_Right.f kj2 0 (⟨#[117, 112]⟩ : ByteArray) (⟨#[103]⟩ : ByteArray) 0).bind fun t213 => (if t213 = true then (some false) else (if 1 ≤ (t192.length : Int) then ((trace_Show.f kj2 (t192.take 1)).bind fun t218 => (some (t218.toList == ([51, 58, 32, 117, 112, 32, 103, 32, 49, 10] : List UInt8)))) else (none)))) = some r := by rw [if_pos rfl] at H; exact H
                              clear H
                              have H := H1
                              clear H1
                              replace H := Option.bind_eq_some_iff.mp H
                              obtain ⟨t213, A260, H⟩ := H
                              replace H : (if t213 = true then (some false) else (if 1 ≤ (t192.length : Int) then ((trace_Show.f kj2 (t192.take 1)).bind fun t218 => (some (t218.toList == ([51, 58, 32, 117, 112, 32, 103, 32, 49, 10] : List UInt8)))) else (none))) = some r := H
                              have A26 := Aside0.mk A260
                              clear A260
                              by_cases c27 : t213 = true
                              · subst c27
                                have H1 : (some false) = some r := by rw [if_pos rfl] at H; exact H
                                clear H
                                have H := H1
                                clear H1
                                obtain rfl := Option.some.inj H
                                obtain ⟨Ao28, co28, eo28⟩ := Kd.R_slice HO_1.out
                                subst eo28
                                have p202 : 0 ≤ (0 : Int) := (by omega)
                                have q202 : 0 < (t192.length : Int) := of_decide_eq_true (by first | (with_reducible assumption) | assumption)
                                obtain ⟨ad202, e202, hx202_0, hx202_1, hx202_2, hx202_3⟩ := at_T37 (Kd.R_reads' HO_1.out).2.2 0 p202 q202
                                cases e202
                                have qi202 : (0 < t192.length) = True := eq_true (by omega)
                                (try rw [show ((0 : Int)).toNat = 0 from rfl] at hx202_0)
                                (try rw [show 0 * 4 = 0 from rfl] at hx202_0)
                                (try rw [Addr.add_zero'] at hx202_0)
                                (try rw [show ((0 : Int)).toNat = 0 from rfl] at hx202_1)
                                (try rw [show 0 * 4 = 0 from rfl] at hx202_1)
                                (try rw [Addr.add_zero'] at hx202_1)
                                (try rw [show ((0 : Int)).toNat = 0 from rfl] at hx202_2)
                                (try rw [show 0 * 4 = 0 from rfl] at hx202_2)
                                (try rw [Addr.add_zero'] at hx202_2)
                                (try rw [show ((0 : Int)).toNat = 0 from rfl] at hx202_3)
                                (try rw [show 0 * 4 = 0 from rfl] at hx202_3)
                                (try rw [Addr.add_zero'] at hx202_3)
                                replace p202 := eq_true p202
                                replace q202 := eq_true q202
                                (try (have qz202 := q202; rw [ByteArray.size_extract, Nat.min_self] at qz202))
                                go_wp2_with (first | (go_at_call 20; (with_reducible refine (trace_Check.calls kj2 _ _ t192 t203 _ ?side1 ?side2 A12.out).mono ?_); (case side1 => repeat (first | exact (Kd.R_reads' HO_1.out).2.2 | (with_reducible refine Kd.C_alloc ?_ _) | (with_reducible refine Kd.C_drewN ?_ _) | (with_reducible refine Kd.C_drew ?_))); (case side2 => exact (Kd.R_reads' HO_1.out).2.1); rintro e w29 ⟨rfl, hb⟩; have n0_ := Aside0.mk (Kd.R_below (by (with_reducible repeat (first | apply Kd.R_alloc | apply Kd.R_drewN | apply Kd.R_drew)); exact HO_1.out) hb); have n1_ := Aside0.mk (below_step (by repeat (first | (with_reducible first | exact HB.out | apply below_alloc | apply pw_below_drewN | apply below_drew1) | exact HB.out)) hb); clear HO_1; clear HB; have HO_1 := n0_; have HB := n1_; clear n0_ n1_; (try clear hb); (try clear hb2); (try clear hk); (try clear hi); have q30 : (2 : Int) ≤ ((t192.length : Int) : Int) := of_decide_eq_true (by first | (with_reducible assumption) | assumption); obtain ⟨i030, hi030, _, hsz30, _⟩ := info_parts info37; have hroom30 : t192.length ≤ co28 := (Kd.R_reads' HO_1.out).2.1; have hC30 : Kd.C k37 _ (some ad202) t192.length t192 := (Kd.R_reads' HO_1.out).2.2; have hcut30 := cut_from (P := Try.prog) 23 37 .i64 Try.underlying23 hi030 4 hsz30 (some ad202) t192.length co28 2 (by omega) q30; have hr30 := Kd.C_drop (m := (2 : Int).toNat) (c := co28) hC30 (by omega) hroom30; obtain ⟨A30, hA30⟩ : ∃ A1, A1 = (if co28 = (2 : Int).toNat then (some ad202) else ((some ad202) : Option Addr).map (·.add ((2 : Int).toNat * 4))) := ⟨_, rfl⟩; obtain ⟨c30, hc30⟩ : ∃ c1, c1 = co28 - (2 : Int).toNat := ⟨_, rfl⟩; have hy30 : y204.length = t192.length - (2 : Int).toNat := (by rw [Ny204.out, List.length_drop] <;> omega); rw [show (t192).drop (2 : Int).toNat = y204 from Ny204.out.symm] at hr30; replace hr30 : Kd.C k37 _ A30 y204.length y204 := (by rw [hA30]; exact hr30); rw [← hy30, ← hA30, ← hc30] at hcut30; have HR207 := Aside0.mk hr30; have HC207 := Aside0.mk (show y204.length ≤ c30 from by rw [hy30, hc30]; exact Nat.sub_le_sub_right hroom30 _); clear hr30 hC30 hroom30 hi030 hsz30 hc30; have KY30 := Aside0.mk hy30; have KA30 := Aside0.mk hA30; clear hy30 hA30; have KL30 := Aside0.mk (show 2 ≤ t192.length from by omega); replace q30 := eq_true q30) | (go_at_call 20; (with_reducible refine (trace_Check.calls kj2 _ _ y204 t208 _ ?side1 ?side2 A15.out).mono ?_); (case side1 => repeat (first | exact (by repeat (first | (with_reducible exact HR207.out) | (with_reducible refine Kd.C_alloc ?_ _) | (with_reducible refine Kd.C_drewN ?_ _) | (with_reducible refine Kd.C_drew ?_) | exact HR207.out)) | (with_reducible refine Kd.C_alloc ?_ _) | (with_reducible refine Kd.C_drewN ?_ _) | (with_reducible refine Kd.C_drew ?_))); (case side2 => exact HC207.out); rintro e w31 ⟨rfl, hb⟩; have n0_ := Aside0.mk (Kd.R_below (by (with_reducible repeat (first | apply Kd.R_alloc | apply Kd.R_drewN | apply Kd.R_drew)); exact HO_1.out) hb); have n1_ := Aside0.mk (Kd.C_below (by repeat (first | (with_reducible exact HR207.out) | (with_reducible refine Kd.C_alloc ?_ _) | (with_reducible refine Kd.C_drewN ?_ _) | (with_reducible refine Kd.C_drew ?_) | exact HR207.out)) hb); have n2_ := Aside0.mk (below_step (by repeat (first | (with_reducible first | exact HB.out | apply below_alloc | apply pw_below_drewN | apply below_drew1) | exact HB.out)) hb); clear HO_1; clear HR207; clear HB; have HO_1 := n0_; have HR207 := n1_; have HB := n2_; clear n0_ n1_ n2_; (try clear hb); (try clear hb2); (try clear hk); (try clear hi)) | (go_at_call 18; (with_reducible refine (trace_Calls.calls kj2 _ _ t192 t209 _ ?side1 ?side2 A19.out).mono ?_); (case side1 => repeat (first | exact (Kd.R_reads' HO_1.out).2.2 | (with_reducible refine Kd.C_alloc ?_ _) | (with_reducible refine Kd.C_drewN ?_ _) | (with_reducible refine Kd.C_drew ?_))); (case side2 => exact (Kd.R_reads' HO_1.out).2.1); rintro e w32 ⟨rfl, hb⟩; have n0_ := Aside0.mk (Kd.R_below (by (with_reducible repeat (first | apply Kd.R_alloc | apply Kd.R_drewN | apply Kd.R_drew)); exact HO_1.out) hb); have n1_ := Aside0.mk (Kd.C_below (by repeat (first | (with_reducible exact HR207.out) | (with_reducible refine Kd.C_alloc ?_ _) | (with_reducible refine Kd.C_drewN ?_ _) | (with_reducible refine Kd.C_drew ?_) | exact HR207.out)) hb); have n2_ := Aside0.mk (below_step (by repeat (first | (with_reducible first | exact HB.out | apply below_alloc | apply pw_below_drewN | apply below_drew1) | exact HB.out)) hb); clear HO_1; clear HR207; clear HB; have HO_1 := n0_; have HR207 := n1_; have HB := n2_; clear n0_ n1_ n2_; (try clear hb); (try clear hb2); (try clear hk); (try clear hi)) | (go_at_call 22; (with_reducible refine (trace_Added.calls kj2 _ _ t192 (⟨#[103]⟩ : ByteArray) t210 _ ?side1 ?side2 A21.out).mono ?_); (case side1 => repeat (first | exact (Kd.R_reads' HO_1.out).2.2 | (with_reducible refine Kd.C_alloc ?_ _) | (with_reducible refine Kd.C_drewN ?_ _) | (with_reducible refine Kd.C_drew ?_))); (case side2 => exact (Kd.R_reads' HO_1.out).2.1); rintro e w33 ⟨rfl, hb⟩; have n0_ := Aside0.mk (Kd.R_below (by (with_reducible repeat (first | apply Kd.R_alloc | apply Kd.R_drewN | apply Kd.R_drew)); exact HO_1.out) hb); have n1_ := Aside0.mk (Kd.C_below (by repeat (first | (with_reducible exact HR207.out) | (with_reducible refine Kd.C_alloc ?_ _) | (with_reducible refine Kd.C_drewN ?_ _) | (with_reducible refine Kd.C_drew ?_) | exact HR207.out)) hb); have n2_ := Aside0.mk (below_step (by repeat (first | (with_reducible first | exact HB.out | apply below_alloc | apply pw_below_drewN | apply below_drew1) | exact HB.out)) hb); clear HO_1; clear HR207; clear HB; have HO_1 := n0_; have HR207 := n1_; have HB := n2_; clear n0_ n1_ n2_; (try clear hb); (try clear hb2); (try clear hk); (try clear hi); have p211 : 0 ≤ (4 : Int) := (by omega); have q211 : 4 < (t192.length : Int) := of_decide_eq_true (by first | (with_reducible assumption) | assumption); obtain ⟨ad211, e211, hx211_0, hx211_1, hx211_2, hx211_3⟩ := at_T37 (Kd.R_reads' HO_1.out).2.2 4 p211 q211; obtain rfl : ad202 = ad211 := (by injection e211); (try simp only [show (4 : Int).toNat = 4 from rfl, Nat.reduceMul, Nat.reduceEqDiff, Go.Addr.add, ↓reduceIte] at hx211_0); (try simp only [show (4 : Int).toNat = 4 from rfl, Nat.reduceMul, Nat.reduceEqDiff, Go.Addr.add, ↓reduceIte] at hx211_1); (try simp only [show (4 : Int).toNat = 4 from rfl, Nat.reduceMul, Nat.reduceEqDiff, Go.Addr.add, ↓reduceIte] at hx211_2); (try simp only [show (4 : Int).toNat = 4 from rfl, Nat.reduceMul, Nat.reduceEqDiff, Go.Addr.add, ↓reduceIte] at hx211_3); have qi211 : (4 < t192.length) = True := eq_true (by omega); (try rw [show ((4 : Int)).toNat = 4 from rfl] at hx211_0); (try rw [show 4 * 4 = 16 from rfl] at hx211_0); (try rw [show ((4 : Int)).toNat = 4 from rfl] at hx211_1); (try rw [show 4 * 4 = 16 from rfl] at hx211_1); (try rw [show ((4 : Int)).toNat = 4 from rfl] at hx211_2); (try rw [show 4 * 4 = 16 from rfl] at hx211_2); (try rw [show ((4 : Int)).toNat = 4 from rfl] at hx211_3); (try rw [show 4 * 4 = 16 from rfl] at hx211_3); replace p211 := eq_true p211; replace q211 := eq_true q211) | (go_at_call 14; (with_reducible refine (trace_Right.calls kj2 ((rd_T37 t192 4).f0) ((rd_T37 t192 4).f1) ((rd_T37 t192 4).f2) ((rd_T37 t192 4).f3) true _ A24.out).mono ?_); rintro e w34 ⟨rfl, hb⟩; have n0_ := Aside0.mk (Kd.R_below (by (with_reducible repeat (first | apply Kd.R_alloc | apply Kd.R_drewN | apply Kd.R_drew)); exact HO_1.out) hb); have n1_ := Aside0.mk (Kd.C_below (by repeat (first | (with_reducible exact HR207.out) | (with_reducible refine Kd.C_alloc ?_ _) | (with_reducible refine Kd.C_drewN ?_ _) | (with_reducible refine Kd.C_drew ?_) | exact HR207.out)) hb); have n2_ := Aside0.mk (below_step (by repeat (first | (with_reducible first | exact HB.out | apply below_alloc | apply pw_below_drewN | apply below_drew1) | exact HB.out)) hb); clear HO_1; clear HR207; clear HB; have HO_1 := n0_; have HR207 := n1_; have HB := n2_; clear n0_ n1_ n2_; (try clear hb); (try clear hb2); (try clear hk); (try clear hi)) | (go_at_call 14; (with_reducible refine (trace_Right.calls kj2 0 (⟨#[117, 112]⟩ : ByteArray) (⟨#[103]⟩ : ByteArray) 0 true _ A26.out).mono ?_); rintro e w35 ⟨rfl, hb⟩; have n0_ := Aside0.mk (Kd.R_below (by (with_reducible repeat (first | apply Kd.R_alloc | apply Kd.R_drewN | apply Kd.R_drew)); exact HO_1.out) hb); have n1_ := Aside0.mk (Kd.C_below (by repeat (first | (with_reducible exact HR207.out) | (with_reducible refine Kd.C_alloc ?_ _) | (with_reducible refine Kd.C_drewN ?_ _) | (with_reducible refine Kd.C_drew ?_) | exact HR207.out)) hb); have n2_ := Aside0.mk (below_step (by repeat (first | (with_reducible first | exact HB.out | apply below_alloc | apply pw_below_drewN | apply below_drew1) | exact HB.out)) hb); clear HO_1; clear HR207; clear HB; have HO_1 := n0_; have HR207 := n1_; have HB := n2_; clear n0_ n1_ n2_; (try clear hb); (try clear hb2); (try clear hk); (try clear hi)))
                                go_ret
                                exact ⟨by first | rfl | (simp [errW_none, errW_some] <;> rfl) | (simp [*, errW_none, errW_some] <;> rfl), by repeat (first | (with_reducible first | exact HB.out | apply below_alloc | apply pw_below_drewN | apply below_drew1) | exact HB.out)⟩
                              · replace c27 := Bool.eq_false_iff.mpr c27
                                subst c27
                                have H1 : (if 1 ≤ (t192.length : Int) then ((trace_Show.f kj2 (t192.take 1)).bind fun t218 => (some (t218.toList == ([51, 58, 32, 117, 112, 32, 103, 32, 49, 10] : List UInt8)))) else (none)) = some r := by rw [if_neg (show ¬ (false = true) by decide)] at H; exact H
                                clear H
                                have H := H1
                                clear H1
                                by_cases c36 : 1 ≤ (t192.length : Int)
                                · rw [if_pos c36] at H
                                  have c36b0 := eq_true c36
                                  (try (have c36z := c36b0; rw [ByteArray.size_extract, Nat.min_self] at c36z))
                                  have c36b1 : decide (1 ≤ (t192.length : Int)) = true := decide_eq_true c36
                                  clear c36
                                  obtain ⟨y214, hy214⟩ : ∃ y_ : List (S37), y_ = (t192.take 1) := ⟨_, rfl⟩
                                  replace H : ((trace_Show.f kj2 y214).bind fun t218 => (some (t218.toList == ([51, 58, 32, 117, 112, 32, 103, 32, 49, 10] : List UInt8)))) = some r := by first | (rw [hy214]; with_reducible exact H) | (have H2_ := (Option.bind_some _ _).symm.trans H; rw [hy214]; with_reducible exact H2_) | (have H2_ := (Option.bind_some _ _).symm.trans H; with_reducible exact H2_) | with_reducible exact H | (rw [hy214]; exact H) | exact H
                                  have Ny214 := Aside0.mk hy214
                                  clear hy214
                                  replace H := Option.bind_eq_some_iff.mp H
                                  obtain ⟨t218, A370, H⟩ := H
                                  replace H : (some (t218.toList == ([51, 58, 32, 117, 112, 32, 103, 32, 49, 10] : List UInt8))) = some r := H
                                  have A37 := Aside0.mk A370
                                  clear A370
                                  obtain rfl := Option.some.inj H
                                  obtain ⟨Ao38, co38, eo38⟩ := Kd.R_slice HO_1.out
                                  subst eo38
                                  have p202 : 0 ≤ (0 : Int) := (by omega)
                                  have q202 : 0 < (t192.length : Int) := of_decide_eq_true (by first | (with_reducible assumption) | assumption)
                                  obtain ⟨ad202, e202, hx202_0, hx202_1, hx202_2, hx202_3⟩ := at_T37 (Kd.R_reads' HO_1.out).2.2 0 p202 q202
                                  cases e202
                                  have qi202 : (0 < t192.length) = True := eq_true (by omega)
                                  (try rw [show ((0 : Int)).toNat = 0 from rfl] at hx202_0)
                                  (try rw [show 0 * 4 = 0 from rfl] at hx202_0)
                                  (try rw [Addr.add_zero'] at hx202_0)
                                  (try rw [show ((0 : Int)).toNat = 0 from rfl] at hx202_1)
                                  (try rw [show 0 * 4 = 0 from rfl] at hx202_1)
                                  (try rw [Addr.add_zero'] at hx202_1)
                                  (try rw [show ((0 : Int)).toNat = 0 from rfl] at hx202_2)
                                  (try rw [show 0 * 4 = 0 from rfl] at hx202_2)
                                  (try rw [Addr.add_zero'] at hx202_2)
                                  (try rw [show ((0 : Int)).toNat = 0 from rfl] at hx202_3)
                                  (try rw [show 0 * 4 = 0 from rfl] at hx202_3)
                                  (try rw [Addr.add_zero'] at hx202_3)
                                  replace p202 := eq_true p202
                                  replace q202 := eq_true q202
                                  (try (have qz202 := q202; rw [ByteArray.size_extract, Nat.min_self] at qz202))
                                  go_wp2_with (first | (go_at_call 20; (with_reducible refine (trace_Check.calls kj2 _ _ t192 t203 _ ?side1 ?side2 A12.out).mono ?_); (case side1 => repeat (first | exact (Kd.R_reads' HO_1.out).2.2 | (with_reducible refine Kd.C_alloc ?_ _) | (with_reducible refine Kd.C_drewN ?_ _) | (with_reducible refine Kd.C_drew ?_))); (case side2 => exact (Kd.R_reads' HO_1.out).2.1); rintro e w39 ⟨rfl, hb⟩; have n0_ := Aside0.mk (Kd.R_below (by (with_reducible repeat (first | apply Kd.R_alloc | apply Kd.R_drewN | apply Kd.R_drew)); exact HO_1.out) hb); have n1_ := Aside0.mk (below_step (by repeat (first | (with_reducible first | exact HB.out | apply below_alloc | apply pw_below_drewN | apply below_drew1) | exact HB.out)) hb); clear HO_1; clear HB; have HO_1 := n0_; have HB := n1_; clear n0_ n1_; (try clear hb); (try clear hb2); (try clear hk); (try clear hi); have q40 : (2 : Int) ≤ ((t192.length : Int) : Int) := of_decide_eq_true (by first | (with_reducible assumption) | assumption); obtain ⟨i040, hi040, _, hsz40, _⟩ := info_parts info37; have hroom40 : t192.length ≤ co38 := (Kd.R_reads' HO_1.out).2.1; have hC40 : Kd.C k37 _ (some ad202) t192.length t192 := (Kd.R_reads' HO_1.out).2.2; have hcut40 := cut_from (P := Try.prog) 23 37 .i64 Try.underlying23 hi040 4 hsz40 (some ad202) t192.length co38 2 (by omega) q40; have hr40 := Kd.C_drop (m := (2 : Int).toNat) (c := co38) hC40 (by omega) hroom40; obtain ⟨A40, hA40⟩ : ∃ A1, A1 = (if co38 = (2 : Int).toNat then (some ad202) else ((some ad202) : Option Addr).map (·.add ((2 : Int).toNat * 4))) := ⟨_, rfl⟩; obtain ⟨c40, hc40⟩ : ∃ c1, c1 = co38 - (2 : Int).toNat := ⟨_, rfl⟩; have hy40 : y204.length = t192.length - (2 : Int).toNat := (by rw [Ny204.out, List.length_drop] <;> omega); rw [show (t192).drop (2 : Int).toNat = y204 from Ny204.out.symm] at hr40; replace hr40 : Kd.C k37 _ A40 y204.length y204 := (by rw [hA40]; exact hr40); rw [← hy40, ← hA40, ← hc40] at hcut40; have HR207 := Aside0.mk hr40; have HC207 := Aside0.mk (show y204.length ≤ c40 from by rw [hy40, hc40]; exact Nat.sub_le_sub_right hroom40 _); clear hr40 hC40 hroom40 hi040 hsz40 hc40; have KY40 := Aside0.mk hy40; have KA40 := Aside0.mk hA40; clear hy40 hA40; have KL40 := Aside0.mk (show 2 ≤ t192.length from by omega); replace q40 := eq_true q40) | (go_at_call 20; (with_reducible refine (trace_Check.calls kj2 _ _ y204 t208 _ ?side1 ?side2 A15.out).mono ?_); (case side1 => repeat (first | exact (by repeat (first | (with_reducible exact HR207.out) | (with_reducible refine Kd.C_alloc ?_ _) | (with_reducible refine Kd.C_drewN ?_ _) | (with_reducible refine Kd.C_drew ?_) | exact HR207.out)) | (with_reducible refine Kd.C_alloc ?_ _) | (with_reducible refine Kd.C_drewN ?_ _) | (with_reducible refine Kd.C_drew ?_))); (case side2 => exact HC207.out); rintro e w41 ⟨rfl, hb⟩; have n0_ := Aside0.mk (Kd.R_below (by (with_reducible repeat (first | apply Kd.R_alloc | apply Kd.R_drewN | apply Kd.R_drew)); exact HO_1.out) hb); have n1_ := Aside0.mk (Kd.C_below (by repeat (first | (with_reducible exact HR207.out) | (with_reducible refine Kd.C_alloc ?_ _) | (with_reducible refine Kd.C_drewN ?_ _) | (with_reducible refine Kd.C_drew ?_) | exact HR207.out)) hb); have n2_ := Aside0.mk (below_step (by repeat (first | (with_reducible first | exact HB.out | apply below_alloc | apply pw_below_drewN | apply below_drew1) | exact HB.out)) hb); clear HO_1; clear HR207; clear HB; have HO_1 := n0_; have HR207 := n1_; have HB := n2_; clear n0_ n1_ n2_; (try clear hb); (try clear hb2); (try clear hk); (try clear hi)) | (go_at_call 18; (with_reducible refine (trace_Calls.calls kj2 _ _ t192 t209 _ ?side1 ?side2 A19.out).mono ?_); (case side1 => repeat (first | exact (Kd.R_reads' HO_1.out).2.2 | (with_reducible refine Kd.C_alloc ?_ _) | (with_reducible refine Kd.C_drewN ?_ _) | (with_reducible refine Kd.C_drew ?_))); (case side2 => exact (Kd.R_reads' HO_1.out).2.1); rintro e w42 ⟨rfl, hb⟩; have n0_ := Aside0.mk (Kd.R_below (by (with_reducible repeat (first | apply Kd.R_alloc | apply Kd.R_drewN | apply Kd.R_drew)); exact HO_1.out) hb); have n1_ := Aside0.mk (Kd.C_below (by repeat (first | (with_reducible exact HR207.out) | (with_reducible refine Kd.C_alloc ?_ _) | (with_reducible refine Kd.C_drewN ?_ _) | (with_reducible refine Kd.C_drew ?_) | exact HR207.out)) hb); have n2_ := Aside0.mk (below_step (by repeat (first | (with_reducible first | exact HB.out | apply below_alloc | apply pw_below_drewN | apply below_drew1) | exact HB.out)) hb); clear HO_1; clear HR207; clear HB; have HO_1 := n0_; have HR207 := n1_; have HB := n2_; clear n0_ n1_ n2_; (try clear hb); (try clear hb2); (try clear hk); (try clear hi)) | (go_at_call 22; (with_reducible refine (trace_Added.calls kj2 _ _ t192 (⟨#[103]⟩ : ByteArray) t210 _ ?side1 ?side2 A21.out).mono ?_); (case side1 => repeat (first | exact (Kd.R_reads' HO_1.out).2.2 | (with_reducible refine Kd.C_alloc ?_ _) | (with_reducible refine Kd.C_drewN ?_ _) | (with_reducible refine Kd.C_drew ?_))); (case side2 => exact (Kd.R_reads' HO_1.out).2.1); rintro e w43 ⟨rfl, hb⟩; have n0_ := Aside0.mk (Kd.R_below (by (with_reducible repeat (first | apply Kd.R_alloc | apply Kd.R_drewN | apply Kd.R_drew)); exact HO_1.out) hb); have n1_ := Aside0.mk (Kd.C_below (by repeat (first | (with_reducible exact HR207.out) | (with_reducible refine Kd.C_alloc ?_ _) | (with_reducible refine Kd.C_drewN ?_ _) | (with_reducible refine Kd.C_drew ?_) | exact HR207.out)) hb); have n2_ := Aside0.mk (below_step (by repeat (first | (with_reducible first | exact HB.out | apply below_alloc | apply pw_below_drewN | apply below_drew1) | exact HB.out)) hb); clear HO_1; clear HR207; clear HB; have HO_1 := n0_; have HR207 := n1_; have HB := n2_; clear n0_ n1_ n2_; (try clear hb); (try clear hb2); (try clear hk); (try clear hi); have p211 : 0 ≤ (4 : Int) := (by omega); have q211 : 4 < (t192.length : Int) := of_decide_eq_true (by first | (with_reducible assumption) | assumption); obtain ⟨ad211, e211, hx211_0, hx211_1, hx211_2, hx211_3⟩ := at_T37 (Kd.R_reads' HO_1.out).2.2 4 p211 q211; obtain rfl : ad202 = ad211 := (by injection e211); (try simp only [show (4 : Int).toNat = 4 from rfl, Nat.reduceMul, Nat.reduceEqDiff, Go.Addr.add, ↓reduceIte] at hx211_0); (try simp only [show (4 : Int).toNat = 4 from rfl, Nat.reduceMul, Nat.reduceEqDiff, Go.Addr.add, ↓reduceIte] at hx211_1); (try simp only [show (4 : Int).toNat = 4 from rfl, Nat.reduceMul, Nat.reduceEqDiff, Go.Addr.add, ↓reduceIte] at hx211_2); (try simp only [show (4 : Int).toNat = 4 from rfl, Nat.reduceMul, Nat.reduceEqDiff, Go.Addr.add, ↓reduceIte] at hx211_3); have qi211 : (4 < t192.length) = True := eq_true (by omega); (try rw [show ((4 : Int)).toNat = 4 from rfl] at hx211_0); (try rw [show 4 * 4 = 16 from rfl] at hx211_0); (try rw [show ((4 : Int)).toNat = 4 from rfl] at hx211_1); (try rw [show 4 * 4 = 16 from rfl] at hx211_1); (try rw [show ((4 : Int)).toNat = 4 from rfl] at hx211_2); (try rw [show 4 * 4 = 16 from rfl] at hx211_2); (try rw [show ((4 : Int)).toNat = 4 from rfl] at hx211_3); (try rw [show 4 * 4 = 16 from rfl] at hx211_3); replace p211 := eq_true p211; replace q211 := eq_true q211) | (go_at_call 14; (with_reducible refine (trace_Right.calls kj2 ((rd_T37 t192 4).f0) ((rd_T37 t192 4).f1) ((rd_T37 t192 4).f2) ((rd_T37 t192 4).f3) true _ A24.out).mono ?_); rintro e w44 ⟨rfl, hb⟩; have n0_ := Aside0.mk (Kd.R_below (by (with_reducible repeat (first | apply Kd.R_alloc | apply Kd.R_drewN | apply Kd.R_drew)); exact HO_1.out) hb); have n1_ := Aside0.mk (Kd.C_below (by repeat (first | (with_reducible exact HR207.out) | (with_reducible refine Kd.C_alloc ?_ _) | (with_reducible refine Kd.C_drewN ?_ _) | (with_reducible refine Kd.C_drew ?_) | exact HR207.out)) hb); have n2_ := Aside0.mk (below_step (by repeat (first | (with_reducible first | exact HB.out | apply below_alloc | apply pw_below_drewN | apply below_drew1) | exact HB.out)) hb); clear HO_1; clear HR207; clear HB; have HO_1 := n0_; have HR207 := n1_; have HB := n2_; clear n0_ n1_ n2_; (try clear hb); (try clear hb2); (try clear hk); (try clear hi)) | (go_at_call 14; (with_reducible refine (trace_Right.calls kj2 0 (⟨#[117, 112]⟩ : ByteArray) (⟨#[103]⟩ : ByteArray) 0 false _ A26.out).mono ?_); rintro e w45 ⟨rfl, hb⟩; have n0_ := Aside0.mk (Kd.R_below (by (with_reducible repeat (first | apply Kd.R_alloc | apply Kd.R_drewN | apply Kd.R_drew)); exact HO_1.out) hb); have n1_ := Aside0.mk (Kd.C_below (by repeat (first | (with_reducible exact HR207.out) | (with_reducible refine Kd.C_alloc ?_ _) | (with_reducible refine Kd.C_drewN ?_ _) | (with_reducible refine Kd.C_drew ?_) | exact HR207.out)) hb); have n2_ := Aside0.mk (below_step (by repeat (first | (with_reducible first | exact HB.out | apply below_alloc | apply pw_below_drewN | apply below_drew1) | exact HB.out)) hb); clear HO_1; clear HR207; clear HB; have HO_1 := n0_; have HR207 := n1_; have HB := n2_; clear n0_ n1_ n2_; (try clear hb); (try clear hb2); (try clear hk); (try clear hi); have q46 : (1 : Int) ≤ ((t192.length : Int) : Int) := of_decide_eq_true (by first | (with_reducible assumption) | assumption); obtain ⟨i046, hi046, _, hsz46, _⟩ := info_parts info37; have hroom46 : t192.length ≤ co38 := (Kd.R_reads' HO_1.out).2.1; have hC46 : Kd.C k37 _ (some ad202) t192.length t192 := (Kd.R_reads' HO_1.out).2.2; have hcut46 := cut_to (P := Try.prog) 23 37 .i64 Try.underlying23 hi046 (some ad202) t192.length co38 1 (by omega) q46 hroom46; have hr46 := Kd.C_take (m := 1) hC46 (by omega); have hy46 : y214.length = (1 : Int).toNat := (by rw [Ny214.out, List.length_take]; omega); rw [← Ny214.out] at hr46; rw [← hy46] at hcut46; have HR217 := Aside0.mk hr46; have HC217 := Aside0.mk (show y214.length ≤ co38 from by omega); clear hr46 hC46 hroom46 hi046 hsz46; have KY46 := Aside0.mk hy46; clear hy46; have KL46 := Aside0.mk (show 1 ≤ t192.length from by omega); replace q46 := eq_true q46) | (go_at_call 16; (with_reducible refine (trace_Show.calls kj2 _ _ y214 t218 _ ?side1 ?side2 A37.out).mono ?_); (case side1 => repeat (first | exact (by repeat (first | (with_reducible exact HR217.out) | (with_reducible refine Kd.C_alloc ?_ _) | (with_reducible refine Kd.C_drewN ?_ _) | (with_reducible refine Kd.C_drew ?_) | exact HR217.out)) | (with_reducible refine Kd.C_alloc ?_ _) | (with_reducible refine Kd.C_drewN ?_ _) | (with_reducible refine Kd.C_drew ?_))); (case side2 => exact HC217.out); rintro e w47 ⟨rfl, hb⟩; have n0_ := Aside0.mk (Kd.R_below (by (with_reducible repeat (first | apply Kd.R_alloc | apply Kd.R_drewN | apply Kd.R_drew)); exact HO_1.out) hb); have n1_ := Aside0.mk (Kd.C_below (by repeat (first | (with_reducible exact HR207.out) | (with_reducible refine Kd.C_alloc ?_ _) | (with_reducible refine Kd.C_drewN ?_ _) | (with_reducible refine Kd.C_drew ?_) | exact HR207.out)) hb); have n2_ := Aside0.mk (Kd.C_below (by repeat (first | (with_reducible exact HR217.out) | (with_reducible refine Kd.C_alloc ?_ _) | (with_reducible refine Kd.C_drewN ?_ _) | (with_reducible refine Kd.C_drew ?_) | exact HR217.out)) hb); have n3_ := Aside0.mk (below_step (by repeat (first | (with_reducible first | exact HB.out | apply below_alloc | apply pw_below_drewN | apply below_drew1) | exact HB.out)) hb); clear HO_1; clear HR207; clear HR217; clear HB; have HO_1 := n0_; have HR207 := n1_; have HR217 := n2_; have HB := n3_; clear n0_ n1_ n2_ n3_; (try clear hb); (try clear hb2); (try clear hk); (try clear hi)))
                                  go_ret
                                  exact ⟨by first | rfl | (simp [errW_none, errW_some] <;> rfl) | (simp [*, errW_none, errW_some] <;> rfl), by repeat (first | (with_reducible first | exact HB.out | apply below_alloc | apply pw_below_drewN | apply below_drew1) | exact HB.out)⟩
                                · rw [if_neg c36] at H
                                  exact absurd H (by simp)
                            · replace c25 := Bool.eq_false_iff.mpr c25
                              subst c25
                              have H1 : (some false) = some r := by rw [if_neg (show ¬ (false = true) by decide)] at H; exact H
                              clear H
                              have H := H1
                              clear H1
                              obtain rfl := Option.some.inj H
                              obtain ⟨Ao48, co48, eo48⟩ := Kd.R_slice HO_1.out
                              subst eo48
                              have p202 : 0 ≤ (0 : Int) := (by omega)
                              have q202 : 0 < (t192.length : Int) := of_decide_eq_true (by first | (with_reducible assumption) | assumption)
                              obtain ⟨ad202, e202, hx202_0, hx202_1, hx202_2, hx202_3⟩ := at_T37 (Kd.R_reads' HO_1.out).2.2 0 p202 q202
                              cases e202
                              have qi202 : (0 < t192.length) = True := eq_true (by omega)
                              (try rw [show ((0 : Int)).toNat = 0 from rfl] at hx202_0)
                              (try rw [show 0 * 4 = 0 from rfl] at hx202_0)
                              (try rw [Addr.add_zero'] at hx202_0)
                              (try rw [show ((0 : Int)).toNat = 0 from rfl] at hx202_1)
                              (try rw [show 0 * 4 = 0 from rfl] at hx202_1)
                              (try rw [Addr.add_zero'] at hx202_1)
                              (try rw [show ((0 : Int)).toNat = 0 from rfl] at hx202_2)
                              (try rw [show 0 * 4 = 0 from rfl] at hx202_2)
                              (try rw [Addr.add_zero'] at hx202_2)
                              (try rw [show ((0 : Int)).toNat = 0 from rfl] at hx202_3)
                              (try rw [show 0 * 4 = 0 from rfl] at hx202_3)
                              (try rw [Addr.add_zero'] at hx202_3)
                              replace p202 := eq_true p202
                              replace q202 := eq_true q202
                              (try (have qz202 := q202; rw [ByteArray.size_extract, Nat.min_self] at qz202))
                              go_wp2_with (first | (go_at_call 20; (with_reducible refine (trace_Check.calls kj2 _ _ t192 t203 _ ?side1 ?side2 A12.out).mono ?_); (case side1 => repeat (first | exact (Kd.R_reads' HO_1.out).2.2 | (with_reducible refine Kd.C_alloc ?_ _) | (with_reducible refine Kd.C_drewN ?_ _) | (with_reducible refine Kd.C_drew ?_))); (case side2 => exact (Kd.R_reads' HO_1.out).2.1); rintro e w49 ⟨rfl, hb⟩; have n0_ := Aside0.mk (Kd.R_below (by (with_reducible repeat (first | apply Kd.R_alloc | apply Kd.R_drewN | apply Kd.R_drew)); exact HO_1.out) hb); have n1_ := Aside0.mk (below_step (by repeat (first | (with_reducible first | exact HB.out | apply below_alloc | apply pw_below_drewN | apply below_drew1) | exact HB.out)) hb); clear HO_1; clear HB; have HO_1 := n0_; have HB := n1_; clear n0_ n1_; (try clear hb); (try clear hb2); (try clear hk); (try clear hi); have q50 : (2 : Int) ≤ ((t192.length : Int) : Int) := of_decide_eq_true (by first | (with_reducible assumption) | assumption); obtain ⟨i050, hi050, _, hsz50, _⟩ := info_parts info37; have hroom50 : t192.length ≤ co48 := (Kd.R_reads' HO_1.out).2.1; have hC50 : Kd.C k37 _ (some ad202) t192.length t192 := (Kd.R_reads' HO_1.out).2.2; have hcut50 := cut_from (P := Try.prog) 23 37 .i64 Try.underlying23 hi050 4 hsz50 (some ad202) t192.length co48 2 (by omega) q50; have hr50 := Kd.C_drop (m := (2 : Int).toNat) (c := co48) hC50 (by omega) hroom50; obtain ⟨A50, hA50⟩ : ∃ A1, A1 = (if co48 = (2 : Int).toNat then (some ad202) else ((some ad202) : Option Addr).map (·.add ((2 : Int).toNat * 4))) := ⟨_, rfl⟩; obtain ⟨c50, hc50⟩ : ∃ c1, c1 = co48 - (2 : Int).toNat := ⟨_, rfl⟩; have hy50 : y204.length = t192.length - (2 : Int).toNat := (by rw [Ny204.out, List.length_drop] <;> omega); rw [show (t192).drop (2 : Int).toNat = y204 from Ny204.out.symm] at hr50; replace hr50 : Kd.C k37 _ A50 y204.length y204 := (by rw [hA50]; exact hr50); rw [← hy50, ← hA50, ← hc50] at hcut50; have HR207 := Aside0.mk hr50; have HC207 := Aside0.mk (show y204.length ≤ c50 from by rw [hy50, hc50]; exact Nat.sub_le_sub_right hroom50 _); clear hr50 hC50 hroom50 hi050 hsz50 hc50; have KY50 := Aside0.mk hy50; have KA50 := Aside0.mk hA50; clear hy50 hA50; have KL50 := Aside0.mk (show 2 ≤ t192.length from by omega); replace q50 := eq_true q50) | (go_at_call 20; (with_reducible refine (trace_Check.calls kj2 _ _ y204 t208 _ ?side1 ?side2 A15.out).mono ?_); (case side1 => repeat (first | exact (by repeat (first | (with_reducible exact HR207.out) | (with_reducible refine Kd.C_alloc ?_ _) | (with_reducible refine Kd.C_drewN ?_ _) | (with_reducible refine Kd.C_drew ?_) | exact HR207.out)) | (with_reducible refine Kd.C_alloc ?_ _) | (with_reducible refine Kd.C_drewN ?_ _) | (with_reducible refine Kd.C_drew ?_))); (case side2 => exact HC207.out); rintro e w51 ⟨rfl, hb⟩; have n0_ := Aside0.mk (Kd.R_below (by (with_reducible repeat (first | apply Kd.R_alloc | apply Kd.R_drewN | apply Kd.R_drew)); exact HO_1.out) hb); have n1_ := Aside0.mk (Kd.C_below (by repeat (first | (with_reducible exact HR207.out) | (with_reducible refine Kd.C_alloc ?_ _) | (with_reducible refine Kd.C_drewN ?_ _) | (with_reducible refine Kd.C_drew ?_) | exact HR207.out)) hb); have n2_ := Aside0.mk (below_step (by repeat (first | (with_reducible first | exact HB.out | apply below_alloc | apply pw_below_drewN | apply below_drew1) | exact HB.out)) hb); clear HO_1; clear HR207; clear HB; have HO_1 := n0_; have HR207 := n1_; have HB := n2_; clear n0_ n1_ n2_; (try clear hb); (try clear hb2); (try clear hk); (try clear hi)) | (go_at_call 18; (with_reducible refine (trace_Calls.calls kj2 _ _ t192 t209 _ ?side1 ?side2 A19.out).mono ?_); (case side1 => repeat (first | exact (Kd.R_reads' HO_1.out).2.2 | (with_reducible refine Kd.C_alloc ?_ _) | (with_reducible refine Kd.C_drewN ?_ _) | (with_reducible refine Kd.C_drew ?_))); (case side2 => exact (Kd.R_reads' HO_1.out).2.1); rintro e w52 ⟨rfl, hb⟩; have n0_ := Aside0.mk (Kd.R_below (by (with_reducible repeat (first | apply Kd.R_alloc | apply Kd.R_drewN | apply Kd.R_drew)); exact HO_1.out) hb); have n1_ := Aside0.mk (Kd.C_below (by repeat (first | (with_reducible exact HR207.out) | (with_reducible refine Kd.C_alloc ?_ _) | (with_reducible refine Kd.C_drewN ?_ _) | (with_reducible refine Kd.C_drew ?_) | exact HR207.out)) hb); have n2_ := Aside0.mk (below_step (by repeat (first | (with_reducible first | exact HB.out | apply below_alloc | apply pw_below_drewN | apply below_drew1) | exact HB.out)) hb); clear HO_1; clear HR207; clear HB; have HO_1 := n0_; have HR207 := n1_; have HB := n2_; clear n0_ n1_ n2_; (try clear hb); (try clear hb2); (try clear hk); (try clear hi)) | (go_at_call 22; (with_reducible refine (trace_Added.calls kj2 _ _ t192 (⟨#[103]⟩ : ByteArray) t210 _ ?side1 ?side2 A21.out).mono ?_); (case side1 => repeat (first | exact (Kd.R_reads' HO_1.out).2.2 | (with_reducible refine Kd.C_alloc ?_ _) | (with_reducible refine Kd.C_drewN ?_ _) | (with_reducible refine Kd.C_drew ?_))); (case side2 => exact (Kd.R_reads' HO_1.out).2.1); rintro e w53 ⟨rfl, hb⟩; have n0_ := Aside0.mk (Kd.R_below (by (with_reducible repeat (first | apply Kd.R_alloc | apply Kd.R_drewN | apply Kd.R_drew)); exact HO_1.out) hb); have n1_ := Aside0.mk (Kd.C_below (by repeat (first | (with_reducible exact HR207.out) | (with_reducible refine Kd.C_alloc ?_ _) | (with_reducible refine Kd.C_drewN ?_ _) | (with_reducible refine Kd.C_drew ?_) | exact HR207.out)) hb); have n2_ := Aside0.mk (below_step (by repeat (first | (with_reducible first | exact HB.out | apply below_alloc | apply pw_below_drewN | apply below_drew1) | exact HB.out)) hb); clear HO_1; clear HR207; clear HB; have HO_1 := n0_; have HR207 := n1_; have HB := n2_; clear n0_ n1_ n2_; (try clear hb); (try clear hb2); (try clear hk); (try clear hi); have p211 : 0 ≤ (4 : Int) := (by omega); have q211 : 4 < (t192.length : Int) := of_decide_eq_true (by first | (with_reducible assumption) | assumption); obtain ⟨ad211, e211, hx211_0, hx211_1, hx211_2, hx211_3⟩ := at_T37 (Kd.R_reads' HO_1.out).2.2 4 p211 q211; obtain rfl : ad202 = ad211 := (by injection e211); (try simp only [show (4 : Int).toNat = 4 from rfl, Nat.reduceMul, Nat.reduceEqDiff, Go.Addr.add, ↓reduceIte] at hx211_0); (try simp only [show (4 : Int).toNat = 4 from rfl, Nat.reduceMul, Nat.reduceEqDiff, Go.Addr.add, ↓reduceIte] at hx211_1); (try simp only [show (4 : Int).toNat = 4 from rfl, Nat.reduceMul, Nat.reduceEqDiff, Go.Addr.add, ↓reduceIte] at hx211_2); (try simp only [show (4 : Int).toNat = 4 from rfl, Nat.reduceMul, Nat.reduceEqDiff, Go.Addr.add, ↓reduceIte] at hx211_3); have qi211 : (4 < t192.length) = True := eq_true (by omega); (try rw [show ((4 : Int)).toNat = 4 from rfl] at hx211_0); (try rw [show 4 * 4 = 16 from rfl] at hx211_0); (try rw [show ((4 : Int)).toNat = 4 from rfl] at hx211_1); (try rw [show 4 * 4 = 16 from rfl] at hx211_1); (try rw [show ((4 : Int)).toNat = 4 from rfl] at hx211_2); (try rw [show 4 * 4 = 16 from rfl] at hx211_2); (try rw [show ((4 : Int)).toNat = 4 from rfl] at hx211_3); (try rw [show 4 * 4 = 16 from rfl] at hx211_3); replace p211 := eq_true p211; replace q211 := eq_true q211) | (go_at_call 14; (with_reducible refine (trace_Right.calls kj2 ((rd_T37 t192 4).f0) ((rd_T37 t192 4).f1) ((rd_T37 t192 4).f2) ((rd_T37 t192 4).f3) false _ A24.out).mono ?_); rintro e w54 ⟨rfl, hb⟩; have n0_ := Aside0.mk (Kd.R_below (by (with_reducible repeat (first | apply Kd.R_alloc | apply Kd.R_drewN | apply Kd.R_drew)); exact HO_1.out) hb); have n1_ := Aside0.mk (Kd.C_below (by repeat (first | (with_reducible exact HR207.out) | (with_reducible refine Kd.C_alloc ?_ _) | (with_reducible refine Kd.C_drewN ?_ _) | (with_reducible refine Kd.C_drew ?_) | exact HR207.out)) hb); have n2_ := Aside0.mk (below_step (by repeat (first | (with_reducible first | exact HB.out | apply below_alloc | apply pw_below_drewN | apply below_drew1) | exact HB.out)) hb); clear HO_1; clear HR207; clear HB; have HO_1 := n0_; have HR207 := n1_; have HB := n2_; clear n0_ n1_ n2_; (try clear hb); (try clear hb2); (try clear hk); (try clear hi)))
                              go_ret
                              exact ⟨by first | rfl | (simp [errW_none, errW_some] <;> rfl) | (simp [*, errW_none, errW_some] <;> rfl), by repeat (first | (with_reducible first | exact HB.out | apply below_alloc | apply pw_below_drewN | apply below_drew1) | exact HB.out)⟩
                          · rw [if_neg c23] at H
                            exact absurd H (by simp)
                        · rw [if_neg c22] at H
                          have c22b0 : (t210 == 1) = false := beq_eq_false_iff_ne.mpr c22
                          have c22b1 : (t210 != 1) = true := bne_iff_ne.mpr c22
                          obtain rfl := Option.some.inj H
                          obtain ⟨Ao55, co55, eo55⟩ := Kd.R_slice HO_1.out
                          subst eo55
                          have p202 : 0 ≤ (0 : Int) := (by omega)
                          have q202 : 0 < (t192.length : Int) := of_decide_eq_true (by first | (with_reducible assumption) | assumption)
                          obtain ⟨ad202, e202, hx202_0, hx202_1, hx202_2, hx202_3⟩ := at_T37 (Kd.R_reads' HO_1.out).2.2 0 p202 q202
                          cases e202
                          have qi202 : (0 < t192.length) = True := eq_true (by omega)
                          (try rw [show ((0 : Int)).toNat = 0 from rfl] at hx202_0)
                          (try rw [show 0 * 4 = 0 from rfl] at hx202_0)
                          (try rw [Addr.add_zero'] at hx202_0)
                          (try rw [show ((0 : Int)).toNat = 0 from rfl] at hx202_1)
                          (try rw [show 0 * 4 = 0 from rfl] at hx202_1)
                          (try rw [Addr.add_zero'] at hx202_1)
                          (try rw [show ((0 : Int)).toNat = 0 from rfl] at hx202_2)
                          (try rw [show 0 * 4 = 0 from rfl] at hx202_2)
                          (try rw [Addr.add_zero'] at hx202_2)
                          (try rw [show ((0 : Int)).toNat = 0 from rfl] at hx202_3)
                          (try rw [show 0 * 4 = 0 from rfl] at hx202_3)
                          (try rw [Addr.add_zero'] at hx202_3)
                          replace p202 := eq_true p202
                          replace q202 := eq_true q202
                          (try (have qz202 := q202; rw [ByteArray.size_extract, Nat.min_self] at qz202))
                          go_wp2_with (first | (go_at_call 20; (with_reducible refine (trace_Check.calls kj2 _ _ t192 t203 _ ?side1 ?side2 A12.out).mono ?_); (case side1 => repeat (first | exact (Kd.R_reads' HO_1.out).2.2 | (with_reducible refine Kd.C_alloc ?_ _) | (with_reducible refine Kd.C_drewN ?_ _) | (with_reducible refine Kd.C_drew ?_))); (case side2 => exact (Kd.R_reads' HO_1.out).2.1); rintro e w56 ⟨rfl, hb⟩; have n0_ := Aside0.mk (Kd.R_below (by (with_reducible repeat (first | apply Kd.R_alloc | apply Kd.R_drewN | apply Kd.R_drew)); exact HO_1.out) hb); have n1_ := Aside0.mk (below_step (by repeat (first | (with_reducible first | exact HB.out | apply below_alloc | apply pw_below_drewN | apply below_drew1) | exact HB.out)) hb); clear HO_1; clear HB; have HO_1 := n0_; have HB := n1_; clear n0_ n1_; (try clear hb); (try clear hb2); (try clear hk); (try clear hi); have q57 : (2 : Int) ≤ ((t192.length : Int) : Int) := of_decide_eq_true (by first | (with_reducible assumption) | assumption); obtain ⟨i057, hi057, _, hsz57, _⟩ := info_parts info37; have hroom57 : t192.length ≤ co55 := (Kd.R_reads' HO_1.out).2.1; have hC57 : Kd.C k37 _ (some ad202) t192.length t192 := (Kd.R_reads' HO_1.out).2.2; have hcut57 := cut_from (P := Try.prog) 23 37 .i64 Try.underlying23 hi057 4 hsz57 (some ad202) t192.length co55 2 (by omega) q57; have hr57 := Kd.C_drop (m := (2 : Int).toNat) (c := co55) hC57 (by omega) hroom57; obtain ⟨A57, hA57⟩ : ∃ A1, A1 = (if co55 = (2 : Int).toNat then (some ad202) else ((some ad202) : Option Addr).map (·.add ((2 : Int).toNat * 4))) := ⟨_, rfl⟩; obtain ⟨c57, hc57⟩ : ∃ c1, c1 = co55 - (2 : Int).toNat := ⟨_, rfl⟩; have hy57 : y204.length = t192.length - (2 : Int).toNat := (by rw [Ny204.out, List.length_drop] <;> omega); rw [show (t192).drop (2 : Int).toNat = y204 from Ny204.out.symm] at hr57; replace hr57 : Kd.C k37 _ A57 y204.length y204 := (by rw [hA57]; exact hr57); rw [← hy57, ← hA57, ← hc57] at hcut57; have HR207 := Aside0.mk hr57; have HC207 := Aside0.mk (show y204.length ≤ c57 from by rw [hy57, hc57]; exact Nat.sub_le_sub_right hroom57 _); clear hr57 hC57 hroom57 hi057 hsz57 hc57; have KY57 := Aside0.mk hy57; have KA57 := Aside0.mk hA57; clear hy57 hA57; have KL57 := Aside0.mk (show 2 ≤ t192.length from by omega); replace q57 := eq_true q57) | (go_at_call 20; (with_reducible refine (trace_Check.calls kj2 _ _ y204 t208 _ ?side1 ?side2 A15.out).mono ?_); (case side1 => repeat (first | exact (by repeat (first | (with_reducible exact HR207.out) | (with_reducible refine Kd.C_alloc ?_ _) | (with_reducible refine Kd.C_drewN ?_ _) | (with_reducible refine Kd.C_drew ?_) | exact HR207.out)) | (with_reducible refine Kd.C_alloc ?_ _) | (with_reducible refine Kd.C_drewN ?_ _) | (with_reducible refine Kd.C_drew ?_))); (case side2 => exact HC207.out); rintro e w58 ⟨rfl, hb⟩; have n0_ := Aside0.mk (Kd.R_below (by (with_reducible repeat (first | apply Kd.R_alloc | apply Kd.R_drewN | apply Kd.R_drew)); exact HO_1.out) hb); have n1_ := Aside0.mk (Kd.C_below (by repeat (first | (with_reducible exact HR207.out) | (with_reducible refine Kd.C_alloc ?_ _) | (with_reducible refine Kd.C_drewN ?_ _) | (with_reducible refine Kd.C_drew ?_) | exact HR207.out)) hb); have n2_ := Aside0.mk (below_step (by repeat (first | (with_reducible first | exact HB.out | apply below_alloc | apply pw_below_drewN | apply below_drew1) | exact HB.out)) hb); clear HO_1; clear HR207; clear HB; have HO_1 := n0_; have HR207 := n1_; have HB := n2_; clear n0_ n1_ n2_; (try clear hb); (try clear hb2); (try clear hk); (try clear hi)) | (go_at_call 18; (with_reducible refine (trace_Calls.calls kj2 _ _ t192 t209 _ ?side1 ?side2 A19.out).mono ?_); (case side1 => repeat (first | exact (Kd.R_reads' HO_1.out).2.2 | (with_reducible refine Kd.C_alloc ?_ _) | (with_reducible refine Kd.C_drewN ?_ _) | (with_reducible refine Kd.C_drew ?_))); (case side2 => exact (Kd.R_reads' HO_1.out).2.1); rintro e w59 ⟨rfl, hb⟩; have n0_ := Aside0.mk (Kd.R_below (by (with_reducible repeat (first | apply Kd.R_alloc | apply Kd.R_drewN | apply Kd.R_drew)); exact HO_1.out) hb); have n1_ := Aside0.mk (Kd.C_below (by repeat (first | (with_reducible exact HR207.out) | (with_reducible refine Kd.C_alloc ?_ _) | (with_reducible refine Kd.C_drewN ?_ _) | (with_reducible refine Kd.C_drew ?_) | exact HR207.out)) hb); have n2_ := Aside0.mk (below_step (by repeat (first | (with_reducible first | exact HB.out | apply below_alloc | apply pw_below_drewN | apply below_drew1) | exact HB.out)) hb); clear HO_1; clear HR207; clear HB; have HO_1 := n0_; have HR207 := n1_; have HB := n2_; clear n0_ n1_ n2_; (try clear hb); (try clear hb2); (try clear hk); (try clear hi)) | (go_at_call 22; (with_reducible refine (trace_Added.calls kj2 _ _ t192 (⟨#[103]⟩ : ByteArray) t210 _ ?side1 ?side2 A21.out).mono ?_); (case side1 => repeat (first | exact (Kd.R_reads' HO_1.out).2.2 | (with_reducible refine Kd.C_alloc ?_ _) | (with_reducible refine Kd.C_drewN ?_ _) | (with_reducible refine Kd.C_drew ?_))); (case side2 => exact (Kd.R_reads' HO_1.out).2.1); rintro e w60 ⟨rfl, hb⟩; have n0_ := Aside0.mk (Kd.R_below (by (with_reducible repeat (first | apply Kd.R_alloc | apply Kd.R_drewN | apply Kd.R_drew)); exact HO_1.out) hb); have n1_ := Aside0.mk (Kd.C_below (by repeat (first | (with_reducible exact HR207.out) | (with_reducible refine Kd.C_alloc ?_ _) | (with_reducible refine Kd.C_drewN ?_ _) | (with_reducible refine Kd.C_drew ?_) | exact HR207.out)) hb); have n2_ := Aside0.mk (below_step (by repeat (first | (with_reducible first | exact HB.out | apply below_alloc | apply pw_below_drewN | apply below_drew1) | exact HB.out)) hb); clear HO_1; clear HR207; clear HB; have HO_1 := n0_; have HR207 := n1_; have HB := n2_; clear n0_ n1_ n2_; (try clear hb); (try clear hb2); (try clear hk); (try clear hi)))
                          go_ret
                          exact ⟨by first | rfl | (simp [errW_none, errW_some] <;> rfl) | (simp [*, errW_none, errW_some] <;> rfl), by repeat (first | (with_reducible first | exact HB.out | apply below_alloc | apply pw_below_drewN | apply below_drew1) | exact HB.out)⟩
                      · rw [if_neg c20] at H
                        have c20b0 : (t209 == 2) = false := beq_eq_false_iff_ne.mpr c20
                        have c20b1 : (t209 != 2) = true := bne_iff_ne.mpr c20
                        obtain rfl := Option.some.inj H
                        obtain ⟨Ao61, co61, eo61⟩ := Kd.R_slice HO_1.out
                        subst eo61
                        have p202 : 0 ≤ (0 : Int) := (by omega)
                        have q202 : 0 < (t192.length : Int) := of_decide_eq_true (by first | (with_reducible assumption) | assumption)
                        obtain ⟨ad202, e202, hx202_0, hx202_1, hx202_2, hx202_3⟩ := at_T37 (Kd.R_reads' HO_1.out).2.2 0 p202 q202
                        cases e202
                        have qi202 : (0 < t192.length) = True := eq_true (by omega)
                        (try rw [show ((0 : Int)).toNat = 0 from rfl] at hx202_0)
                        (try rw [show 0 * 4 = 0 from rfl] at hx202_0)
                        (try rw [Addr.add_zero'] at hx202_0)
                        (try rw [show ((0 : Int)).toNat = 0 from rfl] at hx202_1)
                        (try rw [show 0 * 4 = 0 from rfl] at hx202_1)
                        (try rw [Addr.add_zero'] at hx202_1)
                        (try rw [show ((0 : Int)).toNat = 0 from rfl] at hx202_2)
                        (try rw [show 0 * 4 = 0 from rfl] at hx202_2)
                        (try rw [Addr.add_zero'] at hx202_2)
                        (try rw [show ((0 : Int)).toNat = 0 from rfl] at hx202_3)
                        (try rw [show 0 * 4 = 0 from rfl] at hx202_3)
                        (try rw [Addr.add_zero'] at hx202_3)
                        replace p202 := eq_true p202
                        replace q202 := eq_true q202
                        (try (have qz202 := q202; rw [ByteArray.size_extract, Nat.min_self] at qz202))
                        go_wp2_with (first | (go_at_call 20; (with_reducible refine (trace_Check.calls kj2 _ _ t192 t203 _ ?side1 ?side2 A12.out).mono ?_); (case side1 => repeat (first | exact (Kd.R_reads' HO_1.out).2.2 | (with_reducible refine Kd.C_alloc ?_ _) | (with_reducible refine Kd.C_drewN ?_ _) | (with_reducible refine Kd.C_drew ?_))); (case side2 => exact (Kd.R_reads' HO_1.out).2.1); rintro e w62 ⟨rfl, hb⟩; have n0_ := Aside0.mk (Kd.R_below (by (with_reducible repeat (first | apply Kd.R_alloc | apply Kd.R_drewN | apply Kd.R_drew)); exact HO_1.out) hb); have n1_ := Aside0.mk (below_step (by repeat (first | (with_reducible first | exact HB.out | apply below_alloc | apply pw_below_drewN | apply below_drew1) | exact HB.out)) hb); clear HO_1; clear HB; have HO_1 := n0_; have HB := n1_; clear n0_ n1_; (try clear hb); (try clear hb2); (try clear hk); (try clear hi); have q63 : (2 : Int) ≤ ((t192.length : Int) : Int) := of_decide_eq_true (by first | (with_reducible assumption) | assumption); obtain ⟨i063, hi063, _, hsz63, _⟩ := info_parts info37; have hroom63 : t192.length ≤ co61 := (Kd.R_reads' HO_1.out).2.1; have hC63 : Kd.C k37 _ (some ad202) t192.length t192 := (Kd.R_reads' HO_1.out).2.2; have hcut63 := cut_from (P := Try.prog) 23 37 .i64 Try.underlying23 hi063 4 hsz63 (some ad202) t192.length co61 2 (by omega) q63; have hr63 := Kd.C_drop (m := (2 : Int).toNat) (c := co61) hC63 (by omega) hroom63; obtain ⟨A63, hA63⟩ : ∃ A1, A1 = (if co61 = (2 : Int).toNat then (some ad202) else ((some ad202) : Option Addr).map (·.add ((2 : Int).toNat * 4))) := ⟨_, rfl⟩; obtain ⟨c63, hc63⟩ : ∃ c1, c1 = co61 - (2 : Int).toNat := ⟨_, rfl⟩; have hy63 : y204.length = t192.length - (2 : Int).toNat := (by rw [Ny204.out, List.length_drop] <;> omega); rw [show (t192).drop (2 : Int).toNat = y204 from Ny204.out.symm] at hr63; replace hr63 : Kd.C k37 _ A63 y204.length y204 := (by rw [hA63]; exact hr63); rw [← hy63, ← hA63, ← hc63] at hcut63; have HR207 := Aside0.mk hr63; have HC207 := Aside0.mk (show y204.length ≤ c63 from by rw [hy63, hc63]; exact Nat.sub_le_sub_right hroom63 _); clear hr63 hC63 hroom63 hi063 hsz63 hc63; have KY63 := Aside0.mk hy63; have KA63 := Aside0.mk hA63; clear hy63 hA63; have KL63 := Aside0.mk (show 2 ≤ t192.length from by omega); replace q63 := eq_true q63) | (go_at_call 20; (with_reducible refine (trace_Check.calls kj2 _ _ y204 t208 _ ?side1 ?side2 A15.out).mono ?_); (case side1 => repeat (first | exact (by repeat (first | (with_reducible exact HR207.out) | (with_reducible refine Kd.C_alloc ?_ _) | (with_reducible refine Kd.C_drewN ?_ _) | (with_reducible refine Kd.C_drew ?_) | exact HR207.out)) | (with_reducible refine Kd.C_alloc ?_ _) | (with_reducible refine Kd.C_drewN ?_ _) | (with_reducible refine Kd.C_drew ?_))); (case side2 => exact HC207.out); rintro e w64 ⟨rfl, hb⟩; have n0_ := Aside0.mk (Kd.R_below (by (with_reducible repeat (first | apply Kd.R_alloc | apply Kd.R_drewN | apply Kd.R_drew)); exact HO_1.out) hb); have n1_ := Aside0.mk (Kd.C_below (by repeat (first | (with_reducible exact HR207.out) | (with_reducible refine Kd.C_alloc ?_ _) | (with_reducible refine Kd.C_drewN ?_ _) | (with_reducible refine Kd.C_drew ?_) | exact HR207.out)) hb); have n2_ := Aside0.mk (below_step (by repeat (first | (with_reducible first | exact HB.out | apply below_alloc | apply pw_below_drewN | apply below_drew1) | exact HB.out)) hb); clear HO_1; clear HR207; clear HB; have HO_1 := n0_; have HR207 := n1_; have HB := n2_; clear n0_ n1_ n2_; (try clear hb); (try clear hb2); (try clear hk); (try clear hi)) | (go_at_call 18; (with_reducible refine (trace_Calls.calls kj2 _ _ t192 t209 _ ?side1 ?side2 A19.out).mono ?_); (case side1 => repeat (first | exact (Kd.R_reads' HO_1.out).2.2 | (with_reducible refine Kd.C_alloc ?_ _) | (with_reducible refine Kd.C_drewN ?_ _) | (with_reducible refine Kd.C_drew ?_))); (case side2 => exact (Kd.R_reads' HO_1.out).2.1); rintro e w65 ⟨rfl, hb⟩; have n0_ := Aside0.mk (Kd.R_below (by (with_reducible repeat (first | apply Kd.R_alloc | apply Kd.R_drewN | apply Kd.R_drew)); exact HO_1.out) hb); have n1_ := Aside0.mk (Kd.C_below (by repeat (first | (with_reducible exact HR207.out) | (with_reducible refine Kd.C_alloc ?_ _) | (with_reducible refine Kd.C_drewN ?_ _) | (with_reducible refine Kd.C_drew ?_) | exact HR207.out)) hb); have n2_ := Aside0.mk (below_step (by repeat (first | (with_reducible first | exact HB.out | apply below_alloc | apply pw_below_drewN | apply below_drew1) | exact HB.out)) hb); clear HO_1; clear HR207; clear HB; have HO_1 := n0_; have HR207 := n1_; have HB := n2_; clear n0_ n1_ n2_; (try clear hb); (try clear hb2); (try clear hk); (try clear hi)))
                        go_ret
                        exact ⟨by first | rfl | (simp [errW_none, errW_some] <;> rfl) | (simp [*, errW_none, errW_some] <;> rfl), by repeat (first | (with_reducible first | exact HB.out | apply below_alloc | apply pw_below_drewN | apply below_drew1) | exact HB.out)⟩
                    · rw [if_neg c18] at H
                      have c18b0 : (t199 == 2) = false := beq_eq_false_iff_ne.mpr c18
                      have c18b1 : (t199 != 2) = true := bne_iff_ne.mpr c18
                      obtain rfl := Option.some.inj H
                      obtain ⟨Ao66, co66, eo66⟩ := Kd.R_slice HO_1.out
                      subst eo66
                      have p202 : 0 ≤ (0 : Int) := (by omega)
                      have q202 : 0 < (t192.length : Int) := of_decide_eq_true (by first | (with_reducible assumption) | assumption)
                      obtain ⟨ad202, e202, hx202_0, hx202_1, hx202_2, hx202_3⟩ := at_T37 (Kd.R_reads' HO_1.out).2.2 0 p202 q202
                      cases e202
                      have qi202 : (0 < t192.length) = True := eq_true (by omega)
                      (try rw [show ((0 : Int)).toNat = 0 from rfl] at hx202_0)
                      (try rw [show 0 * 4 = 0 from rfl] at hx202_0)
                      (try rw [Addr.add_zero'] at hx202_0)
                      (try rw [show ((0 : Int)).toNat = 0 from rfl] at hx202_1)
                      (try rw [show 0 * 4 = 0 from rfl] at hx202_1)
                      (try rw [Addr.add_zero'] at hx202_1)
                      (try rw [show ((0 : Int)).toNat = 0 from rfl] at hx202_2)
                      (try rw [show 0 * 4 = 0 from rfl] at hx202_2)
                      (try rw [Addr.add_zero'] at hx202_2)
                      (try rw [show ((0 : Int)).toNat = 0 from rfl] at hx202_3)
                      (try rw [show 0 * 4 = 0 from rfl] at hx202_3)
                      (try rw [Addr.add_zero'] at hx202_3)
                      replace p202 := eq_true p202
                      replace q202 := eq_true q202
                      (try (have qz202 := q202; rw [ByteArray.size_extract, Nat.min_self] at qz202))
                      go_wp2_with (first | (go_at_call 20; (with_reducible refine (trace_Check.calls kj2 _ _ t192 t203 _ ?side1 ?side2 A12.out).mono ?_); (case side1 => repeat (first | exact (Kd.R_reads' HO_1.out).2.2 | (with_reducible refine Kd.C_alloc ?_ _) | (with_reducible refine Kd.C_drewN ?_ _) | (with_reducible refine Kd.C_drew ?_))); (case side2 => exact (Kd.R_reads' HO_1.out).2.1); rintro e w67 ⟨rfl, hb⟩; have n0_ := Aside0.mk (Kd.R_below (by (with_reducible repeat (first | apply Kd.R_alloc | apply Kd.R_drewN | apply Kd.R_drew)); exact HO_1.out) hb); have n1_ := Aside0.mk (below_step (by repeat (first | (with_reducible first | exact HB.out | apply below_alloc | apply pw_below_drewN | apply below_drew1) | exact HB.out)) hb); clear HO_1; clear HB; have HO_1 := n0_; have HB := n1_; clear n0_ n1_; (try clear hb); (try clear hb2); (try clear hk); (try clear hi); have q68 : (2 : Int) ≤ ((t192.length : Int) : Int) := of_decide_eq_true (by first | (with_reducible assumption) | assumption); obtain ⟨i068, hi068, _, hsz68, _⟩ := info_parts info37; have hroom68 : t192.length ≤ co66 := (Kd.R_reads' HO_1.out).2.1; have hC68 : Kd.C k37 _ (some ad202) t192.length t192 := (Kd.R_reads' HO_1.out).2.2; have hcut68 := cut_from (P := Try.prog) 23 37 .i64 Try.underlying23 hi068 4 hsz68 (some ad202) t192.length co66 2 (by omega) q68; have hr68 := Kd.C_drop (m := (2 : Int).toNat) (c := co66) hC68 (by omega) hroom68; obtain ⟨A68, hA68⟩ : ∃ A1, A1 = (if co66 = (2 : Int).toNat then (some ad202) else ((some ad202) : Option Addr).map (·.add ((2 : Int).toNat * 4))) := ⟨_, rfl⟩; obtain ⟨c68, hc68⟩ : ∃ c1, c1 = co66 - (2 : Int).toNat := ⟨_, rfl⟩; have hy68 : y204.length = t192.length - (2 : Int).toNat := (by rw [Ny204.out, List.length_drop] <;> omega); rw [show (t192).drop (2 : Int).toNat = y204 from Ny204.out.symm] at hr68; replace hr68 : Kd.C k37 _ A68 y204.length y204 := (by rw [hA68]; exact hr68); rw [← hy68, ← hA68, ← hc68] at hcut68; have HR207 := Aside0.mk hr68; have HC207 := Aside0.mk (show y204.length ≤ c68 from by rw [hy68, hc68]; exact Nat.sub_le_sub_right hroom68 _); clear hr68 hC68 hroom68 hi068 hsz68 hc68; have KY68 := Aside0.mk hy68; have KA68 := Aside0.mk hA68; clear hy68 hA68; have KL68 := Aside0.mk (show 2 ≤ t192.length from by omega); replace q68 := eq_true q68) | (go_at_call 20; (with_reducible refine (trace_Check.calls kj2 _ _ y204 t208 _ ?side1 ?side2 A15.out).mono ?_); (case side1 => repeat (first | exact (by repeat (first | (with_reducible exact HR207.out) | (with_reducible refine Kd.C_alloc ?_ _) | (with_reducible refine Kd.C_drewN ?_ _) | (with_reducible refine Kd.C_drew ?_) | exact HR207.out)) | (with_reducible refine Kd.C_alloc ?_ _) | (with_reducible refine Kd.C_drewN ?_ _) | (with_reducible refine Kd.C_drew ?_))); (case side2 => exact HC207.out); rintro e w69 ⟨rfl, hb⟩; have n0_ := Aside0.mk (Kd.R_below (by (with_reducible repeat (first | apply Kd.R_alloc | apply Kd.R_drewN | apply Kd.R_drew)); exact HO_1.out) hb); have n1_ := Aside0.mk (Kd.C_below (by repeat (first | (with_reducible exact HR207.out) | (with_reducible refine Kd.C_alloc ?_ _) | (with_reducible refine Kd.C_drewN ?_ _) | (with_reducible refine Kd.C_drew ?_) | exact HR207.out)) hb); have n2_ := Aside0.mk (below_step (by repeat (first | (with_reducible first | exact HB.out | apply below_alloc | apply pw_below_drewN | apply below_drew1) | exact HB.out)) hb); clear HO_1; clear HR207; clear HB; have HO_1 := n0_; have HR207 := n1_; have HB := n2_; clear n0_ n1_ n2_; (try clear hb); (try clear hb2); (try clear hk); (try clear hi)))
                      go_ret
                      exact ⟨by first | rfl | (simp [errW_none, errW_some] <;> rfl) | (simp [*, errW_none, errW_some] <;> rfl), by repeat (first | (with_reducible first | exact HB.out | apply below_alloc | apply pw_below_drewN | apply below_drew1) | exact HB.out)⟩
                  · rw [if_neg c17] at H
                    have c17b0 : (t198 == 12) = false := beq_eq_false_iff_ne.mpr c17
                    have c17b1 : (t198 != 12) = true := bne_iff_ne.mpr c17
                    obtain rfl := Option.some.inj H
                    obtain ⟨Ao70, co70, eo70⟩ := Kd.R_slice HO_1.out
                    subst eo70
                    have p202 : 0 ≤ (0 : Int) := (by omega)
                    have q202 : 0 < (t192.length : Int) := of_decide_eq_true (by first | (with_reducible assumption) | assumption)
                    obtain ⟨ad202, e202, hx202_0, hx202_1, hx202_2, hx202_3⟩ := at_T37 (Kd.R_reads' HO_1.out).2.2 0 p202 q202
                    cases e202
                    have qi202 : (0 < t192.length) = True := eq_true (by omega)
                    (try rw [show ((0 : Int)).toNat = 0 from rfl] at hx202_0)
                    (try rw [show 0 * 4 = 0 from rfl] at hx202_0)
                    (try rw [Addr.add_zero'] at hx202_0)
                    (try rw [show ((0 : Int)).toNat = 0 from rfl] at hx202_1)
                    (try rw [show 0 * 4 = 0 from rfl] at hx202_1)
                    (try rw [Addr.add_zero'] at hx202_1)
                    (try rw [show ((0 : Int)).toNat = 0 from rfl] at hx202_2)
                    (try rw [show 0 * 4 = 0 from rfl] at hx202_2)
                    (try rw [Addr.add_zero'] at hx202_2)
                    (try rw [show ((0 : Int)).toNat = 0 from rfl] at hx202_3)
                    (try rw [show 0 * 4 = 0 from rfl] at hx202_3)
                    (try rw [Addr.add_zero'] at hx202_3)
                    replace p202 := eq_true p202
                    replace q202 := eq_true q202
                    (try (have qz202 := q202; rw [ByteArray.size_extract, Nat.min_self] at qz202))
                    go_wp2_with (first | (go_at_call 20; (with_reducible refine (trace_Check.calls kj2 _ _ t192 t203 _ ?side1 ?side2 A12.out).mono ?_); (case side1 => repeat (first | exact (Kd.R_reads' HO_1.out).2.2 | (with_reducible refine Kd.C_alloc ?_ _) | (with_reducible refine Kd.C_drewN ?_ _) | (with_reducible refine Kd.C_drew ?_))); (case side2 => exact (Kd.R_reads' HO_1.out).2.1); rintro e w71 ⟨rfl, hb⟩; have n0_ := Aside0.mk (Kd.R_below (by (with_reducible repeat (first | apply Kd.R_alloc | apply Kd.R_drewN | apply Kd.R_drew)); exact HO_1.out) hb); have n1_ := Aside0.mk (below_step (by repeat (first | (with_reducible first | exact HB.out | apply below_alloc | apply pw_below_drewN | apply below_drew1) | exact HB.out)) hb); clear HO_1; clear HB; have HO_1 := n0_; have HB := n1_; clear n0_ n1_; (try clear hb); (try clear hb2); (try clear hk); (try clear hi); have q72 : (2 : Int) ≤ ((t192.length : Int) : Int) := of_decide_eq_true (by first | (with_reducible assumption) | assumption); obtain ⟨i072, hi072, _, hsz72, _⟩ := info_parts info37; have hroom72 : t192.length ≤ co70 := (Kd.R_reads' HO_1.out).2.1; have hC72 : Kd.C k37 _ (some ad202) t192.length t192 := (Kd.R_reads' HO_1.out).2.2; have hcut72 := cut_from (P := Try.prog) 23 37 .i64 Try.underlying23 hi072 4 hsz72 (some ad202) t192.length co70 2 (by omega) q72; have hr72 := Kd.C_drop (m := (2 : Int).toNat) (c := co70) hC72 (by omega) hroom72; obtain ⟨A72, hA72⟩ : ∃ A1, A1 = (if co70 = (2 : Int).toNat then (some ad202) else ((some ad202) : Option Addr).map (·.add ((2 : Int).toNat * 4))) := ⟨_, rfl⟩; obtain ⟨c72, hc72⟩ : ∃ c1, c1 = co70 - (2 : Int).toNat := ⟨_, rfl⟩; have hy72 : y204.length = t192.length - (2 : Int).toNat := (by rw [Ny204.out, List.length_drop] <;> omega); rw [show (t192).drop (2 : Int).toNat = y204 from Ny204.out.symm] at hr72; replace hr72 : Kd.C k37 _ A72 y204.length y204 := (by rw [hA72]; exact hr72); rw [← hy72, ← hA72, ← hc72] at hcut72; have HR207 := Aside0.mk hr72; have HC207 := Aside0.mk (show y204.length ≤ c72 from by rw [hy72, hc72]; exact Nat.sub_le_sub_right hroom72 _); clear hr72 hC72 hroom72 hi072 hsz72 hc72; have KY72 := Aside0.mk hy72; have KA72 := Aside0.mk hA72; clear hy72 hA72; have KL72 := Aside0.mk (show 2 ≤ t192.length from by omega); replace q72 := eq_true q72) | (go_at_call 20; (with_reducible refine (trace_Check.calls kj2 _ _ y204 t208 _ ?side1 ?side2 A15.out).mono ?_); (case side1 => repeat (first | exact (by repeat (first | (with_reducible exact HR207.out) | (with_reducible refine Kd.C_alloc ?_ _) | (with_reducible refine Kd.C_drewN ?_ _) | (with_reducible refine Kd.C_drew ?_) | exact HR207.out)) | (with_reducible refine Kd.C_alloc ?_ _) | (with_reducible refine Kd.C_drewN ?_ _) | (with_reducible refine Kd.C_drew ?_))); (case side2 => exact HC207.out); rintro e w73 ⟨rfl, hb⟩; have n0_ := Aside0.mk (Kd.R_below (by (with_reducible repeat (first | apply Kd.R_alloc | apply Kd.R_drewN | apply Kd.R_drew)); exact HO_1.out) hb); have n1_ := Aside0.mk (Kd.C_below (by repeat (first | (with_reducible exact HR207.out) | (with_reducible refine Kd.C_alloc ?_ _) | (with_reducible refine Kd.C_drewN ?_ _) | (with_reducible refine Kd.C_drew ?_) | exact HR207.out)) hb); have n2_ := Aside0.mk (below_step (by repeat (first | (with_reducible first | exact HB.out | apply below_alloc | apply pw_below_drewN | apply below_drew1) | exact HB.out)) hb); clear HO_1; clear HR207; clear HB; have HO_1 := n0_; have HR207 := n1_; have HB := n2_; clear n0_ n1_ n2_; (try clear hb); (try clear hb2); (try clear hk); (try clear hi)))
                    go_ret
                    exact ⟨by first | rfl | (simp [errW_none, errW_some] <;> rfl) | (simp [*, errW_none, errW_some] <;> rfl), by repeat (first | (with_reducible first | exact HB.out | apply below_alloc | apply pw_below_drewN | apply below_drew1) | exact HB.out)⟩
                · rw [if_neg c16] at H
                  have c16b0 : (t208 == 0) = false := beq_eq_false_iff_ne.mpr c16
                  have c16b1 : (t208 != 0) = true := bne_iff_ne.mpr c16
                  obtain rfl := Option.some.inj H
                  obtain ⟨Ao74, co74, eo74⟩ := Kd.R_slice HO_1.out
                  subst eo74
                  have p202 : 0 ≤ (0 : Int) := (by omega)
                  have q202 : 0 < (t192.length : Int) := of_decide_eq_true (by first | (with_reducible assumption) | assumption)
                  obtain ⟨ad202, e202, hx202_0, hx202_1, hx202_2, hx202_3⟩ := at_T37 (Kd.R_reads' HO_1.out).2.2 0 p202 q202
                  cases e202
                  have qi202 : (0 < t192.length) = True := eq_true (by omega)
                  (try rw [show ((0 : Int)).toNat = 0 from rfl] at hx202_0)
                  (try rw [show 0 * 4 = 0 from rfl] at hx202_0)
                  (try rw [Addr.add_zero'] at hx202_0)
                  (try rw [show ((0 : Int)).toNat = 0 from rfl] at hx202_1)
                  (try rw [show 0 * 4 = 0 from rfl] at hx202_1)
                  (try rw [Addr.add_zero'] at hx202_1)
                  (try rw [show ((0 : Int)).toNat = 0 from rfl] at hx202_2)
                  (try rw [show 0 * 4 = 0 from rfl] at hx202_2)
                  (try rw [Addr.add_zero'] at hx202_2)
                  (try rw [show ((0 : Int)).toNat = 0 from rfl] at hx202_3)
                  (try rw [show 0 * 4 = 0 from rfl] at hx202_3)
                  (try rw [Addr.add_zero'] at hx202_3)
                  replace p202 := eq_true p202
                  replace q202 := eq_true q202
                  (try (have qz202 := q202; rw [ByteArray.size_extract, Nat.min_self] at qz202))
                  go_wp2_with (first | (go_at_call 20; (with_reducible refine (trace_Check.calls kj2 _ _ t192 t203 _ ?side1 ?side2 A12.out).mono ?_); (case side1 => repeat (first | exact (Kd.R_reads' HO_1.out).2.2 | (with_reducible refine Kd.C_alloc ?_ _) | (with_reducible refine Kd.C_drewN ?_ _) | (with_reducible refine Kd.C_drew ?_))); (case side2 => exact (Kd.R_reads' HO_1.out).2.1); rintro e w75 ⟨rfl, hb⟩; have n0_ := Aside0.mk (Kd.R_below (by (with_reducible repeat (first | apply Kd.R_alloc | apply Kd.R_drewN | apply Kd.R_drew)); exact HO_1.out) hb); have n1_ := Aside0.mk (below_step (by repeat (first | (with_reducible first | exact HB.out | apply below_alloc | apply pw_below_drewN | apply below_drew1) | exact HB.out)) hb); clear HO_1; clear HB; have HO_1 := n0_; have HB := n1_; clear n0_ n1_; (try clear hb); (try clear hb2); (try clear hk); (try clear hi); have q76 : (2 : Int) ≤ ((t192.length : Int) : Int) := of_decide_eq_true (by first | (with_reducible assumption) | assumption); obtain ⟨i076, hi076, _, hsz76, _⟩ := info_parts info37; have hroom76 : t192.length ≤ co74 := (Kd.R_reads' HO_1.out).2.1; have hC76 : Kd.C k37 _ (some ad202) t192.length t192 := (Kd.R_reads' HO_1.out).2.2; have hcut76 := cut_from (P := Try.prog) 23 37 .i64 Try.underlying23 hi076 4 hsz76 (some ad202) t192.length co74 2 (by omega) q76; have hr76 := Kd.C_drop (m := (2 : Int).toNat) (c := co74) hC76 (by omega) hroom76; obtain ⟨A76, hA76⟩ : ∃ A1, A1 = (if co74 = (2 : Int).toNat then (some ad202) else ((some ad202) : Option Addr).map (·.add ((2 : Int).toNat * 4))) := ⟨_, rfl⟩; obtain ⟨c76, hc76⟩ : ∃ c1, c1 = co74 - (2 : Int).toNat := ⟨_, rfl⟩; have hy76 : y204.length = t192.length - (2 : Int).toNat := (by rw [Ny204.out, List.length_drop] <;> omega); rw [show (t192).drop (2 : Int).toNat = y204 from Ny204.out.symm] at hr76; replace hr76 : Kd.C k37 _ A76 y204.length y204 := (by rw [hA76]; exact hr76); rw [← hy76, ← hA76, ← hc76] at hcut76; have HR207 := Aside0.mk hr76; have HC207 := Aside0.mk (show y204.length ≤ c76 from by rw [hy76, hc76]; exact Nat.sub_le_sub_right hroom76 _); clear hr76 hC76 hroom76 hi076 hsz76 hc76; have KY76 := Aside0.mk hy76; have KA76 := Aside0.mk hA76; clear hy76 hA76; have KL76 := Aside0.mk (show 2 ≤ t192.length from by omega); replace q76 := eq_true q76) | (go_at_call 20; (with_reducible refine (trace_Check.calls kj2 _ _ y204 t208 _ ?side1 ?side2 A15.out).mono ?_); (case side1 => repeat (first | exact (by repeat (first | (with_reducible exact HR207.out) | (with_reducible refine Kd.C_alloc ?_ _) | (with_reducible refine Kd.C_drewN ?_ _) | (with_reducible refine Kd.C_drew ?_) | exact HR207.out)) | (with_reducible refine Kd.C_alloc ?_ _) | (with_reducible refine Kd.C_drewN ?_ _) | (with_reducible refine Kd.C_drew ?_))); (case side2 => exact HC207.out); rintro e w77 ⟨rfl, hb⟩; have n0_ := Aside0.mk (Kd.R_below (by (with_reducible repeat (first | apply Kd.R_alloc | apply Kd.R_drewN | apply Kd.R_drew)); exact HO_1.out) hb); have n1_ := Aside0.mk (Kd.C_below (by repeat (first | (with_reducible exact HR207.out) | (with_reducible refine Kd.C_alloc ?_ _) | (with_reducible refine Kd.C_drewN ?_ _) | (with_reducible refine Kd.C_drew ?_) | exact HR207.out)) hb); have n2_ := Aside0.mk (below_step (by repeat (first | (with_reducible first | exact HB.out | apply below_alloc | apply pw_below_drewN | apply below_drew1) | exact HB.out)) hb); clear HO_1; clear HR207; clear HB; have HO_1 := n0_; have HR207 := n1_; have HB := n2_; clear n0_ n1_ n2_; (try clear hb); (try clear hb2); (try clear hk); (try clear hi)))
                  go_ret
                  exact ⟨by first | rfl | (simp [errW_none, errW_some] <;> rfl) | (simp [*, errW_none, errW_some] <;> rfl), by repeat (first | (with_reducible first | exact HB.out | apply below_alloc | apply pw_below_drewN | apply below_drew1) | exact HB.out)⟩
              · rw [if_neg c14] at H
                exact absurd H (by simp)
            · rw [if_neg c13] at H
              have c13b0 : (t203 == (-1)) = false := beq_eq_false_iff_ne.mpr c13
              have c13b1 : (t203 != (-1)) = true := bne_iff_ne.mpr c13
              obtain rfl := Option.some.inj H
              obtain ⟨Ao78, co78, eo78⟩ := Kd.R_slice HO_1.out
              subst eo78
              have p202 : 0 ≤ (0 : Int) := (by omega)
              have q202 : 0 < (t192.length : Int) := of_decide_eq_true (by first | (with_reducible assumption) | assumption)
              obtain ⟨ad202, e202, hx202_0, hx202_1, hx202_2, hx202_3⟩ := at_T37 (Kd.R_reads' HO_1.out).2.2 0 p202 q202
              cases e202
              have qi202 : (0 < t192.length) = True := eq_true (by omega)
              (try rw [show ((0 : Int)).toNat = 0 from rfl] at hx202_0)
              (try rw [show 0 * 4 = 0 from rfl] at hx202_0)
              (try rw [Addr.add_zero'] at hx202_0)
              (try rw [show ((0 : Int)).toNat = 0 from rfl] at hx202_1)
              (try rw [show 0 * 4 = 0 from rfl] at hx202_1)
              (try rw [Addr.add_zero'] at hx202_1)
              (try rw [show ((0 : Int)).toNat = 0 from rfl] at hx202_2)
              (try rw [show 0 * 4 = 0 from rfl] at hx202_2)
              (try rw [Addr.add_zero'] at hx202_2)
              (try rw [show ((0 : Int)).toNat = 0 from rfl] at hx202_3)
              (try rw [show 0 * 4 = 0 from rfl] at hx202_3)
              (try rw [Addr.add_zero'] at hx202_3)
              replace p202 := eq_true p202
              replace q202 := eq_true q202
              (try (have qz202 := q202; rw [ByteArray.size_extract, Nat.min_self] at qz202))
              go_wp2_with (first | (go_at_call 20; (with_reducible refine (trace_Check.calls kj2 _ _ t192 t203 _ ?side1 ?side2 A12.out).mono ?_); (case side1 => repeat (first | exact (Kd.R_reads' HO_1.out).2.2 | (with_reducible refine Kd.C_alloc ?_ _) | (with_reducible refine Kd.C_drewN ?_ _) | (with_reducible refine Kd.C_drew ?_))); (case side2 => exact (Kd.R_reads' HO_1.out).2.1); rintro e w79 ⟨rfl, hb⟩; have n0_ := Aside0.mk (Kd.R_below (by (with_reducible repeat (first | apply Kd.R_alloc | apply Kd.R_drewN | apply Kd.R_drew)); exact HO_1.out) hb); have n1_ := Aside0.mk (below_step (by repeat (first | (with_reducible first | exact HB.out | apply below_alloc | apply pw_below_drewN | apply below_drew1) | exact HB.out)) hb); clear HO_1; clear HB; have HO_1 := n0_; have HB := n1_; clear n0_ n1_; (try clear hb); (try clear hb2); (try clear hk); (try clear hi)))
              go_ret
              exact ⟨by first | rfl | (simp [errW_none, errW_some] <;> rfl) | (simp [*, errW_none, errW_some] <;> rfl), by repeat (first | (with_reducible first | exact HB.out | apply below_alloc | apply pw_below_drewN | apply below_drew1) | exact HB.out)⟩
          · rw [if_neg c11] at H
            have c11b0 : (((rd_T37 t192 0).f0) == 3 && ((((rd_T37 t192 0).f1).toList) == ([117, 112] : List UInt8) && ((((rd_T37 t192 0).f2).toList) == ([103] : List UInt8) && (((rd_T37 t192 0).f3) == 1)))) = false := by simpa using c11
            (try (have c11b1 : decide (((rd_T37 t192 0).f0) = 3 && ((((rd_T37 t192 0).f1).toList) == ([117, 112] : List UInt8) && ((((rd_T37 t192 0).f2).toList) == ([103] : List UInt8) && (((rd_T37 t192 0).f3) == 1)))) = false := by simpa using c11))
            (try (have c11b2 : (((rd_T37 t192 0).f0) == 3 && ((((rd_T37 t192 0).f1).toList) == ([117, 112] : List UInt8) && ((((rd_T37 t192 0).f2).toList) == ([103] : List UInt8) && (((rd_T37 t192 0).f3) == 1)))) = false := by simpa using c11))
            (try (have c11b3 : ¬ (((rd_T37 t192 0).f0) = 3 && ((((rd_T37 t192 0).f1).toList) == ([117, 112] : List UInt8) && ((((rd_T37 t192 0).f2).toList) == ([103] : List UInt8) && (((rd_T37 t192 0).f3) == 1)))) := by simpa using c11))
            clear c11
            obtain rfl := Option.some.inj H
            obtain ⟨Ao80, co80, eo80⟩ := Kd.R_slice HO_1.out
            subst eo80
            have p202 : 0 ≤ (0 : Int) := (by omega)
            have q202 : 0 < (t192.length : Int) := of_decide_eq_true (by first | (with_reducible assumption) | assumption)
            obtain ⟨ad202, e202, hx202_0, hx202_1, hx202_2, hx202_3⟩ := at_T37 (Kd.R_reads' HO_1.out).2.2 0 p202 q202
            cases e202
            have qi202 : (0 < t192.length) = True := eq_true (by omega)
            (try rw [show ((0 : Int)).toNat = 0 from rfl] at hx202_0)
            (try rw [show 0 * 4 = 0 from rfl] at hx202_0)
            (try rw [Addr.add_zero'] at hx202_0)
            (try rw [show ((0 : Int)).toNat = 0 from rfl] at hx202_1)
            (try rw [show 0 * 4 = 0 from rfl] at hx202_1)
            (try rw [Addr.add_zero'] at hx202_1)
            (try rw [show ((0 : Int)).toNat = 0 from rfl] at hx202_2)
            (try rw [show 0 * 4 = 0 from rfl] at hx202_2)
            (try rw [Addr.add_zero'] at hx202_2)
            (try rw [show ((0 : Int)).toNat = 0 from rfl] at hx202_3)
            (try rw [show 0 * 4 = 0 from rfl] at hx202_3)
            (try rw [Addr.add_zero'] at hx202_3)
            replace p202 := eq_true p202
            replace q202 := eq_true q202
            (try (have qz202 := q202; rw [ByteArray.size_extract, Nat.min_self] at qz202))
            go_wp2
            go_ret
            exact ⟨by first | rfl | (simp [errW_none, errW_some] <;> rfl) | (simp [*, errW_none, errW_some] <;> rfl), by repeat (first | (with_reducible first | exact HB.out | apply below_alloc | apply pw_below_drewN | apply below_drew1) | exact HB.out)⟩
        · rw [if_neg c10] at H
          exact absurd H (by simp)
end Go.Proofs.Ytngmcigkihfnkaa.H
end
section
namespace Go.Proofs.Ytngmcigkihfnkaa.H
open Go.RowKit Go.Proofs.YtngmcigkihfnkaaW.PrintWords Go.Proofs.YtngmcigkihfnkaaW.PrintLast Go.Proofs.YtngmcigkihfnkaaW.PrintMore
set_option linter.unusedVariables false
set_option linter.unusedSimpArgs false
theorem wrap_small {i : Int} (h0 : -9223372036854775808 ≤ i) (h1 : i ≤ 9223372036854775807) : wrap64 i = i := by unfold wrap64; omega
theorem toList_inj {a b : ByteArray} (h : a.toList = b.toList) : a = b := by
  rw [ByteArray.toList_eq, ByteArray.toList_eq] at h
  exact bytes_inj h
theorem ev_if {α : Type} {c : Prop} [Decidable c] {f g : Nat → Option α} {r : α} (h1 : c → Ev f r) (h2 : ¬ c → Ev g r) : Ev (fun k => if c then f k else g k) r := by
  by_cases h : c
  · simp only [h, if_true]; exact h1 h
  · simp only [h, if_false]; exact h2 h
theorem toList_iff (s : ByteArray) (l : List UInt8) : s.toList = l ↔ s = ⟨l.toArray⟩ := by
  rw [ByteArray.toList_eq]
  constructor
  · intro h; cases s; rw [← h]
  · intro h; rw [h]
end Go.Proofs.Ytngmcigkihfnkaa.H
end
section
namespace Go.Proofs.Ytngmcigkihfnkaa.H
open Go.RowKit Go.Proofs.YtngmcigkihfnkaaW.PrintWords Go.Proofs.YtngmcigkihfnkaaW.PrintLast Go.Proofs.YtngmcigkihfnkaaW.PrintMore
set_option linter.unusedVariables false
set_option linter.unusedSimpArgs false
def k1L : List ByteArray := [⟨#[117, 112]⟩, ⟨#[114, 97, 105, 115, 101]⟩, ⟨#[102, 105, 120]⟩]
def k2L : List ByteArray := [⟨#[99, 108, 101, 97, 110]⟩, ⟨#[114, 101, 102, 117, 115, 101, 100]⟩, ⟨#[104, 111, 112, 101, 108, 101, 115, 115]⟩, ⟨#[101, 118, 105, 99, 116]⟩, ⟨#[100, 101, 108, 101, 116, 101]⟩, ⟨#[107, 101, 101, 112]⟩, ⟨#[115, 116, 111, 112]⟩, ⟨#[103, 111, 110, 101]⟩, ⟨#[100, 111, 119, 110]⟩]
def k3L : List ByteArray := [⟨#[117, 110, 104, 101, 97, 108, 116, 104, 121]⟩]
/-- An event: its time, what, of which name, how many. -/
structure EvT where
  now : Int
  what : ByteArray
  name : ByteArray
  n : Int
  deriving DecidableEq
def memB (s : ByteArray) (l : List ByteArray) : Bool := l.any (fun x => decide (x = s))
def rightR (e : EvT) : Bool :=
  if e.now < 0 ∨ 1099511627776 < e.now then false
  else if memB e.what k1L = true then lexWordB e.name && (decide (1 ≤ e.n) && decide (e.n ≤ 200))
  else if memB e.what k2L = true then lexWordB e.name && decide (e.n = 0)
  else memB e.what k3L && (decide (e.name = ⟨#[]⟩) && decide (e.n = 0))
end Go.Proofs.Ytngmcigkihfnkaa.H
end
section
namespace Go.Proofs.Ytngmcigkihfnkaa.H
open Go.RowKit Go.Proofs.YtngmcigkihfnkaaW.PrintWords Go.Proofs.YtngmcigkihfnkaaW.PrintLast Go.Proofs.YtngmcigkihfnkaaW.PrintMore
set_option linter.unusedVariables false
set_option linter.unusedSimpArgs false
theorem rdOf_at {l : List ByteArray} (i : Nat) (h : i < l.length) : rdOf ByteArray.empty l (i : Int) = l[i] := by
  unfold rdOf
  simp [List.getD_eq_getElem?_getD, h]
theorem int_beq (n m : Int) : (n == m) = decide (n = m) := by by_cases h : n = m <;> simp [h]
theorem among_l0 (s : ByteArray) (l : List ByteArray) (hl : l.length ≤ 1000000000) : ∀ (d i : Nat), i + d = l.length → Ev (fun k => trace_among.l0 k s l (l.length : Int) (i : Int)) (memB s (l.drop i)) := by
  intro d
  induction d with
  | zero =>
    intro i h
    refine Ev.step (fun k => by rw [trace_among.l0]) ?_
    rw [List.drop_eq_nil_of_le (by omega)]
    simp only [show ¬ ((i : Int) < (l.length : Int)) by omega, if_false, memB, List.any_nil]
    exact Ev.now _
  | succ d ih =>
    intro i h
    have h5 : i < l.length := by omega
    refine Ev.step (fun k => by rw [trace_among.l0]) ?_
    rw [List.drop_eq_getElem_cons h5, rdOf_at i h5, wrap_small (i := (i : Int) + 1) (by omega) (by omega)]
    simp only [show (i : Int) < (l.length : Int) by omega, show (0 : Int) ≤ (i : Int) by omega, if_true]
    refine ev_if (fun h6 => ?_) (fun h6 => ?_)
    · have : l[i] = s := toList_inj h6
      have e : memB s (l[i] :: l.drop (i + 1)) = true := by
        show (decide (l[i] = s) || _) = true
        rw [decide_eq_true this, Bool.true_or]
      rw [e]
      exact Ev.now _
    · have e : memB s (l[i] :: l.drop (i + 1)) = memB s (l.drop (i + 1)) := by
        have h7 : ¬ l[i] = s := fun e => h6 (by rw [e])
        show (decide (l[i] = s) || _) = _
        rw [decide_eq_false h7, Bool.false_or]; rfl
      rw [e]
      exact ih (i + 1) (by omega)
theorem among_ev (s : ByteArray) (l : List ByteArray) (hl : l.length ≤ 1000000000) : Ev (fun k => trace_among.f k s l) (memB s l) := by
  have := among_l0 s l hl l.length 0 (by omega)
  rw [List.drop_zero] at this
  exact this
theorem counts_ev (now : Int) (what name : ByteArray) (n : Int) : Ev (fun k => trace_Event_counts.f k now what name n) (memB what k1L) := by
  unfold trace_Event_counts.f
  exact Ev.bind (among_ev what k1L (by decide)) (Ev.now _)
theorem names_ev (now : Int) (what name : ByteArray) (n : Int) : Ev (fun k => trace_Event_names.f k now what name n) (memB what k2L) := by
  unfold trace_Event_names.f
  exact Ev.bind (among_ev what k2L (by decide)) (Ev.now _)
theorem alone_ev (now : Int) (what name : ByteArray) (n : Int) : Ev (fun k => trace_Event_alone.f k now what name n) (memB what k3L) := by
  unfold trace_Event_alone.f
  exact Ev.bind (among_ev what k3L (by decide)) (Ev.now _)
theorem right_ev (now : Int) (what name : ByteArray) (n : Int) (hs : name.size ≤ 1000000000) : Ev (fun k => trace_Right.f k now what name n) (rightR ⟨now, what, name, n⟩) := by
  have hw : lex_Word.f name = some (lexWordB name) := by unfold lex_Word.f; rw [if_pos (by omega)]
  have hj : ∀ b : Bool, (b = true ↔ (now < 0 ∨ 1099511627776 < now)) → Ev (fun k => trace_Right.j0 k b now what name n) (rightR ⟨now, what, name, n⟩) := by
    intro b hb
    refine Ev.step (fun k => by rw [trace_Right.j0]) ?_
    unfold rightR
    cases b with
    | true =>
      rw [if_pos (hb.1 rfl)]
      simp only [if_true]
      exact Ev.now _
    | false =>
      have hno : ¬ (now < 0 ∨ 1099511627776 < now) := fun h => by have := hb.2 h; cases this
      rw [if_neg hno]
      simp only [Bool.false_eq_true, if_false]
      refine Ev.bind (counts_ev now what name n) ?_
      cases memB what k1L with
      | true =>
        simp only [if_true, hw, Option.bind_some]
        cases lexWordB name with
        | true =>
          simp only [if_true, Bool.true_and]
          refine ev_if (fun h => ?_) (fun h => ?_)
          · rw [decide_eq_true (show 1 ≤ n by omega), Bool.true_and]; exact Ev.now _
          · rw [decide_eq_false (show ¬ 1 ≤ n by omega), Bool.false_and]; exact Ev.now _
        | false => simp only [Bool.false_eq_true, if_false, Bool.false_and]; exact Ev.now _
      | false =>
        simp only [Bool.false_eq_true, if_false]
        refine Ev.bind (names_ev now what name n) ?_
        cases memB what k2L with
        | true =>
          simp only [if_true, hw, Option.bind_some]
          cases lexWordB name with
          | true => simp only [if_true, Bool.true_and, int_beq]; exact Ev.now _
          | false => simp only [Bool.false_eq_true, if_false, Bool.false_and]; exact Ev.now _
        | false =>
          simp only [Bool.false_eq_true, if_false]
          refine Ev.bind (alone_ev now what name n) ?_
          cases memB what k3L with
          | true =>
            simp only [if_true, Bool.true_and]
            refine ev_if (fun h => ?_) (fun h => ?_)
            · rw [decide_eq_true ((toList_iff name []).1 h), Bool.true_and]; simp only [int_beq]; exact Ev.now _
            · rw [decide_eq_false (fun e => h ((toList_iff name []).2 e)), Bool.false_and]; exact Ev.now _
          | false => simp only [Bool.false_eq_true, if_false, Bool.false_and]; exact Ev.now _
  unfold trace_Right.f
  refine ev_if (fun h => hj true ⟨fun _ => .inl h, fun _ => rfl⟩) (fun h => hj _ ⟨fun e => .inr (by simpa using e), fun e => ?_⟩)
  rcases e with e | e
  · exact absurd e h
  · exact decide_eq_true e
end Go.Proofs.Ytngmcigkihfnkaa.H
end
section
namespace Go.Proofs.Ytngmcigkihfnkaa.H
open Go.RowKit Go.Proofs.YtngmcigkihfnkaaW.PrintWords Go.Proofs.YtngmcigkihfnkaaW.PrintLast Go.Proofs.YtngmcigkihfnkaaW.PrintMore
attribute [local go_sem] max2_int min2_int max_two min_two max_three min_three max_four min_four   -- for this text's walks alone
set_option linter.unusedVariables false
set_option linter.unusedSimpArgs false
theorem eqA39 (d : Nat) (w : World) (x0 y0 : Int) (x1 y1 : ByteArray) (x2 y2 : ByteArray) (x3 y3 : Int) :
    (Op.equalIn (d + 2) 39 (.agg #[.int .i64 x0, .string x1, .string x2, .int .i64 x3]) (.agg #[.int .i64 y0, .string y1, .string y2, .int .i64 y3])).run Try.prog w = .ok (x0 == y0 && (x1.toList == y1.toList && (x2.toList == y2.toList && (x3 == y3)))) w := by
  refine eqA_of Try.underlying39 (by kernel_rfl) ?_
  refine eqf_cons (by rfl) (by go_simp; rfl) (by go_simp; rfl) (by go_simp) ?_
  refine eqf_cons (by rfl) (by go_simp; rfl) (by go_simp; rfl) (by go_simp) ?_
  refine eqf_cons (by rfl) (by go_simp; rfl) (by go_simp; rfl) (by go_simp) ?_
  exact eqf_last (by rfl) (by go_simp; rfl) (by go_simp; rfl) (by go_simp)
end Go.Proofs.Ytngmcigkihfnkaa.H
end
section
namespace Go.Proofs.Ytngmcigkihfnkaa.H
open Go.RowKit Go.Proofs.YtngmcigkihfnkaaW.PrintWords Go.Proofs.YtngmcigkihfnkaaW.PrintLast Go.Proofs.YtngmcigkihfnkaaW.PrintMore
set_option linter.unusedVariables false
set_option linter.unusedSimpArgs false
def s37 (e : EvT) : S37 := ⟨e.now, e.what, e.name, e.n⟩
end Go.Proofs.Ytngmcigkihfnkaa.H
end
section
namespace Go.Proofs.Ytngmcigkihfnkaa.H
open Go.RowKit Go.Proofs.YtngmcigkihfnkaaW.PrintWords Go.Proofs.YtngmcigkihfnkaaW.PrintLast Go.Proofs.YtngmcigkihfnkaaW.PrintMore
attribute [local go_sem] max2_int min2_int max_two min_two max_three min_three max_four min_four   -- for this text's walks alone
set_option linter.unusedVariables false
set_option linter.unusedSimpArgs false
/-- The worlds that stand behind w, what w had being as it was. -/
def BW (w : World) : Type := { W : World // Below w.heap.size w W }
instance bwNonempty (w : World) : Nonempty (BW w) := ⟨⟨w, Below.refl _ _⟩⟩
theorem BW.cell {w : World} (q : BW w) {a : Addr} {v : Value} (h : w.cell? a = some v) : q.1.cell? a = some v := pw_cell_below q.2 h
end Go.Proofs.Ytngmcigkihfnkaa.H
end
section
namespace Go.Proofs.Ytngmcigkihfnkaa.H
open Go.RowKit Go.Proofs.YtngmcigkihfnkaaW.PrintWords Go.Proofs.YtngmcigkihfnkaaW.PrintLast Go.Proofs.YtngmcigkihfnkaaW.PrintMore
set_option linter.unusedVariables false
set_option linter.unusedSimpArgs false
set_option maxRecDepth 100000 in
set_option maxHeartbeats 1000000 in
theorem known_ev : Ev (fun k => triremelaw32_known.f k) true := Ev.of (fun k => triremelaw32_known.mono k) (k := 100) (by kernel_rfl)
end Go.Proofs.Ytngmcigkihfnkaa.H
end
