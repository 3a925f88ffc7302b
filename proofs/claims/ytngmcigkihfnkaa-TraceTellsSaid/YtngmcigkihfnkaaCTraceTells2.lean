import Derived.Test.YtngmcigkihfnkaaProg
import Derived.Below
import Derived.Deep.Draws
import Derived.Deep.AppendLies
import Derived.Maps.AppendAt
import Derived.OwnWalk
import Derived.Laws.BytesArg
import Derived.Laws.MakeOwn
import Derived.Laws.OwnMore
import Derived.Deep.OwnRows
import Derived.Tactics
import Derived.Lib.ConvBytes
import Derived.Laws.Slices
import Derived.WalkKit
import Derived.KernelRfl
import Derived.RowKit3
import Derived.Deep.LoopGhost
import Derived.Deep.QuietTactic
import Derived.BigQuiet
import Derived.WideLaws
import Derived.Deep.DeepCutAuto
import Derived.Deep.CutBlock
import Derived.Deep.RegionHeld3
import Derived.Laws.Rows
import Derived.Lib.AppendStr
import Derived.ArgAppend
import Derived.Laws.IdiomCopy
import Derived.OrdersHeld
import Derived.Laws.BitsLemmas
import Derived.RowKit
import Derived.Laws.RangeAny
import Derived.Laws.Cover1
import Derived.Lib.OthersKept
import Derived.Maps.Own
import Derived.Maps.OwnOps
import Derived.Maps.OwnSet
import Derived.Test.YtngmcigkihfnkaaCTraceBase0
import Derived.Test.YtngmcigkihfnkaaCTraceBase1
import Derived.Test.YtngmcigkihfnkaaCTraceBase2
import Derived.Test.YtngmcigkihfnkaaCTraceBase3
import Derived.Test.YtngmcigkihfnkaaCTraceTells0
import Derived.Test.YtngmcigkihfnkaaCTraceTells1
section
namespace Go.Proofs.Ytngmcigkihfnkaa.H
open Go.RowKit Go.Proofs.YtngmcigkihfnkaaW.PrintWords Go.Proofs.YtngmcigkihfnkaaW.PrintLast Go.Proofs.YtngmcigkihfnkaaW.PrintMore
attribute [local go_sem] max2_int min2_int max_two min_two max_three min_three max_four min_four   -- for this text's walks alone
set_option linter.unusedVariables false
set_option linter.unusedSimpArgs false
def triremeref32_line.f (k : Nat) (a0_0 : Int) (a0_1 : ByteArray) (a0_2 : ByteArray) (a0_3 : Int) : Option (ByteArray) := (triremeref01_Digits.f k a0_0).bind fun t240 => (if t240.size + 2 ≤ 9223372036854775807 then (if (t240 ++ (⟨#[58, 32]⟩ : ByteArray)).size + a0_1.size ≤ 9223372036854775807 then (if a0_2.toList = ([] : List UInt8) then (if a0_3 > 0 then (if ((t240 ++ (⟨#[58, 32]⟩ : ByteArray)) ++ a0_1).size + 1 ≤ 9223372036854775807 then ((triremeref01_Digits.f k a0_3).bind fun t241 => (if (((t240 ++ (⟨#[58, 32]⟩ : ByteArray)) ++ a0_1) ++ (⟨#[32]⟩ : ByteArray)).size + t241.size ≤ 9223372036854775807 then (some ((((t240 ++ (⟨#[58, 32]⟩ : ByteArray)) ++ a0_1) ++ (⟨#[32]⟩ : ByteArray)) ++ t241)) else (none))) else (none)) else (some ((t240 ++ (⟨#[58, 32]⟩ : ByteArray)) ++ a0_1))) else (if ((t240 ++ (⟨#[58, 32]⟩ : ByteArray)) ++ a0_1).size + 1 ≤ 9223372036854775807 then (if (((t240 ++ (⟨#[58, 32]⟩ : ByteArray)) ++ a0_1) ++ (⟨#[32]⟩ : ByteArray)).size + a0_2.size ≤ 9223372036854775807 then (if a0_3 > 0 then (if ((((t240 ++ (⟨#[58, 32]⟩ : ByteArray)) ++ a0_1) ++ (⟨#[32]⟩ : ByteArray)) ++ a0_2).size + 1 ≤ 9223372036854775807 then ((triremeref01_Digits.f k a0_3).bind fun t242 => (if (((((t240 ++ (⟨#[58, 32]⟩ : ByteArray)) ++ a0_1) ++ (⟨#[32]⟩ : ByteArray)) ++ a0_2) ++ (⟨#[32]⟩ : ByteArray)).size + t242.size ≤ 9223372036854775807 then (some ((((((t240 ++ (⟨#[58, 32]⟩ : ByteArray)) ++ a0_1) ++ (⟨#[32]⟩ : ByteArray)) ++ a0_2) ++ (⟨#[32]⟩ : ByteArray)) ++ t242)) else (none))) else (none)) else (some ((((t240 ++ (⟨#[58, 32]⟩ : ByteArray)) ++ a0_1) ++ (⟨#[32]⟩ : ByteArray)) ++ a0_2))) else (none)) else (none))) else (none)) else (none))
def triremeref32_line.T1 : Bool × List (List Nat × List Nat) := (true, [([], []), ([0], [0]), ([1], [1]), ([2], [2]), ([], []), ([4], [4]), ([3, 5], [3, 5]), ([6, 2, 0, 1, 2, 3, 4, 5, 6], [6])])
def triremeref32_line.B1 : List Nat := [0, 1, 3, 7, 0, 16, 63, 127]
theorem triremeref32_line.tab1 : rtab .any (opsOf Try.f34 1) = triremeref32_line.T1 := by kernel_rfl
theorem triremeref32_line.bits1 : waitsOk triremeref32_line.T1.2 triremeref32_line.B1 = true := by kernel_rfl
set_option maxHeartbeats 8000000 in
set_option maxRecDepth 100000 in
theorem triremeref32_line.calls (k : Nat) (a0_0 : Int) (a0_1 : ByteArray) (a0_2 : ByteArray) (a0_3 : Int) (r : ByteArray) (w : World) (h : triremeref32_line.f k a0_0 a0_1 a0_2 a0_3 = some r) :
    Calls Try.prog 34 #[.agg #[.int .i64 a0_0, .string a0_1, .string a0_2, .int .i64 a0_3]] w fun e w' => e = .returned (.string r) ∧ Below w.heap.size w w' := by
  have hu39 := Try.underlying39
  have HB := Aside0.mk (Below.refl w.heap.size w)
  have H : ((triremeref01_Digits.f k a0_0).bind fun t240 => (if t240.size + 2 ≤ 9223372036854775807 then (if (t240 ++ (⟨#[58, 32]⟩ : ByteArray)).size + a0_1.size ≤ 9223372036854775807 then (if a0_2.toList = ([] : List UInt8) then (if a0_3 > 0 then (if ((t240 ++ (⟨#[58, 32]⟩ : ByteArray)) ++ a0_1).size + 1 ≤ 9223372036854775807 then ((triremeref01_Digits.f k a0_3).bind fun t241 => (if (((t240 ++ (⟨#[58, 32]⟩ : ByteArray)) ++ a0_1) ++ (⟨#[32]⟩ : ByteArray)).size + t241.size ≤ 9223372036854775807 then (some ((((t240 ++ (⟨#[58, 32]⟩ : ByteArray)) ++ a0_1) ++ (⟨#[32]⟩ : ByteArray)) ++ t241)) else (none))) else (none)) else (some ((t240 ++ (⟨#[58, 32]⟩ : ByteArray)) ++ a0_1))) else (if ((t240 ++ (⟨#[58, 32]⟩ : ByteArray)) ++ a0_1).size + 1 ≤ 9223372036854775807 then (if (((t240 ++ (⟨#[58, 32]⟩ : ByteArray)) ++ a0_1) ++ (⟨#[32]⟩ : ByteArray)).size + a0_2.size ≤ 9223372036854775807 then (if a0_3 > 0 then (if ((((t240 ++ (⟨#[58, 32]⟩ : ByteArray)) ++ a0_1) ++ (⟨#[32]⟩ : ByteArray)) ++ a0_2).size + 1 ≤ 9223372036854775807 then ((triremeref01_Digits.f k a0_3).bind fun t242 => (if (((((t240 ++ (⟨#[58, 32]⟩ : ByteArray)) ++ a0_1) ++ (⟨#[32]⟩ : ByteArray)) ++ a0_2) ++ (⟨#[32]⟩ : ByteArray)).size + t242.size ≤ 9223372036854775807 then (some ((((((t240 ++ (⟨#[58, 32]⟩ : ByteArray)) ++ a0_1) ++ (⟨#[32]⟩ : ByteArray)) ++ a0_2) ++ (⟨#[32]⟩ : ByteArray)) ++ t242)) else (none))) else (none)) else (some ((((t240 ++ (⟨#[58, 32]⟩ : ByteArray)) ++ a0_1) ++ (⟨#[32]⟩ : ByteArray)) ++ a0_2))) else (none)) else (none))) else (none)) else (none))) = some r := h
  clear h
  replace H := Option.bind_eq_some_iff.mp H
  obtain ⟨t240, A20, H⟩ := H
  replace H : (if t240.size + 2 ≤ 9223372036854775807 then (if (t240 ++ (⟨#[58, 32]⟩ : ByteArray)).size + a0_1.size ≤ 9223372036854775807 then (if a0_2.toList = ([] : List UInt8) then (if a0_3 > 0 then (if ((t240 ++ (⟨#[58, 32]⟩ : ByteArray)) ++ a0_1).size + 1 ≤ 9223372036854775807 then ((triremeref01_Digits.f k a0_3).bind fun t241 => (if (((t240 ++ (⟨#[58, 32]⟩ : ByteArray)) ++ a0_1) ++ (⟨#[32]⟩ : ByteArray)).size + t241.size ≤ 9223372036854775807 then (some ((((t240 ++ (⟨#[58, 32]⟩ : ByteArray)) ++ a0_1) ++ (⟨#[32]⟩ : ByteArray)) ++ t241)) else (none))) else (none)) else (some ((t240 ++ (⟨#[58, 32]⟩ : ByteArray)) ++ a0_1))) else (if ((t240 ++ (⟨#[58, 32]⟩ : ByteArray)) ++ a0_1).size + 1 ≤ 9223372036854775807 then (if (((t240 ++ (⟨#[58, 32]⟩ : ByteArray)) ++ a0_1) ++ (⟨#[32]⟩ : ByteArray)).size + a0_2.size ≤ 9223372036854775807 then (if a0_3 > 0 then (if ((((t240 ++ (⟨#[58, 32]⟩ : ByteArray)) ++ a0_1) ++ (⟨#[32]⟩ : ByteArray)) ++ a0_2).size + 1 ≤ 9223372036854775807 then ((triremeref01_Digits.f k a0_3).bind fun t242 => (if (((((t240 ++ (⟨#[58, 32]⟩ : ByteArray)) ++ a0_1) ++ (⟨#[32]⟩ : ByteArray)) ++ a0_2) ++ (⟨#[32]⟩ : ByteArray)).size + t242.size ≤ 9223372036854775807 then (some ((((((t240 ++ (⟨#[58, 32]⟩ : ByteArray)) ++ a0_1) ++ (⟨#[32]⟩ : ByteArray)) ++ a0_2) ++ (⟨#[32]⟩ : ByteArray)) ++ t242)) else (none))) else (none)) else (some ((((t240 ++ (⟨#[58, 32]⟩ : ByteArray)) ++ a0_1) ++ (⟨#[32]⟩ : ByteArray)) ++ a0_2))) else (none)) else (none))) else (none)) else (none)) = some r := H
  have A2 := Aside0.mk A20
  clear A20
  by_cases c3 : t240.size + 2 ≤ 9223372036854775807
  · rw [if_pos c3] at H
    have c3b0 := eq_true c3
    (try (have c3z := c3b0; rw [ByteArray.size_extract, Nat.min_self] at c3z))
    have c3b1 : decide (t240.size + 2 ≤ 9223372036854775807) = true := decide_eq_true c3
    try have c3b2 : (9223372036854775807 < t240.size + 2) = False := eq_false (Nat.not_lt.2 c3)
    by_cases c4 : (t240 ++ (⟨#[58, 32]⟩ : ByteArray)).size + a0_1.size ≤ 9223372036854775807
    · rw [if_pos c4] at H
      have c4b0 := eq_true c4
      (try (have c4z := c4b0; rw [ByteArray.size_extract, Nat.min_self] at c4z))
      have c4b1 : decide ((t240 ++ (⟨#[58, 32]⟩ : ByteArray)).size + a0_1.size ≤ 9223372036854775807) = true := decide_eq_true c4
      try have c4b2 : (9223372036854775807 < (t240 ++ (⟨#[58, 32]⟩ : ByteArray)).size + a0_1.size) = False := eq_false (Nat.not_lt.2 c4)
      (try (have c4z2 := c4b2; simp only [ByteArray.size_append, ByteArray.size_extract, Nat.min_self, show (⟨#[58, 32]⟩ : ByteArray).size = 2 from rfl] at c4z2))
      by_cases c5 : a0_2.toList = ([] : List UInt8)
      · rw [if_pos c5] at H
        have c5b0 : (a0_2.toList == ([] : List UInt8)) = true := beq_iff_eq.mpr c5
        have c5b1 : (a0_2.toList != ([] : List UInt8)) = false := bne_eq_false_iff_eq.mpr c5
        clear c5
        by_cases c6 : a0_3 > 0
        · rw [if_pos c6] at H
          have c6b0 : decide (0 < a0_3) = true := decide_eq_true c6
          clear c6
          by_cases c7 : ((t240 ++ (⟨#[58, 32]⟩ : ByteArray)) ++ a0_1).size + 1 ≤ 9223372036854775807
          · rw [if_pos c7] at H
            have c7b0 := eq_true c7
            (try (have c7z := c7b0; rw [ByteArray.size_extract, Nat.min_self] at c7z))
            have c7b1 : decide (((t240 ++ (⟨#[58, 32]⟩ : ByteArray)) ++ a0_1).size + 1 ≤ 9223372036854775807) = true := decide_eq_true c7
            try have c7b2 : (9223372036854775807 < ((t240 ++ (⟨#[58, 32]⟩ : ByteArray)) ++ a0_1).size + 1) = False := eq_false (Nat.not_lt.2 c7)
            (try (have c7z2 := c7b2; simp only [ByteArray.size_append, ByteArray.size_extract, Nat.min_self, show (⟨#[58, 32]⟩ : ByteArray).size = 2 from rfl] at c7z2))
            replace H := Option.bind_eq_some_iff.mp H
            obtain ⟨t241, A80, H⟩ := H
            replace H : (if (((t240 ++ (⟨#[58, 32]⟩ : ByteArray)) ++ a0_1) ++ (⟨#[32]⟩ : ByteArray)).size + t241.size ≤ 9223372036854775807 then (some ((((t240 ++ (⟨#[58, 32]⟩ : ByteArray)) ++ a0_1) ++ (⟨#[32]⟩ : ByteArray)) ++ t241)) else (none)) = some r := H
            have A8 := Aside0.mk A80
            clear A80
            by_cases c9 : (((t240 ++ (⟨#[58, 32]⟩ : ByteArray)) ++ a0_1) ++ (⟨#[32]⟩ : ByteArray)).size + t241.size ≤ 9223372036854775807
            · rw [if_pos c9] at H
              have c9b0 := eq_true c9
              (try (have c9z := c9b0; rw [ByteArray.size_extract, Nat.min_self] at c9z))
              have c9b1 : decide ((((t240 ++ (⟨#[58, 32]⟩ : ByteArray)) ++ a0_1) ++ (⟨#[32]⟩ : ByteArray)).size + t241.size ≤ 9223372036854775807) = true := decide_eq_true c9
              try have c9b2 : (9223372036854775807 < (((t240 ++ (⟨#[58, 32]⟩ : ByteArray)) ++ a0_1) ++ (⟨#[32]⟩ : ByteArray)).size + t241.size) = False := eq_false (Nat.not_lt.2 c9)
              (try (have c9z2 := c9b2; simp only [ByteArray.size_append, ByteArray.size_extract, Nat.min_self, show (⟨#[32]⟩ : ByteArray).size = 1 from rfl, show (⟨#[58, 32]⟩ : ByteArray).size = 2 from rfl] at c9z2))
              obtain rfl := Option.some.inj H
              go_enter Try.func34, Try.ntmps34
              try go_wp2_with (first | ((with_reducible refine gate_dst (N := 1) rfl ?_); refine box_event ?hg (N := 1) ?hd (cs := #[.int .i64 a0_0, .string a0_1, .string a0_2, .int .i64 a0_3]) (t := 39) ?hr ?_; (case hd => rfl); (case hg => rfl); (case hr => first | (go_simp; done) | (go_simp; rfl)); intro gb239 hg w10 hbox hb; have n0_ := Aside0.mk (below_step (by repeat (first | (with_reducible first | exact HB.out | apply below_alloc | apply pw_below_drewN | apply below_drew1) | exact HB.out)) hb); have n1_ := Aside0.mk (hbox); have n2_ := Aside0.mk ((by rw [hg]; exact (below_size (by repeat (first | (with_reducible first | exact HB.out | apply below_alloc | apply pw_below_drewN | apply below_drew1) | exact HB.out))) : w.heap.size ≤ gb239)); have n3_ := Aside0.mk ((by rw [hg]; exact (below_size (by repeat (first | (with_reducible first | exact HB.out | apply below_alloc | apply pw_below_drewN | apply below_drew1) | exact HB.out))) : w.heap.size ≤ gb239)); clear HB; have HB := n0_; have BK239 := n1_; have GW239 := n2_; have GE239 := n3_; clear n0_ n1_ n2_ n3_; clear hb hbox hg))
              have n0_ := Aside0.mk (blk_drew BK239.out)
              have n1_ := Aside0.mk (below_drew1 HB.out)
              clear BK239
              clear HB
              have BK239 := n0_
              have HB := n1_
              clear n0_ n1_
              refine start_ (n := 8) (S := fun w' => w'.cell? ⟨gb239, 0, none⟩ = some (.int .i64 a0_0) ∧ w'.cell? ⟨gb239, 1, none⟩ = some (.string a0_1) ∧ w'.cell? ⟨gb239, 2, none⟩ = some (.string a0_2) ∧ w'.cell? ⟨gb239, 3, none⟩ = some (.int .i64 a0_3)) (ds := []) #[false, false, false, false, false, false, false, false] (by kernel_rfl) rfl rfl ⟨(blk_cell BK239.out 0).trans rfl, (blk_cell BK239.out 1).trans rfl, (blk_cell BK239.out 2).trans rfl, (blk_cell BK239.out 3).trans rfl⟩ (fun hHeld => ?_); refine with_tabW triremeref32_line.tab1 triremeref32_line.bits1 (fun HT_ HW_ => ?_)
              generalize w10.drew = w11 at BK239 HB hHeld ⊢
              refine pure_ (i := 0) (N := some 4) (v := ?_) (a' := ?_) #[true, false, false, false, false, false, false, false] rfl rfl (any_of HT_.out (by kernel_rfl)) (fun _ _ _ h => h) (Or.inl ⟨by rfl, ?_⟩) ?_ ?_
              rotate_left
              · intro w'; go_simp; with_reducible rfl
              rotate_left
              · simp only [Act.put, List.setIfInBounds_toArray, List.set_cons_zero, List.set_cons_succ, i64_w, i32_w]; rfl
              refine pure_ (i := 4) (N := some 8) (v := ?_) (a' := ?_) #[true, false, false, false, true, false, false, false] rfl rfl (any_of HT_.out (by kernel_rfl)) (fun _ _ _ h => h) (Or.inl ⟨by rfl, ?_⟩) ?_ ?_
              rotate_left
              · intro w'; go_simp; with_reducible rfl
              rotate_left
              · simp only [Act.put, List.setIfInBounds_toArray, List.set_cons_zero, List.set_cons_succ, i64_w, i32_w]; rfl
              refine take_ (i := 1) (N := some 5) (v := ?_) (a' := ?_) #[true, true, false, false, true, false, false, false] rfl rfl (take_ofW HT_.out HW_.out (by kernel_rfl)) (fun _ _ _ h => h) (Or.inl ⟨by rfl, ?_⟩) hHeld ?_ ?_
              rotate_left
              · rintro w' ⟨s0, s1, s2, s3⟩; go_simp; with_reducible rfl
              rotate_left
              · simp only [Act.put, List.setIfInBounds_toArray, List.set_cons_zero, List.set_cons_succ, i64_w, i32_w]; rfl
              refine take_ (i := 5) (N := some 9) (v := ?_) (a' := ?_) #[true, true, false, false, true, true, false, false] rfl rfl (take_ofW HT_.out HW_.out (by kernel_rfl)) (fun _ _ _ h => h) (Or.inl ⟨by rfl, ?_⟩) hHeld ?_ ?_
              rotate_left
              · rintro w' ⟨s0, s1, s2, s3⟩; go_simp; with_reducible rfl
              rotate_left
              · simp only [Act.put, List.setIfInBounds_toArray, List.set_cons_zero, List.set_cons_succ, i64_w, i32_w]; rfl
              refine one_ (i := 2) (N := some 6) #[true, true, true, false, true, true, false, false] rfl rfl (one_of HT_.out (by kernel_rfl)) (by decide) (fun K hK => ?_)
              refine goes_ Try.func47 (by kernel_rfl) rfl #[.int .i64 a0_0] (by rfl) rfl rfl (by (try simp only [List.map_toArray, List.map_cons, List.map_nil]); first | done | rfl | (simp only [List.length_drop, List.length_take]; rfl)) ?_
              with_reducible refine (triremeref01_Digits.calls k a0_0 t240 _ A2.out).mono ?_
              rintro e w12 ⟨rfl, hb⟩
              refine ⟨_, rfl, ?_⟩
              have n0_ := Aside0.mk (blk_below (g := gb239) (o := .cells #[.int .i64 a0_0, .string a0_1, .string a0_2, .int .i64 a0_3] 39 (0, 0)) (by (with_reducible repeat (first | refine blk_drewN ?_ _ | refine blk_drew ?_ | refine blk_alloc ?_ _)); exact BK239.out) hb)
              have n1_ := Aside0.mk (below_step (by repeat (first | (with_reducible first | exact HB.out | apply below_alloc | apply pw_below_drewN | apply below_drew1 | refine below_set ?_ GE239.out) | exact HB.out)) hb)
              clear BK239
              clear HB
              have BK239 := n0_
              have HB := n1_
              clear n0_ n1_
              (try clear hb); (try clear hb2); (try clear hk); (try clear hi)
              refine hK.out _ _ ⟨(blk_cell BK239.out 0).trans rfl, (blk_cell BK239.out 1).trans rfl, (blk_cell BK239.out 2).trans rfl, (blk_cell BK239.out 3).trans rfl⟩ (fun hHeld => ?_)
              clear hK K
              refine norm_ (a' := ?_) ?_ ?_
              rotate_left
              · show Act.put _ (some 6) _ = _
                simp only [Act.put, List.setIfInBounds_toArray, List.set_cons_zero, List.set_cons_succ, i64_w, i32_w]
                rfl
              refine pure_ (i := 3) (N := some 7) (v := ?_) (a' := ?_) #[true, true, true, true, true, true, false, false] rfl rfl (any_of HT_.out (by kernel_rfl)) (fun _ _ _ h => h) (Or.inl ⟨by rfl, ?_⟩) ?_ ?_
              rotate_left
              · intro w'; go_simp; with_reducible rfl
              rotate_left
              · simp only [Act.put, List.setIfInBounds_toArray, List.set_cons_zero, List.set_cons_succ, i64_w, i32_w]; rfl
              refine pure_ (i := 6) (N := some 10) (v := ?_) (a' := ?_) #[true, true, true, true, true, true, true, false] rfl rfl (any_of HT_.out (by kernel_rfl)) (fun _ _ _ h => h) (Or.inl ⟨by rfl, ?_⟩) ?_ ?_
              rotate_left
              · intro w'; go_simp; with_reducible rfl
              rotate_left
              · simp only [Act.put, List.setIfInBounds_toArray, List.set_cons_zero, List.set_cons_succ, i64_w, i32_w]; rfl
              refine pure_ (i := 7) (N := some 3) (v := ?_) (a' := ?_) #[true, true, true, true, true, true, true, true] rfl rfl (any_of HT_.out (by kernel_rfl)) (fun _ _ _ h => h) (Or.inl ⟨by rfl, ?_⟩) ?_ ?_
              rotate_left
              · intro w'; go_simp; with_reducible rfl
              rotate_left
              · simp only [Act.put, List.setIfInBounds_toArray, List.set_cons_zero, List.set_cons_succ, i64_w, i32_w]; rfl
              refine done_ (done_of HT_.out (by kernel_rfl)) ?_
              have hcz13_0 : w12.cell? ⟨gb239, 0, none⟩ = some (.int .i64 a0_0) := (blk_cell BK239.out 0).trans rfl
              have hcz13_1 : w12.cell? ⟨gb239, 1, none⟩ = some (.string a0_1) := (blk_cell BK239.out 1).trans rfl
              have hcz13_2 : w12.cell? ⟨gb239, 2, none⟩ = some (.string a0_2) := (blk_cell BK239.out 2).trans rfl
              have hcz13_3 : w12.cell? ⟨gb239, 3, none⟩ = some (.int .i64 a0_3) := (blk_cell BK239.out 3).trans rfl
              have hfz13_0 := blk_frozen BK239.out 0
              have hfz13_1 := blk_frozen BK239.out 1
              have hfz13_2 := blk_frozen BK239.out 2
              have hfz13_3 := blk_frozen BK239.out 3
              try go_wp2_with (first | ((first | ((with_reducible refine gate_callee (f := 47) rfl ?_); refine goesL_ (some 26) rfl rfl Try.func47 (by kernel_rfl) rfl #[.int .i64 a0_3] rfl (by (try simp only [List.map_toArray, List.map_cons, List.map_nil]); first | done | rfl | (simp only [List.length_drop, List.length_take]; rfl)) ?_; (with_reducible refine (triremeref01_Digits.calls k a0_3 t241 _ A8.out).mono ?_); rintro e w14 ⟨rfl, hb⟩; refine ⟨_, rfl, ?_⟩) | (go_at_call 47; (with_reducible refine (triremeref01_Digits.calls k a0_3 t241 _ A8.out).mono ?_); rintro e w14 ⟨rfl, hb⟩)); have n0_ := Aside0.mk (blk_below (g := gb239) (o := .cells #[.int .i64 a0_0, .string a0_1, .string a0_2, .int .i64 a0_3] 39 (0, 0)) (by (with_reducible repeat (first | refine blk_drewN ?_ _ | refine blk_drew ?_ | refine blk_alloc ?_ _)); exact BK239.out) hb); have n1_ := Aside0.mk (below_step (by repeat (first | (with_reducible first | exact HB.out | apply below_alloc | apply pw_below_drewN | apply below_drew1 | refine below_set ?_ GE239.out) | exact HB.out)) hb); clear BK239; clear HB; have BK239 := n0_; have HB := n1_; clear n0_ n1_; (try clear hb); (try clear hb2); (try clear hk); (try clear hi)))
              go_ret
              exact ⟨by first | rfl | (simp [errW_none, errW_some] <;> rfl) | (simp [*, errW_none, errW_some] <;> rfl), by repeat (first | (with_reducible first | exact HB.out | apply below_alloc | apply pw_below_drewN | apply below_drew1 | refine below_set ?_ GE239.out) | exact HB.out)⟩
            · rw [if_neg c9] at H
              exact absurd H (by simp)
          · rw [if_neg c7] at H
            exact absurd H (by simp)
        · rw [if_neg c6] at H
          have c6b0 : decide (0 < a0_3) = false := decide_eq_false c6
          clear c6
          obtain rfl := Option.some.inj H
          go_enter Try.func34, Try.ntmps34
          try go_wp2_with (first | ((with_reducible refine gate_dst (N := 1) rfl ?_); refine box_event ?hg (N := 1) ?hd (cs := #[.int .i64 a0_0, .string a0_1, .string a0_2, .int .i64 a0_3]) (t := 39) ?hr ?_; (case hd => rfl); (case hg => rfl); (case hr => first | (go_simp; done) | (go_simp; rfl)); intro gb239 hg w15 hbox hb; have n0_ := Aside0.mk (below_step (by repeat (first | (with_reducible first | exact HB.out | apply below_alloc | apply pw_below_drewN | apply below_drew1) | exact HB.out)) hb); have n1_ := Aside0.mk (hbox); have n2_ := Aside0.mk ((by rw [hg]; exact (below_size (by repeat (first | (with_reducible first | exact HB.out | apply below_alloc | apply pw_below_drewN | apply below_drew1) | exact HB.out))) : w.heap.size ≤ gb239)); have n3_ := Aside0.mk ((by rw [hg]; exact (below_size (by repeat (first | (with_reducible first | exact HB.out | apply below_alloc | apply pw_below_drewN | apply below_drew1) | exact HB.out))) : w.heap.size ≤ gb239)); clear HB; have HB := n0_; have BK239 := n1_; have GW239 := n2_; have GE239 := n3_; clear n0_ n1_ n2_ n3_; clear hb hbox hg))
          have n0_ := Aside0.mk (blk_drew BK239.out)
          have n1_ := Aside0.mk (below_drew1 HB.out)
          clear BK239
          clear HB
          have BK239 := n0_
          have HB := n1_
          clear n0_ n1_
          refine start_ (n := 8) (S := fun w' => w'.cell? ⟨gb239, 0, none⟩ = some (.int .i64 a0_0) ∧ w'.cell? ⟨gb239, 1, none⟩ = some (.string a0_1) ∧ w'.cell? ⟨gb239, 2, none⟩ = some (.string a0_2) ∧ w'.cell? ⟨gb239, 3, none⟩ = some (.int .i64 a0_3)) (ds := []) #[false, false, false, false, false, false, false, false] (by kernel_rfl) rfl rfl ⟨(blk_cell BK239.out 0).trans rfl, (blk_cell BK239.out 1).trans rfl, (blk_cell BK239.out 2).trans rfl, (blk_cell BK239.out 3).trans rfl⟩ (fun hHeld => ?_); refine with_tabW triremeref32_line.tab1 triremeref32_line.bits1 (fun HT_ HW_ => ?_)
          generalize w15.drew = w16 at BK239 HB hHeld ⊢
          refine pure_ (i := 0) (N := some 4) (v := ?_) (a' := ?_) #[true, false, false, false, false, false, false, false] rfl rfl (any_of HT_.out (by kernel_rfl)) (fun _ _ _ h => h) (Or.inl ⟨by rfl, ?_⟩) ?_ ?_
          rotate_left
          · intro w'; go_simp; with_reducible rfl
          rotate_left
          · simp only [Act.put, List.setIfInBounds_toArray, List.set_cons_zero, List.set_cons_succ, i64_w, i32_w]; rfl
          refine pure_ (i := 4) (N := some 8) (v := ?_) (a' := ?_) #[true, false, false, false, true, false, false, false] rfl rfl (any_of HT_.out (by kernel_rfl)) (fun _ _ _ h => h) (Or.inl ⟨by rfl, ?_⟩) ?_ ?_
          rotate_left
          · intro w'; go_simp; with_reducible rfl
          rotate_left
          · simp only [Act.put, List.setIfInBounds_toArray, List.set_cons_zero, List.set_cons_succ, i64_w, i32_w]; rfl
          refine take_ (i := 1) (N := some 5) (v := ?_) (a' := ?_) #[true, true, false, false, true, false, false, false] rfl rfl (take_ofW HT_.out HW_.out (by kernel_rfl)) (fun _ _ _ h => h) (Or.inl ⟨by rfl, ?_⟩) hHeld ?_ ?_
          rotate_left
          · rintro w' ⟨s0, s1, s2, s3⟩; go_simp; with_reducible rfl
          rotate_left
          · simp only [Act.put, List.setIfInBounds_toArray, List.set_cons_zero, List.set_cons_succ, i64_w, i32_w]; rfl
          refine take_ (i := 5) (N := some 9) (v := ?_) (a' := ?_) #[true, true, false, false, true, true, false, false] rfl rfl (take_ofW HT_.out HW_.out (by kernel_rfl)) (fun _ _ _ h => h) (Or.inl ⟨by rfl, ?_⟩) hHeld ?_ ?_
          rotate_left
          · rintro w' ⟨s0, s1, s2, s3⟩; go_simp; with_reducible rfl
          rotate_left
          · simp only [Act.put, List.setIfInBounds_toArray, List.set_cons_zero, List.set_cons_succ, i64_w, i32_w]; rfl
          refine one_ (i := 2) (N := some 6) #[true, true, true, false, true, true, false, false] rfl rfl (one_of HT_.out (by kernel_rfl)) (by decide) (fun K hK => ?_)
          refine goes_ Try.func47 (by kernel_rfl) rfl #[.int .i64 a0_0] (by rfl) rfl rfl (by (try simp only [List.map_toArray, List.map_cons, List.map_nil]); first | done | rfl | (simp only [List.length_drop, List.length_take]; rfl)) ?_
          with_reducible refine (triremeref01_Digits.calls k a0_0 t240 _ A2.out).mono ?_
          rintro e w17 ⟨rfl, hb⟩
          refine ⟨_, rfl, ?_⟩
          have n0_ := Aside0.mk (blk_below (g := gb239) (o := .cells #[.int .i64 a0_0, .string a0_1, .string a0_2, .int .i64 a0_3] 39 (0, 0)) (by (with_reducible repeat (first | refine blk_drewN ?_ _ | refine blk_drew ?_ | refine blk_alloc ?_ _)); exact BK239.out) hb)
          have n1_ := Aside0.mk (below_step (by repeat (first | (with_reducible first | exact HB.out | apply below_alloc | apply pw_below_drewN | apply below_drew1 | refine below_set ?_ GE239.out) | exact HB.out)) hb)
          clear BK239
          clear HB
          have BK239 := n0_
          have HB := n1_
          clear n0_ n1_
          (try clear hb); (try clear hb2); (try clear hk); (try clear hi)
          refine hK.out _ _ ⟨(blk_cell BK239.out 0).trans rfl, (blk_cell BK239.out 1).trans rfl, (blk_cell BK239.out 2).trans rfl, (blk_cell BK239.out 3).trans rfl⟩ (fun hHeld => ?_)
          clear hK K
          refine norm_ (a' := ?_) ?_ ?_
          rotate_left
          · show Act.put _ (some 6) _ = _
            simp only [Act.put, List.setIfInBounds_toArray, List.set_cons_zero, List.set_cons_succ, i64_w, i32_w]
            rfl
          refine pure_ (i := 3) (N := some 7) (v := ?_) (a' := ?_) #[true, true, true, true, true, true, false, false] rfl rfl (any_of HT_.out (by kernel_rfl)) (fun _ _ _ h => h) (Or.inl ⟨by rfl, ?_⟩) ?_ ?_
          rotate_left
          · intro w'; go_simp; with_reducible rfl
          rotate_left
          · simp only [Act.put, List.setIfInBounds_toArray, List.set_cons_zero, List.set_cons_succ, i64_w, i32_w]; rfl
          refine pure_ (i := 6) (N := some 10) (v := ?_) (a' := ?_) #[true, true, true, true, true, true, true, false] rfl rfl (any_of HT_.out (by kernel_rfl)) (fun _ _ _ h => h) (Or.inl ⟨by rfl, ?_⟩) ?_ ?_
          rotate_left
          · intro w'; go_simp; with_reducible rfl
          rotate_left
          · simp only [Act.put, List.setIfInBounds_toArray, List.set_cons_zero, List.set_cons_succ, i64_w, i32_w]; rfl
          refine pure_ (i := 7) (N := some 3) (v := ?_) (a' := ?_) #[true, true, true, true, true, true, true, true] rfl rfl (any_of HT_.out (by kernel_rfl)) (fun _ _ _ h => h) (Or.inl ⟨by rfl, ?_⟩) ?_ ?_
          rotate_left
          · intro w'; go_simp; with_reducible rfl
          rotate_left
          · simp only [Act.put, List.setIfInBounds_toArray, List.set_cons_zero, List.set_cons_succ, i64_w, i32_w]; rfl
          refine done_ (done_of HT_.out (by kernel_rfl)) ?_
          have hcz18_0 : w17.cell? ⟨gb239, 0, none⟩ = some (.int .i64 a0_0) := (blk_cell BK239.out 0).trans rfl
          have hcz18_1 : w17.cell? ⟨gb239, 1, none⟩ = some (.string a0_1) := (blk_cell BK239.out 1).trans rfl
          have hcz18_2 : w17.cell? ⟨gb239, 2, none⟩ = some (.string a0_2) := (blk_cell BK239.out 2).trans rfl
          have hcz18_3 : w17.cell? ⟨gb239, 3, none⟩ = some (.int .i64 a0_3) := (blk_cell BK239.out 3).trans rfl
          have hfz18_0 := blk_frozen BK239.out 0
          have hfz18_1 := blk_frozen BK239.out 1
          have hfz18_2 := blk_frozen BK239.out 2
          have hfz18_3 := blk_frozen BK239.out 3
          try go_wp2
          go_ret
          exact ⟨by first | rfl | (simp [errW_none, errW_some] <;> rfl) | (simp [*, errW_none, errW_some] <;> rfl), by repeat (first | (with_reducible first | exact HB.out | apply below_alloc | apply pw_below_drewN | apply below_drew1 | refine below_set ?_ GE239.out) | exact HB.out)⟩
      · rw [if_neg c5] at H
        have c5b0 : (a0_2.toList == ([] : List UInt8)) = false := beq_eq_false_iff_ne.mpr c5
        have c5b1 : (a0_2.toList != ([] : List UInt8)) = true := bne_iff_ne.mpr c5
        by_cases c19 : ((t240 ++ (⟨#[58, 32]⟩ : ByteArray)) ++ a0_1).size + 1 ≤ 9223372036854775807
        · rw [if_pos c19] at H
          have c19b0 := eq_true c19
          (try (have c19z := c19b0; rw [ByteArray.size_extract, Nat.min_self] at c19z))
          have c19b1 : decide (((t240 ++ (⟨#[58, 32]⟩ : ByteArray)) ++ a0_1).size + 1 ≤ 9223372036854775807) = true := decide_eq_true c19
          try have c19b2 : (9223372036854775807 < ((t240 ++ (⟨#[58, 32]⟩ : ByteArray)) ++ a0_1).size + 1) = False := eq_false (Nat.not_lt.2 c19)
          (try (have c19z2 := c19b2; simp only [ByteArray.size_append, ByteArray.size_extract, Nat.min_self, show (⟨#[58, 32]⟩ : ByteArray).size = 2 from rfl] at c19z2))
          by_cases c20 : (((t240 ++ (⟨#[58, 32]⟩ : ByteArray)) ++ a0_1) ++ (⟨#[32]⟩ : ByteArray)).size + a0_2.size ≤ 9223372036854775807
          · rw [if_pos c20] at H
            have c20b0 := eq_true c20
            (try (have c20z := c20b0; rw [ByteArray.size_extract, Nat.min_self] at c20z))
            have c20b1 : decide ((((t240 ++ (⟨#[58, 32]⟩ : ByteArray)) ++ a0_1) ++ (⟨#[32]⟩ : ByteArray)).size + a0_2.size ≤ 9223372036854775807) = true := decide_eq_true c20
            try have c20b2 : (9223372036854775807 < (((t240 ++ (⟨#[58, 32]⟩ : ByteArray)) ++ a0_1) ++ (⟨#[32]⟩ : ByteArray)).size + a0_2.size) = False := eq_false (Nat.not_lt.2 c20)
            (try (have c20z2 := c20b2; simp only [ByteArray.size_append, ByteArray.size_extract, Nat.min_self, show (⟨#[32]⟩ : ByteArray).size = 1 from rfl, show (⟨#[58, 32]⟩ : ByteArray).size = 2 from rfl] at c20z2))
            by_cases c21 : a0_3 > 0
            · rw [if_pos c21] at H
              have c21b0 : decide (0 < a0_3) = true := decide_eq_true c21
              clear c21
              by_cases c22 : ((((t240 ++ (⟨#[58, 32]⟩ : ByteArray)) ++ a0_1) ++ (⟨#[32]⟩ : ByteArray)) ++ a0_2).size + 1 ≤ 9223372036854775807
              · rw [if_pos c22] at H
                have c22b0 := eq_true c22
                (try (have c22z := c22b0; rw [ByteArray.size_extract, Nat.min_self] at c22z))
                have c22b1 : decide (((((t240 ++ (⟨#[58, 32]⟩ : ByteArray)) ++ a0_1) ++ (⟨#[32]⟩ : ByteArray)) ++ a0_2).size + 1 ≤ 9223372036854775807) = true := decide_eq_true c22
                try have c22b2 : (9223372036854775807 < ((((t240 ++ (⟨#[58, 32]⟩ : ByteArray)) ++ a0_1) ++ (⟨#[32]⟩ : ByteArray)) ++ a0_2).size + 1) = False := eq_false (Nat.not_lt.2 c22)
                (try (have c22z2 := c22b2; simp only [ByteArray.size_append, ByteArray.size_extract, Nat.min_self, show (⟨#[32]⟩ : ByteArray).size = 1 from rfl, show (⟨#[58, 32]⟩ : ByteArray).size = 2 from rfl] at c22z2))
                replace H := Option.bind_eq_some_iff.mp H
                obtain ⟨t242, A230, H⟩ := H
                replace H : (if (((((t240 ++ (⟨#[58, 32]⟩ : ByteArray)) ++ a0_1) ++ (⟨#[32]⟩ : ByteArray)) ++ a0_2) ++ (⟨#[32]⟩ : ByteArray)).size + t242.size ≤ 9223372036854775807 then (some ((((((t240 ++ (⟨#[58, 32]⟩ : ByteArray)) ++ a0_1) ++ (⟨#[32]⟩ : ByteArray)) ++ a0_2) ++ (⟨#[32]⟩ : ByteArray)) ++ t242)) else (none)) = some r := H
                have A23 := Aside0.mk A230
                clear A230
                by_cases c24 : (((((t240 ++ (⟨#[58, 32]⟩ : ByteArray)) ++ a0_1) ++ (⟨#[32]⟩ : ByteArray)) ++ a0_2) ++ (⟨#[32]⟩ : ByteArray)).size + t242.size ≤ 9223372036854775807
                · rw [if_pos c24] at H
                  have c24b0 := eq_true c24
                  (try (have c24z := c24b0; rw [ByteArray.size_extract, Nat.min_self] at c24z))
                  have c24b1 : decide ((((((t240 ++ (⟨#[58, 32]⟩ : ByteArray)) ++ a0_1) ++ (⟨#[32]⟩ : ByteArray)) ++ a0_2) ++ (⟨#[32]⟩ : ByteArray)).size + t242.size ≤ 9223372036854775807) = true := decide_eq_true c24
                  try have c24b2 : (9223372036854775807 < (((((t240 ++ (⟨#[58, 32]⟩ : ByteArray)) ++ a0_1) ++ (⟨#[32]⟩ : ByteArray)) ++ a0_2) ++ (⟨#[32]⟩ : ByteArray)).size + t242.size) = False := eq_false (Nat.not_lt.2 c24)
                  (try (have c24z2 := c24b2; simp only [ByteArray.size_append, ByteArray.size_extract, Nat.min_self, show (⟨#[32]⟩ : ByteArray).size = 1 from rfl, show (⟨#[58, 32]⟩ : ByteArray).size = 2 from rfl] at c24z2))
                  obtain rfl := Option.some.inj H
                  go_enter Try.func34, Try.ntmps34
                  try go_wp2_with (first | ((with_reducible refine gate_dst (N := 1) rfl ?_); refine box_event ?hg (N := 1) ?hd (cs := #[.int .i64 a0_0, .string a0_1, .string a0_2, .int .i64 a0_3]) (t := 39) ?hr ?_; (case hd => rfl); (case hg => rfl); (case hr => first | (go_simp; done) | (go_simp; rfl)); intro gb239 hg w25 hbox hb; have n0_ := Aside0.mk (below_step (by repeat (first | (with_reducible first | exact HB.out | apply below_alloc | apply pw_below_drewN | apply below_drew1) | exact HB.out)) hb); have n1_ := Aside0.mk (hbox); have n2_ := Aside0.mk ((by rw [hg]; exact (below_size (by repeat (first | (with_reducible first | exact HB.out | apply below_alloc | apply pw_below_drewN | apply below_drew1) | exact HB.out))) : w.heap.size ≤ gb239)); have n3_ := Aside0.mk ((by rw [hg]; exact (below_size (by repeat (first | (with_reducible first | exact HB.out | apply below_alloc | apply pw_below_drewN | apply below_drew1) | exact HB.out))) : w.heap.size ≤ gb239)); clear HB; have HB := n0_; have BK239 := n1_; have GW239 := n2_; have GE239 := n3_; clear n0_ n1_ n2_ n3_; clear hb hbox hg))
                  have n0_ := Aside0.mk (blk_drew BK239.out)
                  have n1_ := Aside0.mk (below_drew1 HB.out)
                  clear BK239
                  clear HB
                  have BK239 := n0_
                  have HB := n1_
                  clear n0_ n1_
                  refine start_ (n := 8) (S := fun w' => w'.cell? ⟨gb239, 0, none⟩ = some (.int .i64 a0_0) ∧ w'.cell? ⟨gb239, 1, none⟩ = some (.string a0_1) ∧ w'.cell? ⟨gb239, 2, none⟩ = some (.string a0_2) ∧ w'.cell? ⟨gb239, 3, none⟩ = some (.int .i64 a0_3)) (ds := []) #[false, false, false, false, false, false, false, false] (by kernel_rfl) rfl rfl ⟨(blk_cell BK239.out 0).trans rfl, (blk_cell BK239.out 1).trans rfl, (blk_cell BK239.out 2).trans rfl, (blk_cell BK239.out 3).trans rfl⟩ (fun hHeld => ?_); refine with_tabW triremeref32_line.tab1 triremeref32_line.bits1 (fun HT_ HW_ => ?_)
                  generalize w25.drew = w26 at BK239 HB hHeld ⊢
                  refine pure_ (i := 0) (N := some 4) (v := ?_) (a' := ?_) #[true, false, false, false, false, false, false, false] rfl rfl (any_of HT_.out (by kernel_rfl)) (fun _ _ _ h => h) (Or.inl ⟨by rfl, ?_⟩) ?_ ?_
                  rotate_left
                  · intro w'; go_simp; with_reducible rfl
                  rotate_left
                  · simp only [Act.put, List.setIfInBounds_toArray, List.set_cons_zero, List.set_cons_succ, i64_w, i32_w]; rfl
                  refine pure_ (i := 4) (N := some 8) (v := ?_) (a' := ?_) #[true, false, false, false, true, false, false, false] rfl rfl (any_of HT_.out (by kernel_rfl)) (fun _ _ _ h => h) (Or.inl ⟨by rfl, ?_⟩) ?_ ?_
                  rotate_left
                  · intro w'; go_simp; with_reducible rfl
                  rotate_left
                  · simp only [Act.put, List.setIfInBounds_toArray, List.set_cons_zero, List.set_cons_succ, i64_w, i32_w]; rfl
                  refine take_ (i := 1) (N := some 5) (v := ?_) (a' := ?_) #[true, true, false, false, true, false, false, false] rfl rfl (take_ofW HT_.out HW_.out (by kernel_rfl)) (fun _ _ _ h => h) (Or.inl ⟨by rfl, ?_⟩) hHeld ?_ ?_
                  rotate_left
                  · rintro w' ⟨s0, s1, s2, s3⟩; go_simp; with_reducible rfl
                  rotate_left
                  · simp only [Act.put, List.setIfInBounds_toArray, List.set_cons_zero, List.set_cons_succ, i64_w, i32_w]; rfl
                  refine take_ (i := 5) (N := some 9) (v := ?_) (a' := ?_) #[true, true, false, false, true, true, false, false] rfl rfl (take_ofW HT_.out HW_.out (by kernel_rfl)) (fun _ _ _ h => h) (Or.inl ⟨by rfl, ?_⟩) hHeld ?_ ?_
                  rotate_left
                  · rintro w' ⟨s0, s1, s2, s3⟩; go_simp; with_reducible rfl
                  rotate_left
                  · simp only [Act.put, List.setIfInBounds_toArray, List.set_cons_zero, List.set_cons_succ, i64_w, i32_w]; rfl
                  refine one_ (i := 2) (N := some 6) #[true, true, true, false, true, true, false, false] rfl rfl (one_of HT_.out (by kernel_rfl)) (by decide) (fun K hK => ?_)
                  refine goes_ Try.func47 (by kernel_rfl) rfl #[.int .i64 a0_0] (by rfl) rfl rfl (by (try simp only [List.map_toArray, List.map_cons, List.map_nil]); first | done | rfl | (simp only [List.length_drop, List.length_take]; rfl)) ?_
                  with_reducible refine (triremeref01_Digits.calls k a0_0 t240 _ A2.out).mono ?_
                  rintro e w27 ⟨rfl, hb⟩
                  refine ⟨_, rfl, ?_⟩
                  have n0_ := Aside0.mk (blk_below (g := gb239) (o := .cells #[.int .i64 a0_0, .string a0_1, .string a0_2, .int .i64 a0_3] 39 (0, 0)) (by (with_reducible repeat (first | refine blk_drewN ?_ _ | refine blk_drew ?_ | refine blk_alloc ?_ _)); exact BK239.out) hb)
                  have n1_ := Aside0.mk (below_step (by repeat (first | (with_reducible first | exact HB.out | apply below_alloc | apply pw_below_drewN | apply below_drew1 | refine below_set ?_ GE239.out) | exact HB.out)) hb)
                  clear BK239
                  clear HB
                  have BK239 := n0_
                  have HB := n1_
                  clear n0_ n1_
                  (try clear hb); (try clear hb2); (try clear hk); (try clear hi)
                  refine hK.out _ _ ⟨(blk_cell BK239.out 0).trans rfl, (blk_cell BK239.out 1).trans rfl, (blk_cell BK239.out 2).trans rfl, (blk_cell BK239.out 3).trans rfl⟩ (fun hHeld => ?_)
                  clear hK K
                  refine norm_ (a' := ?_) ?_ ?_
                  rotate_left
                  · show Act.put _ (some 6) _ = _
                    simp only [Act.put, List.setIfInBounds_toArray, List.set_cons_zero, List.set_cons_succ, i64_w, i32_w]
                    rfl
                  refine pure_ (i := 3) (N := some 7) (v := ?_) (a' := ?_) #[true, true, true, true, true, true, false, false] rfl rfl (any_of HT_.out (by kernel_rfl)) (fun _ _ _ h => h) (Or.inl ⟨by rfl, ?_⟩) ?_ ?_
                  rotate_left
                  · intro w'; go_simp; with_reducible rfl
                  rotate_left
                  · simp only [Act.put, List.setIfInBounds_toArray, List.set_cons_zero, List.set_cons_succ, i64_w, i32_w]; rfl
                  refine pure_ (i := 6) (N := some 10) (v := ?_) (a' := ?_) #[true, true, true, true, true, true, true, false] rfl rfl (any_of HT_.out (by kernel_rfl)) (fun _ _ _ h => h) (Or.inl ⟨by rfl, ?_⟩) ?_ ?_
                  rotate_left
                  · intro w'; go_simp; with_reducible rfl
                  rotate_left
                  · simp only [Act.put, List.setIfInBounds_toArray, List.set_cons_zero, List.set_cons_succ, i64_w, i32_w]; rfl
                  refine pure_ (i := 7) (N := some 3) (v := ?_) (a' := ?_) #[true, true, true, true, true, true, true, true] rfl rfl (any_of HT_.out (by kernel_rfl)) (fun _ _ _ h => h) (Or.inl ⟨by rfl, ?_⟩) ?_ ?_
                  rotate_left
                  · intro w'; go_simp; with_reducible rfl
                  rotate_left
                  · simp only [Act.put, List.setIfInBounds_toArray, List.set_cons_zero, List.set_cons_succ, i64_w, i32_w]; rfl
                  refine done_ (done_of HT_.out (by kernel_rfl)) ?_
                  have hcz28_0 : w27.cell? ⟨gb239, 0, none⟩ = some (.int .i64 a0_0) := (blk_cell BK239.out 0).trans rfl
                  have hcz28_1 : w27.cell? ⟨gb239, 1, none⟩ = some (.string a0_1) := (blk_cell BK239.out 1).trans rfl
                  have hcz28_2 : w27.cell? ⟨gb239, 2, none⟩ = some (.string a0_2) := (blk_cell BK239.out 2).trans rfl
                  have hcz28_3 : w27.cell? ⟨gb239, 3, none⟩ = some (.int .i64 a0_3) := (blk_cell BK239.out 3).trans rfl
                  have hfz28_0 := blk_frozen BK239.out 0
                  have hfz28_1 := blk_frozen BK239.out 1
                  have hfz28_2 := blk_frozen BK239.out 2
                  have hfz28_3 := blk_frozen BK239.out 3
                  try go_wp2_with (first | ((first | ((with_reducible refine gate_callee (f := 47) rfl ?_); refine goesL_ (some 26) rfl rfl Try.func47 (by kernel_rfl) rfl #[.int .i64 a0_3] rfl (by (try simp only [List.map_toArray, List.map_cons, List.map_nil]); first | done | rfl | (simp only [List.length_drop, List.length_take]; rfl)) ?_; (with_reducible refine (triremeref01_Digits.calls k a0_3 t242 _ A23.out).mono ?_); rintro e w29 ⟨rfl, hb⟩; refine ⟨_, rfl, ?_⟩) | (go_at_call 47; (with_reducible refine (triremeref01_Digits.calls k a0_3 t242 _ A23.out).mono ?_); rintro e w29 ⟨rfl, hb⟩)); have n0_ := Aside0.mk (blk_below (g := gb239) (o := .cells #[.int .i64 a0_0, .string a0_1, .string a0_2, .int .i64 a0_3] 39 (0, 0)) (by (with_reducible repeat (first | refine blk_drewN ?_ _ | refine blk_drew ?_ | refine blk_alloc ?_ _)); exact BK239.out) hb); have n1_ := Aside0.mk (below_step (by repeat (first | (with_reducible first | exact HB.out | apply below_alloc | apply pw_below_drewN | apply below_drew1 | refine below_set ?_ GE239.out) | exact HB.out)) hb); clear BK239; clear HB; have BK239 := n0_; have HB := n1_; clear n0_ n1_; (try clear hb); (try clear hb2); (try clear hk); (try clear hi)))
                  go_ret
                  exact ⟨by first | rfl | (simp [errW_none, errW_some] <;> rfl) | (simp [*, errW_none, errW_some] <;> rfl), by repeat (first | (with_reducible first | exact HB.out | apply below_alloc | apply pw_below_drewN | apply below_drew1 | refine below_set ?_ GE239.out) | exact HB.out)⟩
                · rw [if_neg c24] at H
                  exact absurd H (by simp)
              · rw [if_neg c22] at H
                exact absurd H (by simp)
            · rw [if_neg c21] at H
              have c21b0 : decide (0 < a0_3) = false := decide_eq_false c21
              clear c21
              obtain rfl := Option.some.inj H
              go_enter Try.func34, Try.ntmps34
              try go_wp2_with (first | ((with_reducible refine gate_dst (N := 1) rfl ?_); refine box_event ?hg (N := 1) ?hd (cs := #[.int .i64 a0_0, .string a0_1, .string a0_2, .int .i64 a0_3]) (t := 39) ?hr ?_; (case hd => rfl); (case hg => rfl); (case hr => first | (go_simp; done) | (go_simp; rfl)); intro gb239 hg w30 hbox hb; have n0_ := Aside0.mk (below_step (by repeat (first | (with_reducible first | exact HB.out | apply below_alloc | apply pw_below_drewN | apply below_drew1) | exact HB.out)) hb); have n1_ := Aside0.mk (hbox); have n2_ := Aside0.mk ((by rw [hg]; exact (below_size (by repeat (first | (with_reducible first | exact HB.out | apply below_alloc | apply pw_below_drewN | apply below_drew1) | exact HB.out))) : w.heap.size ≤ gb239)); have n3_ := Aside0.mk ((by rw [hg]; exact (below_size (by repeat (first | (with_reducible first | exact HB.out | apply below_alloc | apply pw_below_drewN | apply below_drew1) | exact HB.out))) : w.heap.size ≤ gb239)); clear HB; have HB := n0_; have BK239 := n1_; have GW239 := n2_; have GE239 := n3_; clear n0_ n1_ n2_ n3_; clear hb hbox hg))
              have n0_ := Aside0.mk (blk_drew BK239.out)
              have n1_ := Aside0.mk (below_drew1 HB.out)
              clear BK239
              clear HB
              have BK239 := n0_
              have HB := n1_
              clear n0_ n1_
              refine start_ (n := 8) (S := fun w' => w'.cell? ⟨gb239, 0, none⟩ = some (.int .i64 a0_0) ∧ w'.cell? ⟨gb239, 1, none⟩ = some (.string a0_1) ∧ w'.cell? ⟨gb239, 2, none⟩ = some (.string a0_2) ∧ w'.cell? ⟨gb239, 3, none⟩ = some (.int .i64 a0_3)) (ds := []) #[false, false, false, false, false, false, false, false] (by kernel_rfl) rfl rfl ⟨(blk_cell BK239.out 0).trans rfl, (blk_cell BK239.out 1).trans rfl, (blk_cell BK239.out 2).trans rfl, (blk_cell BK239.out 3).trans rfl⟩ (fun hHeld => ?_); refine with_tabW triremeref32_line.tab1 triremeref32_line.bits1 (fun HT_ HW_ => ?_)
              generalize w30.drew = w31 at BK239 HB hHeld ⊢
              refine pure_ (i := 0) (N := some 4) (v := ?_) (a' := ?_) #[true, false, false, false, false, false, false, false] rfl rfl (any_of HT_.out (by kernel_rfl)) (fun _ _ _ h => h) (Or.inl ⟨by rfl, ?_⟩) ?_ ?_
              rotate_left
              · intro w'; go_simp; with_reducible rfl
              rotate_left
              · simp only [Act.put, List.setIfInBounds_toArray, List.set_cons_zero, List.set_cons_succ, i64_w, i32_w]; rfl
              refine pure_ (i := 4) (N := some 8) (v := ?_) (a' := ?_) #[true, false, false, false, true, false, false, false] rfl rfl (any_of HT_.out (by kernel_rfl)) (fun _ _ _ h => h) (Or.inl ⟨by rfl, ?_⟩) ?_ ?_
              rotate_left
              · intro w'; go_simp; with_reducible rfl
              rotate_left
              · simp only [Act.put, List.setIfInBounds_toArray, List.set_cons_zero, List.set_cons_succ, i64_w, i32_w]; rfl
              refine take_ (i := 1) (N := some 5) (v := ?_) (a' := ?_) #[true, true, false, false, true, false, false, false] rfl rfl (take_ofW HT_.out HW_.out (by kernel_rfl)) (fun _ _ _ h => h) (Or.inl ⟨by rfl, ?_⟩) hHeld ?_ ?_
              rotate_left
              · rintro w' ⟨s0, s1, s2, s3⟩; go_simp; with_reducible rfl
              rotate_left
              · simp only [Act.put, List.setIfInBounds_toArray, List.set_cons_zero, List.set_cons_succ, i64_w, i32_w]; rfl
              refine take_ (i := 5) (N := some 9) (v := ?_) (a' := ?_) #[true, true, false, false, true, true, false, false] rfl rfl (take_ofW HT_.out HW_.out (by kernel_rfl)) (fun _ _ _ h => h) (Or.inl ⟨by rfl, ?_⟩) hHeld ?_ ?_
              rotate_left
              · rintro w' ⟨s0, s1, s2, s3⟩; go_simp; with_reducible rfl
              rotate_left
              · simp only [Act.put, List.setIfInBounds_toArray, List.set_cons_zero, List.set_cons_succ, i64_w, i32_w]; rfl
              refine one_ (i := 2) (N := some 6) #[true, true, true, false, true, true, false, false] rfl rfl (one_of HT_.out (by kernel_rfl)) (by decide) (fun K hK => ?_)
              refine goes_ Try.func47 (by kernel_rfl) rfl #[.int .i64 a0_0] (by rfl) rfl rfl (by (try simp only [List.map_toArray, List.map_cons, List.map_nil]); first | done | rfl | (simp only [List.length_drop, List.length_take]; rfl)) ?_
              with_reducible refine (triremeref01_Digits.calls k a0_0 t240 _ A2.out).mono ?_
              rintro e w32 ⟨rfl, hb⟩
              refine ⟨_, rfl, ?_⟩
              have n0_ := Aside0.mk (blk_below (g := gb239) (o := .cells #[.int .i64 a0_0, .string a0_1, .string a0_2, .int .i64 a0_3] 39 (0, 0)) (by (with_reducible repeat (first | refine blk_drewN ?_ _ | refine blk_drew ?_ | refine blk_alloc ?_ _)); exact BK239.out) hb)
              have n1_ := Aside0.mk (below_step (by repeat (first | (with_reducible first | exact HB.out | apply below_alloc | apply pw_below_drewN | apply below_drew1 | refine below_set ?_ GE239.out) | exact HB.out)) hb)
              clear BK239
              clear HB
              have BK239 := n0_
              have HB := n1_
              clear n0_ n1_
              (try clear hb); (try clear hb2); (try clear hk); (try clear hi)
              refine hK.out _ _ ⟨(blk_cell BK239.out 0).trans rfl, (blk_cell BK239.out 1).trans rfl, (blk_cell BK239.out 2).trans rfl, (blk_cell BK239.out 3).trans rfl⟩ (fun hHeld => ?_)
              clear hK K
              refine norm_ (a' := ?_) ?_ ?_
              rotate_left
              · show Act.put _ (some 6) _ = _
                simp only [Act.put, List.setIfInBounds_toArray, List.set_cons_zero, List.set_cons_succ, i64_w, i32_w]
                rfl
              refine pure_ (i := 3) (N := some 7) (v := ?_) (a' := ?_) #[true, true, true, true, true, true, false, false] rfl rfl (any_of HT_.out (by kernel_rfl)) (fun _ _ _ h => h) (Or.inl ⟨by rfl, ?_⟩) ?_ ?_
              rotate_left
              · intro w'; go_simp; with_reducible rfl
              rotate_left
              · simp only [Act.put, List.setIfInBounds_toArray, List.set_cons_zero, List.set_cons_succ, i64_w, i32_w]; rfl
              refine pure_ (i := 6) (N := some 10) (v := ?_) (a' := ?_) #[true, true, true, true, true, true, true, false] rfl rfl (any_of HT_.out (by kernel_rfl)) (fun _ _ _ h => h) (Or.inl ⟨by rfl, ?_⟩) ?_ ?_
              rotate_left
              · intro w'; go_simp; with_reducible rfl
              rotate_left
              · simp only [Act.put, List.setIfInBounds_toArray, List.set_cons_zero, List.set_cons_succ, i64_w, i32_w]; rfl
              refine pure_ (i := 7) (N := some 3) (v := ?_) (a' := ?_) #[true, true, true, true, true, true, true, true] rfl rfl (any_of HT_.out (by kernel_rfl)) (fun _ _ _ h => h) (Or.inl ⟨by rfl, ?_⟩) ?_ ?_
              rotate_left
              · intro w'; go_simp; with_reducible rfl
              rotate_left
              · simp only [Act.put, List.setIfInBounds_toArray, List.set_cons_zero, List.set_cons_succ, i64_w, i32_w]; rfl
              refine done_ (done_of HT_.out (by kernel_rfl)) ?_
              have hcz33_0 : w32.cell? ⟨gb239, 0, none⟩ = some (.int .i64 a0_0) := (blk_cell BK239.out 0).trans rfl
              have hcz33_1 : w32.cell? ⟨gb239, 1, none⟩ = some (.string a0_1) := (blk_cell BK239.out 1).trans rfl
              have hcz33_2 : w32.cell? ⟨gb239, 2, none⟩ = some (.string a0_2) := (blk_cell BK239.out 2).trans rfl
              have hcz33_3 : w32.cell? ⟨gb239, 3, none⟩ = some (.int .i64 a0_3) := (blk_cell BK239.out 3).trans rfl
              have hfz33_0 := blk_frozen BK239.out 0
              have hfz33_1 := blk_frozen BK239.out 1
              have hfz33_2 := blk_frozen BK239.out 2
              have hfz33_3 := blk_frozen BK239.out 3
              try go_wp2
              go_ret
              exact ⟨by first | rfl | (simp [errW_none, errW_some] <;> rfl) | (simp [*, errW_none, errW_some] <;> rfl), by repeat (first | (with_reducible first | exact HB.out | apply below_alloc | apply pw_below_drewN | apply below_drew1 | refine below_set ?_ GE239.out) | exact HB.out)⟩
          · rw [if_neg c20] at H
            exact absurd H (by simp)
        · rw [if_neg c19] at H
          exact absurd H (by simp)
    · rw [if_neg c4] at H
      exact absurd H (by simp)
  · rw [if_neg c3] at H
    exact absurd H (by simp)
end Go.Proofs.Ytngmcigkihfnkaa.H
end
section
namespace Go.Proofs.Ytngmcigkihfnkaa.H
open Go.RowKit Go.Proofs.YtngmcigkihfnkaaW.PrintWords Go.Proofs.YtngmcigkihfnkaaW.PrintLast Go.Proofs.YtngmcigkihfnkaaW.PrintMore
set_option linter.unusedVariables false
set_option linter.unusedSimpArgs false
theorem toList_beq (s : ByteArray) (l : List UInt8) : (s.toList == l) = decide (s = ⟨l.toArray⟩) := by
  by_cases h : s = ⟨l.toArray⟩
  · rw [decide_eq_true h]; exact beq_iff_eq.2 ((toList_iff s l).2 h)
  · rw [decide_eq_false h]; exact beq_eq_false_iff_ne.2 (fun e => h ((toList_iff s l).1 e))
def kindI (what : ByteArray) : Int := if memB what k1L = true then 1 else if memB what k2L = true then 2 else if memB what k3L = true then 3 else 0
set_option maxRecDepth 100000 in
theorem kind_ev (what : ByteArray) : Ev (fun k => triremeref32_kind.f k what) (kindI what) := by
  have mono := fun k => triremeref32_kind.mono what k
  by_cases a1 : what = ⟨#[117, 112]⟩
  · subst a1; exact Ev.of mono (k := 5) (by kernel_rfl)
  by_cases a2 : what = ⟨#[114, 97, 105, 115, 101]⟩
  · subst a2; exact Ev.of mono (k := 5) (by kernel_rfl)
  by_cases a3 : what = ⟨#[102, 105, 120]⟩
  · subst a3; exact Ev.of mono (k := 5) (by kernel_rfl)
  by_cases b1 : what = ⟨#[99, 108, 101, 97, 110]⟩
  · subst b1; exact Ev.of mono (k := 5) (by kernel_rfl)
  by_cases b2 : what = ⟨#[114, 101, 102, 117, 115, 101, 100]⟩
  · subst b2; exact Ev.of mono (k := 5) (by kernel_rfl)
  by_cases b3 : what = ⟨#[104, 111, 112, 101, 108, 101, 115, 115]⟩
  · subst b3; exact Ev.of mono (k := 5) (by kernel_rfl)
  by_cases b4 : what = ⟨#[101, 118, 105, 99, 116]⟩
  · subst b4; exact Ev.of mono (k := 5) (by kernel_rfl)
  by_cases b5 : what = ⟨#[100, 101, 108, 101, 116, 101]⟩
  · subst b5; exact Ev.of mono (k := 5) (by kernel_rfl)
  by_cases b6 : what = ⟨#[107, 101, 101, 112]⟩
  · subst b6; exact Ev.of mono (k := 5) (by kernel_rfl)
  by_cases b7 : what = ⟨#[115, 116, 111, 112]⟩
  · subst b7; exact Ev.of mono (k := 5) (by kernel_rfl)
  by_cases b8 : what = ⟨#[103, 111, 110, 101]⟩
  · subst b8; exact Ev.of mono (k := 5) (by kernel_rfl)
  by_cases b9 : what = ⟨#[100, 111, 119, 110]⟩
  · subst b9; exact Ev.of mono (k := 5) (by kernel_rfl)
  by_cases c1 : what = ⟨#[117, 110, 104, 101, 97, 108, 116, 104, 121]⟩
  · subst c1; exact Ev.of mono (k := 5) (by kernel_rfl)
  have e : kindI what = 0 := by
    have s1 : memB what k1L = false := by simp [memB, k1L, Ne.symm a1, Ne.symm a2, Ne.symm a3]
    have s2 : memB what k2L = false := by simp [memB, k2L, Ne.symm b1, Ne.symm b2, Ne.symm b3, Ne.symm b4, Ne.symm b5, Ne.symm b6, Ne.symm b7, Ne.symm b8, Ne.symm b9]
    have s3 : memB what k3L = false := by simp [memB, k3L, Ne.symm c1]
    unfold kindI
    rw [s1, s2, s3]; rfl
  rw [e]
  unfold triremeref32_kind.f
  simp only [toList_iff, toList_beq, a1, a2, a3, if_false, decide_false]
  refine Ev.step (fun k => by rw [triremeref32_kind.j0]) ?_
  simp only [toList_iff, toList_beq, b1, b2, b3, b4, b5, b6, b7, b8, b9, Bool.false_eq_true, if_false, decide_false]
  refine Ev.step (fun k => by rw [triremeref32_kind.j1]) ?_
  simp only [toList_iff, c1, Bool.false_eq_true, if_false]
  exact Ev.now _
theorem refRight_ev (now : Int) (what name : ByteArray) (n : Int) (hs : name.size ≤ 1000000000) : Ev (fun k => triremeref32_Right.f k now what name n) (rightR ⟨now, what, name, n⟩) := by
  have hw := word_ev name hs
  have hj : ∀ b : Bool, (b = true ↔ (now < 0 ∨ 1099511627776 < now)) → Ev (fun k => triremeref32_Right.j0 k b now what name n) (rightR ⟨now, what, name, n⟩) := by
    intro b hb
    refine Ev.step (fun k => by rw [triremeref32_Right.j0]) ?_
    unfold rightR
    cases b with
    | true =>
      rw [if_pos (hb.1 rfl)]
      simp only [if_true]
      exact Ev.now _
    | false =>
      have hno : ¬ (now < 0 ∨ 1099511627776 < now) := fun h => by have := hb.2 h; cases this
      rw [if_neg hno]
      simp only [Bool.false_eq_true, if_false]
      refine Ev.bind (kind_ev what) ?_
      unfold kindI
      cases memB what k1L with
      | true =>
        simp only [if_true]
        refine Ev.bind hw ?_
        cases lexWordB name with
        | true =>
          simp only [if_true, Bool.true_and]
          refine ev_if (fun h => ?_) (fun h => ?_)
          · rw [decide_eq_true (show 1 ≤ n by omega), Bool.true_and]; exact Ev.now _
          · rw [decide_eq_false (show ¬ 1 ≤ n by omega), Bool.false_and]; exact Ev.now _
        | false => simp only [Bool.false_eq_true, if_false, Bool.false_and]; exact Ev.now _
      | false =>
        cases memB what k2L with
        | true =>
          simp only [Bool.false_eq_true, if_false, if_true, show ¬ (2 : Int) = 1 by decide]
          refine Ev.bind hw ?_
          cases lexWordB name with
          | true => simp only [if_true, Bool.true_and, int_beq]; exact Ev.now _
          | false => simp only [Bool.false_eq_true, if_false, Bool.false_and]; exact Ev.now _
        | false =>
          cases memB what k3L with
          | true =>
            simp only [Bool.false_eq_true, if_false, if_true, show ¬ (3 : Int) = 1 by decide, show ¬ (3 : Int) = 2 by decide, Bool.true_and]
            refine ev_if (fun h => ?_) (fun h => ?_)
            · rw [decide_eq_true ((toList_iff name []).1 h), Bool.true_and]; simp only [int_beq]; exact Ev.now _
            · rw [decide_eq_false (fun e => h ((toList_iff name []).2 e)), Bool.false_and]; exact Ev.now _
          | false => simp only [Bool.false_eq_true, if_false, show ¬ (0 : Int) = 1 by decide, show ¬ (0 : Int) = 2 by decide, show ¬ (0 : Int) = 3 by decide, Bool.false_and]; exact Ev.now _
  unfold triremeref32_Right.f
  refine ev_if (fun h => hj true ⟨fun _ => .inl h, fun _ => rfl⟩) (fun h => hj _ ⟨fun e => .inr (by simpa using e), fun e => ?_⟩)
  rcases e with e | e
  · exact absurd e h
  · exact decide_eq_true e
theorem decB_size (n : Int) : (decB n).size ≤ 20 := by
  unfold decB
  rw [strOfNums_size]
  have := decGo_len 20 n.toNat []
  simpa using this
theorem digits_some (n : Int) (h0 : 0 ≤ n) (h : n ≤ 9000000000000000000) : trace_digits.f n = some (decB n) := by
  unfold trace_digits.f; rw [if_pos (by omega)]
theorem line_f (e : EvT) (h0 : 0 ≤ e.now) (h1 : e.now ≤ 1099511627776) (h2 : e.n ≤ 1099511627776) (hw : e.what.size ≤ 1000000000) (hn : e.name.size ≤ 1000000000) : trace_Event_line.f e.now e.what e.name e.n = some (lineR e) := by
  obtain ⟨now, what, name, n⟩ := e
  simp only at *
  unfold trace_Event_line.f lineR
  have s1 := decB_size now
  have s2 := decB_size n
  have e1 : (⟨#[58, 32]⟩ : ByteArray).size = 2 := rfl
  have e2 : (⟨#[32]⟩ : ByteArray).size = 1 := rfl
  rw [digits_some now h0 (by omega)]
  simp only [Option.bind_some, toList_iff]
  rw [if_pos (by omega), if_pos (by rw [ByteArray.size_append]; omega)]
  by_cases c1 : name = ⟨#[]⟩
  · rw [if_pos c1, if_pos c1]
    by_cases c2 : 0 < n
    · rw [if_pos c2, if_pos c2, digits_some n (by omega) (by omega)]
      simp only [Option.bind_some]
      rw [if_pos (by omega), if_pos (by simp only [ByteArray.size_append]; omega)]
    · rw [if_neg c2, if_neg c2]
  · rw [if_neg c1, if_neg c1, if_pos (by omega), if_pos (by simp only [ByteArray.size_append]; omega)]
    by_cases c2 : 0 < n
    · rw [if_pos c2, if_pos c2, digits_some n (by omega) (by omega)]
      simp only [Option.bind_some]
      rw [if_pos (by omega), if_pos (by simp only [ByteArray.size_append]; omega)]
    · rw [if_neg c2, if_neg c2]
theorem app_assoc (a b c : ByteArray) : a ++ (b ++ c) = (a ++ b) ++ c := by
  apply toList_inj; simp only [append_toList, List.append_assoc]
theorem refDigits_i (n : Int) (h0 : 0 ≤ n) (h : n ≤ 9000000000000000000) : Ev (fun k => triremeref01_Digits.f k n) (decB n) := by
  obtain ⟨m, rfl⟩ : ∃ m : Nat, n = m := ⟨n.toNat, by omega⟩
  exact digits_ev m (by omega)
theorem refLine_ev (e : EvT) (h0 : 0 ≤ e.now) (h1 : e.now ≤ 1099511627776) (h2 : e.n ≤ 1099511627776) (hw : e.what.size ≤ 1000000000) (hn : e.name.size ≤ 1000000000) : Ev (fun k => triremeref32_line.f k e.now e.what e.name e.n) (lineR e) := by
  obtain ⟨now, what, name, n⟩ := e
  simp only at *
  unfold triremeref32_line.f lineR
  have s1 := decB_size now
  have s2 := decB_size n
  have e1 : (⟨#[58, 32]⟩ : ByteArray).size = 2 := rfl
  have e2 : (⟨#[32]⟩ : ByteArray).size = 1 := rfl
  refine Ev.bind (refDigits_i now h0 (by omega)) ?_
  simp only [toList_iff]
  refine ev_if (fun _ => ?_) (fun h => absurd (by omega) h)
  refine ev_if (fun _ => ?_) (fun h => absurd (by rw [ByteArray.size_append]; omega) h)
  refine ev_if (fun c1 => ?_) (fun c1 => ?_)
  · simp only [c1, if_true]
    refine ev_if (fun c2 => ?_) (fun c2 => ?_)
    · rw [if_pos c2]
      refine ev_if (fun _ => ?_) (fun h => absurd (by simp only [ByteArray.size_append]; omega) h)
      refine Ev.bind (refDigits_i n (by omega) (by omega)) ?_
      refine ev_if (fun _ => ?_) (fun h => absurd (by simp only [ByteArray.size_append]; omega) h)
      rw [app_assoc]
      exact Ev.now _
    · rw [if_neg c2]; exact Ev.now _
  · simp only [c1, if_false]
    refine ev_if (fun _ => ?_) (fun h => absurd (by simp only [ByteArray.size_append]; omega) h)
    refine ev_if (fun _ => ?_) (fun h => absurd (by simp only [ByteArray.size_append]; omega) h)
    refine ev_if (fun c2 => ?_) (fun c2 => ?_)
    · rw [if_pos c2]
      refine ev_if (fun _ => ?_) (fun h => absurd (by simp only [ByteArray.size_append]; omega) h)
      refine Ev.bind (refDigits_i n (by omega) (by omega)) ?_
      refine ev_if (fun _ => ?_) (fun h => absurd (by simp only [ByteArray.size_append]; omega) h)
      rw [app_assoc, app_assoc]
      exact Ev.now _
    · rw [if_neg c2, app_assoc]; exact Ev.now _
end Go.Proofs.Ytngmcigkihfnkaa.H
end
section
namespace Go.Proofs.Ytngmcigkihfnkaa.H
open Go.RowKit Go.Proofs.YtngmcigkihfnkaaW.PrintWords Go.Proofs.YtngmcigkihfnkaaW.PrintLast Go.Proofs.YtngmcigkihfnkaaW.PrintMore
attribute [local go_sem] max2_int min2_int max_two min_two max_three min_three max_four min_four   -- for this text's walks alone
set_option linter.unusedVariables false
set_option linter.unusedSimpArgs false
def triremeref32_Show.l0 : Nat → List (S39) → ByteArray → Int → Option (ByteArray)
  | 0, _, _, _ => none
  | k + 1, x0, x3, x4 => if x4 < (x0.length : Int) then (if 0 ≤ x4 then ((triremeref32_Right.f k ((rd_T39 x0 x4).f0) ((rd_T39 x0 x4).f1) ((rd_T39 x0 x4).f2) ((rd_T39 x0 x4).f3)).bind fun t319 => (if t319 = true then ((triremeref32_line.f k ((rd_T39 x0 x4).f0) ((rd_T39 x0 x4).f1) ((rd_T39 x0 x4).f2) ((rd_T39 x0 x4).f3)).bind fun t321 => (if x3.size + t321.size ≤ 9223372036854775807 then (if (x3 ++ t321).size + 1 ≤ 9223372036854775807 then (triremeref32_Show.l0 k x0 ((x3 ++ t321) ++ (⟨#[10]⟩ : ByteArray)) (wrap64 (x4 + 1))) else (none)) else (none))) else (triremeref32_Show.l0 k x0 x3 (wrap64 (x4 + 1))))) else (none)) else (some x3)
def triremeref32_Show.f (k : Nat) (l0 : List (S39)) : Option (ByteArray) := triremeref32_Show.l0 k l0 (⟨#[]⟩ : ByteArray) 0
set_option maxHeartbeats 8000000 in
set_option maxRecDepth 100000 in
theorem triremeref32_Show.calls (k : Nat) (A0 : Option Addr) (c0 : Nat) (l0 : List (S39)) (r : ByteArray) (w : World) (hr0 : Kd.C k39 w A0 l0.length l0) (hc0 : l0.length ≤ c0) (h : triremeref32_Show.f k l0 = some r) :
    Calls Try.prog 17 #[.slice A0 l0.length c0] w fun e w' => e = .returned (.string r) ∧ Below w.heap.size w w' := by
  have hu39 := Try.underlying39
  have HR0 := Aside0.mk hr0
  have HC0 := Aside0.mk hc0
  clear hr0 hc0
  have HB := Aside0.mk (Below.refl w.heap.size w)
  have H : (triremeref32_Show.l0 k l0 (⟨#[]⟩ : ByteArray) 0) = some r := h
  clear h
  have H' := Aside0.mk H
  clear H
  go_enter Try.func17, Try.ntmps17
  go_wp2
  go_loopg [3, 4] k (fun kq v3 v4 w' => ∃ (x3_1 : ByteArray) (x4_1 : Int), v3 = .string x3_1 ∧ v4 = .int .i64 x4_1 ∧ Aside0 (triremeref32_Show.l0 kq l0 x3_1 x4_1 = some r) ∧ Aside0 (kq ≤ k) ∧ Aside0 (Below w.heap.size w w'))
  case atStart => exact ⟨((⟨#[]⟩ : ByteArray)), (0), (by first | rfl | (simp; done) | (simp [*]; done)), (by first | rfl | (simp; done) | (simp [*]; done)), H', ⟨Nat.le_refl _⟩, ⟨by repeat (first | (with_reducible first | exact HB.out | apply below_alloc | apply pw_below_drewN | apply below_drew1) | exact HB.out)⟩⟩
  case round =>
    clear H'
    try clear c1
    obtain ⟨x3_1, x4_1, rfl, rfl, HA, HK1, HB⟩ := hrel
    cases gk with
    | zero => exact absurd HA.out (by simp [triremeref32_Show.l0])
    | succ k1 =>
      have H := HA.out
      clear HA
      simp only [triremeref32_Show.l0] at H
      by_cases c2 : x4_1 < (l0.length : Int)
      · rw [if_pos c2] at H
        have c2b0 : decide (x4_1 < (l0.length : Int)) = true := decide_eq_true c2
        clear c2
        by_cases c3 : 0 ≤ x4_1
        · rw [if_pos c3] at H
          have c3b0 : decide (0 ≤ x4_1) = true := decide_eq_true c3
          clear c3
          replace H := Option.bind_eq_some_iff.mp H
          obtain ⟨t319, A40, H⟩ := H
          replace H : (if t319 = true then ((triremeref32_line.f k1 ((rd_T39 l0 x4_1).f0) ((rd_T39 l0 x4_1).f1) ((rd_T39 l0 x4_1).f2) ((rd_T39 l0 x4_1).f3)).bind fun t321 => (if x3_1.size + t321.size ≤ 9223372036854775807 then (if (x3_1 ++ t321).size + 1 ≤ 9223372036854775807 then (triremeref32_Show.l0 k1 l0 ((x3_1 ++ t321) ++ (⟨#[10]⟩ : ByteArray)) (wrap64 (x4_1 + 1))) else (none)) else (none))) else (triremeref32_Show.l0 k1 l0 x3_1 (wrap64 (x4_1 + 1)))) = some r := H
          have A4 := Aside0.mk A40
          clear A40
          by_cases c5 : t319 = true
          · subst c5
            have H1 : ((triremeref32_line.f k1 ((rd_T39 l0 x4_1).f0) ((rd_T39 l0 x4_1).f1) ((rd_T39 l0 x4_1).f2) ((rd_T39 l0 x4_1).f3)).bind fun t321 => (if x3_1.size + t321.size ≤ 9223372036854775807 then (if (x3_1 ++ t321).size + 1 ≤ 9223372036854775807 then (triremeref32_Show.l0 k1 l0 ((x3_1 ++ t321) ++ (⟨#[10]⟩ : ByteArray)) (wrap64 (x4_1 + 1))) else (none)) else (none))) = some r := by rw [if_pos rfl] at H; exact H
            clear H
            have H := H1
            clear H1
            replace H := Option.bind_eq_some_iff.mp H
            obtain ⟨t321, A60, H⟩ := H
            replace H : (if x3_1.size + t321.size ≤ 9223372036854775807 then (if (x3_1 ++ t321).size + 1 ≤ 9223372036854775807 then (triremeref32_Show.l0 k1 l0 ((x3_1 ++ t321) ++ (⟨#[10]⟩ : ByteArray)) (wrap64 (x4_1 + 1))) else (none)) else (none)) = some r := H
            have A6 := Aside0.mk A60
            clear A60
            by_cases c7 : x3_1.size + t321.size ≤ 9223372036854775807
            · rw [if_pos c7] at H
              have c7b0 := eq_true c7
              (try (have c7z := c7b0; rw [ByteArray.size_extract, Nat.min_self] at c7z))
              have c7b1 : decide (x3_1.size + t321.size ≤ 9223372036854775807) = true := decide_eq_true c7
              try have c7b2 : (9223372036854775807 < x3_1.size + t321.size) = False := eq_false (Nat.not_lt.2 c7)
              by_cases c8 : (x3_1 ++ t321).size + 1 ≤ 9223372036854775807
              · rw [if_pos c8] at H
                have c8b0 := eq_true c8
                (try (have c8z := c8b0; rw [ByteArray.size_extract, Nat.min_self] at c8z))
                have c8b1 : decide ((x3_1 ++ t321).size + 1 ≤ 9223372036854775807) = true := decide_eq_true c8
                try have c8b2 : (9223372036854775807 < (x3_1 ++ t321).size + 1) = False := eq_false (Nat.not_lt.2 c8)
                (try (have c8z2 := c8b2; simp only [ByteArray.size_append, ByteArray.size_extract, Nat.min_self] at c8z2))
                have H' := Aside0.mk H
                clear H
                have p318 : 0 ≤ (x4_1 : Int) := of_decide_eq_true (by first | (with_reducible assumption) | assumption)
                have q318 : x4_1 < (l0.length : Int) := of_decide_eq_true (by first | (with_reducible assumption) | assumption)
                obtain ⟨ad318, e318, hx318_0, hx318_1, hx318_2, hx318_3⟩ := at_T39 HR0.out x4_1 p318 q318
                cases e318
                replace hx318_0 := (HB.out.cell (World.block_lt_of_cell? w _ hx318_0)).trans hx318_0
                replace hx318_1 := (HB.out.cell (World.block_lt_of_cell? w _ hx318_1)).trans hx318_1
                replace hx318_2 := (HB.out.cell (World.block_lt_of_cell? w _ hx318_2)).trans hx318_2
                replace hx318_3 := (HB.out.cell (World.block_lt_of_cell? w _ hx318_3)).trans hx318_3
                replace p318 := eq_true p318
                replace q318 := eq_true q318
                (try (have qz318 := q318; rw [ByteArray.size_extract, Nat.min_self] at qz318))
                go_wp2_with (first | ((first | ((with_reducible refine gate_callee (f := 15) rfl ?_); refine goesL_ (some 15) rfl rfl Try.func15 (by kernel_rfl) rfl #[.agg #[.int .i64 ((rd_T39 l0 x4_1).f0), .string ((rd_T39 l0 x4_1).f1), .string ((rd_T39 l0 x4_1).f2), .int .i64 ((rd_T39 l0 x4_1).f3)]] rfl (by (try simp only [List.map_toArray, List.map_cons, List.map_nil]); first | done | rfl | (simp only [List.length_drop, List.length_take]; rfl)) ?_; (with_reducible refine (triremeref32_Right.calls k1 ((rd_T39 l0 x4_1).f0) ((rd_T39 l0 x4_1).f1) ((rd_T39 l0 x4_1).f2) ((rd_T39 l0 x4_1).f3) true _ A4.out).mono ?_); rintro e w9 ⟨rfl, hb⟩; refine ⟨_, rfl, ?_⟩) | (go_at_call 15; (with_reducible refine (triremeref32_Right.calls k1 ((rd_T39 l0 x4_1).f0) ((rd_T39 l0 x4_1).f1) ((rd_T39 l0 x4_1).f2) ((rd_T39 l0 x4_1).f3) true _ A4.out).mono ?_); rintro e w9 ⟨rfl, hb⟩)); have n0_ := Aside0.mk (below_step (by repeat (first | (with_reducible first | exact HB.out | apply below_alloc | apply pw_below_drewN | apply below_drew1) | exact HB.out)) hb); clear HB; have HB := n0_; clear n0_; (try clear hb); (try clear hb2); (try clear hk); (try clear hi); have p320 : 0 ≤ (x4_1 : Int) := of_decide_eq_true (by first | (with_reducible assumption) | assumption); have q320 : x4_1 < (l0.length : Int) := of_decide_eq_true (by first | (with_reducible assumption) | assumption); obtain ⟨ad320, e320, hx320_0, hx320_1, hx320_2, hx320_3⟩ := at_T39 HR0.out x4_1 p320 q320; obtain rfl : ad318 = ad320 := (by injection e320); replace hx320_0 := (HB.out.cell (World.block_lt_of_cell? w _ hx320_0)).trans hx320_0; replace hx320_1 := (HB.out.cell (World.block_lt_of_cell? w _ hx320_1)).trans hx320_1; replace hx320_2 := (HB.out.cell (World.block_lt_of_cell? w _ hx320_2)).trans hx320_2; replace hx320_3 := (HB.out.cell (World.block_lt_of_cell? w _ hx320_3)).trans hx320_3; replace p320 := eq_true p320; replace q320 := eq_true q320) | ((first | ((with_reducible refine gate_callee (f := 34) rfl ?_); refine goesL_ (some 21) rfl rfl Try.func34 (by kernel_rfl) rfl #[.agg #[.int .i64 ((rd_T39 l0 x4_1).f0), .string ((rd_T39 l0 x4_1).f1), .string ((rd_T39 l0 x4_1).f2), .int .i64 ((rd_T39 l0 x4_1).f3)]] rfl (by (try simp only [List.map_toArray, List.map_cons, List.map_nil]); first | done | rfl | (simp only [List.length_drop, List.length_take]; rfl)) ?_; (with_reducible refine (triremeref32_line.calls k1 ((rd_T39 l0 x4_1).f0) ((rd_T39 l0 x4_1).f1) ((rd_T39 l0 x4_1).f2) ((rd_T39 l0 x4_1).f3) t321 _ A6.out).mono ?_); rintro e w10 ⟨rfl, hb⟩; refine ⟨_, rfl, ?_⟩) | (go_at_call 34; (with_reducible refine (triremeref32_line.calls k1 ((rd_T39 l0 x4_1).f0) ((rd_T39 l0 x4_1).f1) ((rd_T39 l0 x4_1).f2) ((rd_T39 l0 x4_1).f3) t321 _ A6.out).mono ?_); rintro e w10 ⟨rfl, hb⟩)); have n0_ := Aside0.mk (below_step (by repeat (first | (with_reducible first | exact HB.out | apply below_alloc | apply pw_below_drewN | apply below_drew1) | exact HB.out)) hb); clear HB; have HB := n0_; clear n0_; (try clear hb); (try clear hb2); (try clear hk); (try clear hi)))
                go_roundg k1
                case measure => have := HK1.out; omega
                case rel => exact ⟨((x3_1 ++ t321) ++ (⟨#[10]⟩ : ByteArray)), (wrap64 (x4_1 + 1)), (by first | rfl | (simp; done) | (simp [*]; done)), (by first | rfl | (simp; done) | (simp [*]; done)), H', ⟨by have := HK1.out; omega⟩, ⟨by repeat (first | (with_reducible first | exact HB.out | apply below_alloc | apply pw_below_drewN | apply below_drew1) | exact HB.out)⟩⟩
              · rw [if_neg c8] at H
                exact absurd H (by simp)
            · rw [if_neg c7] at H
              exact absurd H (by simp)
          · replace c5 := Bool.eq_false_iff.mpr c5
            subst c5
            have H1 : (triremeref32_Show.l0 k1 l0 x3_1 (wrap64 (x4_1 + 1))) = some r := by rw [if_neg (show ¬ (false = true) by decide)] at H; exact H
            clear H
            have H := H1
            clear H1
            have H' := Aside0.mk H
            clear H
            have p318 : 0 ≤ (x4_1 : Int) := of_decide_eq_true (by first | (with_reducible assumption) | assumption)
            have q318 : x4_1 < (l0.length : Int) := of_decide_eq_true (by first | (with_reducible assumption) | assumption)
            obtain ⟨ad318, e318, hx318_0, hx318_1, hx318_2, hx318_3⟩ := at_T39 HR0.out x4_1 p318 q318
            cases e318
            replace hx318_0 := (HB.out.cell (World.block_lt_of_cell? w _ hx318_0)).trans hx318_0
            replace hx318_1 := (HB.out.cell (World.block_lt_of_cell? w _ hx318_1)).trans hx318_1
            replace hx318_2 := (HB.out.cell (World.block_lt_of_cell? w _ hx318_2)).trans hx318_2
            replace hx318_3 := (HB.out.cell (World.block_lt_of_cell? w _ hx318_3)).trans hx318_3
            replace p318 := eq_true p318
            replace q318 := eq_true q318
            (try (have qz318 := q318; rw [ByteArray.size_extract, Nat.min_self] at qz318))
            go_wp2_with (first | ((first | ((with_reducible refine gate_callee (f := 15) rfl ?_); refine goesL_ (some 15) rfl rfl Try.func15 (by kernel_rfl) rfl #[.agg #[.int .i64 ((rd_T39 l0 x4_1).f0), .string ((rd_T39 l0 x4_1).f1), .string ((rd_T39 l0 x4_1).f2), .int .i64 ((rd_T39 l0 x4_1).f3)]] rfl (by (try simp only [List.map_toArray, List.map_cons, List.map_nil]); first | done | rfl | (simp only [List.length_drop, List.length_take]; rfl)) ?_; (with_reducible refine (triremeref32_Right.calls k1 ((rd_T39 l0 x4_1).f0) ((rd_T39 l0 x4_1).f1) ((rd_T39 l0 x4_1).f2) ((rd_T39 l0 x4_1).f3) false _ A4.out).mono ?_); rintro e w11 ⟨rfl, hb⟩; refine ⟨_, rfl, ?_⟩) | (go_at_call 15; (with_reducible refine (triremeref32_Right.calls k1 ((rd_T39 l0 x4_1).f0) ((rd_T39 l0 x4_1).f1) ((rd_T39 l0 x4_1).f2) ((rd_T39 l0 x4_1).f3) false _ A4.out).mono ?_); rintro e w11 ⟨rfl, hb⟩)); have n0_ := Aside0.mk (below_step (by repeat (first | (with_reducible first | exact HB.out | apply below_alloc | apply pw_below_drewN | apply below_drew1) | exact HB.out)) hb); clear HB; have HB := n0_; clear n0_; (try clear hb); (try clear hb2); (try clear hk); (try clear hi)))
            go_roundg k1
            case measure => have := HK1.out; omega
            case rel => exact ⟨(x3_1), (wrap64 (x4_1 + 1)), (by first | rfl | (simp; done) | (simp [*]; done)), (by first | rfl | (simp; done) | (simp [*]; done)), H', ⟨by have := HK1.out; omega⟩, ⟨by repeat (first | (with_reducible first | exact HB.out | apply below_alloc | apply pw_below_drewN | apply below_drew1) | exact HB.out)⟩⟩
        · rw [if_neg c3] at H
          exact absurd H (by simp)
      · rw [if_neg c2] at H
        have c2b0 : decide (x4_1 < (l0.length : Int)) = false := decide_eq_false c2
        clear c2
        obtain rfl := Option.some.inj H
        go_wp2
        go_ret
        exact ⟨by first | rfl | (simp [errW_none, errW_some] <;> rfl) | (simp [*, errW_none, errW_some] <;> rfl), by repeat (first | (with_reducible first | exact HB.out | apply below_alloc | apply pw_below_drewN | apply below_drew1) | exact HB.out)⟩
end Go.Proofs.Ytngmcigkihfnkaa.H
end
section
namespace Go.Proofs.Ytngmcigkihfnkaa.H
open Go.RowKit Go.Proofs.YtngmcigkihfnkaaW.PrintWords Go.Proofs.YtngmcigkihfnkaaW.PrintLast Go.Proofs.YtngmcigkihfnkaaW.PrintMore
attribute [local go_sem] max2_int min2_int max_two min_two max_three min_three max_four min_four   -- for this text's walks alone
set_option linter.unusedVariables false
set_option linter.unusedSimpArgs false
def triremeref32_Calls.l0 : Nat → List (S39) → Int → Int → Option (Int)
  | 0, _, _, _ => none
  | k + 1, x0, x3, x4 => if x4 < (x0.length : Int) then (if 0 ≤ x4 then ((triremeref32_kind.f k ((rd_T39 x0 x4).f1)).bind fun t323 => (if t323 = 1 then (triremeref32_Calls.l0 k x0 (wrap64 (x3 + 1)) (wrap64 (x4 + 1))) else (if ((rd_T39 x0 x4).f1).toList = ([99, 108, 101, 97, 110] : List UInt8) then (triremeref32_Calls.l0 k x0 (wrap64 (x3 + 1)) (wrap64 (x4 + 1))) else (if ((rd_T39 x0 x4).f1).toList = ([100, 101, 108, 101, 116, 101] : List UInt8) then (triremeref32_Calls.l0 k x0 (wrap64 (x3 + 1)) (wrap64 (x4 + 1))) else (triremeref32_Calls.l0 k x0 x3 (wrap64 (x4 + 1))))))) else (none)) else (some x3)
def triremeref32_Calls.f (k : Nat) (l0 : List (S39)) : Option (Int) := triremeref32_Calls.l0 k l0 0 0
set_option maxHeartbeats 8000000 in
set_option maxRecDepth 100000 in
theorem triremeref32_Calls.calls (k : Nat) (A0 : Option Addr) (c0 : Nat) (l0 : List (S39)) (r : Int) (w : World) (hr0 : Kd.C k39 w A0 l0.length l0) (hc0 : l0.length ≤ c0) (h : triremeref32_Calls.f k l0 = some r) :
    Calls Try.prog 19 #[.slice A0 l0.length c0] w fun e w' => e = .returned (.int .i64 r) ∧ Drawn0 w w' := by
  have HR0 := Aside0.mk hr0
  have HC0 := Aside0.mk hc0
  clear hr0 hc0
  have H : (triremeref32_Calls.l0 k l0 0 0) = some r := h
  clear h
  have H' := Aside0.mk H
  clear H
  go_enter Try.func19, Try.ntmps19
  go_wp2
  go_loopg [3, 4] k (fun kq v3 v4 w' => ∃ (x3_1 : Int) (x4_1 : Int), v3 = .int .i64 x3_1 ∧ v4 = .int .i64 x4_1 ∧ Aside0 (triremeref32_Calls.l0 kq l0 x3_1 x4_1 = some r) ∧ Aside0 (kq ≤ k) ∧ Drawn0 w w')
  case atStart => exact ⟨(0), (0), (by first | rfl | (simp; done) | (simp [*]; done)), (by first | rfl | (simp; done) | (simp [*]; done)), H', ⟨Nat.le_refl _⟩, by repeat (first | exact Drawn0.refl _ | apply Drawn0.step)⟩
  case round =>
    clear H'
    try clear c1
    obtain ⟨x3_1, x4_1, rfl, rfl, HA, HK1, ⟨m1, rfl⟩⟩ := hrel
    cases gk with
    | zero => exact absurd HA.out (by simp [triremeref32_Calls.l0])
    | succ k1 =>
      have H := HA.out
      clear HA
      simp only [triremeref32_Calls.l0] at H
      by_cases c2 : x4_1 < (l0.length : Int)
      · rw [if_pos c2] at H
        have c2b0 : decide (x4_1 < (l0.length : Int)) = true := decide_eq_true c2
        clear c2
        by_cases c3 : 0 ≤ x4_1
        · rw [if_pos c3] at H
          have c3b0 : decide (0 ≤ x4_1) = true := decide_eq_true c3
          clear c3
          replace H := Option.bind_eq_some_iff.mp H
          obtain ⟨t323, A40, H⟩ := H
          replace H : (if t323 = 1 then (triremeref32_Calls.l0 k1 l0 (wrap64 (x3_1 + 1)) (wrap64 (x4_1 + 1))) else (if ((rd_T39 l0 x4_1).f1).toList = ([99, 108, 101, 97, 110] : List UInt8) then (triremeref32_Calls.l0 k1 l0 (wrap64 (x3_1 + 1)) (wrap64 (x4_1 + 1))) else (if ((rd_T39 l0 x4_1).f1).toList = ([100, 101, 108, 101, 116, 101] : List UInt8) then (triremeref32_Calls.l0 k1 l0 (wrap64 (x3_1 + 1)) (wrap64 (x4_1 + 1))) else (triremeref32_Calls.l0 k1 l0 x3_1 (wrap64 (x4_1 + 1)))))) = some r := H
          have A4 := Aside0.mk A40
          clear A40
          by_cases c5 : t323 = 1
          · rw [if_pos c5] at H
            have c5b0 : (t323 == 1) = true := beq_iff_eq.mpr c5
            have c5b1 : (t323 != 1) = false := bne_eq_false_iff_eq.mpr c5
            clear c5
            have H' := Aside0.mk H
            clear H
            have p322 : 0 ≤ (x4_1 : Int) := of_decide_eq_true (by first | (with_reducible assumption) | assumption)
            have q322 : x4_1 < (l0.length : Int) := of_decide_eq_true (by first | (with_reducible assumption) | assumption)
            obtain ⟨ad322, e322, hx322_0, hx322_1, hx322_2, hx322_3⟩ := at_T39 HR0.out x4_1 p322 q322
            cases e322
            replace p322 := eq_true p322
            replace q322 := eq_true q322
            (try (have qz322 := q322; rw [ByteArray.size_extract, Nat.min_self] at qz322))
            go_wp2_with (first | ((first | ((with_reducible refine gate_callee (f := 31) rfl ?_); refine goesL_ (some 16) rfl rfl Try.func31 (by kernel_rfl) rfl #[.string ((rd_T39 l0 x4_1).f1)] rfl (by (try simp only [List.map_toArray, List.map_cons, List.map_nil]); first | done | rfl | (simp only [List.length_drop, List.length_take]; rfl)) ?_; (with_reducible refine (triremeref32_kind.calls k1 ((rd_T39 l0 x4_1).f1) t323 _ A4.out).mono ?_); rintro e w' ⟨rfl, ⟨nd, rfl⟩⟩; refine ⟨_, rfl, ?_⟩) | (go_at_call 31; (with_reducible refine (triremeref32_kind.calls k1 ((rd_T39 l0 x4_1).f1) t323 _ A4.out).mono ?_); rintro e w' ⟨rfl, ⟨nd, rfl⟩⟩))))
            go_roundg k1
            case measure => have := HK1.out; omega
            case rel => exact ⟨(wrap64 (x3_1 + 1)), (wrap64 (x4_1 + 1)), (by first | rfl | (simp; done) | (simp [*]; done)), (by first | rfl | (simp; done) | (simp [*]; done)), H', ⟨by have := HK1.out; omega⟩, by repeat (first | exact Drawn0.refl _ | apply Drawn0.step)⟩
          · rw [if_neg c5] at H
            have c5b0 : (t323 == 1) = false := beq_eq_false_iff_ne.mpr c5
            have c5b1 : (t323 != 1) = true := bne_iff_ne.mpr c5
            by_cases c6 : ((rd_T39 l0 x4_1).f1).toList = ([99, 108, 101, 97, 110] : List UInt8)
            · rw [if_pos c6] at H
              have c6b0 : (((rd_T39 l0 x4_1).f1).toList == ([99, 108, 101, 97, 110] : List UInt8)) = true := beq_iff_eq.mpr c6
              have c6b1 : (((rd_T39 l0 x4_1).f1).toList != ([99, 108, 101, 97, 110] : List UInt8)) = false := bne_eq_false_iff_eq.mpr c6
              clear c6
              have H' := Aside0.mk H
              clear H
              have p322 : 0 ≤ (x4_1 : Int) := of_decide_eq_true (by first | (with_reducible assumption) | assumption)
              have q322 : x4_1 < (l0.length : Int) := of_decide_eq_true (by first | (with_reducible assumption) | assumption)
              obtain ⟨ad322, e322, hx322_0, hx322_1, hx322_2, hx322_3⟩ := at_T39 HR0.out x4_1 p322 q322
              cases e322
              replace p322 := eq_true p322
              replace q322 := eq_true q322
              (try (have qz322 := q322; rw [ByteArray.size_extract, Nat.min_self] at qz322))
              go_wp2_with (first | ((first | ((with_reducible refine gate_callee (f := 31) rfl ?_); refine goesL_ (some 16) rfl rfl Try.func31 (by kernel_rfl) rfl #[.string ((rd_T39 l0 x4_1).f1)] rfl (by (try simp only [List.map_toArray, List.map_cons, List.map_nil]); first | done | rfl | (simp only [List.length_drop, List.length_take]; rfl)) ?_; (with_reducible refine (triremeref32_kind.calls k1 ((rd_T39 l0 x4_1).f1) t323 _ A4.out).mono ?_); rintro e w' ⟨rfl, ⟨nd, rfl⟩⟩; refine ⟨_, rfl, ?_⟩) | (go_at_call 31; (with_reducible refine (triremeref32_kind.calls k1 ((rd_T39 l0 x4_1).f1) t323 _ A4.out).mono ?_); rintro e w' ⟨rfl, ⟨nd, rfl⟩⟩)); have p324 : 0 ≤ (x4_1 : Int) := of_decide_eq_true (by first | (with_reducible assumption) | assumption); have q324 : x4_1 < (l0.length : Int) := of_decide_eq_true (by first | (with_reducible assumption) | assumption); obtain ⟨ad324, e324, hx324_0, hx324_1, hx324_2, hx324_3⟩ := at_T39 HR0.out x4_1 p324 q324; obtain rfl : ad322 = ad324 := (by injection e324); replace p324 := eq_true p324; replace q324 := eq_true q324))
              go_roundg k1
              case measure => have := HK1.out; omega
              case rel => exact ⟨(wrap64 (x3_1 + 1)), (wrap64 (x4_1 + 1)), (by first | rfl | (simp; done) | (simp [*]; done)), (by first | rfl | (simp; done) | (simp [*]; done)), H', ⟨by have := HK1.out; omega⟩, by repeat (first | exact Drawn0.refl _ | apply Drawn0.step)⟩
            · rw [if_neg c6] at H
              have c6b0 : (((rd_T39 l0 x4_1).f1).toList == ([99, 108, 101, 97, 110] : List UInt8)) = false := beq_eq_false_iff_ne.mpr c6
              have c6b1 : (((rd_T39 l0 x4_1).f1).toList != ([99, 108, 101, 97, 110] : List UInt8)) = true := bne_iff_ne.mpr c6
              by_cases c7 : ((rd_T39 l0 x4_1).f1).toList = ([100, 101, 108, 101, 116, 101] : List UInt8)
              · rw [if_pos c7] at H
                have c7b0 : (((rd_T39 l0 x4_1).f1).toList == ([100, 101, 108, 101, 116, 101] : List UInt8)) = true := beq_iff_eq.mpr c7
                have c7b1 : (((rd_T39 l0 x4_1).f1).toList != ([100, 101, 108, 101, 116, 101] : List UInt8)) = false := bne_eq_false_iff_eq.mpr c7
                clear c7
                have H' := Aside0.mk H
                clear H
                have p322 : 0 ≤ (x4_1 : Int) := of_decide_eq_true (by first | (with_reducible assumption) | assumption)
                have q322 : x4_1 < (l0.length : Int) := of_decide_eq_true (by first | (with_reducible assumption) | assumption)
                obtain ⟨ad322, e322, hx322_0, hx322_1, hx322_2, hx322_3⟩ := at_T39 HR0.out x4_1 p322 q322
                cases e322
                replace p322 := eq_true p322
                replace q322 := eq_true q322
                (try (have qz322 := q322; rw [ByteArray.size_extract, Nat.min_self] at qz322))
                go_wp2_with (first | ((first | ((with_reducible refine gate_callee (f := 31) rfl ?_); refine goesL_ (some 16) rfl rfl Try.func31 (by kernel_rfl) rfl #[.string ((rd_T39 l0 x4_1).f1)] rfl (by (try simp only [List.map_toArray, List.map_cons, List.map_nil]); first | done | rfl | (simp only [List.length_drop, List.length_take]; rfl)) ?_; (with_reducible refine (triremeref32_kind.calls k1 ((rd_T39 l0 x4_1).f1) t323 _ A4.out).mono ?_); rintro e w' ⟨rfl, ⟨nd, rfl⟩⟩; refine ⟨_, rfl, ?_⟩) | (go_at_call 31; (with_reducible refine (triremeref32_kind.calls k1 ((rd_T39 l0 x4_1).f1) t323 _ A4.out).mono ?_); rintro e w' ⟨rfl, ⟨nd, rfl⟩⟩)); have p324 : 0 ≤ (x4_1 : Int) := of_decide_eq_true (by first | (with_reducible assumption) | assumption); have q324 : x4_1 < (l0.length : Int) := of_decide_eq_true (by first | (with_reducible assumption) | assumption); obtain ⟨ad324, e324, hx324_0, hx324_1, hx324_2, hx324_3⟩ := at_T39 HR0.out x4_1 p324 q324; obtain rfl : ad322 = ad324 := (by injection e324); replace p324 := eq_true p324; replace q324 := eq_true q324; have p325 : 0 ≤ (x4_1 : Int) := of_decide_eq_true (by first | (with_reducible assumption) | assumption); have q325 : x4_1 < (l0.length : Int) := of_decide_eq_true (by first | (with_reducible assumption) | assumption); obtain ⟨ad325, e325, hx325_0, hx325_1, hx325_2, hx325_3⟩ := at_T39 HR0.out x4_1 p325 q325; obtain rfl : ad322 = ad325 := (by injection e325); replace p325 := eq_true p325; replace q325 := eq_true q325))
                go_roundg k1
                case measure => have := HK1.out; omega
                case rel => exact ⟨(wrap64 (x3_1 + 1)), (wrap64 (x4_1 + 1)), (by first | rfl | (simp; done) | (simp [*]; done)), (by first | rfl | (simp; done) | (simp [*]; done)), H', ⟨by have := HK1.out; omega⟩, by repeat (first | exact Drawn0.refl _ | apply Drawn0.step)⟩
              · rw [if_neg c7] at H
                have c7b0 : (((rd_T39 l0 x4_1).f1).toList == ([100, 101, 108, 101, 116, 101] : List UInt8)) = false := beq_eq_false_iff_ne.mpr c7
                have c7b1 : (((rd_T39 l0 x4_1).f1).toList != ([100, 101, 108, 101, 116, 101] : List UInt8)) = true := bne_iff_ne.mpr c7
                have H' := Aside0.mk H
                clear H
                have p322 : 0 ≤ (x4_1 : Int) := of_decide_eq_true (by first | (with_reducible assumption) | assumption)
                have q322 : x4_1 < (l0.length : Int) := of_decide_eq_true (by first | (with_reducible assumption) | assumption)
                obtain ⟨ad322, e322, hx322_0, hx322_1, hx322_2, hx322_3⟩ := at_T39 HR0.out x4_1 p322 q322
                cases e322
                replace p322 := eq_true p322
                replace q322 := eq_true q322
                (try (have qz322 := q322; rw [ByteArray.size_extract, Nat.min_self] at qz322))
                go_wp2_with (first | ((first | ((with_reducible refine gate_callee (f := 31) rfl ?_); refine goesL_ (some 16) rfl rfl Try.func31 (by kernel_rfl) rfl #[.string ((rd_T39 l0 x4_1).f1)] rfl (by (try simp only [List.map_toArray, List.map_cons, List.map_nil]); first | done | rfl | (simp only [List.length_drop, List.length_take]; rfl)) ?_; (with_reducible refine (triremeref32_kind.calls k1 ((rd_T39 l0 x4_1).f1) t323 _ A4.out).mono ?_); rintro e w' ⟨rfl, ⟨nd, rfl⟩⟩; refine ⟨_, rfl, ?_⟩) | (go_at_call 31; (with_reducible refine (triremeref32_kind.calls k1 ((rd_T39 l0 x4_1).f1) t323 _ A4.out).mono ?_); rintro e w' ⟨rfl, ⟨nd, rfl⟩⟩)); have p324 : 0 ≤ (x4_1 : Int) := of_decide_eq_true (by first | (with_reducible assumption) | assumption); have q324 : x4_1 < (l0.length : Int) := of_decide_eq_true (by first | (with_reducible assumption) | assumption); obtain ⟨ad324, e324, hx324_0, hx324_1, hx324_2, hx324_3⟩ := at_T39 HR0.out x4_1 p324 q324; obtain rfl : ad322 = ad324 := (by injection e324); replace p324 := eq_true p324; replace q324 := eq_true q324; have p325 : 0 ≤ (x4_1 : Int) := of_decide_eq_true (by first | (with_reducible assumption) | assumption); have q325 : x4_1 < (l0.length : Int) := of_decide_eq_true (by first | (with_reducible assumption) | assumption); obtain ⟨ad325, e325, hx325_0, hx325_1, hx325_2, hx325_3⟩ := at_T39 HR0.out x4_1 p325 q325; obtain rfl : ad322 = ad325 := (by injection e325); replace p325 := eq_true p325; replace q325 := eq_true q325))
                go_roundg k1
                case measure => have := HK1.out; omega
                case rel => exact ⟨(x3_1), (wrap64 (x4_1 + 1)), (by first | rfl | (simp; done) | (simp [*]; done)), (by first | rfl | (simp; done) | (simp [*]; done)), H', ⟨by have := HK1.out; omega⟩, by repeat (first | exact Drawn0.refl _ | apply Drawn0.step)⟩
        · rw [if_neg c3] at H
          exact absurd H (by simp)
      · rw [if_neg c2] at H
        have c2b0 : decide (x4_1 < (l0.length : Int)) = false := decide_eq_false c2
        clear c2
        obtain rfl := Option.some.inj H
        go_wp2
        go_ret
        exact ⟨by first | rfl | (simp; done) | (simp [*]; done), by repeat (first | exact Drawn0.refl _ | apply Drawn0.step)⟩
end Go.Proofs.Ytngmcigkihfnkaa.H
end
section
namespace Go.Proofs.Ytngmcigkihfnkaa.H
open Go.RowKit Go.Proofs.YtngmcigkihfnkaaW.PrintWords Go.Proofs.YtngmcigkihfnkaaW.PrintLast Go.Proofs.YtngmcigkihfnkaaW.PrintMore
attribute [local go_sem] max2_int min2_int max_two min_two max_three min_three max_four min_four   -- for this text's walks alone
set_option linter.unusedVariables false
set_option linter.unusedSimpArgs false
def triremeref32_Added.l0 : Nat → List (S39) → ByteArray → Int → Int → Option (Int)
  | 0, _, _, _, _ => none
  | k + 1, x0, x1, x5, x6 => if x6 < (x0.length : Int) then (if 0 ≤ x6 then (if ((rd_T39 x0 x6).f1).toList = ([117, 112] : List UInt8) then (if ((rd_T39 x0 x6).f2).toList = x1.toList then (triremeref32_Added.l0 k x0 x1 (wrap64 (x5 + ((rd_T39 x0 x6).f3))) (wrap64 (x6 + 1))) else (triremeref32_Added.l0 k x0 x1 x5 (wrap64 (x6 + 1)))) else (if ((rd_T39 x0 x6).f1).toList = ([114, 97, 105, 115, 101] : List UInt8) then (if ((rd_T39 x0 x6).f2).toList = x1.toList then (triremeref32_Added.l0 k x0 x1 (wrap64 (x5 + ((rd_T39 x0 x6).f3))) (wrap64 (x6 + 1))) else (triremeref32_Added.l0 k x0 x1 x5 (wrap64 (x6 + 1)))) else (triremeref32_Added.l0 k x0 x1 x5 (wrap64 (x6 + 1))))) else (none)) else (some x5)
def triremeref32_Added.f (k : Nat) (l0 : List (S39)) (a1 : ByteArray) : Option (Int) := triremeref32_Added.l0 k l0 a1 0 0
set_option maxHeartbeats 8000000 in
set_option maxRecDepth 100000 in
theorem triremeref32_Added.calls (k : Nat) (A0 : Option Addr) (c0 : Nat) (l0 : List (S39)) (a1 : ByteArray) (r : Int) (w : World) (hr0 : Kd.C k39 w A0 l0.length l0) (hc0 : l0.length ≤ c0) (h : triremeref32_Added.f k l0 a1 = some r) :
    Calls Try.prog 23 #[.slice A0 l0.length c0, .string a1] w fun e w' => e = .returned (.int .i64 r) ∧ Drawn0 w w' := by
  have HR0 := Aside0.mk hr0
  have HC0 := Aside0.mk hc0
  clear hr0 hc0
  have H : (triremeref32_Added.l0 k l0 a1 0 0) = some r := h
  clear h
  have H' := Aside0.mk H
  clear H
  go_enter Try.func23, Try.ntmps23
  go_wp2
  go_loopg [5, 6] k (fun kq v5 v6 w' => ∃ (x5_1 : Int) (x6_1 : Int), v5 = .int .i64 x5_1 ∧ v6 = .int .i64 x6_1 ∧ Aside0 (triremeref32_Added.l0 kq l0 a1 x5_1 x6_1 = some r) ∧ Aside0 (kq ≤ k) ∧ Drawn0 w w')
  case atStart => exact ⟨(0), (0), (by first | rfl | (simp; done) | (simp [*]; done)), (by first | rfl | (simp; done) | (simp [*]; done)), H', ⟨Nat.le_refl _⟩, by repeat (first | exact Drawn0.refl _ | apply Drawn0.step)⟩
  case round =>
    clear H'
    try clear c2
    try clear p2
    obtain ⟨x5_1, x6_1, rfl, rfl, HA, HK1, ⟨m1, rfl⟩⟩ := hrel
    cases gk with
    | zero => exact absurd HA.out (by simp [triremeref32_Added.l0])
    | succ k1 =>
      have H := HA.out
      clear HA
      simp only [triremeref32_Added.l0] at H
      by_cases c3 : x6_1 < (l0.length : Int)
      · rw [if_pos c3] at H
        have c3b0 : decide (x6_1 < (l0.length : Int)) = true := decide_eq_true c3
        clear c3
        by_cases c4 : 0 ≤ x6_1
        · rw [if_pos c4] at H
          have c4b0 : decide (0 ≤ x6_1) = true := decide_eq_true c4
          clear c4
          by_cases c5 : ((rd_T39 l0 x6_1).f1).toList = ([117, 112] : List UInt8)
          · rw [if_pos c5] at H
            have c5b0 : (((rd_T39 l0 x6_1).f1).toList == ([117, 112] : List UInt8)) = true := beq_iff_eq.mpr c5
            have c5b1 : (((rd_T39 l0 x6_1).f1).toList != ([117, 112] : List UInt8)) = false := bne_eq_false_iff_eq.mpr c5
            clear c5
            by_cases c6 : ((rd_T39 l0 x6_1).f2).toList = a1.toList
            · rw [if_pos c6] at H
              have c6b0 : (((rd_T39 l0 x6_1).f2).toList == a1.toList) = true := beq_iff_eq.mpr c6
              have c6b1 : (((rd_T39 l0 x6_1).f2).toList != a1.toList) = false := bne_eq_false_iff_eq.mpr c6
              clear c6
              have H' := Aside0.mk H
              clear H
              have p328 : 0 ≤ (x6_1 : Int) := of_decide_eq_true (by first | (with_reducible assumption) | assumption)
              have q328 : x6_1 < (l0.length : Int) := of_decide_eq_true (by first | (with_reducible assumption) | assumption)
              obtain ⟨ad328, e328, hx328_0, hx328_1, hx328_2, hx328_3⟩ := at_T39 HR0.out x6_1 p328 q328
              cases e328
              replace p328 := eq_true p328
              replace q328 := eq_true q328
              (try (have qz328 := q328; rw [ByteArray.size_extract, Nat.min_self] at qz328))
              have p329 : 0 ≤ (x6_1 : Int) := of_decide_eq_true (by first | (with_reducible assumption) | assumption)
              have q329 : x6_1 < (l0.length : Int) := of_decide_eq_true (by first | (with_reducible assumption) | assumption)
              obtain ⟨ad329, e329, hx329_0, hx329_1, hx329_2, hx329_3⟩ := at_T39 HR0.out x6_1 p329 q329
              obtain rfl : ad328 = ad329 := (by injection e329)
              replace p329 := eq_true p329
              replace q329 := eq_true q329
              (try (have qz329 := q329; rw [ByteArray.size_extract, Nat.min_self] at qz329))
              have p330 : 0 ≤ (x6_1 : Int) := of_decide_eq_true (by first | (with_reducible assumption) | assumption)
              have q330 : x6_1 < (l0.length : Int) := of_decide_eq_true (by first | (with_reducible assumption) | assumption)
              obtain ⟨ad330, e330, hx330_0, hx330_1, hx330_2, hx330_3⟩ := at_T39 HR0.out x6_1 p330 q330
              obtain rfl : ad328 = ad330 := (by injection e330)
              replace p330 := eq_true p330
              replace q330 := eq_true q330
              (try (have qz330 := q330; rw [ByteArray.size_extract, Nat.min_self] at qz330))
              go_wp2
              go_roundg k1
              case measure => have := HK1.out; omega
              case rel => exact ⟨(wrap64 (x5_1 + ((rd_T39 l0 x6_1).f3))), (wrap64 (x6_1 + 1)), (by first | rfl | (simp; done) | (simp [*]; done)), (by first | rfl | (simp; done) | (simp [*]; done)), H', ⟨by have := HK1.out; omega⟩, by repeat (first | exact Drawn0.refl _ | apply Drawn0.step)⟩
            · rw [if_neg c6] at H
              have c6b0 : (((rd_T39 l0 x6_1).f2).toList == a1.toList) = false := beq_eq_false_iff_ne.mpr c6
              have c6b1 : (((rd_T39 l0 x6_1).f2).toList != a1.toList) = true := bne_iff_ne.mpr c6
              have H' := Aside0.mk H
              clear H
              have p328 : 0 ≤ (x6_1 : Int) := of_decide_eq_true (by first | (with_reducible assumption) | assumption)
              have q328 : x6_1 < (l0.length : Int) := of_decide_eq_true (by first | (with_reducible assumption) | assumption)
              obtain ⟨ad328, e328, hx328_0, hx328_1, hx328_2, hx328_3⟩ := at_T39 HR0.out x6_1 p328 q328
              cases e328
              replace p328 := eq_true p328
              replace q328 := eq_true q328
              (try (have qz328 := q328; rw [ByteArray.size_extract, Nat.min_self] at qz328))
              have p329 : 0 ≤ (x6_1 : Int) := of_decide_eq_true (by first | (with_reducible assumption) | assumption)
              have q329 : x6_1 < (l0.length : Int) := of_decide_eq_true (by first | (with_reducible assumption) | assumption)
              obtain ⟨ad329, e329, hx329_0, hx329_1, hx329_2, hx329_3⟩ := at_T39 HR0.out x6_1 p329 q329
              obtain rfl : ad328 = ad329 := (by injection e329)
              replace p329 := eq_true p329
              replace q329 := eq_true q329
              (try (have qz329 := q329; rw [ByteArray.size_extract, Nat.min_self] at qz329))
              go_wp2
              go_roundg k1
              case measure => have := HK1.out; omega
              case rel => exact ⟨(x5_1), (wrap64 (x6_1 + 1)), (by first | rfl | (simp; done) | (simp [*]; done)), (by first | rfl | (simp; done) | (simp [*]; done)), H', ⟨by have := HK1.out; omega⟩, by repeat (first | exact Drawn0.refl _ | apply Drawn0.step)⟩
          · rw [if_neg c5] at H
            have c5b0 : (((rd_T39 l0 x6_1).f1).toList == ([117, 112] : List UInt8)) = false := beq_eq_false_iff_ne.mpr c5
            have c5b1 : (((rd_T39 l0 x6_1).f1).toList != ([117, 112] : List UInt8)) = true := bne_iff_ne.mpr c5
            by_cases c7 : ((rd_T39 l0 x6_1).f1).toList = ([114, 97, 105, 115, 101] : List UInt8)
            · rw [if_pos c7] at H
              have c7b0 : (((rd_T39 l0 x6_1).f1).toList == ([114, 97, 105, 115, 101] : List UInt8)) = true := beq_iff_eq.mpr c7
              have c7b1 : (((rd_T39 l0 x6_1).f1).toList != ([114, 97, 105, 115, 101] : List UInt8)) = false := bne_eq_false_iff_eq.mpr c7
              clear c7
              by_cases c8 : ((rd_T39 l0 x6_1).f2).toList = a1.toList
              · rw [if_pos c8] at H
                have c8b0 : (((rd_T39 l0 x6_1).f2).toList == a1.toList) = true := beq_iff_eq.mpr c8
                have c8b1 : (((rd_T39 l0 x6_1).f2).toList != a1.toList) = false := bne_eq_false_iff_eq.mpr c8
                clear c8
                have H' := Aside0.mk H
                clear H
                have p328 : 0 ≤ (x6_1 : Int) := of_decide_eq_true (by first | (with_reducible assumption) | assumption)
                have q328 : x6_1 < (l0.length : Int) := of_decide_eq_true (by first | (with_reducible assumption) | assumption)
                obtain ⟨ad328, e328, hx328_0, hx328_1, hx328_2, hx328_3⟩ := at_T39 HR0.out x6_1 p328 q328
                cases e328
                replace p328 := eq_true p328
                replace q328 := eq_true q328
                (try (have qz328 := q328; rw [ByteArray.size_extract, Nat.min_self] at qz328))
                have p331 : 0 ≤ (x6_1 : Int) := of_decide_eq_true (by first | (with_reducible assumption) | assumption)
                have q331 : x6_1 < (l0.length : Int) := of_decide_eq_true (by first | (with_reducible assumption) | assumption)
                obtain ⟨ad331, e331, hx331_0, hx331_1, hx331_2, hx331_3⟩ := at_T39 HR0.out x6_1 p331 q331
                obtain rfl : ad328 = ad331 := (by injection e331)
                replace p331 := eq_true p331
                replace q331 := eq_true q331
                (try (have qz331 := q331; rw [ByteArray.size_extract, Nat.min_self] at qz331))
                have p332 : 0 ≤ (x6_1 : Int) := of_decide_eq_true (by first | (with_reducible assumption) | assumption)
                have q332 : x6_1 < (l0.length : Int) := of_decide_eq_true (by first | (with_reducible assumption) | assumption)
                obtain ⟨ad332, e332, hx332_0, hx332_1, hx332_2, hx332_3⟩ := at_T39 HR0.out x6_1 p332 q332
                obtain rfl : ad328 = ad332 := (by injection e332)
                replace p332 := eq_true p332
                replace q332 := eq_true q332
                (try (have qz332 := q332; rw [ByteArray.size_extract, Nat.min_self] at qz332))
                have p333 : 0 ≤ (x6_1 : Int) := of_decide_eq_true (by first | (with_reducible assumption) | assumption)
                have q333 : x6_1 < (l0.length : Int) := of_decide_eq_true (by first | (with_reducible assumption) | assumption)
                obtain ⟨ad333, e333, hx333_0, hx333_1, hx333_2, hx333_3⟩ := at_T39 HR0.out x6_1 p333 q333
                obtain rfl : ad328 = ad333 := (by injection e333)
                replace p333 := eq_true p333
                replace q333 := eq_true q333
                (try (have qz333 := q333; rw [ByteArray.size_extract, Nat.min_self] at qz333))
                go_wp2
                go_roundg k1
                case measure => have := HK1.out; omega
                case rel => exact ⟨(wrap64 (x5_1 + ((rd_T39 l0 x6_1).f3))), (wrap64 (x6_1 + 1)), (by first | rfl | (simp; done) | (simp [*]; done)), (by first | rfl | (simp; done) | (simp [*]; done)), H', ⟨by have := HK1.out; omega⟩, by repeat (first | exact Drawn0.refl _ | apply Drawn0.step)⟩
              · rw [if_neg c8] at H
                have c8b0 : (((rd_T39 l0 x6_1).f2).toList == a1.toList) = false := beq_eq_false_iff_ne.mpr c8
                have c8b1 : (((rd_T39 l0 x6_1).f2).toList != a1.toList) = true := bne_iff_ne.mpr c8
                have H' := Aside0.mk H
                clear H
                have p328 : 0 ≤ (x6_1 : Int) := of_decide_eq_true (by first | (with_reducible assumption) | assumption)
                have q328 : x6_1 < (l0.length : Int) := of_decide_eq_true (by first | (with_reducible assumption) | assumption)
                obtain ⟨ad328, e328, hx328_0, hx328_1, hx328_2, hx328_3⟩ := at_T39 HR0.out x6_1 p328 q328
                cases e328
                replace p328 := eq_true p328
                replace q328 := eq_true q328
                (try (have qz328 := q328; rw [ByteArray.size_extract, Nat.min_self] at qz328))
                have p331 : 0 ≤ (x6_1 : Int) := of_decide_eq_true (by first | (with_reducible assumption) | assumption)
                have q331 : x6_1 < (l0.length : Int) := of_decide_eq_true (by first | (with_reducible assumption) | assumption)
                obtain ⟨ad331, e331, hx331_0, hx331_1, hx331_2, hx331_3⟩ := at_T39 HR0.out x6_1 p331 q331
                obtain rfl : ad328 = ad331 := (by injection e331)
                replace p331 := eq_true p331
                replace q331 := eq_true q331
                (try (have qz331 := q331; rw [ByteArray.size_extract, Nat.min_self] at qz331))
                have p332 : 0 ≤ (x6_1 : Int) := of_decide_eq_true (by first | (with_reducible assumption) | assumption)
                have q332 : x6_1 < (l0.length : Int) := of_decide_eq_true (by first | (with_reducible assumption) | assumption)
                obtain ⟨ad332, e332, hx332_0, hx332_1, hx332_2, hx332_3⟩ := at_T39 HR0.out x6_1 p332 q332
                obtain rfl : ad328 = ad332 := (by injection e332)
                replace p332 := eq_true p332
                replace q332 := eq_true q332
                (try (have qz332 := q332; rw [ByteArray.size_extract, Nat.min_self] at qz332))
                go_wp2
                go_roundg k1
                case measure => have := HK1.out; omega
                case rel => exact ⟨(x5_1), (wrap64 (x6_1 + 1)), (by first | rfl | (simp; done) | (simp [*]; done)), (by first | rfl | (simp; done) | (simp [*]; done)), H', ⟨by have := HK1.out; omega⟩, by repeat (first | exact Drawn0.refl _ | apply Drawn0.step)⟩
            · rw [if_neg c7] at H
              have c7b0 : (((rd_T39 l0 x6_1).f1).toList == ([114, 97, 105, 115, 101] : List UInt8)) = false := beq_eq_false_iff_ne.mpr c7
              have c7b1 : (((rd_T39 l0 x6_1).f1).toList != ([114, 97, 105, 115, 101] : List UInt8)) = true := bne_iff_ne.mpr c7
              have H' := Aside0.mk H
              clear H
              have p328 : 0 ≤ (x6_1 : Int) := of_decide_eq_true (by first | (with_reducible assumption) | assumption)
              have q328 : x6_1 < (l0.length : Int) := of_decide_eq_true (by first | (with_reducible assumption) | assumption)
              obtain ⟨ad328, e328, hx328_0, hx328_1, hx328_2, hx328_3⟩ := at_T39 HR0.out x6_1 p328 q328
              cases e328
              replace p328 := eq_true p328
              replace q328 := eq_true q328
              (try (have qz328 := q328; rw [ByteArray.size_extract, Nat.min_self] at qz328))
              have p331 : 0 ≤ (x6_1 : Int) := of_decide_eq_true (by first | (with_reducible assumption) | assumption)
              have q331 : x6_1 < (l0.length : Int) := of_decide_eq_true (by first | (with_reducible assumption) | assumption)
              obtain ⟨ad331, e331, hx331_0, hx331_1, hx331_2, hx331_3⟩ := at_T39 HR0.out x6_1 p331 q331
              obtain rfl : ad328 = ad331 := (by injection e331)
              replace p331 := eq_true p331
              replace q331 := eq_true q331
              (try (have qz331 := q331; rw [ByteArray.size_extract, Nat.min_self] at qz331))
              go_wp2
              go_roundg k1
              case measure => have := HK1.out; omega
              case rel => exact ⟨(x5_1), (wrap64 (x6_1 + 1)), (by first | rfl | (simp; done) | (simp [*]; done)), (by first | rfl | (simp; done) | (simp [*]; done)), H', ⟨by have := HK1.out; omega⟩, by repeat (first | exact Drawn0.refl _ | apply Drawn0.step)⟩
        · rw [if_neg c4] at H
          exact absurd H (by simp)
      · rw [if_neg c3] at H
        have c3b0 : decide (x6_1 < (l0.length : Int)) = false := decide_eq_false c3
        clear c3
        obtain rfl := Option.some.inj H
        go_wp2
        go_ret
        exact ⟨by first | rfl | (simp; done) | (simp [*]; done), by repeat (first | exact Drawn0.refl _ | apply Drawn0.step)⟩
end Go.Proofs.Ytngmcigkihfnkaa.H
end
section
namespace Go.Proofs.Ytngmcigkihfnkaa.H
open Go.RowKit Go.Proofs.YtngmcigkihfnkaaW.PrintWords Go.Proofs.YtngmcigkihfnkaaW.PrintLast Go.Proofs.YtngmcigkihfnkaaW.PrintMore
set_option linter.unusedVariables false
set_option linter.unusedSimpArgs false
def e39 (x : S39) : EvT := ⟨x.f0, x.f1, x.f2, x.f3⟩
theorem rd37_at {l : List S37} (i : Nat) (h : i < l.length) : rd_T37 l (i : Int) = l[i] := by
  unfold rd_T37; simp [List.getD_eq_getElem?_getD, h]
theorem rd39_at {l : List S39} (i : Nat) (h : i < l.length) : rd_T39 l (i : Int) = l[i] := by
  unfold rd_T39; simp [List.getD_eq_getElem?_getD, h]
theorem given_l0 (l : List S39) (hl : l.length ≤ 1000000) : ∀ (d i : Nat) (acc : List S37), i + d = l.length → acc.length = i → Ev (fun k => triremelaw32_given.l0 k l acc (i : Int)) (acc ++ (l.drop i).map (fun x => s37 (e39 x))) := by
  intro d
  induction d with
  | zero =>
    intro i acc h ha
    refine Ev.step (fun k => by rw [triremelaw32_given.l0]) ?_
    rw [List.drop_eq_nil_of_le (by omega), List.map_nil, List.append_nil]
    simp only [show ¬ ((i : Int) < (l.length : Int)) by omega, if_false]
    exact Ev.now _
  | succ d ih =>
    intro i acc h ha
    have h5 : i < l.length := by omega
    refine Ev.step (fun k => by rw [triremelaw32_given.l0]) ?_
    rw [List.drop_eq_getElem_cons h5, rd39_at i h5, wrap_small (i := (i : Int) + 1) (by omega) (by omega)]
    simp only [show (i : Int) < (l.length : Int) by omega, show (0 : Int) ≤ (i : Int) by omega, show acc.length < 2932031007402 by omega, if_true]
    have := ih (i + 1) (acc ++ [s37 (e39 l[i])]) (by omega) (by simp [ha])
    rw [List.append_assoc] at this
    exact this
theorem given_ev (l : List S39) (hl : l.length ≤ 1000000) : Ev (fun k => triremelaw32_given.f k l) ((l.map e39).map s37) := by
  have := given_l0 l hl l.length 0 [] (by omega) rfl
  rw [List.drop_zero, List.nil_append] at this
  rw [List.map_map]
  exact this
def lightR (l : List EvT) : Bool := decide (l.length ≤ 60) && l.all (fun e => decide (e.what.size ≤ 100) && decide (e.name.size ≤ 300))
theorem light_l0 (l : List S39) (hl : l.length ≤ 60) : ∀ (d i : Nat), i + d = l.length → Ev (fun k => triremelaw32_light.l0 k l (i : Int)) (((l.drop i).map e39).all (fun e => decide (e.what.size ≤ 100) && decide (e.name.size ≤ 300))) := by
  intro d
  induction d with
  | zero =>
    intro i h
    refine Ev.step (fun k => by rw [triremelaw32_light.l0]) ?_
    rw [List.drop_eq_nil_of_le (by omega)]
    simp only [show ¬ ((i : Int) < (l.length : Int)) by omega, if_false, List.map_nil, List.all_nil]
    exact Ev.now _
  | succ d ih =>
    intro i h
    have h5 : i < l.length := by omega
    refine Ev.step (fun k => by rw [triremelaw32_light.l0]) ?_
    rw [List.drop_eq_getElem_cons h5, rd39_at i h5, wrap_small (i := (i : Int) + 1) (by omega) (by omega), List.map_cons, List.all_cons]
    simp only [show (i : Int) < (l.length : Int) by omega, show (0 : Int) ≤ (i : Int) by omega, if_true]
    refine ev_if (fun h6 => ?_) (fun h6 => ?_)
    · rw [show decide ((e39 l[i]).what.size ≤ 100) = false from decide_eq_false (by show ¬ l[i].f1.size ≤ 100; omega), Bool.false_and, Bool.false_and]; exact Ev.now _
    · rw [show decide ((e39 l[i]).what.size ≤ 100) = true from decide_eq_true (by show l[i].f1.size ≤ 100; omega), Bool.true_and]
      refine ev_if (fun h7 => ?_) (fun h7 => ?_)
      · rw [show decide ((e39 l[i]).name.size ≤ 300) = false from decide_eq_false (by show ¬ l[i].f2.size ≤ 300; omega), Bool.false_and]; exact Ev.now _
      · rw [show decide ((e39 l[i]).name.size ≤ 300) = true from decide_eq_true (by show l[i].f2.size ≤ 300; omega), Bool.true_and]
        exact ih (i + 1) (by omega)
theorem light_ev (l : List S39) : Ev (fun k => triremelaw32_light.f k l) (lightR (l.map e39)) := by
  unfold triremelaw32_light.f lightR
  rw [List.length_map]
  refine ev_if (fun h => ?_) (fun h => ?_)
  · rw [decide_eq_false (by omega), Bool.false_and]; exact Ev.now _
  · rw [decide_eq_true (by omega), Bool.true_and]
    have := light_l0 l (by omega) l.length 0 (by omega)
    rw [List.drop_zero] at this
    exact this
theorem light_use {l : List EvT} (h : lightR l = true) : l.length ≤ 60 ∧ ∀ e ∈ l, e.what.size ≤ 100 ∧ e.name.size ≤ 300 := by
  unfold lightR at h
  simp only [Bool.and_eq_true, decide_eq_true_eq, List.all_eq_true] at h
  exact h
def showA : ByteArray → List EvT → ByteArray
  | acc, [] => acc
  | acc, e :: l => if rightR e = true then showA (acc ++ (lineR e ++ (⟨#[10]⟩ : ByteArray))) l else showA acc l
theorem line_size (e : EvT) (hw : e.what.size ≤ 100) (hn : e.name.size ≤ 300) : (lineR e).size ≤ 500 := by
  have s1 := decB_size e.now
  have s2 := decB_size e.n
  have e1 : (⟨#[58, 32]⟩ : ByteArray).size = 2 := rfl
  have e2 : (⟨#[32]⟩ : ByteArray).size = 1 := rfl
  unfold lineR
  simp only
  by_cases c1 : e.name = ⟨#[]⟩ <;> by_cases c2 : 0 < e.n <;> simp only [c1, c2, if_true, if_false, ByteArray.size_append] <;> omega
theorem show_l0 (l : List EvT) (hl : l.length ≤ 60) (hle : ∀ e ∈ l, e.what.size ≤ 100 ∧ e.name.size ≤ 300 ∧ (rightR e = true → 0 ≤ e.n)) : ∀ (d i : Nat) (acc : ByteArray), i + d = l.length → acc.size ≤ 1000 * i →
    Ev (fun k => trace_Show.l0 k acc (l.map s37) (l.length : Int) (i : Int)) (showA acc (l.drop i)) := by
  intro d
  induction d with
  | zero =>
    intro i acc h ha
    refine Ev.step (fun k => by rw [trace_Show.l0]) ?_
    rw [List.drop_eq_nil_of_le (by omega)]
    simp only [show ¬ ((i : Int) < (l.length : Int)) by omega, if_false, showA]
    exact Ev.now _
  | succ d ih =>
    intro i acc h ha
    have h5 : i < l.length := by omega
    have h6 : i < (l.map s37).length := by simpa using h5
    refine Ev.step (fun k => by rw [trace_Show.l0]) ?_
    have hm := hle l[i] (List.getElem_mem h5)
    have hz := line_size l[i] hm.1 hm.2.1
    rw [List.drop_eq_getElem_cons h5, rd37_at i h6, wrap_small (i := (i : Int) + 1) (by omega) (by omega), List.getElem_map]
    simp only [show (i : Int) < (l.length : Int) by omega, show (0 : Int) ≤ (i : Int) by omega, List.length_map, if_true, showA]
    have hr := right_ev (s37 l[i]).f0 (s37 l[i]).f1 (s37 l[i]).f2 (s37 l[i]).f3 (by show l[i].name.size ≤ _; omega)
    refine Ev.bind hr ?_
    have he : (⟨(s37 l[i]).f0, (s37 l[i]).f1, (s37 l[i]).f2, (s37 l[i]).f3⟩ : EvT) = l[i] := rfl
    rw [he]
    cases hb : rightR l[i] with
    | false =>
      simp only [Bool.false_eq_true, if_false]
      exact ih (i + 1) acc (by omega) (by omega)
    | true =>
      obtain ⟨⟨a1, a2⟩, _, a3⟩ := right_parts _ hb
      have hn2 : l[i].n ≤ 1099511627776 := by omega
      have hf := line_f l[i] a1 a2 hn2 (by omega) (by omega)
      rw [show trace_Event_line.f (s37 l[i]).f0 (s37 l[i]).f1 (s37 l[i]).f2 (s37 l[i]).f3 = some (lineR l[i]) from hf]
      simp only [if_true, Option.bind_some]
      have e1 : (⟨#[10]⟩ : ByteArray).size = 1 := rfl
      refine ev_if (fun _ => ?_) (fun h => absurd (by omega) h)
      refine ev_if (fun _ => ?_) (fun h => absurd (by rw [ByteArray.size_append]; omega) h)
      exact ih (i + 1) _ (by omega) (by simp only [ByteArray.size_append]; omega)
theorem show_ev (l : List EvT) (h : lightR l = true) : Ev (fun k => trace_Show.f k (l.map s37)) (showA ⟨#[]⟩ l) := by
  obtain ⟨h1, h2⟩ := light_use h
  have := show_l0 l h1 (fun e he => ⟨(h2 e he).1, (h2 e he).2, fun hr => by obtain ⟨_, _, a3⟩ := right_parts _ hr; omega⟩) l.length 0 ⟨#[]⟩ (by omega) (by decide)
  rw [List.drop_zero] at this
  unfold trace_Show.f
  rw [List.length_map]
  exact this
theorem refShow_l0 (l : List S39) (hl : l.length ≤ 60) (hle : ∀ e ∈ l.map e39, e.what.size ≤ 100 ∧ e.name.size ≤ 300) : ∀ (d i : Nat) (acc : ByteArray), i + d = l.length → acc.size ≤ 1000 * i →
    Ev (fun k => triremeref32_Show.l0 k l acc (i : Int)) (showA acc ((l.drop i).map e39)) := by
  intro d
  induction d with
  | zero =>
    intro i acc h ha
    refine Ev.step (fun k => by rw [triremeref32_Show.l0]) ?_
    rw [List.drop_eq_nil_of_le (by omega)]
    simp only [show ¬ ((i : Int) < (l.length : Int)) by omega, if_false, showA, List.map_nil]
    exact Ev.now _
  | succ d ih =>
    intro i acc h ha
    have h5 : i < l.length := by omega
    refine Ev.step (fun k => by rw [triremeref32_Show.l0]) ?_
    have hm := hle (e39 l[i]) (List.mem_map.2 ⟨_, List.getElem_mem h5, rfl⟩)
    have hz := line_size (e39 l[i]) hm.1 hm.2
    rw [List.drop_eq_getElem_cons h5, rd39_at i h5, wrap_small (i := (i : Int) + 1) (by omega) (by omega), List.map_cons]
    simp only [show (i : Int) < (l.length : Int) by omega, show (0 : Int) ≤ (i : Int) by omega, if_true, showA]
    have hr := refRight_ev l[i].f0 l[i].f1 l[i].f2 l[i].f3 (by have := hm.2; show l[i].f2.size ≤ _; exact Nat.le_trans this (by decide))
    refine Ev.bind hr ?_
    have he : (⟨l[i].f0, l[i].f1, l[i].f2, l[i].f3⟩ : EvT) = e39 l[i] := rfl
    rw [he]
    cases hb : rightR (e39 l[i]) with
    | false =>
      simp only [Bool.false_eq_true, if_false]
      exact ih (i + 1) acc (by omega) (by omega)
    | true =>
      obtain ⟨⟨a1, a2⟩, _, a3⟩ := right_parts _ hb
      have hn2 : (e39 l[i]).n ≤ 1099511627776 := by omega
      have hf := refLine_ev (e39 l[i]) a1 a2 hn2 (by omega) (by omega)
      simp only [if_true]
      have e1 : (⟨#[10]⟩ : ByteArray).size = 1 := rfl
      refine Ev.bind hf ?_
      refine ev_if (fun _ => ?_) (fun h => absurd (by omega) h)
      refine ev_if (fun _ => ?_) (fun h => absurd (by rw [ByteArray.size_append]; omega) h)
      have := ih (i + 1) (acc ++ (lineR (e39 l[i]) ++ (⟨#[10]⟩ : ByteArray))) (by omega) (by simp only [ByteArray.size_append]; omega)
      rw [app_assoc] at this ⊢
      exact this
theorem refShow_ev (l : List S39) (h : lightR (l.map e39) = true) : Ev (fun k => triremeref32_Show.f k l) (showA ⟨#[]⟩ (l.map e39)) := by
  obtain ⟨h1, h2⟩ := light_use h
  rw [List.length_map] at h1
  have := refShow_l0 l h1 h2 l.length 0 ⟨#[]⟩ (by omega) (by decide)
  rw [List.drop_zero] at this
  exact this
def callB (e : EvT) : Bool := memB e.what k1L || memB e.what [⟨#[99, 108, 101, 97, 110]⟩, ⟨#[100, 101, 108, 101, 116, 101]⟩]
def callsA : Int → List EvT → Int
  | n, [] => n
  | n, e :: l => if callB e = true then callsA (n + 1) l else callsA n l
theorem calls_l0 (l : List EvT) (hl : l.length ≤ 60) : ∀ (d i : Nat) (n : Int), i + d = l.length → 0 ≤ n → n ≤ i →
    Ev (fun k => trace_Calls.l0 k n (l.map s37) (l.length : Int) (i : Int)) (callsA n (l.drop i)) := by
  intro d
  induction d with
  | zero =>
    intro i n h h0 h1
    refine Ev.step (fun k => by rw [trace_Calls.l0]) ?_
    rw [List.drop_eq_nil_of_le (by omega)]
    simp only [show ¬ ((i : Int) < (l.length : Int)) by omega, if_false, callsA]
    exact Ev.now _
  | succ d ih =>
    intro i n h h0 h1
    have h5 : i < l.length := by omega
    have h6 : i < (l.map s37).length := by simpa using h5
    refine Ev.step (fun k => by rw [trace_Calls.l0]) ?_
    rw [List.drop_eq_getElem_cons h5, rd37_at i h6, wrap_small (i := (i : Int) + 1) (by omega) (by omega), wrap_small (i := n + 1) (by omega) (by omega), List.getElem_map]
    simp only [show (i : Int) < (l.length : Int) by omega, show (0 : Int) ≤ (i : Int) by omega, List.length_map, if_true, callsA]
    refine Ev.bind (counts_ev _ _ _ _) ?_
    unfold callB
    rw [show (s37 l[i]).f1 = l[i].what from rfl]
    cases hb : memB l[i].what k1L with
    | true =>
      simp only [if_true, Bool.true_or]
      exact ih (i + 1) (n + 1) (by omega) (by omega) (by omega)
    | false =>
      simp only [Bool.false_eq_true, if_false, Bool.false_or]
      refine Ev.bind (among_ev l[i].what [⟨#[99, 108, 101, 97, 110]⟩, ⟨#[100, 101, 108, 101, 116, 101]⟩] (by decide)) ?_
      refine ev_if (fun h => ?_) (fun h => ?_)
      · rw [if_pos h]; exact ih (i + 1) (n + 1) (by omega) (by omega) (by omega)
      · rw [if_neg h]; exact ih (i + 1) n (by omega) (by omega) (by omega)
theorem calls_ev (l : List EvT) (hl : l.length ≤ 60) : Ev (fun k => trace_Calls.f k (l.map s37)) (callsA 0 l) := by
  have := calls_l0 l hl l.length 0 0 (by omega) (by omega) (by omega)
  rw [List.drop_zero] at this
  unfold trace_Calls.f
  rw [List.length_map]
  exact this
theorem memB_two (s a b : ByteArray) : memB s [a, b] = (decide (s = a) || decide (s = b)) := by
  unfold memB
  simp [eq_comm]
theorem kind1 (what : ByteArray) : (kindI what = 1) ↔ memB what k1L = true := by
  unfold kindI
  cases memB what k1L with
  | true => simp
  | false => cases memB what k2L <;> cases memB what k3L <;> simp
theorem refCalls_l0 (l : List S39) (hl : l.length ≤ 60) : ∀ (d i : Nat) (n : Int), i + d = l.length → 0 ≤ n → n ≤ i →
    Ev (fun k => triremeref32_Calls.l0 k l n (i : Int)) (callsA n ((l.drop i).map e39)) := by
  intro d
  induction d with
  | zero =>
    intro i n h h0 h1
    refine Ev.step (fun k => by rw [triremeref32_Calls.l0]) ?_
    rw [List.drop_eq_nil_of_le (by omega)]
    simp only [show ¬ ((i : Int) < (l.length : Int)) by omega, if_false, callsA, List.map_nil]
    exact Ev.now _
  | succ d ih =>
    intro i n h h0 h1
    have h5 : i < l.length := by omega
    refine Ev.step (fun k => by rw [triremeref32_Calls.l0]) ?_
    rw [List.drop_eq_getElem_cons h5, rd39_at i h5, wrap_small (i := (i : Int) + 1) (by omega) (by omega), wrap_small (i := n + 1) (by omega) (by omega), List.map_cons]
    simp only [show (i : Int) < (l.length : Int) by omega, show (0 : Int) ≤ (i : Int) by omega, if_true, callsA]
    refine Ev.bind (kind_ev _) ?_
    unfold callB
    rw [show (e39 l[i]).what = l[i].f1 from rfl, memB_two]
    simp only [toList_iff]
    have y1 := ih (i + 1) (n + 1) (by omega) (by omega) (by omega)
    have y0 := ih (i + 1) n (by omega) (by omega) (by omega)
    refine ev_if (fun h => ?_) (fun h => ?_)
    · rw [(kind1 _).1 h]; simp only [Bool.true_or, if_true]; exact y1
    · have hk : memB l[i].f1 k1L = false := by cases hb : memB l[i].f1 k1L with
        | false => rfl
        | true => exact absurd ((kind1 _).2 hb) h
      rw [hk, Bool.false_or]
      refine ev_if (fun h2 => ?_) (fun h2 => ?_)
      · rw [decide_eq_true h2]; simp only [Bool.true_or, if_true]; exact y1
      · rw [decide_eq_false h2, Bool.false_or]
        refine ev_if (fun h3 => ?_) (fun h3 => ?_)
        · rw [decide_eq_true h3]; simp only [if_true]; exact y1
        · rw [decide_eq_false h3]; simp only [Bool.false_eq_true, if_false]; exact y0
theorem refCalls_ev (l : List S39) (hl : l.length ≤ 60) : Ev (fun k => triremeref32_Calls.f k l) (callsA 0 (l.map e39)) := by
  have := refCalls_l0 l hl l.length 0 0 (by omega) (by omega) (by omega)
  rw [List.drop_zero] at this
  exact this
def addB (g : ByteArray) (e : EvT) : Bool := decide (e.name = g) && (decide (e.what = ⟨#[117, 112]⟩) || decide (e.what = ⟨#[114, 97, 105, 115, 101]⟩))
def addA (g : ByteArray) : Int → List EvT → Int
  | n, [] => n
  | n, e :: l => if addB g e = true then addA g (wrap64 (n + e.n)) l else addA g n l
theorem bytes_iff (a b : ByteArray) : a.toList = b.toList ↔ a = b := ⟨toList_inj, fun h => by rw [h]⟩
theorem added_l0 (g : ByteArray) (l : List EvT) (hl : l.length ≤ 60) : ∀ (d i : Nat) (n : Int), i + d = l.length →
    Ev (fun k => trace_Added.l0 k g n (l.map s37) (l.length : Int) (i : Int)) (addA g n (l.drop i)) := by
  intro d
  induction d with
  | zero =>
    intro i n h
    refine Ev.step (fun k => by rw [trace_Added.l0]) ?_
    rw [List.drop_eq_nil_of_le (by omega)]
    simp only [show ¬ ((i : Int) < (l.length : Int)) by omega, if_false, addA]
    exact Ev.now _
  | succ d ih =>
    intro i n h
    have h5 : i < l.length := by omega
    have h6 : i < (l.map s37).length := by simpa using h5
    refine Ev.step (fun k => by rw [trace_Added.l0]) ?_
    rw [List.drop_eq_getElem_cons h5, rd37_at i h6, wrap_small (i := (i : Int) + 1) (by omega) (by omega), List.getElem_map]
    simp only [show (i : Int) < (l.length : Int) by omega, show (0 : Int) ≤ (i : Int) by omega, List.length_map, if_true, addA, bytes_iff]
    unfold addB
    rw [show (s37 l[i]).f2 = l[i].name from rfl, show (s37 l[i]).f1 = l[i].what from rfl, show (s37 l[i]).f3 = l[i].n from rfl]
    refine ev_if (fun h => ?_) (fun h => ?_)
    · rw [decide_eq_true h, Bool.true_and]
      have ha := among_ev l[i].what [⟨#[117, 112]⟩, ⟨#[114, 97, 105, 115, 101]⟩] (by decide)
      rw [memB_two] at ha
      refine Ev.bind ha ?_
      refine ev_if (fun h2 => ?_) (fun h2 => ?_)
      · rw [if_pos h2]; exact ih (i + 1) _ (by omega)
      · rw [if_neg h2]; exact ih (i + 1) _ (by omega)
    · rw [decide_eq_false h, Bool.false_and]
      simp only [Bool.false_eq_true, if_false]
      exact ih (i + 1) _ (by omega)
theorem added_ev (g : ByteArray) (l : List EvT) (hl : l.length ≤ 60) : Ev (fun k => trace_Added.f k (l.map s37) g) (addA g 0 l) := by
  have := added_l0 g l hl l.length 0 0 (by omega)
  rw [List.drop_zero] at this
  unfold trace_Added.f
  rw [List.length_map]
  exact this
theorem refAdded_l0 (g : ByteArray) (l : List S39) (hl : l.length ≤ 60) : ∀ (d i : Nat) (n : Int), i + d = l.length →
    Ev (fun k => triremeref32_Added.l0 k l g n (i : Int)) (addA g n ((l.drop i).map e39)) := by
  intro d
  induction d with
  | zero =>
    intro i n h
    refine Ev.step (fun k => by rw [triremeref32_Added.l0]) ?_
    rw [List.drop_eq_nil_of_le (by omega)]
    simp only [show ¬ ((i : Int) < (l.length : Int)) by omega, if_false, addA, List.map_nil]
    exact Ev.now _
  | succ d ih =>
    intro i n h
    have h5 : i < l.length := by omega
    refine Ev.step (fun k => by rw [triremeref32_Added.l0]) ?_
    rw [List.drop_eq_getElem_cons h5, rd39_at i h5, wrap_small (i := (i : Int) + 1) (by omega) (by omega), List.map_cons]
    simp only [show (i : Int) < (l.length : Int) by omega, show (0 : Int) ≤ (i : Int) by omega, if_true, addA, bytes_iff]
    simp only [toList_iff]
    unfold addB
    rw [show (e39 l[i]).name = l[i].f2 from rfl, show (e39 l[i]).what = l[i].f1 from rfl, show (e39 l[i]).n = l[i].f3 from rfl]
    have y1 := ih (i + 1) (wrap64 (n + l[i].f3)) (by omega)
    have y0 := ih (i + 1) n (by omega)
    refine ev_if (fun h => ?_) (fun h => ?_)
    · rw [decide_eq_true h, Bool.true_or, Bool.and_true]
      refine ev_if (fun h2 => ?_) (fun h2 => ?_)
      · rw [decide_eq_true h2]; simp only [if_true]; exact y1
      · rw [decide_eq_false h2]; simp only [Bool.false_eq_true, if_false]; exact y0
    · rw [decide_eq_false h, Bool.false_or]
      refine ev_if (fun h2 => ?_) (fun h2 => ?_)
      · rw [decide_eq_true h2, Bool.and_true]
        refine ev_if (fun h3 => ?_) (fun h3 => ?_)
        · rw [decide_eq_true h3]; simp only [if_true]; exact y1
        · rw [decide_eq_false h3]; simp only [Bool.false_eq_true, if_false]; exact y0
      · rw [decide_eq_false h2, Bool.and_false]; simp only [Bool.false_eq_true, if_false]; exact y0
theorem refAdded_ev (g : ByteArray) (l : List S39) (hl : l.length ≤ 60) : Ev (fun k => triremeref32_Added.f k l g) (addA g 0 (l.map e39)) := by
  have := refAdded_l0 g l hl l.length 0 0 (by omega)
  rw [List.drop_zero] at this
  exact this
end Go.Proofs.Ytngmcigkihfnkaa.H
end
section
namespace Go.Proofs.Ytngmcigkihfnkaa.H
open Go.RowKit Go.Proofs.YtngmcigkihfnkaaW.PrintWords Go.Proofs.YtngmcigkihfnkaaW.PrintLast Go.Proofs.YtngmcigkihfnkaaW.PrintMore
attribute [local go_sem] max2_int min2_int max_two min_two max_three min_three max_four min_four   -- for this text's walks alone
set_option linter.unusedVariables false
set_option linter.unusedSimpArgs false
def triremeref32_state.l0 : Nat → List (S39) → Int → ByteArray → Int → Int → Option (Int)
  | 0, _, _, _, _, _ => none
  | k + 1, x0, x1, x2, x7, x8 => if x8 < x1 then (if 0 ≤ x8 then (if x8 < (x0.length : Int) then (if ((rd_T39 x0 x8).f2).toList = x2.toList then (if ((rd_T39 x0 x8).f1).toList = ([100, 111, 119, 110] : List UInt8) then (triremeref32_state.l0 k x0 x1 x2 1 (wrap64 (x8 + 1))) else (if ((rd_T39 x0 x8).f1).toList = ([100, 101, 108, 101, 116, 101] : List UInt8) then (triremeref32_state.l0 k x0 x1 x2 2 (wrap64 (x8 + 1))) else (if ((rd_T39 x0 x8).f1).toList = ([107, 101, 101, 112] : List UInt8) then (triremeref32_state.l0 k x0 x1 x2 0 (wrap64 (x8 + 1))) else (if ((rd_T39 x0 x8).f1).toList = ([115, 116, 111, 112] : List UInt8) then (triremeref32_state.l0 k x0 x1 x2 0 (wrap64 (x8 + 1))) else (if ((rd_T39 x0 x8).f1).toList = ([103, 111, 110, 101] : List UInt8) then (triremeref32_state.l0 k x0 x1 x2 0 (wrap64 (x8 + 1))) else (triremeref32_state.l0 k x0 x1 x2 x7 (wrap64 (x8 + 1)))))))) else (triremeref32_state.l0 k x0 x1 x2 x7 (wrap64 (x8 + 1)))) else (none)) else (none)) else (some x7)
def triremeref32_state.f (k : Nat) (l0 : List (S39)) (a1 : Int) (a2 : ByteArray) : Option (Int) := triremeref32_state.l0 k l0 a1 a2 0 0
set_option maxHeartbeats 8000000 in
set_option maxRecDepth 100000 in
theorem triremeref32_state.calls (k : Nat) (A0 : Option Addr) (c0 : Nat) (l0 : List (S39)) (a1 : Int) (a2 : ByteArray) (r : Int) (w : World) (hr0 : Kd.C k39 w A0 l0.length l0) (hc0 : l0.length ≤ c0) (h : triremeref32_state.f k l0 a1 a2 = some r) :
    Calls Try.prog 37 #[.slice A0 l0.length c0, .int .i64 a1, .string a2] w fun e w' => e = .returned (.int .i64 r) ∧ Drawn0 w w' := by
  have HR0 := Aside0.mk hr0
  have HC0 := Aside0.mk hc0
  clear hr0 hc0
  have H : (triremeref32_state.l0 k l0 a1 a2 0 0) = some r := h
  clear h
  have H' := Aside0.mk H
  clear H
  go_enter Try.func37, Try.ntmps37
  go_wp2
  go_loopg [7, 8] k (fun kq v7 v8 w' => ∃ (x7_1 : Int) (x8_1 : Int), v7 = .int .i64 x7_1 ∧ v8 = .int .i64 x8_1 ∧ Aside0 (triremeref32_state.l0 kq l0 a1 a2 x7_1 x8_1 = some r) ∧ Aside0 (kq ≤ k) ∧ Drawn0 w w')
  case atStart => exact ⟨(0), (0), (by first | rfl | (simp; done) | (simp [*]; done)), (by first | rfl | (simp; done) | (simp [*]; done)), H', ⟨Nat.le_refl _⟩, by repeat (first | exact Drawn0.refl _ | apply Drawn0.step)⟩
  case round =>
    clear H'
    try clear p2
    try clear c3
    obtain ⟨x7_1, x8_1, rfl, rfl, HA, HK1, ⟨m1, rfl⟩⟩ := hrel
    cases gk with
    | zero => exact absurd HA.out (by simp [triremeref32_state.l0])
    | succ k1 =>
      have H := HA.out
      clear HA
      simp only [triremeref32_state.l0] at H
      by_cases c4 : x8_1 < a1
      · rw [if_pos c4] at H
        have c4b0 : decide (x8_1 < a1) = true := decide_eq_true c4
        clear c4
        by_cases c5 : 0 ≤ x8_1
        · rw [if_pos c5] at H
          have c5b0 : decide (0 ≤ x8_1) = true := decide_eq_true c5
          clear c5
          by_cases c6 : x8_1 < (l0.length : Int)
          · rw [if_pos c6] at H
            have c6b0 : decide (x8_1 < (l0.length : Int)) = true := decide_eq_true c6
            clear c6
            by_cases c7 : ((rd_T39 l0 x8_1).f2).toList = a2.toList
            · rw [if_pos c7] at H
              have c7b0 : (((rd_T39 l0 x8_1).f2).toList == a2.toList) = true := beq_iff_eq.mpr c7
              have c7b1 : (((rd_T39 l0 x8_1).f2).toList != a2.toList) = false := bne_eq_false_iff_eq.mpr c7
              clear c7
              by_cases c8 : ((rd_T39 l0 x8_1).f1).toList = ([100, 111, 119, 110] : List UInt8)
              · rw [if_pos c8] at H
                have c8b0 : (((rd_T39 l0 x8_1).f1).toList == ([100, 111, 119, 110] : List UInt8)) = true := beq_iff_eq.mpr c8
                have c8b1 : (((rd_T39 l0 x8_1).f1).toList != ([100, 111, 119, 110] : List UInt8)) = false := bne_eq_false_iff_eq.mpr c8
                clear c8
                have H' := Aside0.mk H
                clear H
                have p326 : 0 ≤ (x8_1 : Int) := of_decide_eq_true (by first | (with_reducible assumption) | assumption)
                have q326 : x8_1 < (l0.length : Int) := of_decide_eq_true (by first | (with_reducible assumption) | assumption)
                obtain ⟨ad326, e326, hx326_0, hx326_1, hx326_2, hx326_3⟩ := at_T39 HR0.out x8_1 p326 q326
                cases e326
                replace p326 := eq_true p326
                replace q326 := eq_true q326
                (try (have qz326 := q326; rw [ByteArray.size_extract, Nat.min_self] at qz326))
                have p327 : 0 ≤ (x8_1 : Int) := of_decide_eq_true (by first | (with_reducible assumption) | assumption)
                have q327 : x8_1 < (l0.length : Int) := of_decide_eq_true (by first | (with_reducible assumption) | assumption)
                obtain ⟨ad327, e327, hx327_0, hx327_1, hx327_2, hx327_3⟩ := at_T39 HR0.out x8_1 p327 q327
                obtain rfl : ad326 = ad327 := (by injection e327)
                replace p327 := eq_true p327
                replace q327 := eq_true q327
                (try (have qz327 := q327; rw [ByteArray.size_extract, Nat.min_self] at qz327))
                go_wp2
                go_roundg k1
                case measure => have := HK1.out; omega
                case rel => exact ⟨(1), (wrap64 (x8_1 + 1)), (by first | rfl | (simp; done) | (simp [*]; done)), (by first | rfl | (simp; done) | (simp [*]; done)), H', ⟨by have := HK1.out; omega⟩, by repeat (first | exact Drawn0.refl _ | apply Drawn0.step)⟩
              · rw [if_neg c8] at H
                have c8b0 : (((rd_T39 l0 x8_1).f1).toList == ([100, 111, 119, 110] : List UInt8)) = false := beq_eq_false_iff_ne.mpr c8
                have c8b1 : (((rd_T39 l0 x8_1).f1).toList != ([100, 111, 119, 110] : List UInt8)) = true := bne_iff_ne.mpr c8
                by_cases c9 : ((rd_T39 l0 x8_1).f1).toList = ([100, 101, 108, 101, 116, 101] : List UInt8)
                · rw [if_pos c9] at H
                  have c9b0 : (((rd_T39 l0 x8_1).f1).toList == ([100, 101, 108, 101, 116, 101] : List UInt8)) = true := beq_iff_eq.mpr c9
                  have c9b1 : (((rd_T39 l0 x8_1).f1).toList != ([100, 101, 108, 101, 116, 101] : List UInt8)) = false := bne_eq_false_iff_eq.mpr c9
                  clear c9
                  have H' := Aside0.mk H
                  clear H
                  have p326 : 0 ≤ (x8_1 : Int) := of_decide_eq_true (by first | (with_reducible assumption) | assumption)
                  have q326 : x8_1 < (l0.length : Int) := of_decide_eq_true (by first | (with_reducible assumption) | assumption)
                  obtain ⟨ad326, e326, hx326_0, hx326_1, hx326_2, hx326_3⟩ := at_T39 HR0.out x8_1 p326 q326
                  cases e326
                  replace p326 := eq_true p326
                  replace q326 := eq_true q326
                  (try (have qz326 := q326; rw [ByteArray.size_extract, Nat.min_self] at qz326))
                  have p327 : 0 ≤ (x8_1 : Int) := of_decide_eq_true (by first | (with_reducible assumption) | assumption)
                  have q327 : x8_1 < (l0.length : Int) := of_decide_eq_true (by first | (with_reducible assumption) | assumption)
                  obtain ⟨ad327, e327, hx327_0, hx327_1, hx327_2, hx327_3⟩ := at_T39 HR0.out x8_1 p327 q327
                  obtain rfl : ad326 = ad327 := (by injection e327)
                  replace p327 := eq_true p327
                  replace q327 := eq_true q327
                  (try (have qz327 := q327; rw [ByteArray.size_extract, Nat.min_self] at qz327))
                  go_wp2
                  go_roundg k1
                  case measure => have := HK1.out; omega
                  case rel => exact ⟨(2), (wrap64 (x8_1 + 1)), (by first | rfl | (simp; done) | (simp [*]; done)), (by first | rfl | (simp; done) | (simp [*]; done)), H', ⟨by have := HK1.out; omega⟩, by repeat (first | exact Drawn0.refl _ | apply Drawn0.step)⟩
                · rw [if_neg c9] at H
                  have c9b0 : (((rd_T39 l0 x8_1).f1).toList == ([100, 101, 108, 101, 116, 101] : List UInt8)) = false := beq_eq_false_iff_ne.mpr c9
                  have c9b1 : (((rd_T39 l0 x8_1).f1).toList != ([100, 101, 108, 101, 116, 101] : List UInt8)) = true := bne_iff_ne.mpr c9
                  by_cases c10 : ((rd_T39 l0 x8_1).f1).toList = ([107, 101, 101, 112] : List UInt8)
                  · rw [if_pos c10] at H
                    have c10b0 : (((rd_T39 l0 x8_1).f1).toList == ([107, 101, 101, 112] : List UInt8)) = true := beq_iff_eq.mpr c10
                    have c10b1 : (((rd_T39 l0 x8_1).f1).toList != ([107, 101, 101, 112] : List UInt8)) = false := bne_eq_false_iff_eq.mpr c10
                    clear c10
                    have H' := Aside0.mk H
                    clear H
                    have p326 : 0 ≤ (x8_1 : Int) := of_decide_eq_true (by first | (with_reducible assumption) | assumption)
                    have q326 : x8_1 < (l0.length : Int) := of_decide_eq_true (by first | (with_reducible assumption) | assumption)
                    obtain ⟨ad326, e326, hx326_0, hx326_1, hx326_2, hx326_3⟩ := at_T39 HR0.out x8_1 p326 q326
                    cases e326
                    replace p326 := eq_true p326
                    replace q326 := eq_true q326
                    (try (have qz326 := q326; rw [ByteArray.size_extract, Nat.min_self] at qz326))
                    have p327 : 0 ≤ (x8_1 : Int) := of_decide_eq_true (by first | (with_reducible assumption) | assumption)
                    have q327 : x8_1 < (l0.length : Int) := of_decide_eq_true (by first | (with_reducible assumption) | assumption)
                    obtain ⟨ad327, e327, hx327_0, hx327_1, hx327_2, hx327_3⟩ := at_T39 HR0.out x8_1 p327 q327
                    obtain rfl : ad326 = ad327 := (by injection e327)
                    replace p327 := eq_true p327
                    replace q327 := eq_true q327
                    (try (have qz327 := q327; rw [ByteArray.size_extract, Nat.min_self] at qz327))
                    go_wp2
                    go_roundg k1
                    case measure => have := HK1.out; omega
                    case rel => exact ⟨(0), (wrap64 (x8_1 + 1)), (by first | rfl | (simp; done) | (simp [*]; done)), (by first | rfl | (simp; done) | (simp [*]; done)), H', ⟨by have := HK1.out; omega⟩, by repeat (first | exact Drawn0.refl _ | apply Drawn0.step)⟩
                  · rw [if_neg c10] at H
                    have c10b0 : (((rd_T39 l0 x8_1).f1).toList == ([107, 101, 101, 112] : List UInt8)) = false := beq_eq_false_iff_ne.mpr c10
                    have c10b1 : (((rd_T39 l0 x8_1).f1).toList != ([107, 101, 101, 112] : List UInt8)) = true := bne_iff_ne.mpr c10
                    by_cases c11 : ((rd_T39 l0 x8_1).f1).toList = ([115, 116, 111, 112] : List UInt8)
                    · rw [if_pos c11] at H
                      have c11b0 : (((rd_T39 l0 x8_1).f1).toList == ([115, 116, 111, 112] : List UInt8)) = true := beq_iff_eq.mpr c11
                      have c11b1 : (((rd_T39 l0 x8_1).f1).toList != ([115, 116, 111, 112] : List UInt8)) = false := bne_eq_false_iff_eq.mpr c11
                      clear c11
                      have H' := Aside0.mk H
                      clear H
                      have p326 : 0 ≤ (x8_1 : Int) := of_decide_eq_true (by first | (with_reducible assumption) | assumption)
                      have q326 : x8_1 < (l0.length : Int) := of_decide_eq_true (by first | (with_reducible assumption) | assumption)
                      obtain ⟨ad326, e326, hx326_0, hx326_1, hx326_2, hx326_3⟩ := at_T39 HR0.out x8_1 p326 q326
                      cases e326
                      replace p326 := eq_true p326
                      replace q326 := eq_true q326
                      (try (have qz326 := q326; rw [ByteArray.size_extract, Nat.min_self] at qz326))
                      have p327 : 0 ≤ (x8_1 : Int) := of_decide_eq_true (by first | (with_reducible assumption) | assumption)
                      have q327 : x8_1 < (l0.length : Int) := of_decide_eq_true (by first | (with_reducible assumption) | assumption)
                      obtain ⟨ad327, e327, hx327_0, hx327_1, hx327_2, hx327_3⟩ := at_T39 HR0.out x8_1 p327 q327
                      obtain rfl : ad326 = ad327 := (by injection e327)
                      replace p327 := eq_true p327
                      replace q327 := eq_true q327
                      (try (have qz327 := q327; rw [ByteArray.size_extract, Nat.min_self] at qz327))
                      go_wp2
                      go_roundg k1
                      case measure => have := HK1.out; omega
                      case rel => exact ⟨(0), (wrap64 (x8_1 + 1)), (by first | rfl | (simp; done) | (simp [*]; done)), (by first | rfl | (simp; done) | (simp [*]; done)), H', ⟨by have := HK1.out; omega⟩, by repeat (first | exact Drawn0.refl _ | apply Drawn0.step)⟩
                    · rw [if_neg c11] at H
                      have c11b0 : (((rd_T39 l0 x8_1).f1).toList == ([115, 116, 111, 112] : List UInt8)) = false := beq_eq_false_iff_ne.mpr c11
                      have c11b1 : (((rd_T39 l0 x8_1).f1).toList != ([115, 116, 111, 112] : List UInt8)) = true := bne_iff_ne.mpr c11
                      by_cases c12 : ((rd_T39 l0 x8_1).f1).toList = ([103, 111, 110, 101] : List UInt8)
                      · rw [if_pos c12] at H
                        have c12b0 : (((rd_T39 l0 x8_1).f1).toList == ([103, 111, 110, 101] : List UInt8)) = true := beq_iff_eq.mpr c12
                        have c12b1 : (((rd_T39 l0 x8_1).f1).toList != ([103, 111, 110, 101] : List UInt8)) = false := bne_eq_false_iff_eq.mpr c12
                        clear c12
                        have H' := Aside0.mk H
                        clear H
                        have p326 : 0 ≤ (x8_1 : Int) := of_decide_eq_true (by first | (with_reducible assumption) | assumption)
                        have q326 : x8_1 < (l0.length : Int) := of_decide_eq_true (by first | (with_reducible assumption) | assumption)
                        obtain ⟨ad326, e326, hx326_0, hx326_1, hx326_2, hx326_3⟩ := at_T39 HR0.out x8_1 p326 q326
                        cases e326
                        replace p326 := eq_true p326
                        replace q326 := eq_true q326
                        (try (have qz326 := q326; rw [ByteArray.size_extract, Nat.min_self] at qz326))
                        have p327 : 0 ≤ (x8_1 : Int) := of_decide_eq_true (by first | (with_reducible assumption) | assumption)
                        have q327 : x8_1 < (l0.length : Int) := of_decide_eq_true (by first | (with_reducible assumption) | assumption)
                        obtain ⟨ad327, e327, hx327_0, hx327_1, hx327_2, hx327_3⟩ := at_T39 HR0.out x8_1 p327 q327
                        obtain rfl : ad326 = ad327 := (by injection e327)
                        replace p327 := eq_true p327
                        replace q327 := eq_true q327
                        (try (have qz327 := q327; rw [ByteArray.size_extract, Nat.min_self] at qz327))
                        go_wp2
                        go_roundg k1
                        case measure => have := HK1.out; omega
                        case rel => exact ⟨(0), (wrap64 (x8_1 + 1)), (by first | rfl | (simp; done) | (simp [*]; done)), (by first | rfl | (simp; done) | (simp [*]; done)), H', ⟨by have := HK1.out; omega⟩, by repeat (first | exact Drawn0.refl _ | apply Drawn0.step)⟩
                      · rw [if_neg c12] at H
                        have c12b0 : (((rd_T39 l0 x8_1).f1).toList == ([103, 111, 110, 101] : List UInt8)) = false := beq_eq_false_iff_ne.mpr c12
                        have c12b1 : (((rd_T39 l0 x8_1).f1).toList != ([103, 111, 110, 101] : List UInt8)) = true := bne_iff_ne.mpr c12
                        have H' := Aside0.mk H
                        clear H
                        have p326 : 0 ≤ (x8_1 : Int) := of_decide_eq_true (by first | (with_reducible assumption) | assumption)
                        have q326 : x8_1 < (l0.length : Int) := of_decide_eq_true (by first | (with_reducible assumption) | assumption)
                        obtain ⟨ad326, e326, hx326_0, hx326_1, hx326_2, hx326_3⟩ := at_T39 HR0.out x8_1 p326 q326
                        cases e326
                        replace p326 := eq_true p326
                        replace q326 := eq_true q326
                        (try (have qz326 := q326; rw [ByteArray.size_extract, Nat.min_self] at qz326))
                        have p327 : 0 ≤ (x8_1 : Int) := of_decide_eq_true (by first | (with_reducible assumption) | assumption)
                        have q327 : x8_1 < (l0.length : Int) := of_decide_eq_true (by first | (with_reducible assumption) | assumption)
                        obtain ⟨ad327, e327, hx327_0, hx327_1, hx327_2, hx327_3⟩ := at_T39 HR0.out x8_1 p327 q327
                        obtain rfl : ad326 = ad327 := (by injection e327)
                        replace p327 := eq_true p327
                        replace q327 := eq_true q327
                        (try (have qz327 := q327; rw [ByteArray.size_extract, Nat.min_self] at qz327))
                        go_wp2
                        go_roundg k1
                        case measure => have := HK1.out; omega
                        case rel => exact ⟨(x7_1), (wrap64 (x8_1 + 1)), (by first | rfl | (simp; done) | (simp [*]; done)), (by first | rfl | (simp; done) | (simp [*]; done)), H', ⟨by have := HK1.out; omega⟩, by repeat (first | exact Drawn0.refl _ | apply Drawn0.step)⟩
            · rw [if_neg c7] at H
              have c7b0 : (((rd_T39 l0 x8_1).f2).toList == a2.toList) = false := beq_eq_false_iff_ne.mpr c7
              have c7b1 : (((rd_T39 l0 x8_1).f2).toList != a2.toList) = true := bne_iff_ne.mpr c7
              have H' := Aside0.mk H
              clear H
              have p326 : 0 ≤ (x8_1 : Int) := of_decide_eq_true (by first | (with_reducible assumption) | assumption)
              have q326 : x8_1 < (l0.length : Int) := of_decide_eq_true (by first | (with_reducible assumption) | assumption)
              obtain ⟨ad326, e326, hx326_0, hx326_1, hx326_2, hx326_3⟩ := at_T39 HR0.out x8_1 p326 q326
              cases e326
              replace p326 := eq_true p326
              replace q326 := eq_true q326
              (try (have qz326 := q326; rw [ByteArray.size_extract, Nat.min_self] at qz326))
              go_wp2
              go_roundg k1
              case measure => have := HK1.out; omega
              case rel => exact ⟨(x7_1), (wrap64 (x8_1 + 1)), (by first | rfl | (simp; done) | (simp [*]; done)), (by first | rfl | (simp; done) | (simp [*]; done)), H', ⟨by have := HK1.out; omega⟩, by repeat (first | exact Drawn0.refl _ | apply Drawn0.step)⟩
          · rw [if_neg c6] at H
            exact absurd H (by simp)
        · rw [if_neg c5] at H
          exact absurd H (by simp)
      · rw [if_neg c4] at H
        have c4b0 : decide (x8_1 < a1) = false := decide_eq_false c4
        clear c4
        obtain rfl := Option.some.inj H
        go_wp2
        go_ret
        exact ⟨by first | rfl | (simp; done) | (simp [*]; done), by repeat (first | exact Drawn0.refl _ | apply Drawn0.step)⟩
end Go.Proofs.Ytngmcigkihfnkaa.H
end
section
namespace Go.Proofs.Ytngmcigkihfnkaa.H
open Go.RowKit Go.Proofs.YtngmcigkihfnkaaW.PrintWords Go.Proofs.YtngmcigkihfnkaaW.PrintLast Go.Proofs.YtngmcigkihfnkaaW.PrintMore
attribute [local go_sem] max2_int min2_int max_two min_two max_three min_three max_four min_four   -- for this text's walks alone
set_option linter.unusedVariables false
set_option linter.unusedSimpArgs false
theorem wp_region_bw {P : Program} {id : Nat} {Q : Exit → Act → World → Prop} {a : Act} {w : World} {l : List Oper} (hm : P.follows .mixedOrders = true) (hB : Region.lexB .any l.toArray = true)
    (h : wpQuiet P l.toArray (fun W => ∃ q : BW w, W = q.1) (fun a' => ∀ q : BW w, Q .normal a' q.1) l a) : (Code.region id l.toArray true).wp P Q a w :=
  wp_region_quiet (C := fun W => ∃ q : BW w, W = q.1) hm hB ⟨⟨_, pw_below_drewN (Below.refl _ _) 1⟩, rfl⟩ (by
    have e : (fun a' : Act => ∀ w', (∃ q : BW w, w' = q.1) → Q .normal a' w') = (fun a' => ∀ q : BW w, Q .normal a' q.1) := by
      funext a'
      exact propext ⟨fun hh q => hh _ ⟨q, rfl⟩, fun hh w' ⟨q, hq⟩ => hq ▸ hh q⟩
    rw [e]
    simpa using h)
theorem Calls.bw {P : Program} {f : FuncId} {args : Array Value} {w : World} {q : BW w} {v : Value}
    (h : Calls P f args q.1 fun e w' => e = .returned v ∧ Below q.1.heap.size q.1 w') : Calls P f args q.1 fun e w'' => e = .returned v ∧ ∃ q' : BW w, w'' = q'.1 :=
  h.mono fun _ w' ⟨he, hb⟩ => ⟨he, ⟨w', below_then q.2 q.2.size hb⟩, rfl⟩
end Go.Proofs.Ytngmcigkihfnkaa.H
end
section
namespace Go.Proofs.Ytngmcigkihfnkaa.H
open Go.RowKit Go.Proofs.YtngmcigkihfnkaaW.PrintWords Go.Proofs.YtngmcigkihfnkaaW.PrintLast Go.Proofs.YtngmcigkihfnkaaW.PrintMore
attribute [local go_sem] max2_int min2_int max_two min_two max_three min_three max_four min_four   -- for this text's walks alone
set_option linter.unusedVariables false
set_option linter.unusedSimpArgs false
def rcStep (what : ByteArray) (s : Int) (bad : Bool) : Bool :=
  if what = ⟨#[100, 111, 119, 110]⟩ then bad || decide (0 < s)
  else if what = ⟨#[100, 101, 108, 101, 116, 101]⟩ then bad || (s != 1)
  else if what = ⟨#[107, 101, 101, 112]⟩ ∨ what = ⟨#[115, 116, 111, 112]⟩ ∨ what = ⟨#[103, 111, 110, 101]⟩ then bad || (s == 0)
  else bad
def rcBad (l0 : List S39) (i : Int) (r : Bool) : Bool := if r = true then (if 0 < i then decide ((rd_T39 l0 i).f0 < (rd_T39 l0 (i - 1)).f0) else false) else true
def triremeref32_Check.go (k : Nat) (l0 : List S39) : Nat → Int → Option Int
  | 0, _ => some (-1)
  | d + 1, i => (triremeref32_state.f k l0 i (rd_T39 l0 i).f2).bind fun s => (triremeref32_Right.f k (rd_T39 l0 i).f0 (rd_T39 l0 i).f1 (rd_T39 l0 i).f2 (rd_T39 l0 i).f3).bind fun r =>
      if rcStep (rd_T39 l0 i).f1 s (rcBad l0 i r) = true then some i else triremeref32_Check.go k l0 d (i + 1)
def triremeref32_Check.f (k : Nat) (l0 : List S39) : Option Int := triremeref32_Check.go k l0 l0.length 0
theorem rc_ne {s : ByteArray} {a : List UInt8} (h : ¬ s = ⟨a.toArray⟩) : (s.toList == a) = false := by
  rw [beq_eq_false_iff_ne]
  intro e
  apply h
  rw [ByteArray.toList_eq] at e
  cases s with
  | mk d =>
    simp only at e
    rw [← e]
set_option maxHeartbeats 16000000 in
set_option maxRecDepth 100000 in
theorem triremeref32_Check.calls (k : Nat) (A0 : Option Addr) (c0 : Nat) (l0 : List S39) (r : Int) (w : World) (hr0 : Kd.C k39 w A0 l0.length l0) (hc0 : l0.length ≤ c0) (h : triremeref32_Check.f k l0 = some r) :
    Calls Try.prog 21 #[.slice A0 l0.length c0] w fun e w' => e = .returned (.int .i64 r) ∧ Below w.heap.size w w' := by
  have hmax : l0.length ≤ 9223372036854775807 := hr0.2.1
  have HR0 := Aside0.mk hr0
  clear hr0
  have H := Aside0.mk h
  clear h
  have hu := Try.underlying39
  go_enter Try.func21, Try.ntmps21
  go_wp2
  go_loopw [3] (fun p w' => ∃ (i : Int) (d : Nat), p = .int .i64 i ∧ 0 ≤ i ∧ i + d = l0.length ∧ Aside0 (Below w.heap.size w w') ∧ Aside0 (triremeref32_Check.go k l0 d i = some r)) (fun p w' => l0.length - (intOf p).toNat)
  case atStart => exact ⟨0, l0.length, rfl, by omega, by omega, ⟨Below.refl _ _⟩, H⟩
  case round =>
    clear H
    obtain ⟨i, d, rfl, p1, hd, HB, HG⟩ := hrel
    cases d with
    | zero =>
      have q1 : decide (i < (l0.length : Int)) = false := decide_eq_false (by omega)
      go_wp2
      go_ret
      have h1 := HG.out
      simp only [triremeref32_Check.go, Option.some.injEq] at h1
      exact ⟨by rw [← h1]; first | rfl | (simp; done), HB.out⟩
    | succ d =>
      have q1 : i < (l0.length : Int) := by omega
      obtain ⟨ad, e1, hx0, hx1, hx2, hx3⟩ := at_T39 HR0.out i p1 q1
      subst e1
      have hg := HG.out
      simp only [triremeref32_Check.go] at hg
      clear HG
      obtain ⟨s, hs, hg⟩ := Option.bind_eq_some_iff.1 hg
      obtain ⟨rg, hrg, hg⟩ := Option.bind_eq_some_iff.1 hg
      have hgt := fun (h0 : 0 < i) => at_T39 HR0.out (i - 1) (by omega) (by omega)
      generalize hxe : rd_T39 l0 i = x at *
      have HS := Aside0.mk (fun (W : World) (hW : Below w.heap.size w W) => triremeref32_state.calls k (some ad) c0 l0 i x.f2 s W (Kd.C_below HR0.out hW) hc0 hs)
      have HRG := Aside0.mk (fun W : World => triremeref32_Right.calls k x.f0 x.f1 x.f2 x.f3 rg W hrg)
      clear hs hrg
      have hx0b := fun (W : World) (hW : Below w.heap.size w W) => (hW.cell (World.block_lt_of_cell? w _ hx0)).trans hx0
      have hx1b := fun (W : World) (hW : Below w.heap.size w W) => (hW.cell (World.block_lt_of_cell? w _ hx1)).trans hx1
      have hx2b := fun (W : World) (hW : Below w.heap.size w W) => (hW.cell (World.block_lt_of_cell? w _ hx2)).trans hx2
      have hx3b := fun (W : World) (hW : Below w.heap.size w W) => (hW.cell (World.block_lt_of_cell? w _ hx3)).trans hx3
      have hq2 := hx2b _ HB.out
      clear hx0 hx1 hx2 hx3
      have HX0 := Aside0.mk hx0b
      have HX1 := Aside0.mk hx1b
      have HX2 := Aside0.mk hx2b
      have HX3 := Aside0.mk hx3b
      clear hx0b hx1b hx2b hx3b
      have HGT := Aside0.mk hgt
      clear hgt
      go_wp2_with (first | (go_at_call 37; refine (HS.out _ HB.out).mono ?_; rintro e w1 ⟨rfl, hs1⟩))
      clear hq2
      have HB1 := Aside0.mk (below_step HB.out hs1.below)
      clear hs1 HS
      have hq0 := fun q : BW w1 => HX0.out q.1 (below_step HB1.out q.2)
      have hq1 := fun q : BW w1 => HX1.out q.1 (below_step HB1.out q.2)
      have hq2 := fun q : BW w1 => HX2.out q.1 (below_step HB1.out q.2)
      have hq3 := fun q : BW w1 => HX3.out q.1 (below_step HB1.out q.2)
      cases rg with
      | false =>
        rw [show rcBad l0 i false = true from rfl] at hg
        (try simp only [Act.put])
        refine wp_region_bw (by kernel_rfl) (by kernel_rfl) ?_
        repeat (go_big_quiet_step (first | (go_at_call 15; exact Calls.bw (HRG.out _))))
        refine wpQuiet_nil ?_
        intro q
        replace HB1 := Aside0.mk (below_step HB1.out q.2)
        have hz1 := HX1.out q.1 HB1.out
        clear hq0 hq1 hq2 hq3
        clear HX0 HX1 HX2 HX3 HGT HRG
        by_cases w1_ : x.f1 = ⟨#[100, 111, 119, 110]⟩
        · have hrc : ∀ b, rcStep x.f1 s b = (b || decide (0 < s)) := fun b => by unfold rcStep; rw [if_pos w1_]
          rw [w1_] at hz1
          have hst : rcStep x.f1 s true = true := by rw [hrc]; rfl
          rw [hst] at hg
          rw [if_pos rfl] at hg
          simp only [Option.some.injEq] at hg
          subst hg
          go_wp2
          go_ret
          exact ⟨by first | rfl | (simp; done), HB1.out⟩
        · have k1 := rc_ne w1_
          by_cases w2_ : x.f1 = ⟨#[100, 101, 108, 101, 116, 101]⟩
          · have hrc : ∀ b, rcStep x.f1 s b = (b || (s != 1)) := fun b => by unfold rcStep; rw [if_neg w1_, if_pos w2_]
            rw [w2_] at hz1
            clear k1
            have hst : rcStep x.f1 s true = true := by rw [hrc]; rfl
            rw [hst] at hg
            rw [if_pos rfl] at hg
            simp only [Option.some.injEq] at hg
            subst hg
            go_wp2
            go_ret
            exact ⟨by first | rfl | (simp; done), HB1.out⟩
          · have k2 := rc_ne w2_
            by_cases w3_ : x.f1 = ⟨#[107, 101, 101, 112]⟩
            · have hrc : ∀ b, rcStep x.f1 s b = (b || (s == 0)) := fun b => by unfold rcStep; rw [if_neg w1_, if_neg w2_, if_pos (.inl w3_)]
              rw [w3_] at hz1
              clear k1 k2
              have hst : rcStep x.f1 s true = true := by rw [hrc]; rfl
              rw [hst] at hg
              rw [if_pos rfl] at hg
              simp only [Option.some.injEq] at hg
              subst hg
              go_wp2
              go_ret
              exact ⟨by first | rfl | (simp; done), HB1.out⟩
            · have k3 := rc_ne w3_
              by_cases w4_ : x.f1 = ⟨#[115, 116, 111, 112]⟩
              · have hrc : ∀ b, rcStep x.f1 s b = (b || (s == 0)) := fun b => by unfold rcStep; rw [if_neg w1_, if_neg w2_, if_pos (.inr (.inl w4_))]
                rw [w4_] at hz1
                clear k1 k2 k3
                have hst : rcStep x.f1 s true = true := by rw [hrc]; rfl
                rw [hst] at hg
                rw [if_pos rfl] at hg
                simp only [Option.some.injEq] at hg
                subst hg
                go_wp2
                go_ret
                exact ⟨by first | rfl | (simp; done), HB1.out⟩
              · have k4 := rc_ne w4_
                by_cases w5_ : x.f1 = ⟨#[103, 111, 110, 101]⟩
                · have hrc : ∀ b, rcStep x.f1 s b = (b || (s == 0)) := fun b => by unfold rcStep; rw [if_neg w1_, if_neg w2_, if_pos (.inr (.inr w5_))]
                  rw [w5_] at hz1
                  clear k1 k2 k3 k4
                  have hst : rcStep x.f1 s true = true := by rw [hrc]; rfl
                  rw [hst] at hg
                  rw [if_pos rfl] at hg
                  simp only [Option.some.injEq] at hg
                  subst hg
                  go_wp2
                  go_ret
                  exact ⟨by first | rfl | (simp; done), HB1.out⟩
                · have k5 := rc_ne w5_
                  have hst : ∀ b, rcStep x.f1 s b = b := fun b => by unfold rcStep; rw [if_neg w1_, if_neg w2_, if_neg (by rintro (h | h | h); exact w3_ h; exact w4_ h; exact w5_ h)]
                  rw [hst] at hg
                  rw [if_pos rfl] at hg
                  simp only [Option.some.injEq] at hg
                  subst hg
                  go_wp2
                  go_ret
                  exact ⟨by first | rfl | (simp; done), HB1.out⟩
      | true =>
        by_cases h0 : 0 < i
        · obtain ⟨ad2, e2, hy0, _, _, _⟩ := HGT.out h0
          obtain rfl : ad = ad2 := by injection e2
          rw [show (i - 1).toNat = i.toNat - 1 by omega] at hy0
          have p2 : 0 ≤ i - 1 := by omega
          have q2 : i - 1 < (l0.length : Int) := by omega
          have hy := fun q : BW w1 => ((below_step HB1.out q.2).cell (World.block_lt_of_cell? w _ hy0)).trans hy0
          clear hy0
          have hb0 : rcBad l0 i true = decide (x.f0 < (rd_T39 l0 (i - 1)).f0) := by unfold rcBad; rw [if_pos rfl, if_pos h0, hxe]
          generalize (rd_T39 l0 (i - 1)).f0 = y at *
          rw [hb0] at hg
          clear hb0
          have h0d : decide (0 < i) = true := decide_eq_true h0
          by_cases hlt : x.f0 < y
          · have hltd : decide (x.f0 < y) = true := decide_eq_true hlt
            rw [hltd] at hg
            (try simp only [Act.put])
            refine wp_region_bw (by kernel_rfl) (by kernel_rfl) ?_
            repeat (go_big_quiet_step (first | (go_at_call 15; exact Calls.bw (HRG.out _))))
            refine wpQuiet_nil ?_
            intro q
            replace HB1 := Aside0.mk (below_step HB1.out q.2)
            have hz1 := HX1.out q.1 HB1.out
            clear hq0 hq1 hq2 hq3
            clear hy
            clear HX0 HX1 HX2 HX3 HGT HRG
            by_cases w1_ : x.f1 = ⟨#[100, 111, 119, 110]⟩
            · have hrc : ∀ b, rcStep x.f1 s b = (b || decide (0 < s)) := fun b => by unfold rcStep; rw [if_pos w1_]
              rw [w1_] at hz1
              have hst : rcStep x.f1 s true = true := by rw [hrc]; rfl
              rw [hst] at hg
              rw [if_pos rfl] at hg
              simp only [Option.some.injEq] at hg
              subst hg
              go_wp2
              go_ret
              exact ⟨by first | rfl | (simp; done), HB1.out⟩
            · have k1 := rc_ne w1_
              by_cases w2_ : x.f1 = ⟨#[100, 101, 108, 101, 116, 101]⟩
              · have hrc : ∀ b, rcStep x.f1 s b = (b || (s != 1)) := fun b => by unfold rcStep; rw [if_neg w1_, if_pos w2_]
                rw [w2_] at hz1
                clear k1
                have hst : rcStep x.f1 s true = true := by rw [hrc]; rfl
                rw [hst] at hg
                rw [if_pos rfl] at hg
                simp only [Option.some.injEq] at hg
                subst hg
                go_wp2
                go_ret
                exact ⟨by first | rfl | (simp; done), HB1.out⟩
              · have k2 := rc_ne w2_
                by_cases w3_ : x.f1 = ⟨#[107, 101, 101, 112]⟩
                · have hrc : ∀ b, rcStep x.f1 s b = (b || (s == 0)) := fun b => by unfold rcStep; rw [if_neg w1_, if_neg w2_, if_pos (.inl w3_)]
                  rw [w3_] at hz1
                  clear k1 k2
                  have hst : rcStep x.f1 s true = true := by rw [hrc]; rfl
                  rw [hst] at hg
                  rw [if_pos rfl] at hg
                  simp only [Option.some.injEq] at hg
                  subst hg
                  go_wp2
                  go_ret
                  exact ⟨by first | rfl | (simp; done), HB1.out⟩
                · have k3 := rc_ne w3_
                  by_cases w4_ : x.f1 = ⟨#[115, 116, 111, 112]⟩
                  · have hrc : ∀ b, rcStep x.f1 s b = (b || (s == 0)) := fun b => by unfold rcStep; rw [if_neg w1_, if_neg w2_, if_pos (.inr (.inl w4_))]
                    rw [w4_] at hz1
                    clear k1 k2 k3
                    have hst : rcStep x.f1 s true = true := by rw [hrc]; rfl
                    rw [hst] at hg
                    rw [if_pos rfl] at hg
                    simp only [Option.some.injEq] at hg
                    subst hg
                    go_wp2
                    go_ret
                    exact ⟨by first | rfl | (simp; done), HB1.out⟩
                  · have k4 := rc_ne w4_
                    by_cases w5_ : x.f1 = ⟨#[103, 111, 110, 101]⟩
                    · have hrc : ∀ b, rcStep x.f1 s b = (b || (s == 0)) := fun b => by unfold rcStep; rw [if_neg w1_, if_neg w2_, if_pos (.inr (.inr w5_))]
                      rw [w5_] at hz1
                      clear k1 k2 k3 k4
                      have hst : rcStep x.f1 s true = true := by rw [hrc]; rfl
                      rw [hst] at hg
                      rw [if_pos rfl] at hg
                      simp only [Option.some.injEq] at hg
                      subst hg
                      go_wp2
                      go_ret
                      exact ⟨by first | rfl | (simp; done), HB1.out⟩
                    · have k5 := rc_ne w5_
                      have hst : ∀ b, rcStep x.f1 s b = b := fun b => by unfold rcStep; rw [if_neg w1_, if_neg w2_, if_neg (by rintro (h | h | h); exact w3_ h; exact w4_ h; exact w5_ h)]
                      rw [hst] at hg
                      rw [if_pos rfl] at hg
                      simp only [Option.some.injEq] at hg
                      subst hg
                      go_wp2
                      go_ret
                      exact ⟨by first | rfl | (simp; done), HB1.out⟩
          · have hltd : decide (x.f0 < y) = false := decide_eq_false hlt
            rw [hltd] at hg
            (try simp only [Act.put])
            refine wp_region_bw (by kernel_rfl) (by kernel_rfl) ?_
            repeat (go_big_quiet_step (first | (go_at_call 15; exact Calls.bw (HRG.out _))))
            refine wpQuiet_nil ?_
            intro q
            replace HB1 := Aside0.mk (below_step HB1.out q.2)
            have hz1 := HX1.out q.1 HB1.out
            clear hq0 hq1 hq2 hq3
            clear hy
            clear HX0 HX1 HX2 HX3 HGT HRG
            by_cases w1_ : x.f1 = ⟨#[100, 111, 119, 110]⟩
            · have hrc : ∀ b, rcStep x.f1 s b = (b || decide (0 < s)) := fun b => by unfold rcStep; rw [if_pos w1_]
              rw [w1_] at hz1
              by_cases hc : 0 < s
              · have hst : rcStep x.f1 s false = true := by rw [hrc]; first | (simp; omega) | (simp [hc]; done)
                rw [hst] at hg
                have hdc : decide (0 < s) = true := decide_eq_true hc
                rw [if_pos rfl] at hg
                simp only [Option.some.injEq] at hg
                subst hg
                go_wp2
                go_ret
                exact ⟨by first | rfl | (simp; done), HB1.out⟩
              · have hst : rcStep x.f1 s false = false := by rw [hrc]; first | (simp; omega) | (simp [hc]; done)
                rw [hst] at hg
                have hdc : decide (0 < s) = false := decide_eq_false hc
                rw [if_neg (by decide)] at hg
                go_wp2
                go_roundw
                case rel => exact ⟨i + 1, d, rfl, by omega, by omega, HB1, ⟨hg⟩⟩
                case measure => simp [intOf]; omega
            · have k1 := rc_ne w1_
              by_cases w2_ : x.f1 = ⟨#[100, 101, 108, 101, 116, 101]⟩
              · have hrc : ∀ b, rcStep x.f1 s b = (b || (s != 1)) := fun b => by unfold rcStep; rw [if_neg w1_, if_pos w2_]
                rw [w2_] at hz1
                clear k1
                by_cases hc : ¬ s = 1
                · have hst : rcStep x.f1 s false = true := by rw [hrc]; first | (simp; omega) | (simp [hc]; done)
                  rw [hst] at hg
                  have hdc : (s == 1) = false := beq_eq_false_iff_ne.2 hc
                  have hdc2 : (s != 1) = true := bne_iff_ne.2 hc
                  rw [if_pos rfl] at hg
                  simp only [Option.some.injEq] at hg
                  subst hg
                  go_wp2
                  go_ret
                  exact ⟨by first | rfl | (simp; done), HB1.out⟩
                · have hst : rcStep x.f1 s false = false := by rw [hrc]; first | (simp; omega) | (simp [hc]; done)
                  rw [hst] at hg
                  have hc2 : s = 1 := Decidable.not_not.1 hc
                  have hdc : (s == 1) = true := beq_iff_eq.2 hc2
                  have hdc2 : (s != 1) = false := by rw [hc2]; rfl
                  rw [if_neg (by decide)] at hg
                  go_wp2
                  go_roundw
                  case rel => exact ⟨i + 1, d, rfl, by omega, by omega, HB1, ⟨hg⟩⟩
                  case measure => simp [intOf]; omega
              · have k2 := rc_ne w2_
                by_cases w3_ : x.f1 = ⟨#[107, 101, 101, 112]⟩
                · have hrc : ∀ b, rcStep x.f1 s b = (b || (s == 0)) := fun b => by unfold rcStep; rw [if_neg w1_, if_neg w2_, if_pos (.inl w3_)]
                  rw [w3_] at hz1
                  clear k1 k2
                  by_cases hc : s = 0
                  · have hst : rcStep x.f1 s false = true := by rw [hrc]; first | (simp; omega) | (simp [hc]; done)
                    rw [hst] at hg
                    have hdc : (s == 0) = true := beq_iff_eq.2 hc
                    rw [if_pos rfl] at hg
                    simp only [Option.some.injEq] at hg
                    subst hg
                    go_wp2
                    go_ret
                    exact ⟨by first | rfl | (simp; done), HB1.out⟩
                  · have hst : rcStep x.f1 s false = false := by rw [hrc]; first | (simp; omega) | (simp [hc]; done)
                    rw [hst] at hg
                    have hdc : (s == 0) = false := beq_eq_false_iff_ne.2 hc
                    rw [if_neg (by decide)] at hg
                    go_wp2
                    go_roundw
                    case rel => exact ⟨i + 1, d, rfl, by omega, by omega, HB1, ⟨hg⟩⟩
                    case measure => simp [intOf]; omega
                · have k3 := rc_ne w3_
                  by_cases w4_ : x.f1 = ⟨#[115, 116, 111, 112]⟩
                  · have hrc : ∀ b, rcStep x.f1 s b = (b || (s == 0)) := fun b => by unfold rcStep; rw [if_neg w1_, if_neg w2_, if_pos (.inr (.inl w4_))]
                    rw [w4_] at hz1
                    clear k1 k2 k3
                    by_cases hc : s = 0
                    · have hst : rcStep x.f1 s false = true := by rw [hrc]; first | (simp; omega) | (simp [hc]; done)
                      rw [hst] at hg
                      have hdc : (s == 0) = true := beq_iff_eq.2 hc
                      rw [if_pos rfl] at hg
                      simp only [Option.some.injEq] at hg
                      subst hg
                      go_wp2
                      go_ret
                      exact ⟨by first | rfl | (simp; done), HB1.out⟩
                    · have hst : rcStep x.f1 s false = false := by rw [hrc]; first | (simp; omega) | (simp [hc]; done)
                      rw [hst] at hg
                      have hdc : (s == 0) = false := beq_eq_false_iff_ne.2 hc
                      rw [if_neg (by decide)] at hg
                      go_wp2
                      go_roundw
                      case rel => exact ⟨i + 1, d, rfl, by omega, by omega, HB1, ⟨hg⟩⟩
                      case measure => simp [intOf]; omega
                  · have k4 := rc_ne w4_
                    by_cases w5_ : x.f1 = ⟨#[103, 111, 110, 101]⟩
                    · have hrc : ∀ b, rcStep x.f1 s b = (b || (s == 0)) := fun b => by unfold rcStep; rw [if_neg w1_, if_neg w2_, if_pos (.inr (.inr w5_))]
                      rw [w5_] at hz1
                      clear k1 k2 k3 k4
                      by_cases hc : s = 0
                      · have hst : rcStep x.f1 s false = true := by rw [hrc]; first | (simp; omega) | (simp [hc]; done)
                        rw [hst] at hg
                        have hdc : (s == 0) = true := beq_iff_eq.2 hc
                        rw [if_pos rfl] at hg
                        simp only [Option.some.injEq] at hg
                        subst hg
                        go_wp2
                        go_ret
                        exact ⟨by first | rfl | (simp; done), HB1.out⟩
                      · have hst : rcStep x.f1 s false = false := by rw [hrc]; first | (simp; omega) | (simp [hc]; done)
                        rw [hst] at hg
                        have hdc : (s == 0) = false := beq_eq_false_iff_ne.2 hc
                        rw [if_neg (by decide)] at hg
                        go_wp2
                        go_roundw
                        case rel => exact ⟨i + 1, d, rfl, by omega, by omega, HB1, ⟨hg⟩⟩
                        case measure => simp [intOf]; omega
                    · have k5 := rc_ne w5_
                      have hst : ∀ b, rcStep x.f1 s b = b := fun b => by unfold rcStep; rw [if_neg w1_, if_neg w2_, if_neg (by rintro (h | h | h); exact w3_ h; exact w4_ h; exact w5_ h)]
                      rw [hst] at hg
                      rw [if_neg (by decide)] at hg
                      go_wp2
                      go_roundw
                      case rel => exact ⟨i + 1, d, rfl, by omega, by omega, HB1, ⟨hg⟩⟩
                      case measure => simp [intOf]; omega
        · have h0d : decide (0 < i) = false := decide_eq_false h0
          rw [show rcBad l0 i true = false by unfold rcBad; rw [if_pos rfl, if_neg h0]] at hg
          (try simp only [Act.put])
          refine wp_region_bw (by kernel_rfl) (by kernel_rfl) ?_
          repeat (go_big_quiet_step (first | (go_at_call 15; exact Calls.bw (HRG.out _))))
          refine wpQuiet_nil ?_
          intro q
          replace HB1 := Aside0.mk (below_step HB1.out q.2)
          have hz1 := HX1.out q.1 HB1.out
          clear hq0 hq1 hq2 hq3
          clear HX0 HX1 HX2 HX3 HGT HRG
          by_cases w1_ : x.f1 = ⟨#[100, 111, 119, 110]⟩
          · have hrc : ∀ b, rcStep x.f1 s b = (b || decide (0 < s)) := fun b => by unfold rcStep; rw [if_pos w1_]
            rw [w1_] at hz1
            by_cases hc : 0 < s
            · have hst : rcStep x.f1 s false = true := by rw [hrc]; first | (simp; omega) | (simp [hc]; done)
              rw [hst] at hg
              have hdc : decide (0 < s) = true := decide_eq_true hc
              rw [if_pos rfl] at hg
              simp only [Option.some.injEq] at hg
              subst hg
              go_wp2
              go_ret
              exact ⟨by first | rfl | (simp; done), HB1.out⟩
            · have hst : rcStep x.f1 s false = false := by rw [hrc]; first | (simp; omega) | (simp [hc]; done)
              rw [hst] at hg
              have hdc : decide (0 < s) = false := decide_eq_false hc
              rw [if_neg (by decide)] at hg
              go_wp2
              go_roundw
              case rel => exact ⟨i + 1, d, rfl, by omega, by omega, HB1, ⟨hg⟩⟩
              case measure => simp [intOf]; omega
          · have k1 := rc_ne w1_
            by_cases w2_ : x.f1 = ⟨#[100, 101, 108, 101, 116, 101]⟩
            · have hrc : ∀ b, rcStep x.f1 s b = (b || (s != 1)) := fun b => by unfold rcStep; rw [if_neg w1_, if_pos w2_]
              rw [w2_] at hz1
              clear k1
              by_cases hc : ¬ s = 1
              · have hst : rcStep x.f1 s false = true := by rw [hrc]; first | (simp; omega) | (simp [hc]; done)
                rw [hst] at hg
                have hdc : (s == 1) = false := beq_eq_false_iff_ne.2 hc
                have hdc2 : (s != 1) = true := bne_iff_ne.2 hc
                rw [if_pos rfl] at hg
                simp only [Option.some.injEq] at hg
                subst hg
                go_wp2
                go_ret
                exact ⟨by first | rfl | (simp; done), HB1.out⟩
              · have hst : rcStep x.f1 s false = false := by rw [hrc]; first | (simp; omega) | (simp [hc]; done)
                rw [hst] at hg
                have hc2 : s = 1 := Decidable.not_not.1 hc
                have hdc : (s == 1) = true := beq_iff_eq.2 hc2
                have hdc2 : (s != 1) = false := by rw [hc2]; rfl
                rw [if_neg (by decide)] at hg
                go_wp2
                go_roundw
                case rel => exact ⟨i + 1, d, rfl, by omega, by omega, HB1, ⟨hg⟩⟩
                case measure => simp [intOf]; omega
            · have k2 := rc_ne w2_
              by_cases w3_ : x.f1 = ⟨#[107, 101, 101, 112]⟩
              · have hrc : ∀ b, rcStep x.f1 s b = (b || (s == 0)) := fun b => by unfold rcStep; rw [if_neg w1_, if_neg w2_, if_pos (.inl w3_)]
                rw [w3_] at hz1
                clear k1 k2
                by_cases hc : s = 0
                · have hst : rcStep x.f1 s false = true := by rw [hrc]; first | (simp; omega) | (simp [hc]; done)
                  rw [hst] at hg
                  have hdc : (s == 0) = true := beq_iff_eq.2 hc
                  rw [if_pos rfl] at hg
                  simp only [Option.some.injEq] at hg
                  subst hg
                  go_wp2
                  go_ret
                  exact ⟨by first | rfl | (simp; done), HB1.out⟩
                · have hst : rcStep x.f1 s false = false := by rw [hrc]; first | (simp; omega) | (simp [hc]; done)
                  rw [hst] at hg
                  have hdc : (s == 0) = false := beq_eq_false_iff_ne.2 hc
                  rw [if_neg (by decide)] at hg
                  go_wp2
                  go_roundw
                  case rel => exact ⟨i + 1, d, rfl, by omega, by omega, HB1, ⟨hg⟩⟩
                  case measure => simp [intOf]; omega
              · have k3 := rc_ne w3_
                by_cases w4_ : x.f1 = ⟨#[115, 116, 111, 112]⟩
                · have hrc : ∀ b, rcStep x.f1 s b = (b || (s == 0)) := fun b => by unfold rcStep; rw [if_neg w1_, if_neg w2_, if_pos (.inr (.inl w4_))]
                  rw [w4_] at hz1
                  clear k1 k2 k3
                  by_cases hc : s = 0
                  · have hst : rcStep x.f1 s false = true := by rw [hrc]; first | (simp; omega) | (simp [hc]; done)
                    rw [hst] at hg
                    have hdc : (s == 0) = true := beq_iff_eq.2 hc
                    rw [if_pos rfl] at hg
                    simp only [Option.some.injEq] at hg
                    subst hg
                    go_wp2
                    go_ret
                    exact ⟨by first | rfl | (simp; done), HB1.out⟩
                  · have hst : rcStep x.f1 s false = false := by rw [hrc]; first | (simp; omega) | (simp [hc]; done)
                    rw [hst] at hg
                    have hdc : (s == 0) = false := beq_eq_false_iff_ne.2 hc
                    rw [if_neg (by decide)] at hg
                    go_wp2
                    go_roundw
                    case rel => exact ⟨i + 1, d, rfl, by omega, by omega, HB1, ⟨hg⟩⟩
                    case measure => simp [intOf]; omega
                · have k4 := rc_ne w4_
                  by_cases w5_ : x.f1 = ⟨#[103, 111, 110, 101]⟩
                  · have hrc : ∀ b, rcStep x.f1 s b = (b || (s == 0)) := fun b => by unfold rcStep; rw [if_neg w1_, if_neg w2_, if_pos (.inr (.inr w5_))]
                    rw [w5_] at hz1
                    clear k1 k2 k3 k4
                    by_cases hc : s = 0
                    · have hst : rcStep x.f1 s false = true := by rw [hrc]; first | (simp; omega) | (simp [hc]; done)
                      rw [hst] at hg
                      have hdc : (s == 0) = true := beq_iff_eq.2 hc
                      rw [if_pos rfl] at hg
                      simp only [Option.some.injEq] at hg
                      subst hg
                      go_wp2
                      go_ret
                      exact ⟨by first | rfl | (simp; done), HB1.out⟩
                    · have hst : rcStep x.f1 s false = false := by rw [hrc]; first | (simp; omega) | (simp [hc]; done)
                      rw [hst] at hg
                      have hdc : (s == 0) = false := beq_eq_false_iff_ne.2 hc
                      rw [if_neg (by decide)] at hg
                      go_wp2
                      go_roundw
                      case rel => exact ⟨i + 1, d, rfl, by omega, by omega, HB1, ⟨hg⟩⟩
                      case measure => simp [intOf]; omega
                  · have k5 := rc_ne w5_
                    have hst : ∀ b, rcStep x.f1 s b = b := fun b => by unfold rcStep; rw [if_neg w1_, if_neg w2_, if_neg (by rintro (h | h | h); exact w3_ h; exact w4_ h; exact w5_ h)]
                    rw [hst] at hg
                    rw [if_neg (by decide)] at hg
                    go_wp2
                    go_roundw
                    case rel => exact ⟨i + 1, d, rfl, by omega, by omega, HB1, ⟨hg⟩⟩
                    case measure => simp [intOf]; omega
end Go.Proofs.Ytngmcigkihfnkaa.H
end
section
namespace Go.Proofs.Ytngmcigkihfnkaa.H
open Go.RowKit Go.Proofs.YtngmcigkihfnkaaW.PrintWords Go.Proofs.YtngmcigkihfnkaaW.PrintLast Go.Proofs.YtngmcigkihfnkaaW.PrintMore
set_option linter.unusedVariables false
set_option linter.unusedSimpArgs false
def stepBad (f : ByteArray → Int) (now : Int) (e : EvT) : Bool := !rightR e || (decide (e.now < now) || !courseOk e.what (f e.name))
def checkR : (ByteArray → Int) → Int → Int → List EvT → Int
  | _, _, _, [] => -1
  | f, now, i, e :: l => if stepBad f now e = true then i else checkR (courseUpd e.what e.name f) e.now (i + 1) l
theorem check_go (l : List EvT) (hle : ∀ e ∈ l, e.name.size ≤ 1000000000) : ∀ (f : ByteArray → Int) (now : Int) (i : Nat), Ev (fun k => trace_Check.go k f now i (l.map s37)) (checkR f now (i : Int) l) := by
  induction l with
  | nil => intro f now i; exact Ev.now _
  | cons e l ih =>
    intro f now i
    have hn := hle e List.mem_cons_self
    have ih2 := ih (fun x hx => hle x (List.mem_cons_of_mem _ hx))
    simp only [List.map_cons, trace_Check.go, checkR]
    rw [show (s37 e).f2 = e.name from rfl, show (s37 e).f1 = e.what from rfl, show (s37 e).f0 = e.now from rfl, show (s37 e).f3 = e.n from rfl]
    simp only [show e.name.size ≤ 140737488351232 by omega, if_true]
    refine Ev.bind (right_ev e.now e.what e.name e.n hn) ?_
    rw [show (⟨e.now, e.what, e.name, e.n⟩ : EvT) = e from rfl]
    rcases Bool.eq_false_or_eq_true (rightR e) with hr | hr
    · simp only [hr, Bool.true_eq_false, if_false]
      by_cases h1 : e.now < now
      · rw [if_pos (show stepBad f now e = true by unfold stepBad; rw [decide_eq_true h1]; simp)]
        simp only [h1, if_true]; exact Ev.now _
      · simp only [h1, if_false]
        rcases Bool.eq_false_or_eq_true (courseOk e.what (f e.name)) with hc | hc
        · rw [if_neg (show ¬ stepBad f now e = true by unfold stepBad; rw [hr, hc, decide_eq_false h1]; decide)]
          simp only [hc, Bool.true_eq_false, if_false]
          have := ih2 (courseUpd e.what e.name f) e.now (i + 1)
          rw [show ((i + 1 : Nat) : Int) = (i : Int) + 1 by omega] at this
          exact this
        · rw [if_pos (show stepBad f now e = true by unfold stepBad; rw [hc]; simp)]
          simp only [hc, if_true]; exact Ev.now _
    · rw [if_pos (show stepBad f now e = true by unfold stepBad; rw [hr]; simp)]
      simp only [hr, if_true]; exact Ev.now _
def checkE (l : List EvT) : Int := checkR (fun _ => 0) 0 0 l
theorem check_ev (l : List EvT) (hle : ∀ e ∈ l, e.name.size ≤ 1000000000) : Ev (fun k => trace_Check.f k (l.map s37)) (checkE l) := check_go l hle _ _ 0
def courseA : (ByteArray → Int) → List EvT → (ByteArray → Int)
  | f, [] => f
  | f, e :: l => courseA (courseUpd e.what e.name f) l
theorem courseUpd_at (what name y : ByteArray) (f : ByteArray → Int) : courseUpd what name f y = if name = y then (if what = ⟨#[100, 111, 119, 110]⟩ then 1 else if what = ⟨#[100, 101, 108, 101, 116, 101]⟩ then 2 else if what = ⟨#[107, 101, 101, 112]⟩ ∨ what = ⟨#[115, 116, 111, 112]⟩ ∨ what = ⟨#[103, 111, 110, 101]⟩ then 0 else f y) else f y := by
  unfold courseUpd
  by_cases h : name = y
  · subst h
    by_cases h1 : what = ⟨#[100, 111, 119, 110]⟩
    · simp only [h1, if_true]
    · by_cases h2 : what = ⟨#[100, 101, 108, 101, 116, 101]⟩
      · simp only [h2, show ¬ ((⟨#[100, 101, 108, 101, 116, 101]⟩ : ByteArray) = ⟨#[100, 111, 119, 110]⟩) by decide, if_true, if_false]
      · by_cases h3 : what = ⟨#[107, 101, 101, 112]⟩ ∨ what = ⟨#[115, 116, 111, 112]⟩ ∨ what = ⟨#[103, 111, 110, 101]⟩
        · simp only [h1, h2, h3, if_true, if_false]
        · simp only [h1, h2, h3, if_true, if_false]
  · have h' : ¬ y = name := fun e => h e.symm
    rw [if_neg h]
    by_cases h1 : what = ⟨#[100, 111, 119, 110]⟩
    · rw [if_pos h1, if_neg h']
    · rw [if_neg h1]
      by_cases h2 : what = ⟨#[100, 101, 108, 101, 116, 101]⟩
      · rw [if_pos h2, if_neg h']
      · rw [if_neg h2]
        by_cases h3 : what = ⟨#[107, 101, 101, 112]⟩ ∨ what = ⟨#[115, 116, 111, 112]⟩ ∨ what = ⟨#[103, 111, 110, 101]⟩
        · rw [if_pos h3, if_neg h']
        · rw [if_neg h3]
theorem state_l0 (l : List S39) (hl : l.length ≤ 1000000) (name : ByteArray) (at_ : Nat) (hat : at_ ≤ l.length) : ∀ (d i : Nat) (f : ByteArray → Int), i + d = at_ →
    Ev (fun k => triremeref32_state.l0 k l (at_ : Int) name (f name) (i : Int)) (courseA f (((l.take at_).drop i).map e39) name) := by
  intro d
  induction d with
  | zero =>
    intro i f h
    refine Ev.step (fun k => by rw [triremeref32_state.l0]) ?_
    rw [List.drop_eq_nil_of_le (by rw [List.length_take]; omega)]
    simp only [show ¬ ((i : Int) < (at_ : Int)) by omega, if_false, List.map_nil, courseA]
    exact Ev.now _
  | succ d ih =>
    intro i f h
    have h5 : i < l.length := by omega
    have h6 : i < (l.take at_).length := by rw [List.length_take]; omega
    refine Ev.step (fun k => by rw [triremeref32_state.l0]) ?_
    rw [List.drop_eq_getElem_cons h6, rd39_at i h5, wrap_small (i := (i : Int) + 1) (by omega) (by omega), List.map_cons, List.getElem_take]
    simp only [show (i : Int) < (at_ : Int) by omega, show (0 : Int) ≤ (i : Int) by omega, show (i : Int) < (l.length : Int) by omega, if_true, courseA, bytes_iff]
    simp only [toList_iff]
    have key := ih (i + 1) (courseUpd (e39 l[i]).what (e39 l[i]).name f) (by omega)
    rw [courseUpd_at] at key
    rw [show (e39 l[i]).name = l[i].f2 from rfl, show (e39 l[i]).what = l[i].f1 from rfl] at key ⊢
    refine ev_if (fun h => ?_) (fun h => ?_)
    · rw [if_pos h] at key
      refine ev_if (fun h1 => ?_) (fun h1 => ?_)
      · rw [if_pos h1] at key; exact key
      · rw [if_neg h1] at key
        refine ev_if (fun h2 => ?_) (fun h2 => ?_)
        · rw [if_pos h2] at key; exact key
        · rw [if_neg h2] at key
          refine ev_if (fun h3 => ?_) (fun h3 => ?_)
          · rw [if_pos (.inl h3)] at key; exact key
          · refine ev_if (fun h4 => ?_) (fun h4 => ?_)
            · rw [if_pos (.inr (.inl h4))] at key; exact key
            · refine ev_if (fun h5 => ?_) (fun h5 => ?_)
              · rw [if_pos (.inr (.inr h5))] at key; exact key
              · rw [if_neg (by rintro (h | h | h); exact h3 h; exact h4 h; exact h5 h)] at key; exact key
    · rw [if_neg h] at key; exact key
theorem state_ev (l : List S39) (hl : l.length ≤ 1000000) (name : ByteArray) (i : Nat) (hi : i ≤ l.length) : Ev (fun k => triremeref32_state.f k l (i : Int) name) (courseA (fun _ => 0) ((l.take i).map e39) name) := by
  have := state_l0 l hl name i hi i 0 (fun _ => 0) (by omega)
  rw [List.drop_zero] at this
  exact this
theorem courseA_app (f : ByteArray → Int) (l m : List EvT) : courseA f (l ++ m) = courseA (courseA f l) m := by
  induction l generalizing f with
  | nil => rfl
  | cons e l ih => exact ih _
theorem course_range (f : ByteArray → Int) (hf : ∀ y, 0 ≤ f y ∧ f y ≤ 2) (l : List EvT) : ∀ y, 0 ≤ courseA f l y ∧ courseA f l y ≤ 2 := by
  induction l generalizing f with
  | nil => exact hf
  | cons e l ih =>
    refine ih _ (fun y => ?_)
    rw [courseUpd_at]
    have := hf y
    repeat' split
    all_goals omega
theorem rcStep_eq (what : ByteArray) (s : Int) (h0 : 0 ≤ s) (bad : Bool) : rcStep what s bad = (bad || !courseOk what s) := by
  unfold rcStep courseOk
  have e1 : decide (0 < s) = !(s == 0) := by
    by_cases h : s = 0
    · subst h; rfl
    · rw [decide_eq_true (by omega), beq_eq_false_iff_ne.2 h]; rfl
  by_cases h1 : what = ⟨#[100, 111, 119, 110]⟩
  · rw [if_pos h1, if_pos h1, e1]
  · rw [if_neg h1, if_neg h1]
    by_cases h2 : what = ⟨#[100, 101, 108, 101, 116, 101]⟩
    · rw [if_pos h2, if_pos h2]; rfl
    · rw [if_neg h2, if_neg h2]
      by_cases h3 : what = ⟨#[107, 101, 101, 112]⟩ ∨ what = ⟨#[115, 116, 111, 112]⟩ ∨ what = ⟨#[103, 111, 110, 101]⟩
      · rw [if_pos h3, if_pos h3, e1, Bool.not_not]
      · rw [if_neg h3, if_neg h3]; simp
theorem refCheck_go (l : List S39) (hl : l.length ≤ 1000000) (hle : ∀ e ∈ l.map e39, e.name.size ≤ 1000000000) : ∀ (d i : Nat) (now : Int), i + d = l.length → (i = 0 → now = 0) → (∀ h : 0 < i, ∀ h2 : i - 1 < l.length, now = (l[i - 1]'h2).f0) →
    Ev (fun k => triremeref32_Check.go k l d (i : Int)) (checkR (courseA (fun _ => 0) ((l.take i).map e39)) now (i : Int) ((l.drop i).map e39)) := by
  intro d
  induction d with
  | zero =>
    intro i now h h0 h1
    rw [List.drop_eq_nil_of_le (by omega)]
    exact Ev.now _
  | succ d ih =>
    intro i now h h0 h1
    have h5 : i < l.length := by omega
    simp only [triremeref32_Check.go]
    rw [List.drop_eq_getElem_cons h5, rd39_at i h5, List.map_cons]
    simp only [checkR]
    refine Ev.bind (state_ev l hl l[i].f2 i (by omega)) ?_
    have hm := hle (e39 l[i]) (List.mem_map.2 ⟨_, List.getElem_mem h5, rfl⟩)
    refine Ev.bind (refRight_ev l[i].f0 l[i].f1 l[i].f2 l[i].f3 hm) ?_
    rw [rcStep_eq _ _ (course_range _ (fun _ => ⟨by decide, by decide⟩) _ _).1]
    rw [show (⟨l[i].f0, l[i].f1, l[i].f2, l[i].f3⟩ : EvT) = e39 l[i] from rfl]
    have e1 : rcBad l (i : Int) (rightR (e39 l[i])) = (!rightR (e39 l[i]) || decide ((e39 l[i]).now < now)) := by
      unfold rcBad
      cases hr : rightR (e39 l[i]) with
      | false => rfl
      | true =>
        obtain ⟨⟨a1, a2⟩, _⟩ := right_parts _ hr
        simp only [if_true, Bool.not_true, Bool.false_or]
        by_cases hi : 0 < i
        · have h6 : i - 1 < l.length := by omega
          rw [if_pos (by omega), rd39_at i h5, show ((i : Int) - 1) = ((i - 1 : Nat) : Int) by omega, rd39_at (i - 1) h6, h1 hi h6]; rfl
        · rw [if_neg (by omega), h0 (by omega)]
          rw [decide_eq_false (by omega)]
    rw [e1, Bool.or_assoc]
    refine ev_if (fun hb => ?_) (fun hb => ?_)
    · rw [if_pos (show stepBad _ now (e39 l[i]) = true from hb)]; exact Ev.now _
    · rw [if_neg (show ¬ stepBad _ now (e39 l[i]) = true from hb)]
      have := ih (i + 1) (e39 l[i]).now (by omega) (fun h => by omega) (fun _ h2 => rfl)
      rw [List.take_succ_eq_append_getElem h5, List.map_append, courseA_app] at this
      rw [show ((i + 1 : Nat) : Int) = (i : Int) + 1 by omega] at this
      exact this
theorem refCheck_ev (l : List S39) (hl : l.length ≤ 1000000) (hle : ∀ e ∈ l.map e39, e.name.size ≤ 1000000000) : Ev (fun k => triremeref32_Check.f k l) (checkE (l.map e39)) := by
  have := refCheck_go l hl hle l.length 0 0 (by omega) (fun _ => rfl) (fun h => absurd h (by omega))
  exact this
end Go.Proofs.Ytngmcigkihfnkaa.H
end
