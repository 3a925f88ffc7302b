import Derived.Test.YtngmcigkihfnkaaCTraceBase0
import Derived.Test.YtngmcigkihfnkaaCTraceBase1
section
namespace Go.Proofs.Ytngmcigkihfnkaa.H
open Go.RowKit Go.Proofs.YtngmcigkihfnkaaW.PrintWords Go.Proofs.YtngmcigkihfnkaaW.PrintLast Go.Proofs.YtngmcigkihfnkaaW.PrintMore
attribute [local go_sem] max2_int min2_int max_two min_two max_three min_three max_four min_four   -- for this text's walks alone
set_option linter.unusedVariables false
set_option linter.unusedSimpArgs false
mutual
def trace_read.j0 : Nat → List ByteArray → Bool → Option (Int × ByteArray × ByteArray × Int × Bool)
  | 0, _, _ => none
  | k + 1, x4, x37 => if x37 = true then (some (0, (⟨#[]⟩ : ByteArray), (⟨#[]⟩ : ByteArray), 0, false)) else (if 0 < (x4.length : Int) then (if 0 ≤ (wrap64 (((rdOf ByteArray.empty x4 0).size : Int) - 1)) then (if (wrap64 (((rdOf ByteArray.empty x4 0).size : Int) - 1)) ≤ ((rdOf ByteArray.empty x4 0).size : Int) then ((trace_number.f k ((rdOf ByteArray.empty x4 0).extract 0 ((wrap64 (((rdOf ByteArray.empty x4 0).size : Int) - 1)) : Int).toNat)).bind fun bt145 => (if 1 < (x4.length : Int) then (if (x4.length : Int) > 2 then (if 2 < (x4.length : Int) then (if bt145.2 = true then (trace_read.j1 k x4 ((rdOf ByteArray.empty x4 2).toList != ([] : List UInt8)) bt145.1 (rdOf ByteArray.empty x4 1) (rdOf ByteArray.empty x4 2) 0) else (trace_read.j1 k x4 false bt145.1 (rdOf ByteArray.empty x4 1) (rdOf ByteArray.empty x4 2) 0)) else (none)) else (trace_read.j1 k x4 bt145.2 bt145.1 (rdOf ByteArray.empty x4 1) (⟨#[]⟩ : ByteArray) 0)) else (none))) else (none)) else (none)) else (none))
def trace_read.j1 : Nat → List ByteArray → Bool → Int → ByteArray → ByteArray → Int → Option (Int × ByteArray × ByteArray × Int × Bool)
  | 0, _, _, _, _, _, _ => none
  | k + 1, x4, x7, x143000, x143001, x143002, x143003 => if (x4.length : Int) > 3 then (if 3 < (x4.length : Int) then ((trace_number.f k (rdOf ByteArray.empty x4 3)).bind fun bt150 => (if x7 = true then (if bt150.2 = true then (if bt150.1 > 0 then ((trace_Right.f k x143000 x143001 x143002 bt150.1).bind fun t152 => (some (x143000, x143001, x143002, bt150.1, t152))) else (some (x143000, x143001, x143002, bt150.1, false))) else (some (x143000, x143001, x143002, bt150.1, false))) else (some (x143000, x143001, x143002, bt150.1, false)))) else (none)) else (if x7 = true then ((trace_Right.f k x143000 x143001 x143002 x143003).bind fun t153 => (some (x143000, x143001, x143002, x143003, t153))) else (some (x143000, x143001, x143002, x143003, false)))
end
def trace_read.f (k : Nat) (a0 : ByteArray) : Option (Int × ByteArray × ByteArray × Int × Bool) := (trace_parts.f k a0 32).bind fun t136 => (if (t136.length : Int) < 2 then (trace_read.j0 k t136 true) else (if (t136.length : Int) > 4 then (trace_read.j0 k t136 true) else (if 0 < (t136.length : Int) then (if (rdOf ByteArray.empty t136 0).toList = ([] : List UInt8) then (trace_read.j0 k t136 true) else (if 0 ≤ (wrap64 (((rdOf ByteArray.empty t136 0).size : Int) - 1)) then (if (wrap64 (((rdOf ByteArray.empty t136 0).size : Int) - 1)) < ((rdOf ByteArray.empty t136 0).size : Int) then (trace_read.j0 k t136 ((bt (rdOf ByteArray.empty t136 0) (wrap64 (((rdOf ByteArray.empty t136 0).size : Int) - 1))) != 58)) else (none)) else (none))) else (none))))
theorem trace_read.mono_l : ∀ k, (∀ y0 y1, LeO (trace_read.j0 k y0 y1) (trace_read.j0 (k + 1) y0 y1)) ∧ (∀ y0 y1 y2 y3 y4 y5, LeO (trace_read.j1 k y0 y1 y2 y3 y4 y5) (trace_read.j1 (k + 1) y0 y1 y2 y3 y4 y5))
  | 0 => ⟨fun _ _ r h => by simp [trace_read.j0] at h, fun _ _ _ _ _ _ r h => by simp [trace_read.j1] at h⟩
  | k + 1 => by
    obtain ⟨ih0, ih1⟩ := trace_read.mono_l k
    refine ⟨?_, ?_⟩
    · intro y0 y1
      unfold trace_read.j0
      repeat' first
      | (with_reducible exact ih0 _ _)
      | (with_reducible exact ih1 _ _ _ _ _ _)
      | (with_reducible exact trace_Right.mono _ _ _ _ _)
      | (with_reducible exact trace_number.mono _ _)
      | (with_reducible exact trace_parts.mono _ _ _)
      | (with_reducible exact LeO.refl _)
      | (with_reducible exact LeO.none _)
      | (with_reducible refine LeO.ite ?_ ?_)
      | (with_reducible refine LeO.bind ?_ (fun _ => ?_))
      | exact ih0 _ _
      | exact ih1 _ _ _ _ _ _
      | exact trace_Right.mono _ _ _ _ _
      | exact trace_number.mono _ _
      | exact trace_parts.mono _ _ _
      | exact LeO.none _
      | refine LeO.ite ?_ ?_
      | refine LeO.bind ?_ (fun _ => ?_)
    · intro y0 y1 y2 y3 y4 y5
      unfold trace_read.j1
      repeat' first
      | (with_reducible exact ih0 _ _)
      | (with_reducible exact ih1 _ _ _ _ _ _)
      | (with_reducible exact trace_Right.mono _ _ _ _ _)
      | (with_reducible exact trace_number.mono _ _)
      | (with_reducible exact trace_parts.mono _ _ _)
      | (with_reducible exact LeO.refl _)
      | (with_reducible exact LeO.none _)
      | (with_reducible refine LeO.ite ?_ ?_)
      | (with_reducible refine LeO.bind ?_ (fun _ => ?_))
      | exact ih0 _ _
      | exact ih1 _ _ _ _ _ _
      | exact trace_Right.mono _ _ _ _ _
      | exact trace_number.mono _ _
      | exact trace_parts.mono _ _ _
      | exact LeO.none _
      | refine LeO.ite ?_ ?_
      | refine LeO.bind ?_ (fun _ => ?_)
theorem trace_read.mono : ∀ a0 k, LeO (trace_read.f k a0) (trace_read.f (k + 1) a0) := by
  intro a0 k
  obtain ⟨ih0, ih1⟩ := trace_read.mono_l k
  unfold trace_read.f
  repeat' first
      | (with_reducible exact ih0 _ _)
      | (with_reducible exact ih1 _ _ _ _ _ _)
      | (with_reducible exact trace_Right.mono _ _ _ _ _)
      | (with_reducible exact trace_number.mono _ _)
      | (with_reducible exact trace_parts.mono _ _ _)
      | (with_reducible exact LeO.refl _)
      | (with_reducible exact LeO.none _)
      | (with_reducible refine LeO.ite ?_ ?_)
      | (with_reducible refine LeO.bind ?_ (fun _ => ?_))
      | exact ih0 _ _
      | exact ih1 _ _ _ _ _ _
      | exact trace_Right.mono _ _ _ _ _
      | exact trace_number.mono _ _
      | exact trace_parts.mono _ _ _
      | exact LeO.none _
      | refine LeO.ite ?_ ?_
      | refine LeO.bind ?_ (fun _ => ?_)
def trace_read.T2 : Bool × List (List Nat × List Nat) := (true, [([], []), ([0], [0]), ([1], [1]), ([2], [2]), ([3], [3]), ([4, 3], [3, 4]), ([5, 3], [3, 5]), ([3, 6], [3, 6]), ([7, 3], [7]), ([8], [8]), ([9, 8], [8, 9]), ([10, 8], [8, 10]), ([11, 8], [8, 11]), ([8, 12], [8, 12]), ([13, 8], [13]), ([14], [14]), ([15, 14], [14, 15]), ([16, 14], [14, 16]), ([14], [14]), ([18, 14], [14, 18]), ([19, 14], [14, 19]), ([20, 14], [14, 20]), ([21, 14], [14, 21]), ([17, 22, 14], [14, 17, 22]), ([23, 14], [14, 23]), ([14, 24], [14, 24])])
def trace_read.B2 : List Nat := [0, 1, 3, 7, 15, 31, 63, 127, 255, 511, 1023, 2047, 4095, 8191, 16383, 32767, 65535, 131071, 32767, 294911, 819199, 1867775, 3964927, 8388607, 16777215, 33554431]
theorem trace_read.tab2 : rtab .any (opsOf Try.f25 2) = trace_read.T2 := by kernel_rfl
theorem trace_read.bits2 : waitsOk trace_read.T2.2 trace_read.B2 = true := by kernel_rfl
def trace_read.T5 : Bool × List (List Nat × List Nat) := (true, [([], []), ([0], [0]), ([1], [1]), ([], []), ([3], [3]), ([4], [4]), ([5], [5]), ([6], [6]), ([2, 7], [2, 7]), ([8], [8]), ([9], [9]), ([10], [10]), ([10], [10]), ([11, 9, 0, 1, 2, 3, 4, 5, 6, 7, 8, 9, 10, 11], [11]), ([12, 13, 0, 1, 2, 3, 4, 5, 6, 7, 8, 9, 10, 11, 12, 13], [12])])
def trace_read.B5 : List Nat := [0, 1, 3, 0, 8, 24, 56, 120, 255, 511, 1023, 2047, 2047, 4095, 16383]
theorem trace_read.tab5 : rtab .any (opsOf Try.f25 5) = trace_read.T5 := by kernel_rfl
theorem trace_read.bits5 : waitsOk trace_read.T5.2 trace_read.B5 = true := by kernel_rfl
def trace_read.T6 : Bool × List (List Nat × List Nat) := (true, [([], []), ([], []), ([1], [1]), ([2], [2]), ([0], []), ([4, 0, 0], [0, 4]), ([0, 1, 2, 3, 4, 5], []), ([6, 3, 5, 0, 1, 2, 3, 4, 5], [3, 6])])
def trace_read.B6 : List Nat := [0, 0, 2, 6, 1, 17, 63, 127]
theorem trace_read.tab6 : rtab .any (opsOf Try.f25 6) = trace_read.T6 := by kernel_rfl
theorem trace_read.bits6 : waitsOk trace_read.T6.2 trace_read.B6 = true := by kernel_rfl
def trace_read.T14 : Bool × List (List Nat × List Nat) := (true, [([], []), ([], []), ([1], [1]), ([2], [2]), ([3, 2, 2], [2, 3]), ([2, 4], [2, 4]), ([0, 4, 0], [0]), ([5, 6, 0, 1, 2, 3, 4, 5, 6], [5])])
def trace_read.B14 : List Nat := [0, 0, 2, 6, 14, 30, 31, 127]
theorem trace_read.tab14 : rtab .any (opsOf Try.f25 14) = trace_read.T14 := by kernel_rfl
theorem trace_read.bits14 : waitsOk trace_read.T14.2 trace_read.B14 = true := by kernel_rfl
set_option maxHeartbeats 8000000 in
set_option maxRecDepth 100000 in
theorem trace_read.calls (k : Nat) (a0 : ByteArray) (r1 : Int) (r2 : ByteArray) (r3 : ByteArray) (r4 : Int) (r5 : Bool) (w : World) (h : trace_read.f k a0 = some (r1, r2, r3, r4, r5)) :
    Calls Try.prog 25 #[.string a0] w fun e w' => e = .returned (.tuple #[.agg #[.int .i64 r1, .string r2, .string r3, .int .i64 r4], .bool r5]) ∧ Below w.heap.size w w' := by
  have hu37 := Try.underlying37
  have HB := Aside0.mk (Below.refl w.heap.size w)
  have H : ((trace_parts.f k a0 32).bind fun t136 => (if (t136.length : Int) < 2 then (trace_read.j0 k t136 true) else (if (t136.length : Int) > 4 then (trace_read.j0 k t136 true) else (if 0 < (t136.length : Int) then (if (rdOf ByteArray.empty t136 0).toList = ([] : List UInt8) then (trace_read.j0 k t136 true) else (if 0 ≤ (wrap64 (((rdOf ByteArray.empty t136 0).size : Int) - 1)) then (if (wrap64 (((rdOf ByteArray.empty t136 0).size : Int) - 1)) < ((rdOf ByteArray.empty t136 0).size : Int) then (trace_read.j0 k t136 ((bt (rdOf ByteArray.empty t136 0) (wrap64 (((rdOf ByteArray.empty t136 0).size : Int) - 1))) != 58)) else (none)) else (none))) else (none))))) = some (r1, r2, r3, r4, r5) := h
  clear h
  replace H := Option.bind_eq_some_iff.mp H
  obtain ⟨t136, A20, H⟩ := H
  replace H : (if (t136.length : Int) < 2 then (trace_read.j0 k t136 true) else (if (t136.length : Int) > 4 then (trace_read.j0 k t136 true) else (if 0 < (t136.length : Int) then (if (rdOf ByteArray.empty t136 0).toList = ([] : List UInt8) then (trace_read.j0 k t136 true) else (if 0 ≤ (wrap64 (((rdOf ByteArray.empty t136 0).size : Int) - 1)) then (if (wrap64 (((rdOf ByteArray.empty t136 0).size : Int) - 1)) < ((rdOf ByteArray.empty t136 0).size : Int) then (trace_read.j0 k t136 ((bt (rdOf ByteArray.empty t136 0) (wrap64 (((rdOf ByteArray.empty t136 0).size : Int) - 1))) != 58)) else (none)) else (none))) else (none)))) = some (r1, r2, r3, r4, r5) := H
  have A2 := Aside0.mk A20
  clear A20
  have HC3 := Aside0.mk H
  clear H
  go_enter Try.func25, Try.ntmps25
  go_upto_region 2 with (first | ((with_reducible refine gate_dst (N := 2) rfl ?_); (try (refine gate_guard (by rfl) ?_; dsimp only)); refine box_event ?hg (N := 2) ?hd (cs := #[.int .i64 0, .string (⟨#[]⟩ : ByteArray), .string (⟨#[]⟩ : ByteArray), .int .i64 0]) (t := 37) ?hr ?_; (case hd => rfl); (case hg => rfl); (case hr => first | (go_simp; done) | (go_simp; rfl)); intro gb135 hg w4 hbox hb; have n0_ := Aside0.mk (below_step (by repeat (first | (with_reducible first | exact HB.out | apply below_alloc | apply pw_below_drewN | apply below_drew1) | exact HB.out)) hb); have n1_ := Aside0.mk (hbox); have n2_ := Aside0.mk ((by rw [hg]; exact (below_size (by repeat (first | (with_reducible first | exact HB.out | apply below_alloc | apply pw_below_drewN | apply below_drew1) | exact HB.out))) : w.heap.size ≤ gb135)); have n3_ := Aside0.mk ((by rw [hg]; exact (below_size (by repeat (first | (with_reducible first | exact HB.out | apply below_alloc | apply pw_below_drewN | apply below_drew1) | exact HB.out))) : w.heap.size ≤ gb135)); clear HB; have HB := n0_; have BK135 := n1_; have GW135 := n2_; have GE135 := n3_; clear n0_ n1_ n2_ n3_; clear hb hbox hg) | ((first | ((with_reducible refine gate_callee (f := 24) rfl ?_); refine goesL_ (some 11) rfl rfl Try.func24 (by kernel_rfl) rfl #[.string a0, .int .u8 32] rfl (by (try simp only [List.map_toArray, List.map_cons, List.map_nil]); first | done | rfl | (simp only [List.length_drop, List.length_take]; rfl)) ?_; (with_reducible refine (trace_parts.calls k a0 32 t136 _ A2.out).mono ?_); rintro e w5 ⟨v137, rfl, ho0, hb⟩; refine ⟨_, rfl, ?_⟩) | (go_at_call 24; (with_reducible refine (trace_parts.calls k a0 32 t136 _ A2.out).mono ?_); rintro e w5 ⟨v137, rfl, ho0, hb⟩)); have n0_ := Aside0.mk (Kd.R_lower ho0 (below_size (by repeat (first | (with_reducible first | exact HB.out | apply below_alloc | apply pw_below_drewN | apply below_drew1 | refine below_set ?_ GE135.out) | exact HB.out)))); have n1_ := Aside0.mk (blk_below (g := gb135) (o := .cells #[.int .i64 0, .string (⟨#[]⟩ : ByteArray), .string (⟨#[]⟩ : ByteArray), .int .i64 0] 37 (0, 0)) (by (with_reducible repeat (first | refine blk_drewN ?_ _ | refine blk_drew ?_ | refine blk_alloc ?_ _)); exact BK135.out) hb); have n2_ := Aside0.mk (below_step (by repeat (first | (with_reducible first | exact HB.out | apply below_alloc | apply pw_below_drewN | apply below_drew1 | refine below_set ?_ GE135.out) | exact HB.out)) hb); clear BK135; clear HB; have HO138 := n0_; have BK135 := n1_; have HB := n2_; clear n0_ n1_ n2_; (try clear hb); (try clear hb2); (try clear hk); (try clear hi); (try clear ho0)))
  (try simp only [Act.put, List.setIfInBounds_toArray, List.set_cons_zero, List.set_cons_succ])
  go_cut [37] (fun v37 wc => ∃ (kq : Nat) (x37_2 : Bool), v37 = .bool x37_2 ∧ Aside0 (trace_read.j0 kq t136 x37_2 = some (r1, r2, r3, r4, r5)) ∧ Aside0 (kq ≤ k) ∧ Aside0 (Kd.R Kd.string 9 wc w.heap.size (fun _ => True) v137 t136) ∧ Aside0 (wc.heap[gb135]? = some (.cells #[.int .i64 0, .string (⟨#[]⟩ : ByteArray), .string (⟨#[]⟩ : ByteArray), .int .i64 0] 37 (0, 0))) ∧ Aside0 (Below w.heap.size w wc))
  case first =>
    have H := HC3.out
    clear HC3
    by_cases c6 : (t136.length : Int) < 2
    · rw [if_pos c6] at H
      have c6b0 : decide ((t136.length : Int) < 2) = true := decide_eq_true c6
      have c6b1 : decide (t136.length < 2) = true := decide_eq_true (by omega)
      clear c6
      (first | rw [c6b0] | (simp only [i64_w, i32_w]; rw [c6b0]) | skip)
      have H' := Aside0.mk H
      clear H
      try go_wp2
      have n0_ := Aside0.mk (Kd.R_drew HO138.out)
      have n1_ := Aside0.mk (blk_drew BK135.out)
      have n2_ := Aside0.mk (below_drew1 HB.out)
      clear HO138
      clear BK135
      clear HB
      have HO138 := n0_
      have BK135 := n1_
      have HB := n2_
      clear n0_ n1_ n2_
      obtain ⟨Ao8, co8, eo8⟩ := Kd.R_slice HO138.out
      (first | subst eo8 | (injection eo8 with f1_ f2_ f3_; have f4_ := f1_.symm; have f5_ := f3_.symm; clear f1_ f2_ f3_; subst f4_; subst f5_))
      refine start_ (n := 26) (S := fun w' => True) (ds := []) #[false, false, false, false, false, false, false, false, false, false, false, false, false, false, false, false, false, false, false, false, false, false, false, false, false, false] (by kernel_rfl) rfl rfl trivial (fun hHeld => ?_); refine with_tabW trace_read.tab2 trace_read.bits2 (fun HT_ HW_ => ?_)
      generalize w5.drew = w7 at HO138 BK135 HB hHeld ⊢
      refine pure_ (i := 0) (N := some 12) (v := ?_) (a' := ?_) #[true, false, false, false, false, false, false, false, false, false, false, false, false, false, false, false, false, false, false, false, false, false, false, false, false, false] rfl rfl (any_of HT_.out (by kernel_rfl)) (fun _ _ _ h => h) (Or.inl ⟨by rfl, ?_⟩) ?_ ?_
      rotate_left
      · intro w'; go_simp; with_reducible rfl
      rotate_left
      · simp only [Act.put, List.setIfInBounds_toArray, List.set_cons_zero, List.set_cons_succ, i64_w, i32_w]; rfl
      refine pure_ (i := 1) (N := some 13) (v := ?_) (a' := ?_) #[true, true, false, false, false, false, false, false, false, false, false, false, false, false, false, false, false, false, false, false, false, false, false, false, false, false] rfl rfl (any_of HT_.out (by kernel_rfl)) (fun _ _ _ h => h) (Or.inl ⟨by rfl, ?_⟩) ?_ ?_
      rotate_left
      · intro w'; go_simp; with_reducible rfl
      rotate_left
      · simp only [Act.put, List.setIfInBounds_toArray, List.set_cons_zero, List.set_cons_succ, i64_w, i32_w]; rfl
      refine pure_ (i := 2) (N := some 14) (v := ?_) (a' := ?_) #[true, true, true, false, false, false, false, false, false, false, false, false, false, false, false, false, false, false, false, false, false, false, false, false, false, false] rfl rfl (any_of HT_.out (by kernel_rfl)) (fun _ _ _ h => h) (Or.inl ⟨by rfl, ?_⟩) ?_ ?_
      rotate_left
      · intro w'; go_simp; with_reducible rfl
      rotate_left
      · simp only [Act.put, List.setIfInBounds_toArray, List.set_cons_zero, List.set_cons_succ, i64_w, i32_w]; rfl
      refine pure_ (i := 3) (N := some 15) (v := ?_) (a' := ?_) #[true, true, true, true, false, false, false, false, false, false, false, false, false, false, false, false, false, false, false, false, false, false, false, false, false, false] rfl rfl (any_of HT_.out (by kernel_rfl)) (fun _ _ _ h => h) (Or.inl ⟨by rfl, ?_⟩) ?_ ?_
      rotate_left
      · intro w'; go_simp; with_reducible rfl
      rotate_left
      · simp only [Act.put, List.setIfInBounds_toArray, List.set_cons_zero, List.set_cons_succ, i64_w, i32_w]; rfl
      refine pure_ (i := 4) (N := some 16) (v := undef) (a' := ?_) #[true, true, true, true, true, false, false, false, false, false, false, false, false, false, false, false, false, false, false, false, false, false, false, false, false, false] rfl rfl (any_of HT_.out (by kernel_rfl)) (fun _ _ _ h => h) (Or.inr ⟨by rfl, rfl⟩) ?_ ?_
      rotate_left
      · simp only [Act.put, List.setIfInBounds_toArray, List.set_cons_zero, List.set_cons_succ, i64_w, i32_w]; rfl
      refine pure_ (i := 5) (N := some 17) (v := undef) (a' := ?_) #[true, true, true, true, true, true, false, false, false, false, false, false, false, false, false, false, false, false, false, false, false, false, false, false, false, false] rfl rfl (any_of HT_.out (by kernel_rfl)) (fun _ _ _ h => h) (Or.inr ⟨by rfl, rfl⟩) ?_ ?_
      rotate_left
      · simp only [Act.put, List.setIfInBounds_toArray, List.set_cons_zero, List.set_cons_succ, i64_w, i32_w]; rfl
      refine pure_ (i := 6) (N := some 18) (v := undef) (a' := ?_) #[true, true, true, true, true, true, true, false, false, false, false, false, false, false, false, false, false, false, false, false, false, false, false, false, false, false] rfl rfl (any_of HT_.out (by kernel_rfl)) (fun _ _ _ h => h) (Or.inr ⟨by rfl, rfl⟩) ?_ ?_
      rotate_left
      · simp only [Act.put, List.setIfInBounds_toArray, List.set_cons_zero, List.set_cons_succ, i64_w, i32_w]; rfl
      refine pure_ (i := 7) (N := some 19) (v := ?_) (a' := ?_) #[true, true, true, true, true, true, true, true, false, false, false, false, false, false, false, false, false, false, false, false, false, false, false, false, false, false] rfl rfl (any_of HT_.out (by kernel_rfl)) (fun _ _ _ h => h) (Or.inl ⟨by rfl, ?_⟩) ?_ ?_
      rotate_left
      · intro w'; go_simp; with_reducible rfl
      rotate_left
      · simp only [Act.put, List.setIfInBounds_toArray, List.set_cons_zero, List.set_cons_succ, i64_w, i32_w]; rfl
      refine pure_ (i := 8) (N := some 20) (v := ?_) (a' := ?_) #[true, true, true, true, true, true, true, true, true, false, false, false, false, false, false, false, false, false, false, false, false, false, false, false, false, false] rfl rfl (any_of HT_.out (by kernel_rfl)) (fun _ _ _ h => h) (Or.inl ⟨by rfl, ?_⟩) ?_ ?_
      rotate_left
      · intro w'; go_simp; with_reducible rfl
      rotate_left
      · simp only [Act.put, List.setIfInBounds_toArray, List.set_cons_zero, List.set_cons_succ, i64_w, i32_w]; rfl
      refine pure_ (i := 9) (N := some 21) (v := undef) (a' := ?_) #[true, true, true, true, true, true, true, true, true, true, false, false, false, false, false, false, false, false, false, false, false, false, false, false, false, false] rfl rfl (any_of HT_.out (by kernel_rfl)) (fun _ _ _ h => h) (Or.inr ⟨by rfl, rfl⟩) ?_ ?_
      rotate_left
      · simp only [Act.put, List.setIfInBounds_toArray, List.set_cons_zero, List.set_cons_succ, i64_w, i32_w]; rfl
      refine pure_ (i := 10) (N := some 22) (v := undef) (a' := ?_) #[true, true, true, true, true, true, true, true, true, true, true, false, false, false, false, false, false, false, false, false, false, false, false, false, false, false] rfl rfl (any_of HT_.out (by kernel_rfl)) (fun _ _ _ h => h) (Or.inr ⟨by rfl, rfl⟩) ?_ ?_
      rotate_left
      · simp only [Act.put, List.setIfInBounds_toArray, List.set_cons_zero, List.set_cons_succ, i64_w, i32_w]; rfl
      refine pure_ (i := 11) (N := some 23) (v := undef) (a' := ?_) #[true, true, true, true, true, true, true, true, true, true, true, true, false, false, false, false, false, false, false, false, false, false, false, false, false, false] rfl rfl (any_of HT_.out (by kernel_rfl)) (fun _ _ _ h => h) (Or.inr ⟨by rfl, rfl⟩) ?_ ?_
      rotate_left
      · simp only [Act.put, List.setIfInBounds_toArray, List.set_cons_zero, List.set_cons_succ, i64_w, i32_w]; rfl
      refine pure_ (i := 12) (N := some 24) (v := undef) (a' := ?_) #[true, true, true, true, true, true, true, true, true, true, true, true, true, false, false, false, false, false, false, false, false, false, false, false, false, false] rfl rfl (any_of HT_.out (by kernel_rfl)) (fun _ _ _ h => h) (Or.inr ⟨by rfl, rfl⟩) ?_ ?_
      rotate_left
      · simp only [Act.put, List.setIfInBounds_toArray, List.set_cons_zero, List.set_cons_succ, i64_w, i32_w]; rfl
      refine pure_ (i := 13) (N := some 25) (v := ?_) (a' := ?_) #[true, true, true, true, true, true, true, true, true, true, true, true, true, true, false, false, false, false, false, false, false, false, false, false, false, false] rfl rfl (any_of HT_.out (by kernel_rfl)) (fun _ _ _ h => h) (Or.inl ⟨by rfl, ?_⟩) ?_ ?_
      rotate_left
      · intro w'; go_simp; with_reducible rfl
      rotate_left
      · simp only [Act.put, List.setIfInBounds_toArray, List.set_cons_zero, List.set_cons_succ, i64_w, i32_w]; rfl
      refine pure_ (i := 14) (N := some 26) (v := ?_) (a' := ?_) #[true, true, true, true, true, true, true, true, true, true, true, true, true, true, true, false, false, false, false, false, false, false, false, false, false, false] rfl rfl (any_of HT_.out (by kernel_rfl)) (fun _ _ _ h => h) (Or.inl ⟨by rfl, ?_⟩) ?_ ?_
      rotate_left
      · intro w'; go_simp; with_reducible rfl
      rotate_left
      · simp only [Act.put, List.setIfInBounds_toArray, List.set_cons_zero, List.set_cons_succ, i64_w, i32_w]; rfl
      refine pure_ (i := 15) (N := some 27) (v := undef) (a' := ?_) #[true, true, true, true, true, true, true, true, true, true, true, true, true, true, true, true, false, false, false, false, false, false, false, false, false, false] rfl rfl (any_of HT_.out (by kernel_rfl)) (fun _ _ _ h => h) (Or.inr ⟨by rfl, rfl⟩) ?_ ?_
      rotate_left
      · simp only [Act.put, List.setIfInBounds_toArray, List.set_cons_zero, List.set_cons_succ, i64_w, i32_w]; rfl
      refine pure_ (i := 16) (N := some 28) (v := undef) (a' := ?_) #[true, true, true, true, true, true, true, true, true, true, true, true, true, true, true, true, true, false, false, false, false, false, false, false, false, false] rfl rfl (any_of HT_.out (by kernel_rfl)) (fun _ _ _ h => h) (Or.inr ⟨by rfl, rfl⟩) ?_ ?_
      rotate_left
      · simp only [Act.put, List.setIfInBounds_toArray, List.set_cons_zero, List.set_cons_succ, i64_w, i32_w]; rfl
      refine pure_ (i := 17) (N := some 29) (v := undef) (a' := ?_) #[true, true, true, true, true, true, true, true, true, true, true, true, true, true, true, true, true, true, false, false, false, false, false, false, false, false] rfl rfl (any_of HT_.out (by kernel_rfl)) (fun _ _ _ h => h) (Or.inr ⟨by rfl, rfl⟩) ?_ ?_
      rotate_left
      · simp only [Act.put, List.setIfInBounds_toArray, List.set_cons_zero, List.set_cons_succ, i64_w, i32_w]; rfl
      refine pure_ (i := 18) (N := some 30) (v := undef) (a' := ?_) #[true, true, true, true, true, true, true, true, true, true, true, true, true, true, true, true, true, true, true, false, false, false, false, false, false, false] rfl rfl (any_of HT_.out (by kernel_rfl)) (fun _ _ _ h => h) (Or.inr ⟨by rfl, rfl⟩) ?_ ?_
      rotate_left
      · simp only [Act.put, List.setIfInBounds_toArray, List.set_cons_zero, List.set_cons_succ, i64_w, i32_w]; rfl
      refine pure_ (i := 19) (N := some 31) (v := undef) (a' := ?_) #[true, true, true, true, true, true, true, true, true, true, true, true, true, true, true, true, true, true, true, true, false, false, false, false, false, false] rfl rfl (any_of HT_.out (by kernel_rfl)) (fun _ _ _ h => h) (Or.inr ⟨by rfl, rfl⟩) ?_ ?_
      rotate_left
      · simp only [Act.put, List.setIfInBounds_toArray, List.set_cons_zero, List.set_cons_succ, i64_w, i32_w]; rfl
      refine pure_ (i := 20) (N := some 32) (v := undef) (a' := ?_) #[true, true, true, true, true, true, true, true, true, true, true, true, true, true, true, true, true, true, true, true, true, false, false, false, false, false] rfl rfl (any_of HT_.out (by kernel_rfl)) (fun _ _ _ h => h) (Or.inr ⟨by rfl, rfl⟩) ?_ ?_
      rotate_left
      · simp only [Act.put, List.setIfInBounds_toArray, List.set_cons_zero, List.set_cons_succ, i64_w, i32_w]; rfl
      refine pure_ (i := 21) (N := some 33) (v := undef) (a' := ?_) #[true, true, true, true, true, true, true, true, true, true, true, true, true, true, true, true, true, true, true, true, true, true, false, false, false, false] rfl rfl (any_of HT_.out (by kernel_rfl)) (fun _ _ _ h => h) (Or.inr ⟨by rfl, rfl⟩) ?_ ?_
      rotate_left
      · simp only [Act.put, List.setIfInBounds_toArray, List.set_cons_zero, List.set_cons_succ, i64_w, i32_w]; rfl
      refine pure_ (i := 22) (N := some 34) (v := undef) (a' := ?_) #[true, true, true, true, true, true, true, true, true, true, true, true, true, true, true, true, true, true, true, true, true, true, true, false, false, false] rfl rfl (any_of HT_.out (by kernel_rfl)) (fun _ _ _ h => h) (Or.inr ⟨by rfl, rfl⟩) ?_ ?_
      rotate_left
      · simp only [Act.put, List.setIfInBounds_toArray, List.set_cons_zero, List.set_cons_succ, i64_w, i32_w]; rfl
      refine pure_ (i := 23) (N := some 35) (v := undef) (a' := ?_) #[true, true, true, true, true, true, true, true, true, true, true, true, true, true, true, true, true, true, true, true, true, true, true, true, false, false] rfl rfl (any_of HT_.out (by kernel_rfl)) (fun _ _ _ h => h) (Or.inr ⟨by rfl, rfl⟩) ?_ ?_
      rotate_left
      · simp only [Act.put, List.setIfInBounds_toArray, List.set_cons_zero, List.set_cons_succ, i64_w, i32_w]; rfl
      refine pure_ (i := 24) (N := some 36) (v := undef) (a' := ?_) #[true, true, true, true, true, true, true, true, true, true, true, true, true, true, true, true, true, true, true, true, true, true, true, true, true, false] rfl rfl (any_of HT_.out (by kernel_rfl)) (fun _ _ _ h => h) (Or.inr ⟨by rfl, rfl⟩) ?_ ?_
      rotate_left
      · simp only [Act.put, List.setIfInBounds_toArray, List.set_cons_zero, List.set_cons_succ, i64_w, i32_w]; rfl
      refine pure_ (i := 25) (N := some 37) (v := ?_) (a' := ?_) #[true, true, true, true, true, true, true, true, true, true, true, true, true, true, true, true, true, true, true, true, true, true, true, true, true, true] rfl rfl (any_of HT_.out (by kernel_rfl)) (fun _ _ _ h => h) (Or.inl ⟨by rfl, ?_⟩) ?_ ?_
      rotate_left
      · intro w'; go_simp; with_reducible rfl
      rotate_left
      · simp only [Act.put, List.setIfInBounds_toArray, List.set_cons_zero, List.set_cons_succ, i64_w, i32_w]; rfl
      refine done_ (done_of HT_.out (by kernel_rfl)) ?_
      try go_wp2
      go_meet
      case rel => exact ⟨_, (true), (by first | rfl | (simp; done) | (simp [*]; done) | (simp [*]; exact (show ∀ l_ : List UInt8, l_.isEmpty = !(l_ != []) from fun l_ => by cases l_ <;> rfl) _)), H', ⟨by first | omega | exact Nat.le_refl _⟩, ⟨by (with_reducible repeat (first | apply Kd.R_alloc | apply Kd.R_drewN | apply Kd.R_drew)); exact HO138.out⟩, ⟨by (with_reducible repeat (first | refine blk_drewN ?_ _ | refine blk_drew ?_ | refine blk_alloc ?_ _)); exact BK135.out⟩, ⟨by repeat (first | (with_reducible first | exact HB.out | apply below_alloc | apply pw_below_drewN | apply below_drew1 | refine below_set ?_ GE135.out) | exact HB.out)⟩⟩
    · rw [if_neg c6] at H
      have c6b0 : decide ((t136.length : Int) < 2) = false := decide_eq_false c6
      have c6b1 : decide (t136.length < 2) = false := decide_eq_false (by omega)
      clear c6
      (first | rw [c6b0] | (simp only [i64_w, i32_w]; rw [c6b0]) | skip)
      by_cases c9 : (t136.length : Int) > 4
      · rw [if_pos c9] at H
        have c9b0 : decide (4 < (t136.length : Int)) = true := decide_eq_true c9
        have c9b1 : decide (4 < t136.length) = true := decide_eq_true (by omega)
        clear c9
        have H' := Aside0.mk H
        clear H
        try go_wp2
        have n0_ := Aside0.mk (Kd.R_drew HO138.out)
        have n1_ := Aside0.mk (blk_drew BK135.out)
        have n2_ := Aside0.mk (below_drew1 HB.out)
        clear HO138
        clear BK135
        clear HB
        have HO138 := n0_
        have BK135 := n1_
        have HB := n2_
        clear n0_ n1_ n2_
        obtain ⟨Ao11, co11, eo11⟩ := Kd.R_slice HO138.out
        (first | subst eo11 | (injection eo11 with f1_ f2_ f3_; have f4_ := f1_.symm; have f5_ := f3_.symm; clear f1_ f2_ f3_; subst f4_; subst f5_))
        refine start_ (n := 26) (S := fun w' => True) (ds := []) #[false, false, false, false, false, false, false, false, false, false, false, false, false, false, false, false, false, false, false, false, false, false, false, false, false, false] (by kernel_rfl) rfl rfl trivial (fun hHeld => ?_); refine with_tabW trace_read.tab2 trace_read.bits2 (fun HT_ HW_ => ?_)
        generalize w5.drew = w10 at HO138 BK135 HB hHeld ⊢
        refine pure_ (i := 0) (N := some 12) (v := ?_) (a' := ?_) #[true, false, false, false, false, false, false, false, false, false, false, false, false, false, false, false, false, false, false, false, false, false, false, false, false, false] rfl rfl (any_of HT_.out (by kernel_rfl)) (fun _ _ _ h => h) (Or.inl ⟨by rfl, ?_⟩) ?_ ?_
        rotate_left
        · intro w'; go_simp; with_reducible rfl
        rotate_left
        · simp only [Act.put, List.setIfInBounds_toArray, List.set_cons_zero, List.set_cons_succ, i64_w, i32_w]; rfl
        refine pure_ (i := 1) (N := some 13) (v := ?_) (a' := ?_) #[true, true, false, false, false, false, false, false, false, false, false, false, false, false, false, false, false, false, false, false, false, false, false, false, false, false] rfl rfl (any_of HT_.out (by kernel_rfl)) (fun _ _ _ h => h) (Or.inl ⟨by rfl, ?_⟩) ?_ ?_
        rotate_left
        · intro w'; go_simp; with_reducible rfl
        rotate_left
        · simp only [Act.put, List.setIfInBounds_toArray, List.set_cons_zero, List.set_cons_succ, i64_w, i32_w]; rfl
        refine pure_ (i := 2) (N := some 14) (v := ?_) (a' := ?_) #[true, true, true, false, false, false, false, false, false, false, false, false, false, false, false, false, false, false, false, false, false, false, false, false, false, false] rfl rfl (any_of HT_.out (by kernel_rfl)) (fun _ _ _ h => h) (Or.inl ⟨by rfl, ?_⟩) ?_ ?_
        rotate_left
        · intro w'; go_simp; with_reducible rfl
        rotate_left
        · simp only [Act.put, List.setIfInBounds_toArray, List.set_cons_zero, List.set_cons_succ, i64_w, i32_w]; rfl
        refine pure_ (i := 3) (N := some 15) (v := ?_) (a' := ?_) #[true, true, true, true, false, false, false, false, false, false, false, false, false, false, false, false, false, false, false, false, false, false, false, false, false, false] rfl rfl (any_of HT_.out (by kernel_rfl)) (fun _ _ _ h => h) (Or.inl ⟨by rfl, ?_⟩) ?_ ?_
        rotate_left
        · intro w'; go_simp; with_reducible rfl
        rotate_left
        · simp only [Act.put, List.setIfInBounds_toArray, List.set_cons_zero, List.set_cons_succ, i64_w, i32_w]; rfl
        refine pure_ (i := 4) (N := some 16) (v := ?_) (a' := ?_) #[true, true, true, true, true, false, false, false, false, false, false, false, false, false, false, false, false, false, false, false, false, false, false, false, false, false] rfl rfl (any_of HT_.out (by kernel_rfl)) (fun _ _ _ h => h) (Or.inl ⟨by rfl, ?_⟩) ?_ ?_
        rotate_left
        · intro w'; go_simp; with_reducible rfl
        rotate_left
        · simp only [Act.put, List.setIfInBounds_toArray, List.set_cons_zero, List.set_cons_succ, i64_w, i32_w]; rfl
        refine pure_ (i := 5) (N := some 17) (v := ?_) (a' := ?_) #[true, true, true, true, true, true, false, false, false, false, false, false, false, false, false, false, false, false, false, false, false, false, false, false, false, false] rfl rfl (any_of HT_.out (by kernel_rfl)) (fun _ _ _ h => h) (Or.inl ⟨by rfl, ?_⟩) ?_ ?_
        rotate_left
        · intro w'; go_simp; with_reducible rfl
        rotate_left
        · simp only [Act.put, List.setIfInBounds_toArray, List.set_cons_zero, List.set_cons_succ, i64_w, i32_w]; rfl
        refine pure_ (i := 6) (N := some 18) (v := ?_) (a' := ?_) #[true, true, true, true, true, true, true, false, false, false, false, false, false, false, false, false, false, false, false, false, false, false, false, false, false, false] rfl rfl (any_of HT_.out (by kernel_rfl)) (fun _ _ _ h => h) (Or.inl ⟨by rfl, ?_⟩) ?_ ?_
        rotate_left
        · intro w'; go_simp; with_reducible rfl
        rotate_left
        · simp only [Act.put, List.setIfInBounds_toArray, List.set_cons_zero, List.set_cons_succ, i64_w, i32_w]; rfl
        refine pure_ (i := 7) (N := some 19) (v := ?_) (a' := ?_) #[true, true, true, true, true, true, true, true, false, false, false, false, false, false, false, false, false, false, false, false, false, false, false, false, false, false] rfl rfl (any_of HT_.out (by kernel_rfl)) (fun _ _ _ h => h) (Or.inl ⟨by rfl, ?_⟩) ?_ ?_
        rotate_left
        · intro w'; go_simp; with_reducible rfl
        rotate_left
        · simp only [Act.put, List.setIfInBounds_toArray, List.set_cons_zero, List.set_cons_succ, i64_w, i32_w]; rfl
        refine pure_ (i := 8) (N := some 20) (v := ?_) (a' := ?_) #[true, true, true, true, true, true, true, true, true, false, false, false, false, false, false, false, false, false, false, false, false, false, false, false, false, false] rfl rfl (any_of HT_.out (by kernel_rfl)) (fun _ _ _ h => h) (Or.inl ⟨by rfl, ?_⟩) ?_ ?_
        rotate_left
        · intro w'; go_simp; with_reducible rfl
        rotate_left
        · simp only [Act.put, List.setIfInBounds_toArray, List.set_cons_zero, List.set_cons_succ, i64_w, i32_w]; rfl
        refine pure_ (i := 9) (N := some 21) (v := undef) (a' := ?_) #[true, true, true, true, true, true, true, true, true, true, false, false, false, false, false, false, false, false, false, false, false, false, false, false, false, false] rfl rfl (any_of HT_.out (by kernel_rfl)) (fun _ _ _ h => h) (Or.inr ⟨by rfl, rfl⟩) ?_ ?_
        rotate_left
        · simp only [Act.put, List.setIfInBounds_toArray, List.set_cons_zero, List.set_cons_succ, i64_w, i32_w]; rfl
        refine pure_ (i := 10) (N := some 22) (v := undef) (a' := ?_) #[true, true, true, true, true, true, true, true, true, true, true, false, false, false, false, false, false, false, false, false, false, false, false, false, false, false] rfl rfl (any_of HT_.out (by kernel_rfl)) (fun _ _ _ h => h) (Or.inr ⟨by rfl, rfl⟩) ?_ ?_
        rotate_left
        · simp only [Act.put, List.setIfInBounds_toArray, List.set_cons_zero, List.set_cons_succ, i64_w, i32_w]; rfl
        refine pure_ (i := 11) (N := some 23) (v := undef) (a' := ?_) #[true, true, true, true, true, true, true, true, true, true, true, true, false, false, false, false, false, false, false, false, false, false, false, false, false, false] rfl rfl (any_of HT_.out (by kernel_rfl)) (fun _ _ _ h => h) (Or.inr ⟨by rfl, rfl⟩) ?_ ?_
        rotate_left
        · simp only [Act.put, List.setIfInBounds_toArray, List.set_cons_zero, List.set_cons_succ, i64_w, i32_w]; rfl
        refine pure_ (i := 12) (N := some 24) (v := undef) (a' := ?_) #[true, true, true, true, true, true, true, true, true, true, true, true, true, false, false, false, false, false, false, false, false, false, false, false, false, false] rfl rfl (any_of HT_.out (by kernel_rfl)) (fun _ _ _ h => h) (Or.inr ⟨by rfl, rfl⟩) ?_ ?_
        rotate_left
        · simp only [Act.put, List.setIfInBounds_toArray, List.set_cons_zero, List.set_cons_succ, i64_w, i32_w]; rfl
        refine pure_ (i := 13) (N := some 25) (v := ?_) (a' := ?_) #[true, true, true, true, true, true, true, true, true, true, true, true, true, true, false, false, false, false, false, false, false, false, false, false, false, false] rfl rfl (any_of HT_.out (by kernel_rfl)) (fun _ _ _ h => h) (Or.inl ⟨by rfl, ?_⟩) ?_ ?_
        rotate_left
        · intro w'; go_simp; with_reducible rfl
        rotate_left
        · simp only [Act.put, List.setIfInBounds_toArray, List.set_cons_zero, List.set_cons_succ, i64_w, i32_w]; rfl
        refine pure_ (i := 14) (N := some 26) (v := ?_) (a' := ?_) #[true, true, true, true, true, true, true, true, true, true, true, true, true, true, true, false, false, false, false, false, false, false, false, false, false, false] rfl rfl (any_of HT_.out (by kernel_rfl)) (fun _ _ _ h => h) (Or.inl ⟨by rfl, ?_⟩) ?_ ?_
        rotate_left
        · intro w'; go_simp; with_reducible rfl
        rotate_left
        · simp only [Act.put, List.setIfInBounds_toArray, List.set_cons_zero, List.set_cons_succ, i64_w, i32_w]; rfl
        refine pure_ (i := 15) (N := some 27) (v := undef) (a' := ?_) #[true, true, true, true, true, true, true, true, true, true, true, true, true, true, true, true, false, false, false, false, false, false, false, false, false, false] rfl rfl (any_of HT_.out (by kernel_rfl)) (fun _ _ _ h => h) (Or.inr ⟨by rfl, rfl⟩) ?_ ?_
        rotate_left
        · simp only [Act.put, List.setIfInBounds_toArray, List.set_cons_zero, List.set_cons_succ, i64_w, i32_w]; rfl
        refine pure_ (i := 16) (N := some 28) (v := undef) (a' := ?_) #[true, true, true, true, true, true, true, true, true, true, true, true, true, true, true, true, true, false, false, false, false, false, false, false, false, false] rfl rfl (any_of HT_.out (by kernel_rfl)) (fun _ _ _ h => h) (Or.inr ⟨by rfl, rfl⟩) ?_ ?_
        rotate_left
        · simp only [Act.put, List.setIfInBounds_toArray, List.set_cons_zero, List.set_cons_succ, i64_w, i32_w]; rfl
        refine pure_ (i := 17) (N := some 29) (v := undef) (a' := ?_) #[true, true, true, true, true, true, true, true, true, true, true, true, true, true, true, true, true, true, false, false, false, false, false, false, false, false] rfl rfl (any_of HT_.out (by kernel_rfl)) (fun _ _ _ h => h) (Or.inr ⟨by rfl, rfl⟩) ?_ ?_
        rotate_left
        · simp only [Act.put, List.setIfInBounds_toArray, List.set_cons_zero, List.set_cons_succ, i64_w, i32_w]; rfl
        refine pure_ (i := 18) (N := some 30) (v := undef) (a' := ?_) #[true, true, true, true, true, true, true, true, true, true, true, true, true, true, true, true, true, true, true, false, false, false, false, false, false, false] rfl rfl (any_of HT_.out (by kernel_rfl)) (fun _ _ _ h => h) (Or.inr ⟨by rfl, rfl⟩) ?_ ?_
        rotate_left
        · simp only [Act.put, List.setIfInBounds_toArray, List.set_cons_zero, List.set_cons_succ, i64_w, i32_w]; rfl
        refine pure_ (i := 19) (N := some 31) (v := undef) (a' := ?_) #[true, true, true, true, true, true, true, true, true, true, true, true, true, true, true, true, true, true, true, true, false, false, false, false, false, false] rfl rfl (any_of HT_.out (by kernel_rfl)) (fun _ _ _ h => h) (Or.inr ⟨by rfl, rfl⟩) ?_ ?_
        rotate_left
        · simp only [Act.put, List.setIfInBounds_toArray, List.set_cons_zero, List.set_cons_succ, i64_w, i32_w]; rfl
        refine pure_ (i := 20) (N := some 32) (v := undef) (a' := ?_) #[true, true, true, true, true, true, true, true, true, true, true, true, true, true, true, true, true, true, true, true, true, false, false, false, false, false] rfl rfl (any_of HT_.out (by kernel_rfl)) (fun _ _ _ h => h) (Or.inr ⟨by rfl, rfl⟩) ?_ ?_
        rotate_left
        · simp only [Act.put, List.setIfInBounds_toArray, List.set_cons_zero, List.set_cons_succ, i64_w, i32_w]; rfl
        refine pure_ (i := 21) (N := some 33) (v := undef) (a' := ?_) #[true, true, true, true, true, true, true, true, true, true, true, true, true, true, true, true, true, true, true, true, true, true, false, false, false, false] rfl rfl (any_of HT_.out (by kernel_rfl)) (fun _ _ _ h => h) (Or.inr ⟨by rfl, rfl⟩) ?_ ?_
        rotate_left
        · simp only [Act.put, List.setIfInBounds_toArray, List.set_cons_zero, List.set_cons_succ, i64_w, i32_w]; rfl
        refine pure_ (i := 22) (N := some 34) (v := undef) (a' := ?_) #[true, true, true, true, true, true, true, true, true, true, true, true, true, true, true, true, true, true, true, true, true, true, true, false, false, false] rfl rfl (any_of HT_.out (by kernel_rfl)) (fun _ _ _ h => h) (Or.inr ⟨by rfl, rfl⟩) ?_ ?_
        rotate_left
        · simp only [Act.put, List.setIfInBounds_toArray, List.set_cons_zero, List.set_cons_succ, i64_w, i32_w]; rfl
        refine pure_ (i := 23) (N := some 35) (v := undef) (a' := ?_) #[true, true, true, true, true, true, true, true, true, true, true, true, true, true, true, true, true, true, true, true, true, true, true, true, false, false] rfl rfl (any_of HT_.out (by kernel_rfl)) (fun _ _ _ h => h) (Or.inr ⟨by rfl, rfl⟩) ?_ ?_
        rotate_left
        · simp only [Act.put, List.setIfInBounds_toArray, List.set_cons_zero, List.set_cons_succ, i64_w, i32_w]; rfl
        refine pure_ (i := 24) (N := some 36) (v := undef) (a' := ?_) #[true, true, true, true, true, true, true, true, true, true, true, true, true, true, true, true, true, true, true, true, true, true, true, true, true, false] rfl rfl (any_of HT_.out (by kernel_rfl)) (fun _ _ _ h => h) (Or.inr ⟨by rfl, rfl⟩) ?_ ?_
        rotate_left
        · simp only [Act.put, List.setIfInBounds_toArray, List.set_cons_zero, List.set_cons_succ, i64_w, i32_w]; rfl
        refine pure_ (i := 25) (N := some 37) (v := ?_) (a' := ?_) #[true, true, true, true, true, true, true, true, true, true, true, true, true, true, true, true, true, true, true, true, true, true, true, true, true, true] rfl rfl (any_of HT_.out (by kernel_rfl)) (fun _ _ _ h => h) (Or.inl ⟨by rfl, ?_⟩) ?_ ?_
        rotate_left
        · intro w'; go_simp; with_reducible rfl
        rotate_left
        · simp only [Act.put, List.setIfInBounds_toArray, List.set_cons_zero, List.set_cons_succ, i64_w, i32_w]; rfl
        refine done_ (done_of HT_.out (by kernel_rfl)) ?_
        try go_wp2
        go_meet
        case rel => exact ⟨_, (true), (by first | rfl | (simp; done) | (simp [*]; done) | (simp [*]; exact (show ∀ l_ : List UInt8, l_.isEmpty = !(l_ != []) from fun l_ => by cases l_ <;> rfl) _)), H', ⟨by first | omega | exact Nat.le_refl _⟩, ⟨by (with_reducible repeat (first | apply Kd.R_alloc | apply Kd.R_drewN | apply Kd.R_drew)); exact HO138.out⟩, ⟨by (with_reducible repeat (first | refine blk_drewN ?_ _ | refine blk_drew ?_ | refine blk_alloc ?_ _)); exact BK135.out⟩, ⟨by repeat (first | (with_reducible first | exact HB.out | apply below_alloc | apply pw_below_drewN | apply below_drew1 | refine below_set ?_ GE135.out) | exact HB.out)⟩⟩
      · rw [if_neg c9] at H
        have c9b0 : decide (4 < (t136.length : Int)) = false := decide_eq_false c9
        have c9b1 : decide (4 < t136.length) = false := decide_eq_false (by omega)
        clear c9
        by_cases c12 : 0 < (t136.length : Int)
        · rw [if_pos c12] at H
          have c12b0 : decide (0 < (t136.length : Int)) = true := decide_eq_true c12
          have c12b1 : decide (0 < t136.length) = true := decide_eq_true (by omega)
          clear c12
          by_cases c13 : (rdOf ByteArray.empty t136 0).toList = ([] : List UInt8)
          · rw [if_pos c13] at H
            have c13b0 : ((rdOf ByteArray.empty t136 0).toList == ([] : List UInt8)) = true := beq_iff_eq.mpr c13
            have c13b1 : ((rdOf ByteArray.empty t136 0).toList != ([] : List UInt8)) = false := bne_eq_false_iff_eq.mpr c13
            clear c13
            have H' := Aside0.mk H
            clear H
            try go_wp2
            have n0_ := Aside0.mk (Kd.R_drew HO138.out)
            have n1_ := Aside0.mk (blk_drew BK135.out)
            have n2_ := Aside0.mk (below_drew1 HB.out)
            clear HO138
            clear BK135
            clear HB
            have HO138 := n0_
            have BK135 := n1_
            have HB := n2_
            clear n0_ n1_ n2_
            obtain ⟨Ao15, co15, eo15⟩ := Kd.R_slice HO138.out
            (first | subst eo15 | (injection eo15 with f1_ f2_ f3_; have f4_ := f1_.symm; have f5_ := f3_.symm; clear f1_ f2_ f3_; subst f4_; subst f5_))
            have p139 : 0 ≤ (0 : Int) := (by omega)
            have q139 : 0 < (t136.length : Int) := of_decide_eq_true (by first | (with_reducible assumption) | assumption)
            obtain ⟨ad139, e139, hx139_0⟩ := Kd.at_string (Kd.R_reads' HO138.out).2.2 0 p139 q139
            cases e139
            have qi139 : (0 < t136.length) = True := eq_true (by omega)
            (try rw [show ((0 : Int)).toNat = 0 from rfl] at hx139_0)
            (try rw [Addr.add_zero'] at hx139_0)
            replace p139 := eq_true p139
            replace q139 := eq_true q139
            (try (have qz139 := q139; rw [ByteArray.size_extract, Nat.min_self] at qz139))
            refine start_ (n := 26) (S := fun w' => w'.cell? ad139 = some (.string (rdOf ByteArray.empty t136 0))) (ds := []) #[false, false, false, false, false, false, false, false, false, false, false, false, false, false, false, false, false, false, false, false, false, false, false, false, false, false] (by kernel_rfl) rfl rfl (hx139_0) (fun hHeld => ?_); refine with_tabW trace_read.tab2 trace_read.bits2 (fun HT_ HW_ => ?_)
            generalize w5.drew = w14 at HO138 BK135 HB hx139_0 hHeld ⊢
            refine pure_ (i := 0) (N := some 12) (v := ?_) (a' := ?_) #[true, false, false, false, false, false, false, false, false, false, false, false, false, false, false, false, false, false, false, false, false, false, false, false, false, false] rfl rfl (any_of HT_.out (by kernel_rfl)) (fun _ _ _ h => h) (Or.inl ⟨by rfl, ?_⟩) ?_ ?_
            rotate_left
            · intro w'; go_simp; with_reducible rfl
            rotate_left
            · simp only [Act.put, List.setIfInBounds_toArray, List.set_cons_zero, List.set_cons_succ, i64_w, i32_w]; rfl
            refine pure_ (i := 1) (N := some 13) (v := ?_) (a' := ?_) #[true, true, false, false, false, false, false, false, false, false, false, false, false, false, false, false, false, false, false, false, false, false, false, false, false, false] rfl rfl (any_of HT_.out (by kernel_rfl)) (fun _ _ _ h => h) (Or.inl ⟨by rfl, ?_⟩) ?_ ?_
            rotate_left
            · intro w'; go_simp; with_reducible rfl
            rotate_left
            · simp only [Act.put, List.setIfInBounds_toArray, List.set_cons_zero, List.set_cons_succ, i64_w, i32_w]; rfl
            refine pure_ (i := 2) (N := some 14) (v := ?_) (a' := ?_) #[true, true, true, false, false, false, false, false, false, false, false, false, false, false, false, false, false, false, false, false, false, false, false, false, false, false] rfl rfl (any_of HT_.out (by kernel_rfl)) (fun _ _ _ h => h) (Or.inl ⟨by rfl, ?_⟩) ?_ ?_
            rotate_left
            · intro w'; go_simp; with_reducible rfl
            rotate_left
            · simp only [Act.put, List.setIfInBounds_toArray, List.set_cons_zero, List.set_cons_succ, i64_w, i32_w]; rfl
            refine pure_ (i := 3) (N := some 15) (v := ?_) (a' := ?_) #[true, true, true, true, false, false, false, false, false, false, false, false, false, false, false, false, false, false, false, false, false, false, false, false, false, false] rfl rfl (any_of HT_.out (by kernel_rfl)) (fun _ _ _ h => h) (Or.inl ⟨by rfl, ?_⟩) ?_ ?_
            rotate_left
            · intro w'; go_simp; with_reducible rfl
            rotate_left
            · simp only [Act.put, List.setIfInBounds_toArray, List.set_cons_zero, List.set_cons_succ, i64_w, i32_w]; rfl
            refine pure_ (i := 4) (N := some 16) (v := ?_) (a' := ?_) #[true, true, true, true, true, false, false, false, false, false, false, false, false, false, false, false, false, false, false, false, false, false, false, false, false, false] rfl rfl (any_of HT_.out (by kernel_rfl)) (fun _ _ _ h => h) (Or.inl ⟨by rfl, ?_⟩) ?_ ?_
            rotate_left
            · intro w'; go_simp; with_reducible rfl
            rotate_left
            · simp only [Act.put, List.setIfInBounds_toArray, List.set_cons_zero, List.set_cons_succ, i64_w, i32_w]; rfl
            refine pure_ (i := 5) (N := some 17) (v := ?_) (a' := ?_) #[true, true, true, true, true, true, false, false, false, false, false, false, false, false, false, false, false, false, false, false, false, false, false, false, false, false] rfl rfl (any_of HT_.out (by kernel_rfl)) (fun _ _ _ h => h) (Or.inl ⟨by rfl, ?_⟩) ?_ ?_
            rotate_left
            · intro w'; go_simp; with_reducible rfl
            rotate_left
            · simp only [Act.put, List.setIfInBounds_toArray, List.set_cons_zero, List.set_cons_succ, i64_w, i32_w]; rfl
            refine pure_ (i := 6) (N := some 18) (v := ?_) (a' := ?_) #[true, true, true, true, true, true, true, false, false, false, false, false, false, false, false, false, false, false, false, false, false, false, false, false, false, false] rfl rfl (any_of HT_.out (by kernel_rfl)) (fun _ _ _ h => h) (Or.inl ⟨by rfl, ?_⟩) ?_ ?_
            rotate_left
            · intro w'; go_simp; with_reducible rfl
            rotate_left
            · simp only [Act.put, List.setIfInBounds_toArray, List.set_cons_zero, List.set_cons_succ, i64_w, i32_w]; rfl
            refine pure_ (i := 7) (N := some 19) (v := ?_) (a' := ?_) #[true, true, true, true, true, true, true, true, false, false, false, false, false, false, false, false, false, false, false, false, false, false, false, false, false, false] rfl rfl (any_of HT_.out (by kernel_rfl)) (fun _ _ _ h => h) (Or.inl ⟨by rfl, ?_⟩) ?_ ?_
            rotate_left
            · intro w'; go_simp; with_reducible rfl
            rotate_left
            · simp only [Act.put, List.setIfInBounds_toArray, List.set_cons_zero, List.set_cons_succ, i64_w, i32_w]; rfl
            refine pure_ (i := 8) (N := some 20) (v := ?_) (a' := ?_) #[true, true, true, true, true, true, true, true, true, false, false, false, false, false, false, false, false, false, false, false, false, false, false, false, false, false] rfl rfl (any_of HT_.out (by kernel_rfl)) (fun _ _ _ h => h) (Or.inl ⟨by rfl, ?_⟩) ?_ ?_
            rotate_left
            · intro w'; go_simp; with_reducible rfl
            rotate_left
            · simp only [Act.put, List.setIfInBounds_toArray, List.set_cons_zero, List.set_cons_succ, i64_w, i32_w]; rfl
            refine pure_ (i := 9) (N := some 21) (v := ?_) (a' := ?_) #[true, true, true, true, true, true, true, true, true, true, false, false, false, false, false, false, false, false, false, false, false, false, false, false, false, false] rfl rfl (any_of HT_.out (by kernel_rfl)) (fun _ _ _ h => h) (Or.inl ⟨by rfl, ?_⟩) ?_ ?_
            rotate_left
            · intro w'; go_simp; with_reducible rfl
            rotate_left
            · simp only [Act.put, List.setIfInBounds_toArray, List.set_cons_zero, List.set_cons_succ, i64_w, i32_w]; rfl
            refine pure_ (i := 10) (N := some 22) (v := ?_) (a' := ?_) #[true, true, true, true, true, true, true, true, true, true, true, false, false, false, false, false, false, false, false, false, false, false, false, false, false, false] rfl rfl (any_of HT_.out (by kernel_rfl)) (fun _ _ _ h => h) (Or.inl ⟨by rfl, ?_⟩) ?_ ?_
            rotate_left
            · intro w'; go_simp; with_reducible rfl
            rotate_left
            · simp only [Act.put, List.setIfInBounds_toArray, List.set_cons_zero, List.set_cons_succ, i64_w, i32_w]; rfl
            refine take_ (i := 11) (N := some 23) (v := ?_) (a' := ?_) #[true, true, true, true, true, true, true, true, true, true, true, true, false, false, false, false, false, false, false, false, false, false, false, false, false, false] rfl rfl (take_ofW HT_.out HW_.out (by kernel_rfl)) (fun _ _ _ h => h) (Or.inl ⟨by rfl, ?_⟩) hHeld ?_ ?_
            rotate_left
            · intro w' s0
              go_simp
              with_reducible rfl
            rotate_left
            · simp only [Act.put, List.setIfInBounds_toArray, List.set_cons_zero, List.set_cons_succ, i64_w, i32_w]; rfl
            refine pure_ (i := 12) (N := some 24) (v := ?_) (a' := ?_) #[true, true, true, true, true, true, true, true, true, true, true, true, true, false, false, false, false, false, false, false, false, false, false, false, false, false] rfl rfl (any_of HT_.out (by kernel_rfl)) (fun _ _ _ h => h) (Or.inl ⟨by rfl, ?_⟩) ?_ ?_
            rotate_left
            · intro w'; go_simp; with_reducible rfl
            rotate_left
            · simp only [Act.put, List.setIfInBounds_toArray, List.set_cons_zero, List.set_cons_succ, i64_w, i32_w]; rfl
            refine pure_ (i := 13) (N := some 25) (v := ?_) (a' := ?_) #[true, true, true, true, true, true, true, true, true, true, true, true, true, true, false, false, false, false, false, false, false, false, false, false, false, false] rfl rfl (any_of HT_.out (by kernel_rfl)) (fun _ _ _ h => h) (Or.inl ⟨by rfl, ?_⟩) ?_ ?_
            rotate_left
            · intro w'; go_simp; with_reducible rfl
            rotate_left
            · simp only [Act.put, List.setIfInBounds_toArray, List.set_cons_zero, List.set_cons_succ, i64_w, i32_w]; rfl
            refine pure_ (i := 14) (N := some 26) (v := ?_) (a' := ?_) #[true, true, true, true, true, true, true, true, true, true, true, true, true, true, true, false, false, false, false, false, false, false, false, false, false, false] rfl rfl (any_of HT_.out (by kernel_rfl)) (fun _ _ _ h => h) (Or.inl ⟨by rfl, ?_⟩) ?_ ?_
            rotate_left
            · intro w'; go_simp; with_reducible rfl
            rotate_left
            · simp only [Act.put, List.setIfInBounds_toArray, List.set_cons_zero, List.set_cons_succ, i64_w, i32_w]; rfl
            refine pure_ (i := 15) (N := some 27) (v := undef) (a' := ?_) #[true, true, true, true, true, true, true, true, true, true, true, true, true, true, true, true, false, false, false, false, false, false, false, false, false, false] rfl rfl (any_of HT_.out (by kernel_rfl)) (fun _ _ _ h => h) (Or.inr ⟨by rfl, rfl⟩) ?_ ?_
            rotate_left
            · simp only [Act.put, List.setIfInBounds_toArray, List.set_cons_zero, List.set_cons_succ, i64_w, i32_w]; rfl
            refine pure_ (i := 16) (N := some 28) (v := undef) (a' := ?_) #[true, true, true, true, true, true, true, true, true, true, true, true, true, true, true, true, true, false, false, false, false, false, false, false, false, false] rfl rfl (any_of HT_.out (by kernel_rfl)) (fun _ _ _ h => h) (Or.inr ⟨by rfl, rfl⟩) ?_ ?_
            rotate_left
            · simp only [Act.put, List.setIfInBounds_toArray, List.set_cons_zero, List.set_cons_succ, i64_w, i32_w]; rfl
            refine pure_ (i := 17) (N := some 29) (v := undef) (a' := ?_) #[true, true, true, true, true, true, true, true, true, true, true, true, true, true, true, true, true, true, false, false, false, false, false, false, false, false] rfl rfl (any_of HT_.out (by kernel_rfl)) (fun _ _ _ h => h) (Or.inr ⟨by rfl, rfl⟩) ?_ ?_
            rotate_left
            · simp only [Act.put, List.setIfInBounds_toArray, List.set_cons_zero, List.set_cons_succ, i64_w, i32_w]; rfl
            refine pure_ (i := 18) (N := some 30) (v := undef) (a' := ?_) #[true, true, true, true, true, true, true, true, true, true, true, true, true, true, true, true, true, true, true, false, false, false, false, false, false, false] rfl rfl (any_of HT_.out (by kernel_rfl)) (fun _ _ _ h => h) (Or.inr ⟨by rfl, rfl⟩) ?_ ?_
            rotate_left
            · simp only [Act.put, List.setIfInBounds_toArray, List.set_cons_zero, List.set_cons_succ, i64_w, i32_w]; rfl
            refine pure_ (i := 19) (N := some 31) (v := undef) (a' := ?_) #[true, true, true, true, true, true, true, true, true, true, true, true, true, true, true, true, true, true, true, true, false, false, false, false, false, false] rfl rfl (any_of HT_.out (by kernel_rfl)) (fun _ _ _ h => h) (Or.inr ⟨by rfl, rfl⟩) ?_ ?_
            rotate_left
            · simp only [Act.put, List.setIfInBounds_toArray, List.set_cons_zero, List.set_cons_succ, i64_w, i32_w]; rfl
            refine pure_ (i := 20) (N := some 32) (v := undef) (a' := ?_) #[true, true, true, true, true, true, true, true, true, true, true, true, true, true, true, true, true, true, true, true, true, false, false, false, false, false] rfl rfl (any_of HT_.out (by kernel_rfl)) (fun _ _ _ h => h) (Or.inr ⟨by rfl, rfl⟩) ?_ ?_
            rotate_left
            · simp only [Act.put, List.setIfInBounds_toArray, List.set_cons_zero, List.set_cons_succ, i64_w, i32_w]; rfl
            refine pure_ (i := 21) (N := some 33) (v := undef) (a' := ?_) #[true, true, true, true, true, true, true, true, true, true, true, true, true, true, true, true, true, true, true, true, true, true, false, false, false, false] rfl rfl (any_of HT_.out (by kernel_rfl)) (fun _ _ _ h => h) (Or.inr ⟨by rfl, rfl⟩) ?_ ?_
            rotate_left
            · simp only [Act.put, List.setIfInBounds_toArray, List.set_cons_zero, List.set_cons_succ, i64_w, i32_w]; rfl
            refine pure_ (i := 22) (N := some 34) (v := undef) (a' := ?_) #[true, true, true, true, true, true, true, true, true, true, true, true, true, true, true, true, true, true, true, true, true, true, true, false, false, false] rfl rfl (any_of HT_.out (by kernel_rfl)) (fun _ _ _ h => h) (Or.inr ⟨by rfl, rfl⟩) ?_ ?_
            rotate_left
            · simp only [Act.put, List.setIfInBounds_toArray, List.set_cons_zero, List.set_cons_succ, i64_w, i32_w]; rfl
            refine pure_ (i := 23) (N := some 35) (v := undef) (a' := ?_) #[true, true, true, true, true, true, true, true, true, true, true, true, true, true, true, true, true, true, true, true, true, true, true, true, false, false] rfl rfl (any_of HT_.out (by kernel_rfl)) (fun _ _ _ h => h) (Or.inr ⟨by rfl, rfl⟩) ?_ ?_
            rotate_left
            · simp only [Act.put, List.setIfInBounds_toArray, List.set_cons_zero, List.set_cons_succ, i64_w, i32_w]; rfl
            refine pure_ (i := 24) (N := some 36) (v := undef) (a' := ?_) #[true, true, true, true, true, true, true, true, true, true, true, true, true, true, true, true, true, true, true, true, true, true, true, true, true, false] rfl rfl (any_of HT_.out (by kernel_rfl)) (fun _ _ _ h => h) (Or.inr ⟨by rfl, rfl⟩) ?_ ?_
            rotate_left
            · simp only [Act.put, List.setIfInBounds_toArray, List.set_cons_zero, List.set_cons_succ, i64_w, i32_w]; rfl
            refine pure_ (i := 25) (N := some 37) (v := ?_) (a' := ?_) #[true, true, true, true, true, true, true, true, true, true, true, true, true, true, true, true, true, true, true, true, true, true, true, true, true, true] rfl rfl (any_of HT_.out (by kernel_rfl)) (fun _ _ _ h => h) (Or.inl ⟨by rfl, ?_⟩) ?_ ?_
            rotate_left
            · intro w'; go_simp; with_reducible rfl
            rotate_left
            · simp only [Act.put, List.setIfInBounds_toArray, List.set_cons_zero, List.set_cons_succ, i64_w, i32_w]; rfl
            refine done_ (done_of HT_.out (by kernel_rfl)) ?_
            try go_wp2
            go_meet
            case rel => exact ⟨_, (true), (by first | rfl | (simp; done) | (simp [*]; done) | (simp [*]; exact (show ∀ l_ : List UInt8, l_.isEmpty = !(l_ != []) from fun l_ => by cases l_ <;> rfl) _)), H', ⟨by first | omega | exact Nat.le_refl _⟩, ⟨by (with_reducible repeat (first | apply Kd.R_alloc | apply Kd.R_drewN | apply Kd.R_drew)); exact HO138.out⟩, ⟨by (with_reducible repeat (first | refine blk_drewN ?_ _ | refine blk_drew ?_ | refine blk_alloc ?_ _)); exact BK135.out⟩, ⟨by repeat (first | (with_reducible first | exact HB.out | apply below_alloc | apply pw_below_drewN | apply below_drew1 | refine below_set ?_ GE135.out) | exact HB.out)⟩⟩
          · rw [if_neg c13] at H
            have c13b0 : ((rdOf ByteArray.empty t136 0).toList == ([] : List UInt8)) = false := beq_eq_false_iff_ne.mpr c13
            have c13b1 : ((rdOf ByteArray.empty t136 0).toList != ([] : List UInt8)) = true := bne_iff_ne.mpr c13
            obtain ⟨ji16, hji16⟩ : ∃ j_ : Int, (wrap64 (((rdOf ByteArray.empty t136 0).size : Int) - 1)) = j_ := ⟨_, rfl⟩
            replace H : (if 0 ≤ (ji16) then (if (ji16) < ((rdOf ByteArray.empty t136 0).size : Int) then (trace_read.j0 k t136 ((bt (rdOf ByteArray.empty t136 0) (ji16)) != 58)) else (none)) else (none)) = some (r1, r2, r3, r4, r5) := by first | (rw [hji16] at H; exact H) | (simp only [hji16] at H ⊢; exact H)
            have hji16w : (IntKind.i64.wrap (((rdOf ByteArray.empty t136 0).size : Int) - 1)) = ji16 := (i64_w _).trans hji16
            by_cases c17 : 0 ≤ (ji16)
            · rw [if_pos c17] at H
              have c17b0 : decide (0 ≤ (ji16)) = true := decide_eq_true c17
              clear c17
              by_cases c18 : (ji16) < ((rdOf ByteArray.empty t136 0).size : Int)
              · rw [if_pos c18] at H
                have c18b0 : decide ((ji16) < ((rdOf ByteArray.empty t136 0).size : Int)) = true := decide_eq_true c18
                clear c18
                have H' := Aside0.mk H
                clear H
                try go_wp2
                have n0_ := Aside0.mk (Kd.R_drew HO138.out)
                have n1_ := Aside0.mk (blk_drew BK135.out)
                have n2_ := Aside0.mk (below_drew1 HB.out)
                clear HO138
                clear BK135
                clear HB
                have HO138 := n0_
                have BK135 := n1_
                have HB := n2_
                clear n0_ n1_ n2_
                obtain ⟨Ao21, co21, eo21⟩ := Kd.R_slice HO138.out
                (first | subst eo21 | (injection eo21 with f1_ f2_ f3_; have f4_ := f1_.symm; have f5_ := f3_.symm; clear f1_ f2_ f3_; subst f4_; subst f5_))
                have p139 : 0 ≤ (0 : Int) := (by omega)
                have q139 : 0 < (t136.length : Int) := of_decide_eq_true (by first | (with_reducible assumption) | assumption)
                obtain ⟨ad139, e139, hx139_0⟩ := Kd.at_string (Kd.R_reads' HO138.out).2.2 0 p139 q139
                cases e139
                have qi139 : (0 < t136.length) = True := eq_true (by omega)
                (try rw [show ((0 : Int)).toNat = 0 from rfl] at hx139_0)
                (try rw [Addr.add_zero'] at hx139_0)
                replace p139 := eq_true p139
                replace q139 := eq_true q139
                (try (have qz139 := q139; rw [ByteArray.size_extract, Nat.min_self] at qz139))
                have p140 : 0 ≤ (0 : Int) := (by omega)
                have q140 : 0 < (t136.length : Int) := of_decide_eq_true (by first | (with_reducible assumption) | assumption)
                obtain ⟨ad140, e140, hx140_0⟩ := Kd.at_string (Kd.R_reads' HO138.out).2.2 0 p140 q140
                obtain rfl : ad139 = ad140 := (by injection e140)
                have qi140 : (0 < t136.length) = True := eq_true (by omega)
                (try rw [show ((0 : Int)).toNat = 0 from rfl] at hx140_0)
                (try rw [Addr.add_zero'] at hx140_0)
                replace p140 := eq_true p140
                replace q140 := eq_true q140
                (try (have qz140 := q140; rw [ByteArray.size_extract, Nat.min_self] at qz140))
                have p141 : 0 ≤ (0 : Int) := (by omega)
                have q141 : 0 < (t136.length : Int) := of_decide_eq_true (by first | (with_reducible assumption) | assumption)
                obtain ⟨ad141, e141, hx141_0⟩ := Kd.at_string (Kd.R_reads' HO138.out).2.2 0 p141 q141
                obtain rfl : ad139 = ad141 := (by injection e141)
                have qi141 : (0 < t136.length) = True := eq_true (by omega)
                (try rw [show ((0 : Int)).toNat = 0 from rfl] at hx141_0)
                (try rw [Addr.add_zero'] at hx141_0)
                replace p141 := eq_true p141
                replace q141 := eq_true q141
                (try (have qz141 := q141; rw [ByteArray.size_extract, Nat.min_self] at qz141))
                have p19 : 0 ≤ ((ji16) : Int) := of_decide_eq_true (by first | (with_reducible assumption) | assumption)
                have q19 : (ji16) < ((rdOf ByteArray.empty t136 0).size : Int) := of_decide_eq_true (by first | (with_reducible assumption) | assumption)
                have hx19 := bt_at (rdOf ByteArray.empty t136 0) (ji16)
                replace p19 := eq_true p19
                replace q19 := eq_true q19
                (try (have qz19 := q19; rw [ByteArray.size_extract, Nat.min_self] at qz19))
                refine start_ (n := 26) (S := fun w' => w'.cell? ad139 = some (.string (rdOf ByteArray.empty t136 0)) ∧ w'.cell? ad139 = some (.string (rdOf ByteArray.empty t136 0)) ∧ w'.cell? ad139 = some (.string (rdOf ByteArray.empty t136 0))) (ds := []) #[false, false, false, false, false, false, false, false, false, false, false, false, false, false, false, false, false, false, false, false, false, false, false, false, false, false] (by kernel_rfl) rfl rfl ⟨hx139_0, hx140_0, hx141_0⟩ (fun hHeld => ?_); refine with_tabW trace_read.tab2 trace_read.bits2 (fun HT_ HW_ => ?_)
                generalize w5.drew = w20 at HO138 BK135 HB hx139_0 hx140_0 hx141_0 hHeld ⊢
                refine pure_ (i := 0) (N := some 12) (v := ?_) (a' := ?_) #[true, false, false, false, false, false, false, false, false, false, false, false, false, false, false, false, false, false, false, false, false, false, false, false, false, false] rfl rfl (any_of HT_.out (by kernel_rfl)) (fun _ _ _ h => h) (Or.inl ⟨by rfl, ?_⟩) ?_ ?_
                rotate_left
                · intro w'; go_simp; with_reducible rfl
                rotate_left
                · simp only [Act.put, List.setIfInBounds_toArray, List.set_cons_zero, List.set_cons_succ, i64_w, i32_w]; rfl
                refine pure_ (i := 1) (N := some 13) (v := ?_) (a' := ?_) #[true, true, false, false, false, false, false, false, false, false, false, false, false, false, false, false, false, false, false, false, false, false, false, false, false, false] rfl rfl (any_of HT_.out (by kernel_rfl)) (fun _ _ _ h => h) (Or.inl ⟨by rfl, ?_⟩) ?_ ?_
                rotate_left
                · intro w'; go_simp; with_reducible rfl
                rotate_left
                · simp only [Act.put, List.setIfInBounds_toArray, List.set_cons_zero, List.set_cons_succ, i64_w, i32_w]; rfl
                refine pure_ (i := 2) (N := some 14) (v := ?_) (a' := ?_) #[true, true, true, false, false, false, false, false, false, false, false, false, false, false, false, false, false, false, false, false, false, false, false, false, false, false] rfl rfl (any_of HT_.out (by kernel_rfl)) (fun _ _ _ h => h) (Or.inl ⟨by rfl, ?_⟩) ?_ ?_
                rotate_left
                · intro w'; go_simp; with_reducible rfl
                rotate_left
                · simp only [Act.put, List.setIfInBounds_toArray, List.set_cons_zero, List.set_cons_succ, i64_w, i32_w]; rfl
                refine pure_ (i := 3) (N := some 15) (v := ?_) (a' := ?_) #[true, true, true, true, false, false, false, false, false, false, false, false, false, false, false, false, false, false, false, false, false, false, false, false, false, false] rfl rfl (any_of HT_.out (by kernel_rfl)) (fun _ _ _ h => h) (Or.inl ⟨by rfl, ?_⟩) ?_ ?_
                rotate_left
                · intro w'; go_simp; with_reducible rfl
                rotate_left
                · simp only [Act.put, List.setIfInBounds_toArray, List.set_cons_zero, List.set_cons_succ, i64_w, i32_w]; rfl
                refine pure_ (i := 4) (N := some 16) (v := ?_) (a' := ?_) #[true, true, true, true, true, false, false, false, false, false, false, false, false, false, false, false, false, false, false, false, false, false, false, false, false, false] rfl rfl (any_of HT_.out (by kernel_rfl)) (fun _ _ _ h => h) (Or.inl ⟨by rfl, ?_⟩) ?_ ?_
                rotate_left
                · intro w'; go_simp; with_reducible rfl
                rotate_left
                · simp only [Act.put, List.setIfInBounds_toArray, List.set_cons_zero, List.set_cons_succ, i64_w, i32_w]; rfl
                refine pure_ (i := 5) (N := some 17) (v := ?_) (a' := ?_) #[true, true, true, true, true, true, false, false, false, false, false, false, false, false, false, false, false, false, false, false, false, false, false, false, false, false] rfl rfl (any_of HT_.out (by kernel_rfl)) (fun _ _ _ h => h) (Or.inl ⟨by rfl, ?_⟩) ?_ ?_
                rotate_left
                · intro w'; go_simp; with_reducible rfl
                rotate_left
                · simp only [Act.put, List.setIfInBounds_toArray, List.set_cons_zero, List.set_cons_succ, i64_w, i32_w]; rfl
                refine pure_ (i := 6) (N := some 18) (v := ?_) (a' := ?_) #[true, true, true, true, true, true, true, false, false, false, false, false, false, false, false, false, false, false, false, false, false, false, false, false, false, false] rfl rfl (any_of HT_.out (by kernel_rfl)) (fun _ _ _ h => h) (Or.inl ⟨by rfl, ?_⟩) ?_ ?_
                rotate_left
                · intro w'; go_simp; with_reducible rfl
                rotate_left
                · simp only [Act.put, List.setIfInBounds_toArray, List.set_cons_zero, List.set_cons_succ, i64_w, i32_w]; rfl
                refine pure_ (i := 7) (N := some 19) (v := ?_) (a' := ?_) #[true, true, true, true, true, true, true, true, false, false, false, false, false, false, false, false, false, false, false, false, false, false, false, false, false, false] rfl rfl (any_of HT_.out (by kernel_rfl)) (fun _ _ _ h => h) (Or.inl ⟨by rfl, ?_⟩) ?_ ?_
                rotate_left
                · intro w'; go_simp; with_reducible rfl
                rotate_left
                · simp only [Act.put, List.setIfInBounds_toArray, List.set_cons_zero, List.set_cons_succ, i64_w, i32_w]; rfl
                refine pure_ (i := 8) (N := some 20) (v := ?_) (a' := ?_) #[true, true, true, true, true, true, true, true, true, false, false, false, false, false, false, false, false, false, false, false, false, false, false, false, false, false] rfl rfl (any_of HT_.out (by kernel_rfl)) (fun _ _ _ h => h) (Or.inl ⟨by rfl, ?_⟩) ?_ ?_
                rotate_left
                · intro w'; go_simp; with_reducible rfl
                rotate_left
                · simp only [Act.put, List.setIfInBounds_toArray, List.set_cons_zero, List.set_cons_succ, i64_w, i32_w]; rfl
                refine pure_ (i := 9) (N := some 21) (v := ?_) (a' := ?_) #[true, true, true, true, true, true, true, true, true, true, false, false, false, false, false, false, false, false, false, false, false, false, false, false, false, false] rfl rfl (any_of HT_.out (by kernel_rfl)) (fun _ _ _ h => h) (Or.inl ⟨by rfl, ?_⟩) ?_ ?_
                rotate_left
                · intro w'; go_simp; with_reducible rfl
                rotate_left
                · simp only [Act.put, List.setIfInBounds_toArray, List.set_cons_zero, List.set_cons_succ, i64_w, i32_w]; rfl
                refine pure_ (i := 10) (N := some 22) (v := ?_) (a' := ?_) #[true, true, true, true, true, true, true, true, true, true, true, false, false, false, false, false, false, false, false, false, false, false, false, false, false, false] rfl rfl (any_of HT_.out (by kernel_rfl)) (fun _ _ _ h => h) (Or.inl ⟨by rfl, ?_⟩) ?_ ?_
                rotate_left
                · intro w'; go_simp; with_reducible rfl
                rotate_left
                · simp only [Act.put, List.setIfInBounds_toArray, List.set_cons_zero, List.set_cons_succ, i64_w, i32_w]; rfl
                refine take_ (i := 11) (N := some 23) (v := ?_) (a' := ?_) #[true, true, true, true, true, true, true, true, true, true, true, true, false, false, false, false, false, false, false, false, false, false, false, false, false, false] rfl rfl (take_ofW HT_.out HW_.out (by kernel_rfl)) (fun _ _ _ h => h) (Or.inl ⟨by rfl, ?_⟩) hHeld ?_ ?_
                rotate_left
                · rintro w' ⟨s0, s1, s2⟩; go_simp; with_reducible rfl
                rotate_left
                · simp only [Act.put, List.setIfInBounds_toArray, List.set_cons_zero, List.set_cons_succ, i64_w, i32_w]; rfl
                refine pure_ (i := 12) (N := some 24) (v := ?_) (a' := ?_) #[true, true, true, true, true, true, true, true, true, true, true, true, true, false, false, false, false, false, false, false, false, false, false, false, false, false] rfl rfl (any_of HT_.out (by kernel_rfl)) (fun _ _ _ h => h) (Or.inl ⟨by rfl, ?_⟩) ?_ ?_
                rotate_left
                · intro w'; go_simp; with_reducible rfl
                rotate_left
                · simp only [Act.put, List.setIfInBounds_toArray, List.set_cons_zero, List.set_cons_succ, i64_w, i32_w]; rfl
                refine pure_ (i := 13) (N := some 25) (v := ?_) (a' := ?_) #[true, true, true, true, true, true, true, true, true, true, true, true, true, true, false, false, false, false, false, false, false, false, false, false, false, false] rfl rfl (any_of HT_.out (by kernel_rfl)) (fun _ _ _ h => h) (Or.inl ⟨by rfl, ?_⟩) ?_ ?_
                rotate_left
                · intro w'; go_simp; with_reducible rfl
                rotate_left
                · simp only [Act.put, List.setIfInBounds_toArray, List.set_cons_zero, List.set_cons_succ, i64_w, i32_w]; rfl
                refine pure_ (i := 14) (N := some 26) (v := ?_) (a' := ?_) #[true, true, true, true, true, true, true, true, true, true, true, true, true, true, true, false, false, false, false, false, false, false, false, false, false, false] rfl rfl (any_of HT_.out (by kernel_rfl)) (fun _ _ _ h => h) (Or.inl ⟨by rfl, ?_⟩) ?_ ?_
                rotate_left
                · intro w'; go_simp; with_reducible rfl
                rotate_left
                · simp only [Act.put, List.setIfInBounds_toArray, List.set_cons_zero, List.set_cons_succ, i64_w, i32_w]; rfl
                refine pure_ (i := 15) (N := some 27) (v := ?_) (a' := ?_) #[true, true, true, true, true, true, true, true, true, true, true, true, true, true, true, true, false, false, false, false, false, false, false, false, false, false] rfl rfl (any_of HT_.out (by kernel_rfl)) (fun _ _ _ h => h) (Or.inl ⟨by rfl, ?_⟩) ?_ ?_
                rotate_left
                · intro w'; go_simp; with_reducible rfl
                rotate_left
                · simp only [Act.put, List.setIfInBounds_toArray, List.set_cons_zero, List.set_cons_succ, i64_w, i32_w]; rfl
                refine pure_ (i := 16) (N := some 28) (v := ?_) (a' := ?_) #[true, true, true, true, true, true, true, true, true, true, true, true, true, true, true, true, true, false, false, false, false, false, false, false, false, false] rfl rfl (any_of HT_.out (by kernel_rfl)) (fun _ _ _ h => h) (Or.inl ⟨by rfl, ?_⟩) ?_ ?_
                rotate_left
                · intro w'; go_simp; with_reducible rfl
                rotate_left
                · simp only [Act.put, List.setIfInBounds_toArray, List.set_cons_zero, List.set_cons_succ, i64_w, i32_w]; rfl
                refine pure_ (i := 18) (N := some 30) (v := ?_) (a' := ?_) #[true, true, true, true, true, true, true, true, true, true, true, true, true, true, true, true, true, false, true, false, false, false, false, false, false, false] rfl rfl (any_of HT_.out (by kernel_rfl)) (fun _ _ _ h => h) (Or.inl ⟨by rfl, ?_⟩) ?_ ?_
                rotate_left
                · intro w'; go_simp; with_reducible rfl
                rotate_left
                · simp only [Act.put, List.setIfInBounds_toArray, List.set_cons_zero, List.set_cons_succ, i64_w, i32_w]; rfl
                refine pure_ (i := 19) (N := some 31) (v := ?_) (a' := ?_) #[true, true, true, true, true, true, true, true, true, true, true, true, true, true, true, true, true, false, true, true, false, false, false, false, false, false] rfl rfl (any_of HT_.out (by kernel_rfl)) (fun _ _ _ h => h) (Or.inl ⟨by rfl, ?_⟩) ?_ ?_
                rotate_left
                · intro w'; go_simp; with_reducible rfl
                rotate_left
                · simp only [Act.put, List.setIfInBounds_toArray, List.set_cons_zero, List.set_cons_succ, i64_w, i32_w]; rfl
                refine take_ (i := 17) (N := some 29) (v := ?_) (a' := ?_) #[true, true, true, true, true, true, true, true, true, true, true, true, true, true, true, true, true, true, true, true, false, false, false, false, false, false] rfl rfl (take_ofW HT_.out HW_.out (by kernel_rfl)) (fun _ _ _ h => h) (Or.inl ⟨by rfl, ?_⟩) hHeld ?_ ?_
                rotate_left
                · rintro w' ⟨s0, s1, s2⟩; go_simp; with_reducible rfl
                rotate_left
                · simp only [Act.put, List.setIfInBounds_toArray, List.set_cons_zero, List.set_cons_succ, i64_w, i32_w]; rfl
                refine take_ (i := 20) (N := some 32) (v := ?_) (a' := ?_) #[true, true, true, true, true, true, true, true, true, true, true, true, true, true, true, true, true, true, true, true, true, false, false, false, false, false] rfl rfl (take_ofW HT_.out HW_.out (by kernel_rfl)) (fun _ _ _ h => h) (Or.inl ⟨by rfl, ?_⟩) hHeld ?_ ?_
                rotate_left
                · rintro w' ⟨s0, s1, s2⟩; go_simp; with_reducible rfl
                rotate_left
                · simp only [Act.put, List.setIfInBounds_toArray, List.set_cons_zero, List.set_cons_succ, i64_w, i32_w]; rfl
                refine pure_ (i := 21) (N := some 33) (v := ?_) (a' := ?_) #[true, true, true, true, true, true, true, true, true, true, true, true, true, true, true, true, true, true, true, true, true, true, false, false, false, false] rfl rfl (any_of HT_.out (by kernel_rfl)) (fun _ _ _ h => h) (Or.inl ⟨by rfl, ?_⟩) ?_ ?_
                rotate_left
                · intro w'; go_simp; with_reducible rfl
                rotate_left
                · simp only [Act.put, List.setIfInBounds_toArray, List.set_cons_zero, List.set_cons_succ, i64_w, i32_w]; rfl
                refine pure_ (i := 22) (N := some 34) (v := ?_) (a' := ?_) #[true, true, true, true, true, true, true, true, true, true, true, true, true, true, true, true, true, true, true, true, true, true, true, false, false, false] rfl rfl (any_of HT_.out (by kernel_rfl)) (fun _ _ _ h => h) (Or.inl ⟨by rfl, ?_⟩) ?_ ?_
                rotate_left
                · intro w'; go_simp; with_reducible rfl
                rotate_left
                · simp only [Act.put, List.setIfInBounds_toArray, List.set_cons_zero, List.set_cons_succ, i64_w, i32_w]; rfl
                refine take_ (i := 23) (N := some 35) (v := ?_) (a' := ?_) #[true, true, true, true, true, true, true, true, true, true, true, true, true, true, true, true, true, true, true, true, true, true, true, true, false, false] rfl rfl (take_ofW HT_.out HW_.out (by kernel_rfl)) (fun _ _ _ h => h) (Or.inl ⟨by rfl, ?_⟩) hHeld ?_ ?_
                rotate_left
                · rintro w' ⟨s0, s1, s2⟩; go_simp; with_reducible rfl
                rotate_left
                · simp only [Act.put, List.setIfInBounds_toArray, List.set_cons_zero, List.set_cons_succ, i64_w, i32_w]; rfl
                refine pure_ (i := 24) (N := some 36) (v := ?_) (a' := ?_) #[true, true, true, true, true, true, true, true, true, true, true, true, true, true, true, true, true, true, true, true, true, true, true, true, true, false] rfl rfl (any_of HT_.out (by kernel_rfl)) (fun _ _ _ h => h) (Or.inl ⟨by rfl, ?_⟩) ?_ ?_
                rotate_left
                · intro w'; go_simp; with_reducible rfl
                rotate_left
                · simp only [Act.put, List.setIfInBounds_toArray, List.set_cons_zero, List.set_cons_succ, i64_w, i32_w]; rfl
                refine pure_ (i := 25) (N := some 37) (v := ?_) (a' := ?_) #[true, true, true, true, true, true, true, true, true, true, true, true, true, true, true, true, true, true, true, true, true, true, true, true, true, true] rfl rfl (any_of HT_.out (by kernel_rfl)) (fun _ _ _ h => h) (Or.inl ⟨by rfl, ?_⟩) ?_ ?_
                rotate_left
                · intro w'; go_simp; with_reducible rfl
                rotate_left
                · simp only [Act.put, List.setIfInBounds_toArray, List.set_cons_zero, List.set_cons_succ, i64_w, i32_w]; rfl
                refine done_ (done_of HT_.out (by kernel_rfl)) ?_
                try go_wp2
                go_meet
                case rel => exact ⟨_, (((bt (rdOf ByteArray.empty t136 0) (ji16)) != 58)), (by first | rfl | (simp; done) | (simp only [← hji16] <;> (first | rfl | simp)) | (simp [*]; done) | (simp [*]; exact (show ∀ l_ : List UInt8, l_.isEmpty = !(l_ != []) from fun l_ => by cases l_ <;> rfl) _)), H', ⟨by first | omega | exact Nat.le_refl _⟩, ⟨by (with_reducible repeat (first | apply Kd.R_alloc | apply Kd.R_drewN | apply Kd.R_drew)); exact HO138.out⟩, ⟨by (with_reducible repeat (first | refine blk_drewN ?_ _ | refine blk_drew ?_ | refine blk_alloc ?_ _)); exact BK135.out⟩, ⟨by repeat (first | (with_reducible first | exact HB.out | apply below_alloc | apply pw_below_drewN | apply below_drew1 | refine below_set ?_ GE135.out) | exact HB.out)⟩⟩
              · rw [if_neg c18] at H
                exact absurd H (by simp)
            · rw [if_neg c17] at H
              exact absurd H (by simp)
        · rw [if_neg c12] at H
          exact absurd H (by simp)
  case rest =>
    clear HC3
    try clear c1
    try clear p1
    try clear q1
    try clear hx1
    try clear qi1
    try clear p2
    try clear p6
    try clear c9
    try clear c9b0
    try clear c9b1
    try clear c12
    try clear c12b0
    try clear c12b1
    try clear c13
    try clear c13b0
    try clear c13b1
    try clear p13
    try clear q13
    try clear hx13
    try clear qi13
    try clear p14
    try clear q14
    try clear hx14
    try clear qi14
    try clear c17
    try clear c17b0
    try clear c18
    try clear c18b0
    try clear p19
    try clear q19
    try clear hx19
    try clear hx139_0
    try clear hx140_0
    try clear hx141_0
    try clear p139
    try clear p140
    try clear p141
    try clear p19
    try clear q139
    try clear q140
    try clear q141
    try clear q19
    obtain ⟨kq, x37_2, rfl, HA, HJ2, HO_4, BK135, HB⟩ := hcut
    cases kq with
    | zero => exact absurd HA.out (by simp [trace_read.j0])
    | succ kj2 =>
      have H := HA.out
      clear HA
      simp only [trace_read.j0] at H
      by_cases c22 : x37_2 = true
      · subst c22
        have H1 : (some (0, (⟨#[]⟩ : ByteArray), (⟨#[]⟩ : ByteArray), 0, false)) = some (r1, r2, r3, r4, r5) := by rw [if_pos rfl] at H; exact H
        clear H
        have H := H1
        clear H1
        simp only [Option.some.injEq, Prod.mk.injEq] at H
        obtain ⟨rfl, rfl, rfl, rfl, rfl⟩ := H
        have hcz23_0 : wc.cell? ⟨gb135, 0, none⟩ = some (.int .i64 0) := (blk_cell BK135.out 0).trans rfl
        have hcz23_1 : wc.cell? ⟨gb135, 1, none⟩ = some (.string (⟨#[]⟩ : ByteArray)) := (blk_cell BK135.out 1).trans rfl
        have hcz23_2 : wc.cell? ⟨gb135, 2, none⟩ = some (.string (⟨#[]⟩ : ByteArray)) := (blk_cell BK135.out 2).trans rfl
        have hcz23_3 : wc.cell? ⟨gb135, 3, none⟩ = some (.int .i64 0) := (blk_cell BK135.out 3).trans rfl
        have hfz23_0 := blk_frozen BK135.out 0
        have hfz23_1 := blk_frozen BK135.out 1
        have hfz23_2 := blk_frozen BK135.out 2
        have hfz23_3 := blk_frozen BK135.out 3
        go_wp2
        refine bodyPost_ret (results_ct rfl _ _ gb135 37 #[.int .i64 0, .string (⟨#[]⟩ : ByteArray), .string (⟨#[]⟩ : ByteArray), .int .i64 0] (0, 0) _ rfl (by (with_reducible repeat (first | refine blk_drewN ?_ _ | refine blk_drew ?_ | refine blk_alloc ?_ _)); refine blk_put (cs := #[.int .i64 0, .string (⟨#[]⟩ : ByteArray), .string (⟨#[]⟩ : ByteArray), .int .i64 0]) ?_ 3 _ rfl; (with_reducible repeat (first | refine blk_drewN ?_ _ | refine blk_drew ?_ | refine blk_alloc ?_ _)); refine blk_put (cs := #[.int .i64 0, .string (⟨#[]⟩ : ByteArray), .string (⟨#[]⟩ : ByteArray), .int .i64 0]) ?_ 2 _ rfl; (with_reducible repeat (first | refine blk_drewN ?_ _ | refine blk_drew ?_ | refine blk_alloc ?_ _)); refine blk_put (cs := #[.int .i64 0, .string (⟨#[]⟩ : ByteArray), .string (⟨#[]⟩ : ByteArray), .int .i64 0]) ?_ 1 _ rfl; (with_reducible repeat (first | refine blk_drewN ?_ _ | refine blk_drew ?_ | refine blk_alloc ?_ _)); refine blk_put (cs := #[.int .i64 0, .string (⟨#[]⟩ : ByteArray), .string (⟨#[]⟩ : ByteArray), .int .i64 0]) ?_ 0 _ rfl; (with_reducible repeat (first | refine blk_drewN ?_ _ | refine blk_drew ?_ | refine blk_alloc ?_ _)); exact BK135.out) Try.underlying37 rfl (by kernel_rfl)) rfl ?_
        exact ⟨by first | rfl | (simp [errW_none, errW_some] <;> rfl) | (simp [*, errW_none, errW_some] <;> rfl), by repeat (first | (with_reducible first | exact HB.out | apply below_alloc | apply pw_below_drewN | apply below_drew1 | refine below_set ?_ GE135.out) | exact HB.out)⟩
      · replace c22 := Bool.eq_false_iff.mpr c22
        subst c22
        have H1 : (if 0 < (t136.length : Int) then (if 0 ≤ (wrap64 (((rdOf ByteArray.empty t136 0).size : Int) - 1)) then (if (wrap64 (((rdOf ByteArray.empty t136 0).size : Int) - 1)) ≤ ((rdOf ByteArray.empty t136 0).size : Int) then ((trace_number.f kj2 ((rdOf ByteArray.empty t136 0).extract 0 ((wrap64 (((rdOf ByteArray.empty t136 0).size : Int) - 1)) : Int).toNat)).bind fun bt145 => (if 1 < (t136.length : Int) then (if (t136.length : Int) > 2 then (if 2 < (t136.length : Int) then (if bt145.2 = true then (trace_read.j1 kj2 t136 ((rdOf ByteArray.empty t136 2).toList != ([] : List UInt8)) bt145.1 (rdOf ByteArray.empty t136 1) (rdOf ByteArray.empty t136 2) 0) else (trace_read.j1 kj2 t136 false bt145.1 (rdOf ByteArray.empty t136 1) (rdOf ByteArray.empty t136 2) 0)) else (none)) else (trace_read.j1 kj2 t136 bt145.2 bt145.1 (rdOf ByteArray.empty t136 1) (⟨#[]⟩ : ByteArray) 0)) else (none))) else (none)) else (none)) else (none)) = some (r1, r2, r3, r4, r5) := by rw [if_neg (show ¬ (false = true) by decide)] at H; exact H
        clear H
        have H := H1
        clear H1
        by_cases c24 : 0 < (t136.length : Int)
        · rw [if_pos c24] at H
          have c24b0 : decide (0 < (t136.length : Int)) = true := decide_eq_true c24
          have c24b1 : decide (0 < t136.length) = true := decide_eq_true (by omega)
          clear c24
          obtain ⟨ji25, hji25⟩ : ∃ j_ : Int, (wrap64 (((rdOf ByteArray.empty t136 0).size : Int) - 1)) = j_ := ⟨_, rfl⟩
          replace H : (if 0 ≤ (ji25) then (if (ji25) ≤ ((rdOf ByteArray.empty t136 0).size : Int) then ((trace_number.f kj2 ((rdOf ByteArray.empty t136 0).extract 0 ((ji25) : Int).toNat)).bind fun bt145 => (if 1 < (t136.length : Int) then (if (t136.length : Int) > 2 then (if 2 < (t136.length : Int) then (if bt145.2 = true then (trace_read.j1 kj2 t136 ((rdOf ByteArray.empty t136 2).toList != ([] : List UInt8)) bt145.1 (rdOf ByteArray.empty t136 1) (rdOf ByteArray.empty t136 2) 0) else (trace_read.j1 kj2 t136 false bt145.1 (rdOf ByteArray.empty t136 1) (rdOf ByteArray.empty t136 2) 0)) else (none)) else (trace_read.j1 kj2 t136 bt145.2 bt145.1 (rdOf ByteArray.empty t136 1) (⟨#[]⟩ : ByteArray) 0)) else (none))) else (none)) else (none)) = some (r1, r2, r3, r4, r5) := by first | (rw [hji25] at H; exact H) | (simp only [hji25] at H ⊢; exact H)
          have hji25w : (IntKind.i64.wrap (((rdOf ByteArray.empty t136 0).size : Int) - 1)) = ji25 := (i64_w _).trans hji25
          by_cases c26 : 0 ≤ (ji25)
          · rw [if_pos c26] at H
            have c26b0 := eq_true c26
            (try (have c26z := c26b0; rw [ByteArray.size_extract, Nat.min_self] at c26z))
            have c26b1 : decide (0 ≤ (ji25)) = true := decide_eq_true c26
            clear c26
            by_cases c27 : (ji25) ≤ ((rdOf ByteArray.empty t136 0).size : Int)
            · rw [if_pos c27] at H
              have c27b0 := eq_true c27
              (try (have c27z := c27b0; rw [ByteArray.size_extract, Nat.min_self] at c27z))
              have c27b1 : decide ((ji25) ≤ ((rdOf ByteArray.empty t136 0).size : Int)) = true := decide_eq_true c27
              clear c27
              replace H := Option.bind_eq_some_iff.mp H
              obtain ⟨⟨t145, t146⟩, A280, H⟩ := H
              replace H : (if 1 < (t136.length : Int) then (if (t136.length : Int) > 2 then (if 2 < (t136.length : Int) then (if t146 = true then (trace_read.j1 kj2 t136 ((rdOf ByteArray.empty t136 2).toList != ([] : List UInt8)) t145 (rdOf ByteArray.empty t136 1) (rdOf ByteArray.empty t136 2) 0) else (trace_read.j1 kj2 t136 false t145 (rdOf ByteArray.empty t136 1) (rdOf ByteArray.empty t136 2) 0)) else (none)) else (trace_read.j1 kj2 t136 t146 t145 (rdOf ByteArray.empty t136 1) (⟨#[]⟩ : ByteArray) 0)) else (none)) = some (r1, r2, r3, r4, r5) := H
              have A28 := Aside0.mk A280
              clear A280
              by_cases c29 : 1 < (t136.length : Int)
              · rw [if_pos c29] at H
                have c29b0 : decide (1 < (t136.length : Int)) = true := decide_eq_true c29
                have c29b1 : decide (1 < t136.length) = true := decide_eq_true (by omega)
                clear c29
                have HC30 := Aside0.mk H
                clear H
                try go_wp2_with (first | ((with_reducible refine gate_dst (N := 5) rfl ?_); (try (refine gate_guard (by rfl) ?_; dsimp only)); refine box_event ?hg (N := 5) ?hd (cs := #[.int .i64 0, .string (⟨#[]⟩ : ByteArray), .string (⟨#[]⟩ : ByteArray), .int .i64 0]) (t := 37) ?hr ?_; (case hd => rfl); (case hg => rfl); (case hr => first | (go_simp; done) | (go_simp; rfl)); intro gb142 hg w31 hbox hb; have n0_ := Aside0.mk (Kd.R_below (by (with_reducible repeat (first | apply Kd.R_alloc | apply Kd.R_drewN | apply Kd.R_drew)); exact HO_4.out) hb); have n1_ := Aside0.mk (blk_below (g := gb135) (o := .cells #[.int .i64 0, .string (⟨#[]⟩ : ByteArray), .string (⟨#[]⟩ : ByteArray), .int .i64 0] 37 (0, 0)) (by (with_reducible repeat (first | refine blk_drewN ?_ _ | refine blk_drew ?_ | refine blk_alloc ?_ _)); exact BK135.out) hb); have n2_ := Aside0.mk (below_step (by repeat (first | (with_reducible first | exact HB.out | apply below_alloc | apply pw_below_drewN | apply below_drew1 | refine below_set ?_ GE135.out) | exact HB.out)) hb); have n3_ := Aside0.mk (hbox); have n4_ := Aside0.mk ((by rw [hg]; exact (below_size (by repeat (first | (with_reducible first | exact HB.out | apply below_alloc | apply pw_below_drewN | apply below_drew1 | refine below_set ?_ GE135.out) | exact HB.out))) : w.heap.size ≤ gb142)); have n5_ := Aside0.mk ((by rw [hg]; exact (below_size (by repeat (first | (with_reducible first | exact HB.out | apply below_alloc | apply pw_below_drewN | apply below_drew1 | refine below_set ?_ GE135.out) | exact HB.out))) : w.heap.size ≤ gb142)); have n6_ := Aside0.mk ((by rw [hg]; exact Nat.ne_of_lt (blk_lt (g := gb135) (o := .cells #[.int .i64 0, .string (⟨#[]⟩ : ByteArray), .string (⟨#[]⟩ : ByteArray), .int .i64 0] 37 (0, 0)) (by (with_reducible repeat (first | refine blk_drewN ?_ _ | refine blk_drew ?_ | refine blk_alloc ?_ _)); exact BK135.out)) : gb135 ≠ gb142)); have n7_ := Aside0.mk ((by rw [hg]; exact Nat.ne_of_gt (blk_lt (g := gb135) (o := .cells #[.int .i64 0, .string (⟨#[]⟩ : ByteArray), .string (⟨#[]⟩ : ByteArray), .int .i64 0] 37 (0, 0)) (by (with_reducible repeat (first | refine blk_drewN ?_ _ | refine blk_drew ?_ | refine blk_alloc ?_ _)); exact BK135.out)) : gb142 ≠ gb135)); clear HO_4; clear BK135; clear HB; have HO_4 := n0_; have BK135 := n1_; have HB := n2_; have BK142 := n3_; have GW142 := n4_; have GE142 := n5_; have NB135_142 := n6_; have NB142_135 := n7_; clear n0_ n1_ n2_ n3_ n4_ n5_ n6_ n7_; clear hb hbox hg))
                have n0_ := Aside0.mk (Kd.R_drew HO_4.out)
                have n1_ := Aside0.mk (blk_drew BK135.out)
                have n2_ := Aside0.mk (blk_drew BK142.out)
                have n3_ := Aside0.mk (below_drew1 HB.out)
                clear HO_4
                clear BK135
                clear BK142
                clear HB
                have HO_4 := n0_
                have BK135 := n1_
                have BK142 := n2_
                have HB := n3_
                clear n0_ n1_ n2_ n3_
                obtain ⟨Ao33, co33, eo33⟩ := Kd.R_slice HO_4.out
                (first | subst eo33 | (injection eo33 with f1_ f2_ f3_; have f4_ := f1_.symm; have f5_ := f3_.symm; clear f1_ f2_ f3_; subst f4_; subst f5_))
                have p143 : 0 ≤ (0 : Int) := (by omega)
                have q143 : 0 < (t136.length : Int) := of_decide_eq_true (by first | (with_reducible assumption) | assumption)
                obtain ⟨ad143, e143, hx143_0⟩ := Kd.at_string (Kd.R_reads' HO_4.out).2.2 0 p143 q143
                cases e143
                have qi143 : (0 < t136.length) = True := eq_true (by omega)
                (try rw [show ((0 : Int)).toNat = 0 from rfl] at hx143_0)
                (try rw [Addr.add_zero'] at hx143_0)
                replace p143 := eq_true p143
                replace q143 := eq_true q143
                (try (have qz143 := q143; rw [ByteArray.size_extract, Nat.min_self] at qz143))
                have p144 : 0 ≤ (0 : Int) := (by omega)
                have q144 : 0 < (t136.length : Int) := of_decide_eq_true (by first | (with_reducible assumption) | assumption)
                obtain ⟨ad144, e144, hx144_0⟩ := Kd.at_string (Kd.R_reads' HO_4.out).2.2 0 p144 q144
                obtain rfl : ad143 = ad144 := (by injection e144)
                have qi144 : (0 < t136.length) = True := eq_true (by omega)
                (try rw [show ((0 : Int)).toNat = 0 from rfl] at hx144_0)
                (try rw [Addr.add_zero'] at hx144_0)
                replace p144 := eq_true p144
                replace q144 := eq_true q144
                (try (have qz144 := q144; rw [ByteArray.size_extract, Nat.min_self] at qz144))
                refine start_ (n := 15) (S := fun w' => w'.cell? ad143 = some (.string (rdOf ByteArray.empty t136 0)) ∧ w'.cell? ad143 = some (.string (rdOf ByteArray.empty t136 0))) (ds := []) #[false, false, false, false, false, false, false, false, false, false, false, false, false, false, false] (by kernel_rfl) rfl rfl ⟨hx143_0, hx144_0⟩ (fun hHeld => ?_); refine with_tabW trace_read.tab5 trace_read.bits5 (fun HT_ HW_ => ?_)
                generalize w31.drew = w32 at HO_4 BK135 BK142 HB hx143_0 hx144_0 hHeld ⊢
                refine pure_ (i := 0) (N := some 40) (v := ?_) (a' := ?_) #[true, false, false, false, false, false, false, false, false, false, false, false, false, false, false] rfl rfl (any_of HT_.out (by kernel_rfl)) (fun _ _ _ h => h) (Or.inl ⟨by rfl, ?_⟩) ?_ ?_
                rotate_left
                · intro w'; go_simp; with_reducible rfl
                rotate_left
                · simp only [Act.put, List.setIfInBounds_toArray, List.set_cons_zero, List.set_cons_succ, i64_w, i32_w]; rfl
                refine pure_ (i := 1) (N := some 41) (v := ?_) (a' := ?_) #[true, true, false, false, false, false, false, false, false, false, false, false, false, false, false] rfl rfl (any_of HT_.out (by kernel_rfl)) (fun _ _ _ h => h) (Or.inl ⟨by rfl, ?_⟩) ?_ ?_
                rotate_left
                · intro w'; go_simp; with_reducible rfl
                rotate_left
                · simp only [Act.put, List.setIfInBounds_toArray, List.set_cons_zero, List.set_cons_succ, i64_w, i32_w]; rfl
                refine pure_ (i := 3) (N := some 43) (v := ?_) (a' := ?_) #[true, true, false, true, false, false, false, false, false, false, false, false, false, false, false] rfl rfl (any_of HT_.out (by kernel_rfl)) (fun _ _ _ h => h) (Or.inl ⟨by rfl, ?_⟩) ?_ ?_
                rotate_left
                · intro w'; go_simp; with_reducible rfl
                rotate_left
                · simp only [Act.put, List.setIfInBounds_toArray, List.set_cons_zero, List.set_cons_succ, i64_w, i32_w]; rfl
                refine pure_ (i := 4) (N := some 44) (v := ?_) (a' := ?_) #[true, true, false, true, true, false, false, false, false, false, false, false, false, false, false] rfl rfl (any_of HT_.out (by kernel_rfl)) (fun _ _ _ h => h) (Or.inl ⟨by rfl, ?_⟩) ?_ ?_
                rotate_left
                · intro w'; go_simp; with_reducible rfl
                rotate_left
                · simp only [Act.put, List.setIfInBounds_toArray, List.set_cons_zero, List.set_cons_succ, i64_w, i32_w]; rfl
                refine take_ (i := 2) (N := some 42) (v := ?_) (a' := ?_) #[true, true, true, true, true, false, false, false, false, false, false, false, false, false, false] rfl rfl (take_ofW HT_.out HW_.out (by kernel_rfl)) (fun _ _ _ h => h) (Or.inl ⟨by rfl, ?_⟩) hHeld ?_ ?_
                rotate_left
                · rintro w' ⟨s0, s1⟩; go_simp; with_reducible rfl
                rotate_left
                · simp only [Act.put, List.setIfInBounds_toArray, List.set_cons_zero, List.set_cons_succ, i64_w, i32_w]; rfl
                refine take_ (i := 5) (N := some 45) (v := ?_) (a' := ?_) #[true, true, true, true, true, true, false, false, false, false, false, false, false, false, false] rfl rfl (take_ofW HT_.out HW_.out (by kernel_rfl)) (fun _ _ _ h => h) (Or.inl ⟨by rfl, ?_⟩) hHeld ?_ ?_
                rotate_left
                · rintro w' ⟨s0, s1⟩; go_simp; with_reducible rfl
                rotate_left
                · simp only [Act.put, List.setIfInBounds_toArray, List.set_cons_zero, List.set_cons_succ, i64_w, i32_w]; rfl
                refine pure_ (i := 6) (N := some 46) (v := ?_) (a' := ?_) #[true, true, true, true, true, true, true, false, false, false, false, false, false, false, false] rfl rfl (any_of HT_.out (by kernel_rfl)) (fun _ _ _ h => h) (Or.inl ⟨by rfl, ?_⟩) ?_ ?_
                rotate_left
                · intro w'; go_simp; with_reducible rfl
                rotate_left
                · simp only [Act.put, List.setIfInBounds_toArray, List.set_cons_zero, List.set_cons_succ, i64_w, i32_w]; rfl
                refine pure_ (i := 7) (N := some 47) (v := ?_) (a' := ?_) #[true, true, true, true, true, true, true, true, false, false, false, false, false, false, false] rfl rfl (any_of HT_.out (by kernel_rfl)) (fun _ _ _ h => h) (Or.inl ⟨by rfl, ?_⟩) ?_ ?_
                rotate_left
                · intro w'; go_simp; with_reducible rfl
                rotate_left
                · simp only [Act.put, List.setIfInBounds_toArray, List.set_cons_zero, List.set_cons_succ, i64_w, i32_w]; rfl
                refine pure_ (i := 8) (N := some 48) (v := ?_) (a' := ?_) #[true, true, true, true, true, true, true, true, true, false, false, false, false, false, false] rfl rfl (any_of HT_.out (by kernel_rfl)) (fun _ _ _ h => h) (Or.inl ⟨by rfl, ?_⟩) ?_ ?_
                rotate_left
                · intro w'; go_simp; with_reducible rfl
                rotate_left
                · simp only [Act.put, List.setIfInBounds_toArray, List.set_cons_zero, List.set_cons_succ, i64_w, i32_w]; rfl
                refine one_ (i := 9) (N := some 49) #[true, true, true, true, true, true, true, true, true, true, false, false, false, false, false] rfl rfl (one_of HT_.out (by kernel_rfl)) (by decide) (fun K hK => ?_)
                refine goes_ Try.func38 (by kernel_rfl) rfl #[.string ((rdOf ByteArray.empty t136 0).extract 0 ((ji25) : Int).toNat)] (by rfl) rfl rfl (by (try simp only [List.map_toArray, List.map_cons, List.map_nil]); first | done | (simp only [hji25]; rfl) | rfl | (simp only [List.length_drop, List.length_take]; rfl)) ?_
                with_reducible refine (trace_number.calls kj2 ((rdOf ByteArray.empty t136 0).extract 0 ((ji25) : Int).toNat) t145 t146 _ A28.out).mono ?_
                rintro e w34 ⟨rfl, hb⟩
                have HS0_ := (hb.cell (World.block_lt_of_cell? _ _ (hHeld.1))).trans (hHeld.1)
                have HS1_ := (hb.cell (World.block_lt_of_cell? _ _ (hHeld.2))).trans (hHeld.2)
                refine ⟨_, rfl, ?_⟩
                have n0_ := Aside0.mk (Kd.R_below (by (with_reducible repeat (first | apply Kd.R_alloc | apply Kd.R_drewN | apply Kd.R_drew)); exact HO_4.out) hb)
                have n1_ := Aside0.mk (blk_below (g := gb135) (o := .cells #[.int .i64 0, .string (⟨#[]⟩ : ByteArray), .string (⟨#[]⟩ : ByteArray), .int .i64 0] 37 (0, 0)) (by (with_reducible repeat (first | refine blk_drewN ?_ _ | refine blk_drew ?_ | refine blk_alloc ?_ _)); exact BK135.out) hb)
                have n2_ := Aside0.mk (blk_below (g := gb142) (o := .cells #[.int .i64 0, .string (⟨#[]⟩ : ByteArray), .string (⟨#[]⟩ : ByteArray), .int .i64 0] 37 (0, 0)) (by (with_reducible repeat (first | refine blk_drewN ?_ _ | refine blk_drew ?_ | refine blk_alloc ?_ _)); exact BK142.out) hb)
                have n3_ := Aside0.mk (below_step (by repeat (first | (with_reducible first | exact HB.out | apply below_alloc | apply pw_below_drewN | apply below_drew1 | refine below_set ?_ GE135.out | refine below_set ?_ GE142.out) | exact HB.out)) hb)
                clear HO_4
                clear BK135
                clear BK142
                clear HB
                have HO_4 := n0_
                have BK135 := n1_
                have BK142 := n2_
                have HB := n3_
                clear n0_ n1_ n2_ n3_
                (try clear hb); (try clear hb2); (try clear hk); (try clear hi)
                refine hK.out _ _ ⟨HS0_, HS1_⟩ (fun hHeld => ?_)
                clear hK K
                refine norm_ (a' := ?_) ?_ ?_
                rotate_left
                · show Act.put _ (some 49) _ = _
                  simp only [Act.put, List.setIfInBounds_toArray, List.set_cons_zero, List.set_cons_succ, i64_w, i32_w]
                  rfl
                refine pure_ (i := 10) (N := some 39) (v := ?_) (a' := ?_) #[true, true, true, true, true, true, true, true, true, true, true, false, false, false, false] rfl rfl (any_of HT_.out (by kernel_rfl)) (fun _ _ _ h => h) (Or.inl ⟨by rfl, ?_⟩) ?_ ?_
                rotate_left
                · intro w'; go_simp; with_reducible rfl
                rotate_left
                · simp only [Act.put, List.setIfInBounds_toArray, List.set_cons_zero, List.set_cons_succ, i64_w, i32_w]; rfl
                refine pure_ (i := 11) (N := some 50) (v := ?_) (a' := ?_) #[true, true, true, true, true, true, true, true, true, true, true, true, false, false, false] rfl rfl (any_of HT_.out (by kernel_rfl)) (fun _ _ _ h => h) (Or.inl ⟨by rfl, ?_⟩) ?_ ?_
                rotate_left
                · intro w'; go_simp; with_reducible rfl
                rotate_left
                · simp only [Act.put, List.setIfInBounds_toArray, List.set_cons_zero, List.set_cons_succ, i64_w, i32_w]; rfl
                refine pure_ (i := 12) (N := some 51) (v := ?_) (a' := ?_) #[true, true, true, true, true, true, true, true, true, true, true, true, true, false, false] rfl rfl (any_of HT_.out (by kernel_rfl)) (fun _ _ _ h => h) (Or.inl ⟨by rfl, ?_⟩) ?_ ?_
                rotate_left
                · intro w'; go_simp; with_reducible rfl
                rotate_left
                · simp only [Act.put, List.setIfInBounds_toArray, List.set_cons_zero, List.set_cons_succ, i64_w, i32_w]; rfl
                refine pure_ (i := 13) (N := some 6) (v := ?_) (a' := ?_) #[true, true, true, true, true, true, true, true, true, true, true, true, true, true, false] rfl rfl (any_of HT_.out (by kernel_rfl)) (fun _ _ _ h => h) (Or.inl ⟨by rfl, ?_⟩) ?_ ?_
                rotate_left
                · intro w'; go_simp; with_reducible rfl
                rotate_left
                · simp only [Act.put, List.setIfInBounds_toArray, List.set_cons_zero, List.set_cons_succ, i64_w, i32_w]; rfl
                refine pure_ (i := 14) (N := some 7) (v := ?_) (a' := ?_) #[true, true, true, true, true, true, true, true, true, true, true, true, true, true, true] rfl rfl (any_of HT_.out (by kernel_rfl)) (fun _ _ _ h => h) (Or.inl ⟨by rfl, ?_⟩) ?_ ?_
                rotate_left
                · intro w'; go_simp; with_reducible rfl
                rotate_left
                · simp only [Act.put, List.setIfInBounds_toArray, List.set_cons_zero, List.set_cons_succ, i64_w, i32_w]; rfl
                refine done_ (done_of HT_.out (by kernel_rfl)) ?_
                try go_wp2
                have n0_ := Aside0.mk (Kd.R_drew HO_4.out)
                have n1_ := Aside0.mk (blk_drew BK135.out)
                have n2_ := Aside0.mk (blk_drew BK142.out)
                have n3_ := Aside0.mk (below_drew1 HB.out)
                clear HO_4
                clear BK135
                clear BK142
                clear HB
                have HO_4 := n0_
                have BK135 := n1_
                have BK142 := n2_
                have HB := n3_
                clear n0_ n1_ n2_ n3_
                have p147 : 0 ≤ (1 : Int) := (by omega)
                have q147 : 1 < (t136.length : Int) := of_decide_eq_true (by first | (with_reducible assumption) | assumption)
                obtain ⟨ad147, e147, hx147_0⟩ := Kd.at_string (Kd.R_reads' HO_4.out).2.2 1 p147 q147
                obtain rfl : ad143 = ad147 := (by injection e147)
                (try simp only [show (1 : Int).toNat = 1 from rfl, Nat.reduceMul, Nat.reduceEqDiff, Go.Addr.add, ↓reduceIte] at hx147_0)
                have qi147 : (1 < t136.length) = True := eq_true (by omega)
                (try rw [show ((1 : Int)).toNat = 1 from rfl] at hx147_0)
                replace p147 := eq_true p147
                replace q147 := eq_true q147
                (try (have qz147 := q147; rw [ByteArray.size_extract, Nat.min_self] at qz147))
                refine start_ (n := 8) (S := fun w' => w'.cell? ⟨ad143.block, ad143.off + 1, none⟩ = some (.string (rdOf ByteArray.empty t136 1))) (ds := []) #[false, false, false, false, false, false, false, false] (by kernel_rfl) rfl rfl (hx147_0) (fun hHeld => ?_); refine with_tabW trace_read.tab6 trace_read.bits6 (fun HT_ HW_ => ?_)
                generalize w34.drew = w35 at HO_4 BK135 BK142 HB hx147_0 hHeld ⊢
                refine pure_ (i := 0) (N := some 52) (v := ?_) (a' := ?_) #[true, false, false, false, false, false, false, false] rfl rfl (any_of HT_.out (by kernel_rfl)) (fun _ _ _ h => h) (Or.inl ⟨by rfl, ?_⟩) ?_ ?_
                rotate_left
                · intro w'; go_simp; with_reducible rfl
                rotate_left
                · simp only [Act.put, List.setIfInBounds_toArray, List.set_cons_zero, List.set_cons_succ, i64_w, i32_w]; rfl
                refine pure_ (i := 1) (N := some 53) (v := ?_) (a' := ?_) #[true, true, false, false, false, false, false, false] rfl rfl (any_of HT_.out (by kernel_rfl)) (fun _ _ _ h => h) (Or.inl ⟨by rfl, ?_⟩) ?_ ?_
                rotate_left
                · intro w'; go_simp; with_reducible rfl
                rotate_left
                · simp only [Act.put, List.setIfInBounds_toArray, List.set_cons_zero, List.set_cons_succ, i64_w, i32_w]; rfl
                refine pure_ (i := 2) (N := some 54) (v := ?_) (a' := ?_) #[true, true, true, false, false, false, false, false] rfl rfl (any_of HT_.out (by kernel_rfl)) (fun _ _ _ h => h) (Or.inl ⟨by rfl, ?_⟩) ?_ ?_
                rotate_left
                · intro w'; go_simp; with_reducible rfl
                rotate_left
                · simp only [Act.put, List.setIfInBounds_toArray, List.set_cons_zero, List.set_cons_succ, i64_w, i32_w]; rfl
                refine pure_ (i := 4) (N := some 56) (v := ?_) (a' := ?_) #[true, true, true, false, true, false, false, false] rfl rfl (any_of HT_.out (by kernel_rfl)) (fun _ _ _ h => h) (Or.inl ⟨by rfl, ?_⟩) ?_ ?_
                rotate_left
                · intro w'; go_simp; with_reducible rfl
                rotate_left
                · simp only [Act.put, List.setIfInBounds_toArray, List.set_cons_zero, List.set_cons_succ, i64_w, i32_w]; rfl
                refine take_ (i := 3) (N := some 55) (v := ?_) (a' := ?_) #[true, true, true, true, true, false, false, false] rfl rfl (take_ofW HT_.out HW_.out (by kernel_rfl)) (fun _ _ _ h => h) (Or.inl ⟨by rfl, ?_⟩) hHeld ?_ ?_
                rotate_left
                · intro w' s0
                  go_simp
                  with_reducible rfl
                rotate_left
                · simp only [Act.put, List.setIfInBounds_toArray, List.set_cons_zero, List.set_cons_succ, i64_w, i32_w]; rfl
                refine one_ (i := 5) (N := none) #[true, true, true, true, true, true, false, false] rfl rfl (one_of HT_.out (by kernel_rfl)) (by decide) (fun K hK => ?_)
                have hs36 : w35.cell? ⟨gb142, 0, none⟩ = some (.int .i64 0) := (blk_cell BK142.out 0).trans rfl
                have hfs36 := blk_frozen BK142.out 0
                have hns36_0 := NB135_142.out
                have hms36_0 := NB142_135.out
                refine skip_ (w1 := ?_) (by rfl) rfl ?_ ?_
                rotate_left
                · go_simp
                  rfl
                refine hK.out _ _ (((cell_far (p := ⟨gb142, _, none⟩) (by first | exact Kd.own_blk (Kd.R_ne HO_4.out BK142.out (by decide)) | (rw [add_block]; exact Kd.own_blk (Kd.R_ne HO_4.out BK142.out (by decide))) | (show (Addr.add _ _).block ≠ _; rw [add_block]; exact Kd.own_blk (Kd.R_ne HO_4.out BK142.out (by decide))) | (dsimp only; exact Kd.own_blk (Kd.R_ne HO_4.out BK142.out (by decide)))) _).trans (hHeld))) (fun hHeld => ?_)
                clear hK K
                refine pure_ (i := 6) (N := some 57) (v := ?_) (a' := ?_) #[true, true, true, true, true, true, true, false] rfl rfl (any_of HT_.out (by kernel_rfl)) (fun _ _ _ h => h) (Or.inl ⟨by rfl, ?_⟩) ?_ ?_
                rotate_left
                · intro w'; go_simp; with_reducible rfl
                rotate_left
                · simp only [Act.put, List.setIfInBounds_toArray, List.set_cons_zero, List.set_cons_succ, i64_w, i32_w]; rfl
                refine one_ (i := 7) (N := none) #[true, true, true, true, true, true, true, true] rfl rfl (one_of HT_.out (by kernel_rfl)) (by decide) (fun K hK => ?_)
                have hs37 : w35.cell? ⟨gb142, 1, none⟩ = some (.string (⟨#[]⟩ : ByteArray)) := (blk_cell BK142.out 1).trans rfl
                have hfs37 := blk_frozen BK142.out 1
                have hns37_0 := NB135_142.out
                have hms37_0 := NB142_135.out
                refine skip_ (w1 := ?_) (by rfl) rfl ?_ ?_
                rotate_left
                · go_simp
                  rfl
                refine hK.out _ _ (((cell_far (p := ⟨gb142, _, none⟩) (by first | exact Kd.own_blk (Kd.R_ne HO_4.out BK142.out (by decide)) | (rw [add_block]; exact Kd.own_blk (Kd.R_ne HO_4.out BK142.out (by decide))) | (show (Addr.add _ _).block ≠ _; rw [add_block]; exact Kd.own_blk (Kd.R_ne HO_4.out BK142.out (by decide))) | (dsimp only; exact Kd.own_blk (Kd.R_ne HO_4.out BK142.out (by decide)))) _).trans (hHeld))) (fun hHeld => ?_)
                clear hK K
                refine done_ (done_of HT_.out (by kernel_rfl)) ?_
                go_upto_if 60 with (fail)
                go_cut [7] (fun v7 wc => ∃ (kq : Nat) (x7_29 : Bool) (x143002_29 : ByteArray), v7 = .bool x7_29 ∧ Aside0 (trace_read.j1 kq t136 x7_29 t145 (rdOf ByteArray.empty t136 1) x143002_29 0 = some (r1, r2, r3, r4, r5)) ∧ Aside0 (kq ≤ kj2) ∧ Aside0 (Kd.R Kd.string 9 wc w.heap.size (fun _ => True) (.slice (some ad143) t136.length co33) t136) ∧ Aside0 (wc.heap[gb135]? = some (.cells #[.int .i64 0, .string (⟨#[]⟩ : ByteArray), .string (⟨#[]⟩ : ByteArray), .int .i64 0] 37 (0, 0))) ∧ Aside0 (wc.heap[gb142]? = some (.cells #[.int .i64 t145, .string (rdOf ByteArray.empty t136 1), .string x143002_29, .int .i64 0] 37 (0, 0))) ∧ Aside0 (Below w.heap.size w wc))
                case first =>
                  have H := HC30.out
                  clear HC30
                  by_cases c38 : (t136.length : Int) > 2
                  · rw [if_pos c38] at H
                    have c38b0 : decide (2 < (t136.length : Int)) = true := decide_eq_true c38
                    have c38b1 : decide (2 < t136.length) = true := decide_eq_true (by omega)
                    clear c38
                    (first | rw [c38b0] | (simp only [i64_w, i32_w]; rw [c38b0]) | skip)
                    by_cases c39 : 2 < (t136.length : Int)
                    · rw [if_pos c39] at H
                      have c39b0 : decide (2 < (t136.length : Int)) = true := decide_eq_true c39
                      have c39b1 : decide (2 < t136.length) = true := decide_eq_true (by omega)
                      clear c39
                      by_cases c40 : t146 = true
                      · subst c40
                        have H1 : (trace_read.j1 kj2 t136 ((rdOf ByteArray.empty t136 2).toList != ([] : List UInt8)) t145 (rdOf ByteArray.empty t136 1) (rdOf ByteArray.empty t136 2) 0) = some (r1, r2, r3, r4, r5) := by rw [if_pos rfl] at H; exact H
                        clear H
                        have H := H1
                        clear H1
                        have H' := Aside0.mk H
                        clear H
                        have p148 : 0 ≤ (2 : Int) := (by omega)
                        have q148 : 2 < (t136.length : Int) := of_decide_eq_true (by first | (with_reducible assumption) | assumption)
                        obtain ⟨ad148, e148, hx148_0⟩ := Kd.at_string (Kd.R_reads' HO_4.out).2.2 2 p148 q148
                        obtain rfl : ad143 = ad148 := (by injection e148)
                        (try simp only [show (2 : Int).toNat = 2 from rfl, Nat.reduceMul, Nat.reduceEqDiff, Go.Addr.add, ↓reduceIte] at hx148_0)
                        have qi148 : (2 < t136.length) = True := eq_true (by omega)
                        (try rw [show ((2 : Int)).toNat = 2 from rfl] at hx148_0)
                        have hn148_0 : ad143.block ≠ gb142 := Kd.own_blk (Kd.R_ne HO_4.out BK142.out (by decide))
                        have hn148_1 : ad143.block ≠ gb142 := Kd.own_blk (Kd.R_ne HO_4.out BK142.out (by decide))
                        replace hx148_0 := (cell_far (p := ⟨gb142, 0, none⟩) (by first | (rw [add_block]; exact hn148_0) | (show (Addr.add _ _).block ≠ _; rw [add_block]; exact hn148_0) | exact hn148_0) (.int .i64 t145)).trans hx148_0
                        replace hx148_0 := (cell_far (p := ⟨gb142, 1, none⟩) (by first | (rw [add_block]; exact hn148_1) | (show (Addr.add _ _).block ≠ _; rw [add_block]; exact hn148_1) | exact hn148_1) (.string (rdOf ByteArray.empty t136 1))).trans hx148_0
                        clear hn148_0
                        clear hn148_1
                        replace p148 := eq_true p148
                        replace q148 := eq_true q148
                        (try (have qz148 := q148; rw [ByteArray.size_extract, Nat.min_self] at qz148))
                        have hnb41 := NB142_135.out
                        have hnc41 := NB135_142.out
                        have hcz42_0 : w35.cell? ⟨gb142, 0, none⟩ = some (.int .i64 0) := (blk_cell BK142.out 0).trans rfl
                        have hcz42_1 : w35.cell? ⟨gb142, 1, none⟩ = some (.string (⟨#[]⟩ : ByteArray)) := (blk_cell BK142.out 1).trans rfl
                        have hcz42_2 : w35.cell? ⟨gb142, 2, none⟩ = some (.string (⟨#[]⟩ : ByteArray)) := (blk_cell BK142.out 2).trans rfl
                        have hcz42_3 : w35.cell? ⟨gb142, 3, none⟩ = some (.int .i64 0) := (blk_cell BK142.out 3).trans rfl
                        have hfz42_0 := blk_frozen BK142.out 0
                        have hfz42_1 := blk_frozen BK142.out 1
                        have hfz42_2 := blk_frozen BK142.out 2
                        have hfz42_3 := blk_frozen BK142.out 3
                        go_wp2
                        go_meet
                        case rel => exact ⟨_, (((rdOf ByteArray.empty t136 2).toList != ([] : List UInt8))), (rdOf ByteArray.empty t136 2), (by first | rfl | (simp; done) | (simp [*]; done) | (simp [*]; exact (show ∀ l_ : List UInt8, l_.isEmpty = !(l_ != []) from fun l_ => by cases l_ <;> rfl) _)), H', ⟨by have := HJ2.out; first | omega | exact Nat.le_refl _⟩, ⟨by (with_reducible repeat (first | apply Kd.R_alloc | apply Kd.R_drewN | apply Kd.R_drew)); exact Kd.R_mono (Kd.R_far (p := ⟨gb142, 2, none⟩) (Kd.R_far (p := ⟨gb142, 1, none⟩) (Kd.R_far (p := ⟨gb142, 0, none⟩) (Kd.R_types HO_4.out BK142.out (by decide)) (fun _ hk => hk.2) (.int .i64 t145)) (fun _ hk => hk.2) (.string (rdOf ByteArray.empty t136 1))) (fun _ hk => hk.2) (.string (rdOf ByteArray.empty t136 2))) (fun _ hk => trivial)⟩, ⟨by (with_reducible repeat (first | refine blk_drewN ?_ _ | refine blk_drew ?_ | refine blk_alloc ?_ _)); refine blk_far ?_ NB135_142.out _; (with_reducible repeat (first | refine blk_drewN ?_ _ | refine blk_drew ?_ | refine blk_alloc ?_ _)); refine blk_far ?_ NB135_142.out _; (with_reducible repeat (first | refine blk_drewN ?_ _ | refine blk_drew ?_ | refine blk_alloc ?_ _)); refine blk_far ?_ NB135_142.out _; (with_reducible repeat (first | refine blk_drewN ?_ _ | refine blk_drew ?_ | refine blk_alloc ?_ _)); exact BK135.out⟩, ⟨by (with_reducible repeat (first | refine blk_drewN ?_ _ | refine blk_drew ?_ | refine blk_alloc ?_ _)); refine blk_put (cs := #[.int .i64 t145, .string (rdOf ByteArray.empty t136 1), .string (⟨#[]⟩ : ByteArray), .int .i64 0]) ?_ 2 _ rfl; (with_reducible repeat (first | refine blk_drewN ?_ _ | refine blk_drew ?_ | refine blk_alloc ?_ _)); refine blk_put (cs := #[.int .i64 t145, .string (⟨#[]⟩ : ByteArray), .string (⟨#[]⟩ : ByteArray), .int .i64 0]) ?_ 1 _ rfl; (with_reducible repeat (first | refine blk_drewN ?_ _ | refine blk_drew ?_ | refine blk_alloc ?_ _)); refine blk_put (cs := #[.int .i64 0, .string (⟨#[]⟩ : ByteArray), .string (⟨#[]⟩ : ByteArray), .int .i64 0]) ?_ 0 _ rfl; (with_reducible repeat (first | refine blk_drewN ?_ _ | refine blk_drew ?_ | refine blk_alloc ?_ _)); exact BK142.out⟩, ⟨by repeat (first | (with_reducible first | exact HB.out | apply below_alloc | apply pw_below_drewN | apply below_drew1 | refine below_set ?_ GE135.out | refine below_set ?_ GE142.out) | exact HB.out)⟩⟩
                      · replace c40 := Bool.eq_false_iff.mpr c40
                        subst c40
                        have H1 : (trace_read.j1 kj2 t136 false t145 (rdOf ByteArray.empty t136 1) (rdOf ByteArray.empty t136 2) 0) = some (r1, r2, r3, r4, r5) := by rw [if_neg (show ¬ (false = true) by decide)] at H; exact H
                        clear H
                        have H := H1
                        clear H1
                        have H' := Aside0.mk H
                        clear H
                        have p148 : 0 ≤ (2 : Int) := (by omega)
                        have q148 : 2 < (t136.length : Int) := of_decide_eq_true (by first | (with_reducible assumption) | assumption)
                        obtain ⟨ad148, e148, hx148_0⟩ := Kd.at_string (Kd.R_reads' HO_4.out).2.2 2 p148 q148
                        obtain rfl : ad143 = ad148 := (by injection e148)
                        (try simp only [show (2 : Int).toNat = 2 from rfl, Nat.reduceMul, Nat.reduceEqDiff, Go.Addr.add, ↓reduceIte] at hx148_0)
                        have qi148 : (2 < t136.length) = True := eq_true (by omega)
                        (try rw [show ((2 : Int)).toNat = 2 from rfl] at hx148_0)
                        have hn148_0 : ad143.block ≠ gb142 := Kd.own_blk (Kd.R_ne HO_4.out BK142.out (by decide))
                        have hn148_1 : ad143.block ≠ gb142 := Kd.own_blk (Kd.R_ne HO_4.out BK142.out (by decide))
                        replace hx148_0 := (cell_far (p := ⟨gb142, 0, none⟩) (by first | (rw [add_block]; exact hn148_0) | (show (Addr.add _ _).block ≠ _; rw [add_block]; exact hn148_0) | exact hn148_0) (.int .i64 t145)).trans hx148_0
                        replace hx148_0 := (cell_far (p := ⟨gb142, 1, none⟩) (by first | (rw [add_block]; exact hn148_1) | (show (Addr.add _ _).block ≠ _; rw [add_block]; exact hn148_1) | exact hn148_1) (.string (rdOf ByteArray.empty t136 1))).trans hx148_0
                        clear hn148_0
                        clear hn148_1
                        replace p148 := eq_true p148
                        replace q148 := eq_true q148
                        (try (have qz148 := q148; rw [ByteArray.size_extract, Nat.min_self] at qz148))
                        have hnb43 := NB142_135.out
                        have hnc43 := NB135_142.out
                        have hcz44_0 : w35.cell? ⟨gb142, 0, none⟩ = some (.int .i64 0) := (blk_cell BK142.out 0).trans rfl
                        have hcz44_1 : w35.cell? ⟨gb142, 1, none⟩ = some (.string (⟨#[]⟩ : ByteArray)) := (blk_cell BK142.out 1).trans rfl
                        have hcz44_2 : w35.cell? ⟨gb142, 2, none⟩ = some (.string (⟨#[]⟩ : ByteArray)) := (blk_cell BK142.out 2).trans rfl
                        have hcz44_3 : w35.cell? ⟨gb142, 3, none⟩ = some (.int .i64 0) := (blk_cell BK142.out 3).trans rfl
                        have hfz44_0 := blk_frozen BK142.out 0
                        have hfz44_1 := blk_frozen BK142.out 1
                        have hfz44_2 := blk_frozen BK142.out 2
                        have hfz44_3 := blk_frozen BK142.out 3
                        go_wp2
                        go_meet
                        case rel => exact ⟨_, (false), (rdOf ByteArray.empty t136 2), (by first | rfl | (simp; done) | (simp [*]; done) | (simp [*]; exact (show ∀ l_ : List UInt8, l_.isEmpty = !(l_ != []) from fun l_ => by cases l_ <;> rfl) _)), H', ⟨by have := HJ2.out; first | omega | exact Nat.le_refl _⟩, ⟨by (with_reducible repeat (first | apply Kd.R_alloc | apply Kd.R_drewN | apply Kd.R_drew)); exact Kd.R_mono (Kd.R_far (p := ⟨gb142, 2, none⟩) (Kd.R_far (p := ⟨gb142, 1, none⟩) (Kd.R_far (p := ⟨gb142, 0, none⟩) (Kd.R_types HO_4.out BK142.out (by decide)) (fun _ hk => hk.2) (.int .i64 t145)) (fun _ hk => hk.2) (.string (rdOf ByteArray.empty t136 1))) (fun _ hk => hk.2) (.string (rdOf ByteArray.empty t136 2))) (fun _ hk => trivial)⟩, ⟨by (with_reducible repeat (first | refine blk_drewN ?_ _ | refine blk_drew ?_ | refine blk_alloc ?_ _)); refine blk_far ?_ NB135_142.out _; (with_reducible repeat (first | refine blk_drewN ?_ _ | refine blk_drew ?_ | refine blk_alloc ?_ _)); refine blk_far ?_ NB135_142.out _; (with_reducible repeat (first | refine blk_drewN ?_ _ | refine blk_drew ?_ | refine blk_alloc ?_ _)); refine blk_far ?_ NB135_142.out _; (with_reducible repeat (first | refine blk_drewN ?_ _ | refine blk_drew ?_ | refine blk_alloc ?_ _)); exact BK135.out⟩, ⟨by (with_reducible repeat (first | refine blk_drewN ?_ _ | refine blk_drew ?_ | refine blk_alloc ?_ _)); refine blk_put (cs := #[.int .i64 t145, .string (rdOf ByteArray.empty t136 1), .string (⟨#[]⟩ : ByteArray), .int .i64 0]) ?_ 2 _ rfl; (with_reducible repeat (first | refine blk_drewN ?_ _ | refine blk_drew ?_ | refine blk_alloc ?_ _)); refine blk_put (cs := #[.int .i64 t145, .string (⟨#[]⟩ : ByteArray), .string (⟨#[]⟩ : ByteArray), .int .i64 0]) ?_ 1 _ rfl; (with_reducible repeat (first | refine blk_drewN ?_ _ | refine blk_drew ?_ | refine blk_alloc ?_ _)); refine blk_put (cs := #[.int .i64 0, .string (⟨#[]⟩ : ByteArray), .string (⟨#[]⟩ : ByteArray), .int .i64 0]) ?_ 0 _ rfl; (with_reducible repeat (first | refine blk_drewN ?_ _ | refine blk_drew ?_ | refine blk_alloc ?_ _)); exact BK142.out⟩, ⟨by repeat (first | (with_reducible first | exact HB.out | apply below_alloc | apply pw_below_drewN | apply below_drew1 | refine below_set ?_ GE135.out | refine below_set ?_ GE142.out) | exact HB.out)⟩⟩
                    · rw [if_neg c39] at H
                      exact absurd H (by simp)
                  · rw [if_neg c38] at H
                    have c38b0 : decide (2 < (t136.length : Int)) = false := decide_eq_false c38
                    have c38b1 : decide (2 < t136.length) = false := decide_eq_false (by omega)
                    clear c38
                    (first | rw [c38b0] | (simp only [i64_w, i32_w]; rw [c38b0]) | skip)
                    have H' := Aside0.mk H
                    clear H
                    go_wp2
                    go_meet
                    case rel => exact ⟨_, (t146), ((⟨#[]⟩ : ByteArray)), (by first | rfl | (simp; done) | (simp [*]; done) | (simp [*]; exact (show ∀ l_ : List UInt8, l_.isEmpty = !(l_ != []) from fun l_ => by cases l_ <;> rfl) _)), H', ⟨by have := HJ2.out; first | omega | exact Nat.le_refl _⟩, ⟨by (with_reducible repeat (first | apply Kd.R_alloc | apply Kd.R_drewN | apply Kd.R_drew)); exact Kd.R_mono (Kd.R_far (p := ⟨gb142, 1, none⟩) (Kd.R_far (p := ⟨gb142, 0, none⟩) (Kd.R_types HO_4.out BK142.out (by decide)) (fun _ hk => hk.2) (.int .i64 t145)) (fun _ hk => hk.2) (.string (rdOf ByteArray.empty t136 1))) (fun _ hk => trivial)⟩, ⟨by (with_reducible repeat (first | refine blk_drewN ?_ _ | refine blk_drew ?_ | refine blk_alloc ?_ _)); refine blk_far ?_ NB135_142.out _; (with_reducible repeat (first | refine blk_drewN ?_ _ | refine blk_drew ?_ | refine blk_alloc ?_ _)); refine blk_far ?_ NB135_142.out _; (with_reducible repeat (first | refine blk_drewN ?_ _ | refine blk_drew ?_ | refine blk_alloc ?_ _)); exact BK135.out⟩, ⟨by (with_reducible repeat (first | refine blk_drewN ?_ _ | refine blk_drew ?_ | refine blk_alloc ?_ _)); refine blk_put (cs := #[.int .i64 t145, .string (⟨#[]⟩ : ByteArray), .string (⟨#[]⟩ : ByteArray), .int .i64 0]) ?_ 1 _ rfl; (with_reducible repeat (first | refine blk_drewN ?_ _ | refine blk_drew ?_ | refine blk_alloc ?_ _)); refine blk_put (cs := #[.int .i64 0, .string (⟨#[]⟩ : ByteArray), .string (⟨#[]⟩ : ByteArray), .int .i64 0]) ?_ 0 _ rfl; (with_reducible repeat (first | refine blk_drewN ?_ _ | refine blk_drew ?_ | refine blk_alloc ?_ _)); exact BK142.out⟩, ⟨by repeat (first | (with_reducible first | exact HB.out | apply below_alloc | apply pw_below_drewN | apply below_drew1 | refine below_set ?_ GE135.out | refine below_set ?_ GE142.out) | exact HB.out)⟩⟩
                case rest =>
                  clear HC30
                  try clear c1
                  try clear p1
                  try clear q1
                  try clear hx1
                  try clear qi1
                  try clear c2
                  try clear p2
                  try clear c3
                  try clear c4
                  try clear p6
                  try clear c9
                  try clear c9b0
                  try clear c9b1
                  try clear c12
                  try clear c12b0
                  try clear c12b1
                  try clear c13
                  try clear c13b0
                  try clear c13b1
                  try clear p13
                  try clear q13
                  try clear hx13
                  try clear qi13
                  try clear p14
                  try clear q14
                  try clear hx14
                  try clear qi14
                  try clear c17
                  try clear c17b0
                  try clear c18
                  try clear c18b0
                  try clear p19
                  try clear q19
                  try clear hx19
                  try clear c22
                  try clear c24
                  try clear c24b0
                  try clear c24b1
                  try clear c26
                  try clear c26b0
                  try clear c26b1
                  try clear c27
                  try clear c27b0
                  try clear c27b1
                  try clear c29
                  try clear c29b0
                  try clear c29b1
                  try clear c38
                  try clear c38b0
                  try clear c38b1
                  try clear c39
                  try clear c39b0
                  try clear c39b1
                  try clear c40
                  try clear c41
                  try clear c43
                  try clear hcz23_0
                  try clear hcz23_1
                  try clear hcz23_2
                  try clear hcz23_3
                  try clear hcz42_0
                  try clear hcz42_1
                  try clear hcz42_2
                  try clear hcz42_3
                  try clear hcz44_0
                  try clear hcz44_1
                  try clear hcz44_2
                  try clear hcz44_3
                  try clear hfz23_0
                  try clear hfz23_1
                  try clear hfz23_2
                  try clear hfz23_3
                  try clear hfz42_0
                  try clear hfz42_1
                  try clear hfz42_2
                  try clear hfz42_3
                  try clear hfz44_0
                  try clear hfz44_1
                  try clear hfz44_2
                  try clear hfz44_3
                  try clear hx139_0
                  try clear hx140_0
                  try clear hx141_0
                  try clear hx143_0
                  try clear hx144_0
                  try clear hx147_0
                  try clear hx148_0
                  try clear p1
                  try clear p13
                  try clear p139
                  try clear p14
                  try clear p140
                  try clear p141
                  try clear p143
                  try clear p144
                  try clear p147
                  try clear p148
                  try clear p19
                  try clear p2
                  try clear p6
                  try clear q1
                  try clear q13
                  try clear q139
                  try clear q14
                  try clear q140
                  try clear q141
                  try clear q143
                  try clear q144
                  try clear q147
                  try clear q148
                  try clear q19
                  obtain ⟨kq, x7_29, x143002_29, rfl, HA, HJ29, HO_4, BK135, BK142, HB⟩ := hcut
                  cases kq with
                  | zero => exact absurd HA.out (by simp [trace_read.j1])
                  | succ kj29 =>
                    have H := HA.out
                    clear HA
                    simp only [trace_read.j1] at H
                    by_cases c45 : (t136.length : Int) > 3
                    · rw [if_pos c45] at H
                      have c45b0 : decide (3 < (t136.length : Int)) = true := decide_eq_true c45
                      have c45b1 : decide (3 < t136.length) = true := decide_eq_true (by omega)
                      clear c45
                      by_cases c46 : 3 < (t136.length : Int)
                      · rw [if_pos c46] at H
                        have c46b0 : decide (3 < (t136.length : Int)) = true := decide_eq_true c46
                        have c46b1 : decide (3 < t136.length) = true := decide_eq_true (by omega)
                        clear c46
                        replace H := Option.bind_eq_some_iff.mp H
                        obtain ⟨⟨t150, t151⟩, A470, H⟩ := H
                        replace H : (if x7_29 = true then (if t151 = true then (if t150 > 0 then ((trace_Right.f kj29 t145 (rdOf ByteArray.empty t136 1) x143002_29 t150).bind fun t152 => (some (t145, (rdOf ByteArray.empty t136 1), x143002_29, t150, t152))) else (some (t145, (rdOf ByteArray.empty t136 1), x143002_29, t150, false))) else (some (t145, (rdOf ByteArray.empty t136 1), x143002_29, t150, false))) else (some (t145, (rdOf ByteArray.empty t136 1), x143002_29, t150, false))) = some (r1, r2, r3, r4, r5) := H
                        have A47 := Aside0.mk A470
                        clear A470
                        by_cases c48 : x7_29 = true
                        · subst c48
                          have H1 : (if t151 = true then (if t150 > 0 then ((trace_Right.f kj29 t145 (rdOf ByteArray.empty t136 1) x143002_29 t150).bind fun t152 => (some (t145, (rdOf ByteArray.empty t136 1), x143002_29, t150, t152))) else (some (t145, (rdOf ByteArray.empty t136 1), x143002_29, t150, false))) else (some (t145, (rdOf ByteArray.empty t136 1), x143002_29, t150, false))) = some (r1, r2, r3, r4, r5) := by rw [if_pos rfl] at H; exact H
                          clear H
                          have H := H1
                          clear H1
                          by_cases c49 : t151 = true
                          · subst c49
                            have H1 : (if t150 > 0 then ((trace_Right.f kj29 t145 (rdOf ByteArray.empty t136 1) x143002_29 t150).bind fun t152 => (some (t145, (rdOf ByteArray.empty t136 1), x143002_29, t150, t152))) else (some (t145, (rdOf ByteArray.empty t136 1), x143002_29, t150, false))) = some (r1, r2, r3, r4, r5) := by rw [if_pos rfl] at H; exact H
                            clear H
                            have H := H1
                            clear H1
                            by_cases c50 : t150 > 0
                            · rw [if_pos c50] at H
                              have c50b0 : decide (0 < t150) = true := decide_eq_true c50
                              clear c50
                              replace H := Option.bind_eq_some_iff.mp H
                              obtain ⟨t152, A510, H⟩ := H
                              replace H : (some (t145, (rdOf ByteArray.empty t136 1), x143002_29, t150, t152)) = some (r1, r2, r3, r4, r5) := H
                              have A51 := Aside0.mk A510
                              clear A510
                              simp only [Option.some.injEq, Prod.mk.injEq] at H
                              obtain ⟨rfl, rfl, rfl, rfl, rfl⟩ := H
                              have p149 : 0 ≤ (3 : Int) := (by omega)
                              have q149 : 3 < (t136.length : Int) := of_decide_eq_true (by first | (with_reducible assumption) | assumption)
                              obtain ⟨ad149, e149, hx149_0⟩ := Kd.at_string (Kd.R_reads' HO_4.out).2.2 3 p149 q149
                              obtain rfl : ad143 = ad149 := (by injection e149)
                              (try simp only [show (3 : Int).toNat = 3 from rfl, Nat.reduceMul, Nat.reduceEqDiff, Go.Addr.add, ↓reduceIte] at hx149_0)
                              have qi149 : (3 < t136.length) = True := eq_true (by omega)
                              (try rw [show ((3 : Int)).toNat = 3 from rfl] at hx149_0)
                              replace p149 := eq_true p149
                              replace q149 := eq_true q149
                              (try (have qz149 := q149; rw [ByteArray.size_extract, Nat.min_self] at qz149))
                              try go_wp2_with (first | ((first | ((with_reducible refine gate_callee (f := 38) rfl ?_); refine goesL_ (some 78) rfl rfl Try.func38 (by kernel_rfl) rfl #[.string (rdOf ByteArray.empty t136 3)] rfl (by (try simp only [List.map_toArray, List.map_cons, List.map_nil]); first | done | rfl | (simp only [List.length_drop, List.length_take]; rfl)) ?_; (with_reducible refine (trace_number.calls kj29 (rdOf ByteArray.empty t136 3) t150 true _ A47.out).mono ?_); rintro e w52 ⟨rfl, hb⟩; refine ⟨_, rfl, ?_⟩) | (go_at_call 38; (with_reducible refine (trace_number.calls kj29 (rdOf ByteArray.empty t136 3) t150 true _ A47.out).mono ?_); rintro e w52 ⟨rfl, hb⟩)); have n0_ := Aside0.mk (Kd.R_below (by (with_reducible repeat (first | apply Kd.R_alloc | apply Kd.R_drewN | apply Kd.R_drew)); exact HO_4.out) hb); have n1_ := Aside0.mk (blk_below (g := gb135) (o := .cells #[.int .i64 0, .string (⟨#[]⟩ : ByteArray), .string (⟨#[]⟩ : ByteArray), .int .i64 0] 37 (0, 0)) (by (with_reducible repeat (first | refine blk_drewN ?_ _ | refine blk_drew ?_ | refine blk_alloc ?_ _)); exact BK135.out) hb); have n2_ := Aside0.mk (blk_below (g := gb142) (o := .cells #[.int .i64 t145, .string (rdOf ByteArray.empty t136 1), .string x143002_29, .int .i64 0] 37 (0, 0)) (by (with_reducible repeat (first | refine blk_drewN ?_ _ | refine blk_drew ?_ | refine blk_alloc ?_ _)); exact BK142.out) hb); have n3_ := Aside0.mk (below_step (by repeat (first | (with_reducible first | exact HB.out | apply below_alloc | apply pw_below_drewN | apply below_drew1 | refine below_set ?_ GE135.out | refine below_set ?_ GE142.out) | exact HB.out)) hb); clear HO_4; clear BK135; clear BK142; clear HB; have HO_4 := n0_; have BK135 := n1_; have BK142 := n2_; have HB := n3_; clear n0_ n1_ n2_ n3_; (try clear hb); (try clear hb2); (try clear hk); (try clear hi); have hnb53 := NB142_135.out; have hnc53 := NB135_142.out; have hcz54_0 : w52.cell? ⟨gb142, 0, none⟩ = some (.int .i64 t145) := (blk_cell BK142.out 0).trans rfl; have hcz54_1 : w52.cell? ⟨gb142, 1, none⟩ = some (.string (rdOf ByteArray.empty t136 1)) := (blk_cell BK142.out 1).trans rfl; have hcz54_2 : w52.cell? ⟨gb142, 2, none⟩ = some (.string x143002_29) := (blk_cell BK142.out 2).trans rfl; have hcz54_3 : w52.cell? ⟨gb142, 3, none⟩ = some (.int .i64 0) := (blk_cell BK142.out 3).trans rfl; have hfz54_0 := blk_frozen BK142.out 0; have hfz54_1 := blk_frozen BK142.out 1; have hfz54_2 := blk_frozen BK142.out 2; have hfz54_3 := blk_frozen BK142.out 3))
                              have n0_ : Aside0 (Kd.R Kd.string 9 (w52.setCell ⟨gb142, 3, none⟩ (.int .i64 t150)) w.heap.size (fun _ => True) (.slice (some ad143) t136.length co33) t136) := ⟨by (with_reducible repeat (first | apply Kd.R_alloc | apply Kd.R_drewN | apply Kd.R_drew)); exact Kd.R_mono (Kd.R_far (p := ⟨gb142, 3, none⟩) (Kd.R_types HO_4.out BK142.out (by decide)) (fun _ hk => hk.2) (.int .i64 t150)) (fun _ hk => trivial)⟩
                              have n1_ : Aside0 ((w52.setCell ⟨gb142, 3, none⟩ (.int .i64 t150)).heap[gb135]? = some (.cells #[.int .i64 0, .string (⟨#[]⟩ : ByteArray), .string (⟨#[]⟩ : ByteArray), .int .i64 0] 37 (0, 0))) := ⟨by (with_reducible repeat (first | refine blk_drewN ?_ _ | refine blk_drew ?_ | refine blk_alloc ?_ _)); refine blk_far ?_ NB135_142.out _; (with_reducible repeat (first | refine blk_drewN ?_ _ | refine blk_drew ?_ | refine blk_alloc ?_ _)); exact BK135.out⟩
                              have n2_ : Aside0 ((w52.setCell ⟨gb142, 3, none⟩ (.int .i64 t150)).heap[gb142]? = some (.cells #[.int .i64 t145, .string (rdOf ByteArray.empty t136 1), .string x143002_29, .int .i64 t150] 37 (0, 0))) := ⟨by (with_reducible repeat (first | refine blk_drewN ?_ _ | refine blk_drew ?_ | refine blk_alloc ?_ _)); refine blk_put (cs := #[.int .i64 t145, .string (rdOf ByteArray.empty t136 1), .string x143002_29, .int .i64 0]) ?_ 3 _ rfl; (with_reducible repeat (first | refine blk_drewN ?_ _ | refine blk_drew ?_ | refine blk_alloc ?_ _)); exact BK142.out⟩
                              have n3_ : Aside0 (Below w.heap.size w (w52.setCell ⟨gb142, 3, none⟩ (.int .i64 t150))) := ⟨by repeat (first | (with_reducible first | exact HB.out | apply below_alloc | apply pw_below_drewN | apply below_drew1 | refine below_set ?_ GE135.out | refine below_set ?_ GE142.out) | exact HB.out)⟩
                              (try clear HO_4)
                              (try clear BK135)
                              (try clear BK142)
                              (try clear HB)
                              generalize (w52.setCell ⟨gb142, 3, none⟩ (.int .i64 t150)) = w55 at n0_ n1_ n2_ n3_ ⊢
                              have HO_4 := n0_
                              have BK135 := n1_
                              have BK142 := n2_
                              have HB := n3_
                              clear n0_ n1_ n2_ n3_
                              have n0_ := Aside0.mk (Kd.R_drew HO_4.out)
                              have n1_ := Aside0.mk (blk_drew BK135.out)
                              have n2_ := Aside0.mk (blk_drew BK142.out)
                              have n3_ := Aside0.mk (below_drew1 HB.out)
                              clear HO_4
                              clear BK135
                              clear BK142
                              clear HB
                              have HO_4 := n0_
                              have BK135 := n1_
                              have BK142 := n2_
                              have HB := n3_
                              clear n0_ n1_ n2_ n3_
                              refine start_ (n := 8) (S := fun w' => w'.cell? ⟨gb142, 0, none⟩ = some (.int .i64 t145) ∧ w'.cell? ⟨gb142, 1, none⟩ = some (.string (rdOf ByteArray.empty t136 1)) ∧ w'.cell? ⟨gb142, 2, none⟩ = some (.string x143002_29) ∧ w'.cell? ⟨gb142, 3, none⟩ = some (.int .i64 t150)) (ds := []) #[false, false, false, false, false, false, false, false] (by kernel_rfl) rfl rfl ⟨(blk_cell BK142.out 0).trans rfl, (blk_cell BK142.out 1).trans rfl, (blk_cell BK142.out 2).trans rfl, (blk_cell BK142.out 3).trans rfl⟩ (fun hHeld => ?_); refine with_tabW trace_read.tab14 trace_read.bits14 (fun HT_ HW_ => ?_)
                              generalize w55.drew = w56 at HO_4 BK135 BK142 HB hHeld ⊢
                              refine pure_ (i := 1) (N := some 92) (v := ?_) (a' := ?_) #[false, true, false, false, false, false, false, false] rfl rfl (any_of HT_.out (by kernel_rfl)) (fun _ _ _ h => h) (Or.inl ⟨by rfl, ?_⟩) ?_ ?_
                              rotate_left
                              · intro w'; go_simp; with_reducible rfl
                              rotate_left
                              · simp only [Act.put, List.setIfInBounds_toArray, List.set_cons_zero, List.set_cons_succ, i64_w, i32_w]; rfl
                              refine pure_ (i := 2) (N := some 93) (v := ?_) (a' := ?_) #[false, true, true, false, false, false, false, false] rfl rfl (any_of HT_.out (by kernel_rfl)) (fun _ _ _ h => h) (Or.inl ⟨by rfl, ?_⟩) ?_ ?_
                              rotate_left
                              · intro w'; go_simp; with_reducible rfl
                              rotate_left
                              · simp only [Act.put, List.setIfInBounds_toArray, List.set_cons_zero, List.set_cons_succ, i64_w, i32_w]; rfl
                              refine take_ (i := 0) (N := some 91) (v := ?_) (a' := ?_) #[true, true, true, false, false, false, false, false] rfl rfl (take_ofW HT_.out HW_.out (by kernel_rfl)) (fun _ _ _ h => h) (Or.inl ⟨by rfl, ?_⟩) hHeld ?_ ?_
                              rotate_left
                              · rintro w' ⟨s0, s1, s2, s3⟩; go_simp; with_reducible rfl
                              rotate_left
                              · simp only [Act.put, List.setIfInBounds_toArray, List.set_cons_zero, List.set_cons_succ, i64_w, i32_w]; rfl
                              refine take_ (i := 3) (N := some 94) (v := ?_) (a' := ?_) #[true, true, true, true, false, false, false, false] rfl rfl (take_ofW HT_.out HW_.out (by kernel_rfl)) (fun _ _ _ h => h) (Or.inl ⟨by rfl, ?_⟩) hHeld ?_ ?_
                              rotate_left
                              · rintro w' ⟨s0, s1, s2, s3⟩; go_simp; with_reducible rfl
                              rotate_left
                              · simp only [Act.put, List.setIfInBounds_toArray, List.set_cons_zero, List.set_cons_succ, i64_w, i32_w]; rfl
                              refine one_ (i := 4) (N := some 95) #[true, true, true, true, true, false, false, false] rfl rfl (one_of HT_.out (by kernel_rfl)) (by decide) (fun K hK => ?_)
                              refine goes_ Try.func14 (by kernel_rfl) rfl #[.agg #[.int .i64 t145, .string (rdOf ByteArray.empty t136 1), .string x143002_29, .int .i64 t150]] (by rfl) rfl rfl (by (try simp only [List.map_toArray, List.map_cons, List.map_nil]); first | done | rfl | (simp only [List.length_drop, List.length_take]; rfl)) ?_
                              with_reducible refine (trace_Right.calls kj29 t145 (rdOf ByteArray.empty t136 1) x143002_29 t150 t152 _ A51.out).mono ?_
                              rintro e w57 ⟨rfl, hb⟩
                              refine ⟨_, rfl, ?_⟩
                              have n0_ := Aside0.mk (Kd.R_below (by (with_reducible repeat (first | apply Kd.R_alloc | apply Kd.R_drewN | apply Kd.R_drew)); exact HO_4.out) hb)
                              have n1_ := Aside0.mk (blk_below (g := gb135) (o := .cells #[.int .i64 0, .string (⟨#[]⟩ : ByteArray), .string (⟨#[]⟩ : ByteArray), .int .i64 0] 37 (0, 0)) (by (with_reducible repeat (first | refine blk_drewN ?_ _ | refine blk_drew ?_ | refine blk_alloc ?_ _)); exact BK135.out) hb)
                              have n2_ := Aside0.mk (blk_below (g := gb142) (o := .cells #[.int .i64 t145, .string (rdOf ByteArray.empty t136 1), .string x143002_29, .int .i64 t150] 37 (0, 0)) (by (with_reducible repeat (first | refine blk_drewN ?_ _ | refine blk_drew ?_ | refine blk_alloc ?_ _)); exact BK142.out) hb)
                              have n3_ := Aside0.mk (below_step (by repeat (first | (with_reducible first | exact HB.out | apply below_alloc | apply pw_below_drewN | apply below_drew1 | refine below_set ?_ GE135.out | refine below_set ?_ GE142.out) | exact HB.out)) hb)
                              clear HO_4
                              clear BK135
                              clear BK142
                              clear HB
                              have HO_4 := n0_
                              have BK135 := n1_
                              have BK142 := n2_
                              have HB := n3_
                              clear n0_ n1_ n2_ n3_
                              (try clear hb); (try clear hb2); (try clear hk); (try clear hi)
                              refine hK.out _ _ ⟨(blk_cell BK142.out 0).trans rfl, (blk_cell BK142.out 1).trans rfl, (blk_cell BK142.out 2).trans rfl, (blk_cell BK142.out 3).trans rfl⟩ (fun hHeld => ?_)
                              clear hK K
                              refine norm_ (a' := ?_) ?_ ?_
                              rotate_left
                              · show Act.put _ (some 95) _ = _
                                simp only [Act.put, List.setIfInBounds_toArray, List.set_cons_zero, List.set_cons_succ, i64_w, i32_w]
                                rfl
                              refine pure_ (i := 5) (N := some 96) (v := ?_) (a' := ?_) #[true, true, true, true, true, true, false, false] rfl rfl (any_of HT_.out (by kernel_rfl)) (fun _ _ _ h => h) (Or.inl ⟨by rfl, ?_⟩) ?_ ?_
                              rotate_left
                              · intro w'; go_simp; with_reducible rfl
                              rotate_left
                              · simp only [Act.put, List.setIfInBounds_toArray, List.set_cons_zero, List.set_cons_succ, i64_w, i32_w]; rfl
                              refine one_ (i := 6) (N := none) #[true, true, true, true, true, true, true, false] rfl rfl (one_of HT_.out (by kernel_rfl)) (by decide) (fun K hK => ?_)
                              have hs58 : w57.cell? ⟨gb135, 0, none⟩ = some (.int .i64 0) := (blk_cell BK135.out 0).trans rfl
                              have hfs58 := blk_frozen BK135.out 0
                              have hns58_1 := NB142_135.out
                              have hms58_1 := NB135_142.out
                              have hs59 : w57.cell? ⟨gb135, 1, none⟩ = some (.string (⟨#[]⟩ : ByteArray)) := (blk_cell BK135.out 1).trans rfl
                              have hfs59 := blk_frozen BK135.out 1
                              have hns59_1 := NB142_135.out
                              have hms59_1 := NB135_142.out
                              have hs60 : w57.cell? ⟨gb135, 2, none⟩ = some (.string (⟨#[]⟩ : ByteArray)) := (blk_cell BK135.out 2).trans rfl
                              have hfs60 := blk_frozen BK135.out 2
                              have hns60_1 := NB142_135.out
                              have hms60_1 := NB135_142.out
                              have hs61 : w57.cell? ⟨gb135, 3, none⟩ = some (.int .i64 0) := (blk_cell BK135.out 3).trans rfl
                              have hfs61 := blk_frozen BK135.out 3
                              have hns61_1 := NB142_135.out
                              have hms61_1 := NB135_142.out
                              refine skip_ (w1 := ?_) (by rfl) rfl ?_ ?_
                              rotate_left
                              · go_simp
                                rfl
                              refine hK.out _ _ ⟨((cell_far (p := ⟨gb135, _, none⟩) NB142_135.out _).trans (((cell_far (p := ⟨gb135, _, none⟩) NB142_135.out _).trans (((cell_far (p := ⟨gb135, _, none⟩) NB142_135.out _).trans (((cell_far (p := ⟨gb135, _, none⟩) NB142_135.out _).trans (hHeld.1)))))))), ((cell_far (p := ⟨gb135, _, none⟩) NB142_135.out _).trans (((cell_far (p := ⟨gb135, _, none⟩) NB142_135.out _).trans (((cell_far (p := ⟨gb135, _, none⟩) NB142_135.out _).trans (((cell_far (p := ⟨gb135, _, none⟩) NB142_135.out _).trans (hHeld.2.1)))))))), ((cell_far (p := ⟨gb135, _, none⟩) NB142_135.out _).trans (((cell_far (p := ⟨gb135, _, none⟩) NB142_135.out _).trans (((cell_far (p := ⟨gb135, _, none⟩) NB142_135.out _).trans (((cell_far (p := ⟨gb135, _, none⟩) NB142_135.out _).trans (hHeld.2.2.1)))))))), ((cell_far (p := ⟨gb135, _, none⟩) NB142_135.out _).trans (((cell_far (p := ⟨gb135, _, none⟩) NB142_135.out _).trans (((cell_far (p := ⟨gb135, _, none⟩) NB142_135.out _).trans (((cell_far (p := ⟨gb135, _, none⟩) NB142_135.out _).trans (hHeld.2.2.2))))))))⟩ (fun hHeld => ?_)
                              clear hK K
                              refine pure_ (i := 7) (N := some 3) (v := ?_) (a' := ?_) #[true, true, true, true, true, true, true, true] rfl rfl (any_of HT_.out (by kernel_rfl)) (fun _ _ _ h => h) (Or.inl ⟨by rfl, ?_⟩) ?_ ?_
                              rotate_left
                              · intro w'; go_simp; with_reducible rfl
                              rotate_left
                              · simp only [Act.put, List.setIfInBounds_toArray, List.set_cons_zero, List.set_cons_succ, i64_w, i32_w]; rfl
                              refine done_ (done_of HT_.out (by kernel_rfl)) ?_
                              try go_wp2
                              refine bodyPost_ret (results_ct rfl _ _ gb135 37 #[.int .i64 t145, .string (rdOf ByteArray.empty t136 1), .string x143002_29, .int .i64 t150] (0, 0) _ rfl (by (with_reducible repeat (first | refine blk_drewN ?_ _ | refine blk_drew ?_ | refine blk_alloc ?_ _)); refine blk_put (cs := #[.int .i64 t145, .string (rdOf ByteArray.empty t136 1), .string x143002_29, .int .i64 0]) ?_ 3 _ rfl; (with_reducible repeat (first | refine blk_drewN ?_ _ | refine blk_drew ?_ | refine blk_alloc ?_ _)); refine blk_put (cs := #[.int .i64 t145, .string (rdOf ByteArray.empty t136 1), .string (⟨#[]⟩ : ByteArray), .int .i64 0]) ?_ 2 _ rfl; (with_reducible repeat (first | refine blk_drewN ?_ _ | refine blk_drew ?_ | refine blk_alloc ?_ _)); refine blk_put (cs := #[.int .i64 t145, .string (⟨#[]⟩ : ByteArray), .string (⟨#[]⟩ : ByteArray), .int .i64 0]) ?_ 1 _ rfl; (with_reducible repeat (first | refine blk_drewN ?_ _ | refine blk_drew ?_ | refine blk_alloc ?_ _)); refine blk_put (cs := #[.int .i64 0, .string (⟨#[]⟩ : ByteArray), .string (⟨#[]⟩ : ByteArray), .int .i64 0]) ?_ 0 _ rfl; (with_reducible repeat (first | refine blk_drewN ?_ _ | refine blk_drew ?_ | refine blk_alloc ?_ _)); exact BK135.out) Try.underlying37 rfl (by kernel_rfl)) rfl ?_
                              exact ⟨by first | rfl | (simp [errW_none, errW_some] <;> rfl) | (simp only [← hji25]; first | rfl | (simp [errW_none, errW_some] <;> rfl)) | (simp [*, errW_none, errW_some] <;> rfl), by repeat (first | (with_reducible first | exact HB.out | apply below_alloc | apply pw_below_drewN | apply below_drew1 | refine below_set ?_ GE135.out | refine below_set ?_ GE142.out) | exact HB.out)⟩
                            · rw [if_neg c50] at H
                              have c50b0 : decide (0 < t150) = false := decide_eq_false c50
                              clear c50
                              simp only [Option.some.injEq, Prod.mk.injEq] at H
                              obtain ⟨rfl, rfl, rfl, rfl, rfl⟩ := H
                              have p149 : 0 ≤ (3 : Int) := (by omega)
                              have q149 : 3 < (t136.length : Int) := of_decide_eq_true (by first | (with_reducible assumption) | assumption)
                              obtain ⟨ad149, e149, hx149_0⟩ := Kd.at_string (Kd.R_reads' HO_4.out).2.2 3 p149 q149
                              obtain rfl : ad143 = ad149 := (by injection e149)
                              (try simp only [show (3 : Int).toNat = 3 from rfl, Nat.reduceMul, Nat.reduceEqDiff, Go.Addr.add, ↓reduceIte] at hx149_0)
                              have qi149 : (3 < t136.length) = True := eq_true (by omega)
                              (try rw [show ((3 : Int)).toNat = 3 from rfl] at hx149_0)
                              replace p149 := eq_true p149
                              replace q149 := eq_true q149
                              (try (have qz149 := q149; rw [ByteArray.size_extract, Nat.min_self] at qz149))
                              try go_wp2_with (first | ((first | ((with_reducible refine gate_callee (f := 38) rfl ?_); refine goesL_ (some 78) rfl rfl Try.func38 (by kernel_rfl) rfl #[.string (rdOf ByteArray.empty t136 3)] rfl (by (try simp only [List.map_toArray, List.map_cons, List.map_nil]); first | done | rfl | (simp only [List.length_drop, List.length_take]; rfl)) ?_; (with_reducible refine (trace_number.calls kj29 (rdOf ByteArray.empty t136 3) t150 true _ A47.out).mono ?_); rintro e w62 ⟨rfl, hb⟩; refine ⟨_, rfl, ?_⟩) | (go_at_call 38; (with_reducible refine (trace_number.calls kj29 (rdOf ByteArray.empty t136 3) t150 true _ A47.out).mono ?_); rintro e w62 ⟨rfl, hb⟩)); have n0_ := Aside0.mk (Kd.R_below (by (with_reducible repeat (first | apply Kd.R_alloc | apply Kd.R_drewN | apply Kd.R_drew)); exact HO_4.out) hb); have n1_ := Aside0.mk (blk_below (g := gb135) (o := .cells #[.int .i64 0, .string (⟨#[]⟩ : ByteArray), .string (⟨#[]⟩ : ByteArray), .int .i64 0] 37 (0, 0)) (by (with_reducible repeat (first | refine blk_drewN ?_ _ | refine blk_drew ?_ | refine blk_alloc ?_ _)); exact BK135.out) hb); have n2_ := Aside0.mk (blk_below (g := gb142) (o := .cells #[.int .i64 t145, .string (rdOf ByteArray.empty t136 1), .string x143002_29, .int .i64 0] 37 (0, 0)) (by (with_reducible repeat (first | refine blk_drewN ?_ _ | refine blk_drew ?_ | refine blk_alloc ?_ _)); exact BK142.out) hb); have n3_ := Aside0.mk (below_step (by repeat (first | (with_reducible first | exact HB.out | apply below_alloc | apply pw_below_drewN | apply below_drew1 | refine below_set ?_ GE135.out | refine below_set ?_ GE142.out) | exact HB.out)) hb); clear HO_4; clear BK135; clear BK142; clear HB; have HO_4 := n0_; have BK135 := n1_; have BK142 := n2_; have HB := n3_; clear n0_ n1_ n2_ n3_; (try clear hb); (try clear hb2); (try clear hk); (try clear hi); have hnb63 := NB142_135.out; have hnc63 := NB135_142.out; have hcz64_0 : w62.cell? ⟨gb142, 0, none⟩ = some (.int .i64 t145) := (blk_cell BK142.out 0).trans rfl; have hcz64_1 : w62.cell? ⟨gb142, 1, none⟩ = some (.string (rdOf ByteArray.empty t136 1)) := (blk_cell BK142.out 1).trans rfl; have hcz64_2 : w62.cell? ⟨gb142, 2, none⟩ = some (.string x143002_29) := (blk_cell BK142.out 2).trans rfl; have hcz64_3 : w62.cell? ⟨gb142, 3, none⟩ = some (.int .i64 0) := (blk_cell BK142.out 3).trans rfl; have hfz64_0 := blk_frozen BK142.out 0; have hfz64_1 := blk_frozen BK142.out 1; have hfz64_2 := blk_frozen BK142.out 2; have hfz64_3 := blk_frozen BK142.out 3))
                              have n0_ : Aside0 (Kd.R Kd.string 9 (w62.setCell ⟨gb142, 3, none⟩ (.int .i64 t150)) w.heap.size (fun _ => True) (.slice (some ad143) t136.length co33) t136) := ⟨by (with_reducible repeat (first | apply Kd.R_alloc | apply Kd.R_drewN | apply Kd.R_drew)); exact Kd.R_mono (Kd.R_far (p := ⟨gb142, 3, none⟩) (Kd.R_types HO_4.out BK142.out (by decide)) (fun _ hk => hk.2) (.int .i64 t150)) (fun _ hk => trivial)⟩
                              have n1_ : Aside0 ((w62.setCell ⟨gb142, 3, none⟩ (.int .i64 t150)).heap[gb135]? = some (.cells #[.int .i64 0, .string (⟨#[]⟩ : ByteArray), .string (⟨#[]⟩ : ByteArray), .int .i64 0] 37 (0, 0))) := ⟨by (with_reducible repeat (first | refine blk_drewN ?_ _ | refine blk_drew ?_ | refine blk_alloc ?_ _)); refine blk_far ?_ NB135_142.out _; (with_reducible repeat (first | refine blk_drewN ?_ _ | refine blk_drew ?_ | refine blk_alloc ?_ _)); exact BK135.out⟩
                              have n2_ : Aside0 ((w62.setCell ⟨gb142, 3, none⟩ (.int .i64 t150)).heap[gb142]? = some (.cells #[.int .i64 t145, .string (rdOf ByteArray.empty t136 1), .string x143002_29, .int .i64 t150] 37 (0, 0))) := ⟨by (with_reducible repeat (first | refine blk_drewN ?_ _ | refine blk_drew ?_ | refine blk_alloc ?_ _)); refine blk_put (cs := #[.int .i64 t145, .string (rdOf ByteArray.empty t136 1), .string x143002_29, .int .i64 0]) ?_ 3 _ rfl; (with_reducible repeat (first | refine blk_drewN ?_ _ | refine blk_drew ?_ | refine blk_alloc ?_ _)); exact BK142.out⟩
                              have n3_ : Aside0 (Below w.heap.size w (w62.setCell ⟨gb142, 3, none⟩ (.int .i64 t150))) := ⟨by repeat (first | (with_reducible first | exact HB.out | apply below_alloc | apply pw_below_drewN | apply below_drew1 | refine below_set ?_ GE135.out | refine below_set ?_ GE142.out) | exact HB.out)⟩
                              (try clear HO_4)
                              (try clear BK135)
                              (try clear BK142)
                              (try clear HB)
                              generalize (w62.setCell ⟨gb142, 3, none⟩ (.int .i64 t150)) = w65 at n0_ n1_ n2_ n3_ ⊢
                              have HO_4 := n0_
                              have BK135 := n1_
                              have BK142 := n2_
                              have HB := n3_
                              clear n0_ n1_ n2_ n3_
                              have n0_ := Aside0.mk (Kd.R_drew HO_4.out)
                              have n1_ := Aside0.mk (blk_drew BK135.out)
                              have n2_ := Aside0.mk (blk_drew BK142.out)
                              have n3_ := Aside0.mk (below_drew1 HB.out)
                              clear HO_4
                              clear BK135
                              clear BK142
                              clear HB
                              have HO_4 := n0_
                              have BK135 := n1_
                              have BK142 := n2_
                              have HB := n3_
                              clear n0_ n1_ n2_ n3_
                              refine start_ (n := 8) (S := fun w' => w'.cell? ⟨gb142, 0, none⟩ = some (.int .i64 t145) ∧ w'.cell? ⟨gb142, 1, none⟩ = some (.string (rdOf ByteArray.empty t136 1)) ∧ w'.cell? ⟨gb142, 2, none⟩ = some (.string x143002_29) ∧ w'.cell? ⟨gb142, 3, none⟩ = some (.int .i64 t150)) (ds := []) #[false, false, false, false, false, false, false, false] (by kernel_rfl) rfl rfl ⟨(blk_cell BK142.out 0).trans rfl, (blk_cell BK142.out 1).trans rfl, (blk_cell BK142.out 2).trans rfl, (blk_cell BK142.out 3).trans rfl⟩ (fun hHeld => ?_); refine with_tabW trace_read.tab14 trace_read.bits14 (fun HT_ HW_ => ?_)
                              generalize w65.drew = w66 at HO_4 BK135 BK142 HB hHeld ⊢
                              refine pure_ (i := 1) (N := some 92) (v := ?_) (a' := ?_) #[false, true, false, false, false, false, false, false] rfl rfl (any_of HT_.out (by kernel_rfl)) (fun _ _ _ h => h) (Or.inl ⟨by rfl, ?_⟩) ?_ ?_
                              rotate_left
                              · intro w'; go_simp; with_reducible rfl
                              rotate_left
                              · simp only [Act.put, List.setIfInBounds_toArray, List.set_cons_zero, List.set_cons_succ, i64_w, i32_w]; rfl
                              refine pure_ (i := 2) (N := some 93) (v := ?_) (a' := ?_) #[false, true, true, false, false, false, false, false] rfl rfl (any_of HT_.out (by kernel_rfl)) (fun _ _ _ h => h) (Or.inl ⟨by rfl, ?_⟩) ?_ ?_
                              rotate_left
                              · intro w'; go_simp; with_reducible rfl
                              rotate_left
                              · simp only [Act.put, List.setIfInBounds_toArray, List.set_cons_zero, List.set_cons_succ, i64_w, i32_w]; rfl
                              refine pure_ (i := 3) (N := some 94) (v := undef) (a' := ?_) #[false, true, true, true, false, false, false, false] rfl rfl (any_of HT_.out (by kernel_rfl)) (fun _ _ _ h => h) (Or.inr ⟨by rfl, rfl⟩) ?_ ?_
                              rotate_left
                              · simp only [Act.put, List.setIfInBounds_toArray, List.set_cons_zero, List.set_cons_succ, i64_w, i32_w]; rfl
                              refine pure_ (i := 4) (N := some 95) (v := undef) (a' := ?_) #[false, true, true, true, true, false, false, false] rfl rfl (any_of HT_.out (by kernel_rfl)) (fun _ _ _ h => h) (Or.inr ⟨by rfl, rfl⟩) ?_ ?_
                              rotate_left
                              · simp only [Act.put, List.setIfInBounds_toArray, List.set_cons_zero, List.set_cons_succ, i64_w, i32_w]; rfl
                              refine pure_ (i := 5) (N := some 96) (v := ?_) (a' := ?_) #[false, true, true, true, true, true, false, false] rfl rfl (any_of HT_.out (by kernel_rfl)) (fun _ _ _ h => h) (Or.inl ⟨by rfl, ?_⟩) ?_ ?_
                              rotate_left
                              · intro w'; go_simp; with_reducible rfl
                              rotate_left
                              · simp only [Act.put, List.setIfInBounds_toArray, List.set_cons_zero, List.set_cons_succ, i64_w, i32_w]; rfl
                              refine take_ (i := 0) (N := some 91) (v := ?_) (a' := ?_) #[true, true, true, true, true, true, false, false] rfl rfl (take_ofW HT_.out HW_.out (by kernel_rfl)) (fun _ _ _ h => h) (Or.inl ⟨by rfl, ?_⟩) hHeld ?_ ?_
                              rotate_left
                              · rintro w' ⟨s0, s1, s2, s3⟩; go_simp; with_reducible rfl
                              rotate_left
                              · simp only [Act.put, List.setIfInBounds_toArray, List.set_cons_zero, List.set_cons_succ, i64_w, i32_w]; rfl
                              refine one_ (i := 6) (N := none) #[true, true, true, true, true, true, true, false] rfl rfl (one_of HT_.out (by kernel_rfl)) (by decide) (fun K hK => ?_)
                              have hs67 : w66.cell? ⟨gb135, 0, none⟩ = some (.int .i64 0) := (blk_cell BK135.out 0).trans rfl
                              have hfs67 := blk_frozen BK135.out 0
                              have hns67_1 := NB142_135.out
                              have hms67_1 := NB135_142.out
                              have hs68 : w66.cell? ⟨gb135, 1, none⟩ = some (.string (⟨#[]⟩ : ByteArray)) := (blk_cell BK135.out 1).trans rfl
                              have hfs68 := blk_frozen BK135.out 1
                              have hns68_1 := NB142_135.out
                              have hms68_1 := NB135_142.out
                              have hs69 : w66.cell? ⟨gb135, 2, none⟩ = some (.string (⟨#[]⟩ : ByteArray)) := (blk_cell BK135.out 2).trans rfl
                              have hfs69 := blk_frozen BK135.out 2
                              have hns69_1 := NB142_135.out
                              have hms69_1 := NB135_142.out
                              have hs70 : w66.cell? ⟨gb135, 3, none⟩ = some (.int .i64 0) := (blk_cell BK135.out 3).trans rfl
                              have hfs70 := blk_frozen BK135.out 3
                              have hns70_1 := NB142_135.out
                              have hms70_1 := NB135_142.out
                              refine skip_ (w1 := ?_) (by rfl) rfl ?_ ?_
                              rotate_left
                              · go_simp
                                rfl
                              refine hK.out _ _ ⟨((cell_far (p := ⟨gb135, _, none⟩) NB142_135.out _).trans (((cell_far (p := ⟨gb135, _, none⟩) NB142_135.out _).trans (((cell_far (p := ⟨gb135, _, none⟩) NB142_135.out _).trans (((cell_far (p := ⟨gb135, _, none⟩) NB142_135.out _).trans (hHeld.1)))))))), ((cell_far (p := ⟨gb135, _, none⟩) NB142_135.out _).trans (((cell_far (p := ⟨gb135, _, none⟩) NB142_135.out _).trans (((cell_far (p := ⟨gb135, _, none⟩) NB142_135.out _).trans (((cell_far (p := ⟨gb135, _, none⟩) NB142_135.out _).trans (hHeld.2.1)))))))), ((cell_far (p := ⟨gb135, _, none⟩) NB142_135.out _).trans (((cell_far (p := ⟨gb135, _, none⟩) NB142_135.out _).trans (((cell_far (p := ⟨gb135, _, none⟩) NB142_135.out _).trans (((cell_far (p := ⟨gb135, _, none⟩) NB142_135.out _).trans (hHeld.2.2.1)))))))), ((cell_far (p := ⟨gb135, _, none⟩) NB142_135.out _).trans (((cell_far (p := ⟨gb135, _, none⟩) NB142_135.out _).trans (((cell_far (p := ⟨gb135, _, none⟩) NB142_135.out _).trans (((cell_far (p := ⟨gb135, _, none⟩) NB142_135.out _).trans (hHeld.2.2.2))))))))⟩ (fun hHeld => ?_)
                              clear hK K
                              refine pure_ (i := 7) (N := some 3) (v := ?_) (a' := ?_) #[true, true, true, true, true, true, true, true] rfl rfl (any_of HT_.out (by kernel_rfl)) (fun _ _ _ h => h) (Or.inl ⟨by rfl, ?_⟩) ?_ ?_
                              rotate_left
                              · intro w'; go_simp; with_reducible rfl
                              rotate_left
                              · simp only [Act.put, List.setIfInBounds_toArray, List.set_cons_zero, List.set_cons_succ, i64_w, i32_w]; rfl
                              refine done_ (done_of HT_.out (by kernel_rfl)) ?_
                              try go_wp2
                              refine bodyPost_ret (results_ct rfl _ _ gb135 37 #[.int .i64 t145, .string (rdOf ByteArray.empty t136 1), .string x143002_29, .int .i64 t150] (0, 0) _ rfl (by (with_reducible repeat (first | refine blk_drewN ?_ _ | refine blk_drew ?_ | refine blk_alloc ?_ _)); refine blk_put (cs := #[.int .i64 t145, .string (rdOf ByteArray.empty t136 1), .string x143002_29, .int .i64 0]) ?_ 3 _ rfl; (with_reducible repeat (first | refine blk_drewN ?_ _ | refine blk_drew ?_ | refine blk_alloc ?_ _)); refine blk_put (cs := #[.int .i64 t145, .string (rdOf ByteArray.empty t136 1), .string (⟨#[]⟩ : ByteArray), .int .i64 0]) ?_ 2 _ rfl; (with_reducible repeat (first | refine blk_drewN ?_ _ | refine blk_drew ?_ | refine blk_alloc ?_ _)); refine blk_put (cs := #[.int .i64 t145, .string (⟨#[]⟩ : ByteArray), .string (⟨#[]⟩ : ByteArray), .int .i64 0]) ?_ 1 _ rfl; (with_reducible repeat (first | refine blk_drewN ?_ _ | refine blk_drew ?_ | refine blk_alloc ?_ _)); refine blk_put (cs := #[.int .i64 0, .string (⟨#[]⟩ : ByteArray), .string (⟨#[]⟩ : ByteArray), .int .i64 0]) ?_ 0 _ rfl; (with_reducible repeat (first | refine blk_drewN ?_ _ | refine blk_drew ?_ | refine blk_alloc ?_ _)); exact BK135.out) Try.underlying37 rfl (by kernel_rfl)) rfl ?_
                              exact ⟨by first | rfl | (simp [errW_none, errW_some] <;> rfl) | (simp only [← hji25]; first | rfl | (simp [errW_none, errW_some] <;> rfl)) | (simp [*, errW_none, errW_some] <;> rfl), by repeat (first | (with_reducible first | exact HB.out | apply below_alloc | apply pw_below_drewN | apply below_drew1 | refine below_set ?_ GE135.out | refine below_set ?_ GE142.out) | exact HB.out)⟩
                          · replace c49 := Bool.eq_false_iff.mpr c49
                            subst c49
                            have H1 : (some (t145, (rdOf ByteArray.empty t136 1), x143002_29, t150, false)) = some (r1, r2, r3, r4, r5) := by rw [if_neg (show ¬ (false = true) by decide)] at H; exact H
                            clear H
                            have H := H1
                            clear H1
                            simp only [Option.some.injEq, Prod.mk.injEq] at H
                            obtain ⟨rfl, rfl, rfl, rfl, rfl⟩ := H
                            have p149 : 0 ≤ (3 : Int) := (by omega)
                            have q149 : 3 < (t136.length : Int) := of_decide_eq_true (by first | (with_reducible assumption) | assumption)
                            obtain ⟨ad149, e149, hx149_0⟩ := Kd.at_string (Kd.R_reads' HO_4.out).2.2 3 p149 q149
                            obtain rfl : ad143 = ad149 := (by injection e149)
                            (try simp only [show (3 : Int).toNat = 3 from rfl, Nat.reduceMul, Nat.reduceEqDiff, Go.Addr.add, ↓reduceIte] at hx149_0)
                            have qi149 : (3 < t136.length) = True := eq_true (by omega)
                            (try rw [show ((3 : Int)).toNat = 3 from rfl] at hx149_0)
                            replace p149 := eq_true p149
                            replace q149 := eq_true q149
                            (try (have qz149 := q149; rw [ByteArray.size_extract, Nat.min_self] at qz149))
                            try go_wp2_with (first | ((first | ((with_reducible refine gate_callee (f := 38) rfl ?_); refine goesL_ (some 78) rfl rfl Try.func38 (by kernel_rfl) rfl #[.string (rdOf ByteArray.empty t136 3)] rfl (by (try simp only [List.map_toArray, List.map_cons, List.map_nil]); first | done | rfl | (simp only [List.length_drop, List.length_take]; rfl)) ?_; (with_reducible refine (trace_number.calls kj29 (rdOf ByteArray.empty t136 3) t150 false _ A47.out).mono ?_); rintro e w71 ⟨rfl, hb⟩; refine ⟨_, rfl, ?_⟩) | (go_at_call 38; (with_reducible refine (trace_number.calls kj29 (rdOf ByteArray.empty t136 3) t150 false _ A47.out).mono ?_); rintro e w71 ⟨rfl, hb⟩)); have n0_ := Aside0.mk (Kd.R_below (by (with_reducible repeat (first | apply Kd.R_alloc | apply Kd.R_drewN | apply Kd.R_drew)); exact HO_4.out) hb); have n1_ := Aside0.mk (blk_below (g := gb135) (o := .cells #[.int .i64 0, .string (⟨#[]⟩ : ByteArray), .string (⟨#[]⟩ : ByteArray), .int .i64 0] 37 (0, 0)) (by (with_reducible repeat (first | refine blk_drewN ?_ _ | refine blk_drew ?_ | refine blk_alloc ?_ _)); exact BK135.out) hb); have n2_ := Aside0.mk (blk_below (g := gb142) (o := .cells #[.int .i64 t145, .string (rdOf ByteArray.empty t136 1), .string x143002_29, .int .i64 0] 37 (0, 0)) (by (with_reducible repeat (first | refine blk_drewN ?_ _ | refine blk_drew ?_ | refine blk_alloc ?_ _)); exact BK142.out) hb); have n3_ := Aside0.mk (below_step (by repeat (first | (with_reducible first | exact HB.out | apply below_alloc | apply pw_below_drewN | apply below_drew1 | refine below_set ?_ GE135.out | refine below_set ?_ GE142.out) | exact HB.out)) hb); clear HO_4; clear BK135; clear BK142; clear HB; have HO_4 := n0_; have BK135 := n1_; have BK142 := n2_; have HB := n3_; clear n0_ n1_ n2_ n3_; (try clear hb); (try clear hb2); (try clear hk); (try clear hi); have hnb72 := NB142_135.out; have hnc72 := NB135_142.out; have hcz73_0 : w71.cell? ⟨gb142, 0, none⟩ = some (.int .i64 t145) := (blk_cell BK142.out 0).trans rfl; have hcz73_1 : w71.cell? ⟨gb142, 1, none⟩ = some (.string (rdOf ByteArray.empty t136 1)) := (blk_cell BK142.out 1).trans rfl; have hcz73_2 : w71.cell? ⟨gb142, 2, none⟩ = some (.string x143002_29) := (blk_cell BK142.out 2).trans rfl; have hcz73_3 : w71.cell? ⟨gb142, 3, none⟩ = some (.int .i64 0) := (blk_cell BK142.out 3).trans rfl; have hfz73_0 := blk_frozen BK142.out 0; have hfz73_1 := blk_frozen BK142.out 1; have hfz73_2 := blk_frozen BK142.out 2; have hfz73_3 := blk_frozen BK142.out 3))
                            have n0_ : Aside0 (Kd.R Kd.string 9 (w71.setCell ⟨gb142, 3, none⟩ (.int .i64 t150)) w.heap.size (fun _ => True) (.slice (some ad143) t136.length co33) t136) := ⟨by (with_reducible repeat (first | apply Kd.R_alloc | apply Kd.R_drewN | apply Kd.R_drew)); exact Kd.R_mono (Kd.R_far (p := ⟨gb142, 3, none⟩) (Kd.R_types HO_4.out BK142.out (by decide)) (fun _ hk => hk.2) (.int .i64 t150)) (fun _ hk => trivial)⟩
                            have n1_ : Aside0 ((w71.setCell ⟨gb142, 3, none⟩ (.int .i64 t150)).heap[gb135]? = some (.cells #[.int .i64 0, .string (⟨#[]⟩ : ByteArray), .string (⟨#[]⟩ : ByteArray), .int .i64 0] 37 (0, 0))) := ⟨by (with_reducible repeat (first | refine blk_drewN ?_ _ | refine blk_drew ?_ | refine blk_alloc ?_ _)); refine blk_far ?_ NB135_142.out _; (with_reducible repeat (first | refine blk_drewN ?_ _ | refine blk_drew ?_ | refine blk_alloc ?_ _)); exact BK135.out⟩
                            have n2_ : Aside0 ((w71.setCell ⟨gb142, 3, none⟩ (.int .i64 t150)).heap[gb142]? = some (.cells #[.int .i64 t145, .string (rdOf ByteArray.empty t136 1), .string x143002_29, .int .i64 t150] 37 (0, 0))) := ⟨by (with_reducible repeat (first | refine blk_drewN ?_ _ | refine blk_drew ?_ | refine blk_alloc ?_ _)); refine blk_put (cs := #[.int .i64 t145, .string (rdOf ByteArray.empty t136 1), .string x143002_29, .int .i64 0]) ?_ 3 _ rfl; (with_reducible repeat (first | refine blk_drewN ?_ _ | refine blk_drew ?_ | refine blk_alloc ?_ _)); exact BK142.out⟩
                            have n3_ : Aside0 (Below w.heap.size w (w71.setCell ⟨gb142, 3, none⟩ (.int .i64 t150))) := ⟨by repeat (first | (with_reducible first | exact HB.out | apply below_alloc | apply pw_below_drewN | apply below_drew1 | refine below_set ?_ GE135.out | refine below_set ?_ GE142.out) | exact HB.out)⟩
                            (try clear HO_4)
                            (try clear BK135)
                            (try clear BK142)
                            (try clear HB)
                            generalize (w71.setCell ⟨gb142, 3, none⟩ (.int .i64 t150)) = w74 at n0_ n1_ n2_ n3_ ⊢
                            have HO_4 := n0_
                            have BK135 := n1_
                            have BK142 := n2_
                            have HB := n3_
                            clear n0_ n1_ n2_ n3_
                            have n0_ := Aside0.mk (Kd.R_drew HO_4.out)
                            have n1_ := Aside0.mk (blk_drew BK135.out)
                            have n2_ := Aside0.mk (blk_drew BK142.out)
                            have n3_ := Aside0.mk (below_drew1 HB.out)
                            clear HO_4
                            clear BK135
                            clear BK142
                            clear HB
                            have HO_4 := n0_
                            have BK135 := n1_
                            have BK142 := n2_
                            have HB := n3_
                            clear n0_ n1_ n2_ n3_
                            refine start_ (n := 8) (S := fun w' => w'.cell? ⟨gb142, 0, none⟩ = some (.int .i64 t145) ∧ w'.cell? ⟨gb142, 1, none⟩ = some (.string (rdOf ByteArray.empty t136 1)) ∧ w'.cell? ⟨gb142, 2, none⟩ = some (.string x143002_29) ∧ w'.cell? ⟨gb142, 3, none⟩ = some (.int .i64 t150)) (ds := []) #[false, false, false, false, false, false, false, false] (by kernel_rfl) rfl rfl ⟨(blk_cell BK142.out 0).trans rfl, (blk_cell BK142.out 1).trans rfl, (blk_cell BK142.out 2).trans rfl, (blk_cell BK142.out 3).trans rfl⟩ (fun hHeld => ?_); refine with_tabW trace_read.tab14 trace_read.bits14 (fun HT_ HW_ => ?_)
                            generalize w74.drew = w75 at HO_4 BK135 BK142 HB hHeld ⊢
                            refine pure_ (i := 1) (N := some 92) (v := ?_) (a' := ?_) #[false, true, false, false, false, false, false, false] rfl rfl (any_of HT_.out (by kernel_rfl)) (fun _ _ _ h => h) (Or.inl ⟨by rfl, ?_⟩) ?_ ?_
                            rotate_left
                            · intro w'; go_simp; with_reducible rfl
                            rotate_left
                            · simp only [Act.put, List.setIfInBounds_toArray, List.set_cons_zero, List.set_cons_succ, i64_w, i32_w]; rfl
                            refine pure_ (i := 2) (N := some 93) (v := ?_) (a' := ?_) #[false, true, true, false, false, false, false, false] rfl rfl (any_of HT_.out (by kernel_rfl)) (fun _ _ _ h => h) (Or.inl ⟨by rfl, ?_⟩) ?_ ?_
                            rotate_left
                            · intro w'; go_simp; with_reducible rfl
                            rotate_left
                            · simp only [Act.put, List.setIfInBounds_toArray, List.set_cons_zero, List.set_cons_succ, i64_w, i32_w]; rfl
                            refine pure_ (i := 3) (N := some 94) (v := undef) (a' := ?_) #[false, true, true, true, false, false, false, false] rfl rfl (any_of HT_.out (by kernel_rfl)) (fun _ _ _ h => h) (Or.inr ⟨by rfl, rfl⟩) ?_ ?_
                            rotate_left
                            · simp only [Act.put, List.setIfInBounds_toArray, List.set_cons_zero, List.set_cons_succ, i64_w, i32_w]; rfl
                            refine pure_ (i := 4) (N := some 95) (v := undef) (a' := ?_) #[false, true, true, true, true, false, false, false] rfl rfl (any_of HT_.out (by kernel_rfl)) (fun _ _ _ h => h) (Or.inr ⟨by rfl, rfl⟩) ?_ ?_
                            rotate_left
                            · simp only [Act.put, List.setIfInBounds_toArray, List.set_cons_zero, List.set_cons_succ, i64_w, i32_w]; rfl
                            refine pure_ (i := 5) (N := some 96) (v := ?_) (a' := ?_) #[false, true, true, true, true, true, false, false] rfl rfl (any_of HT_.out (by kernel_rfl)) (fun _ _ _ h => h) (Or.inl ⟨by rfl, ?_⟩) ?_ ?_
                            rotate_left
                            · intro w'; go_simp; with_reducible rfl
                            rotate_left
                            · simp only [Act.put, List.setIfInBounds_toArray, List.set_cons_zero, List.set_cons_succ, i64_w, i32_w]; rfl
                            refine take_ (i := 0) (N := some 91) (v := ?_) (a' := ?_) #[true, true, true, true, true, true, false, false] rfl rfl (take_ofW HT_.out HW_.out (by kernel_rfl)) (fun _ _ _ h => h) (Or.inl ⟨by rfl, ?_⟩) hHeld ?_ ?_
                            rotate_left
                            · rintro w' ⟨s0, s1, s2, s3⟩; go_simp; with_reducible rfl
                            rotate_left
                            · simp only [Act.put, List.setIfInBounds_toArray, List.set_cons_zero, List.set_cons_succ, i64_w, i32_w]; rfl
                            refine one_ (i := 6) (N := none) #[true, true, true, true, true, true, true, false] rfl rfl (one_of HT_.out (by kernel_rfl)) (by decide) (fun K hK => ?_)
                            have hs76 : w75.cell? ⟨gb135, 0, none⟩ = some (.int .i64 0) := (blk_cell BK135.out 0).trans rfl
                            have hfs76 := blk_frozen BK135.out 0
                            have hns76_1 := NB142_135.out
                            have hms76_1 := NB135_142.out
                            have hs77 : w75.cell? ⟨gb135, 1, none⟩ = some (.string (⟨#[]⟩ : ByteArray)) := (blk_cell BK135.out 1).trans rfl
                            have hfs77 := blk_frozen BK135.out 1
                            have hns77_1 := NB142_135.out
                            have hms77_1 := NB135_142.out
                            have hs78 : w75.cell? ⟨gb135, 2, none⟩ = some (.string (⟨#[]⟩ : ByteArray)) := (blk_cell BK135.out 2).trans rfl
                            have hfs78 := blk_frozen BK135.out 2
                            have hns78_1 := NB142_135.out
                            have hms78_1 := NB135_142.out
                            have hs79 : w75.cell? ⟨gb135, 3, none⟩ = some (.int .i64 0) := (blk_cell BK135.out 3).trans rfl
                            have hfs79 := blk_frozen BK135.out 3
                            have hns79_1 := NB142_135.out
                            have hms79_1 := NB135_142.out
                            refine skip_ (w1 := ?_) (by rfl) rfl ?_ ?_
                            rotate_left
                            · go_simp
                              rfl
                            refine hK.out _ _ ⟨((cell_far (p := ⟨gb135, _, none⟩) NB142_135.out _).trans (((cell_far (p := ⟨gb135, _, none⟩) NB142_135.out _).trans (((cell_far (p := ⟨gb135, _, none⟩) NB142_135.out _).trans (((cell_far (p := ⟨gb135, _, none⟩) NB142_135.out _).trans (hHeld.1)))))))), ((cell_far (p := ⟨gb135, _, none⟩) NB142_135.out _).trans (((cell_far (p := ⟨gb135, _, none⟩) NB142_135.out _).trans (((cell_far (p := ⟨gb135, _, none⟩) NB142_135.out _).trans (((cell_far (p := ⟨gb135, _, none⟩) NB142_135.out _).trans (hHeld.2.1)))))))), ((cell_far (p := ⟨gb135, _, none⟩) NB142_135.out _).trans (((cell_far (p := ⟨gb135, _, none⟩) NB142_135.out _).trans (((cell_far (p := ⟨gb135, _, none⟩) NB142_135.out _).trans (((cell_far (p := ⟨gb135, _, none⟩) NB142_135.out _).trans (hHeld.2.2.1)))))))), ((cell_far (p := ⟨gb135, _, none⟩) NB142_135.out _).trans (((cell_far (p := ⟨gb135, _, none⟩) NB142_135.out _).trans (((cell_far (p := ⟨gb135, _, none⟩) NB142_135.out _).trans (((cell_far (p := ⟨gb135, _, none⟩) NB142_135.out _).trans (hHeld.2.2.2))))))))⟩ (fun hHeld => ?_)
                            clear hK K
                            refine pure_ (i := 7) (N := some 3) (v := ?_) (a' := ?_) #[true, true, true, true, true, true, true, true] rfl rfl (any_of HT_.out (by kernel_rfl)) (fun _ _ _ h => h) (Or.inl ⟨by rfl, ?_⟩) ?_ ?_
                            rotate_left
                            · intro w'; go_simp; with_reducible rfl
                            rotate_left
                            · simp only [Act.put, List.setIfInBounds_toArray, List.set_cons_zero, List.set_cons_succ, i64_w, i32_w]; rfl
                            refine done_ (done_of HT_.out (by kernel_rfl)) ?_
                            try go_wp2
                            refine bodyPost_ret (results_ct rfl _ _ gb135 37 #[.int .i64 t145, .string (rdOf ByteArray.empty t136 1), .string x143002_29, .int .i64 t150] (0, 0) _ rfl (by (with_reducible repeat (first | refine blk_drewN ?_ _ | refine blk_drew ?_ | refine blk_alloc ?_ _)); refine blk_put (cs := #[.int .i64 t145, .string (rdOf ByteArray.empty t136 1), .string x143002_29, .int .i64 0]) ?_ 3 _ rfl; (with_reducible repeat (first | refine blk_drewN ?_ _ | refine blk_drew ?_ | refine blk_alloc ?_ _)); refine blk_put (cs := #[.int .i64 t145, .string (rdOf ByteArray.empty t136 1), .string (⟨#[]⟩ : ByteArray), .int .i64 0]) ?_ 2 _ rfl; (with_reducible repeat (first | refine blk_drewN ?_ _ | refine blk_drew ?_ | refine blk_alloc ?_ _)); refine blk_put (cs := #[.int .i64 t145, .string (⟨#[]⟩ : ByteArray), .string (⟨#[]⟩ : ByteArray), .int .i64 0]) ?_ 1 _ rfl; (with_reducible repeat (first | refine blk_drewN ?_ _ | refine blk_drew ?_ | refine blk_alloc ?_ _)); refine blk_put (cs := #[.int .i64 0, .string (⟨#[]⟩ : ByteArray), .string (⟨#[]⟩ : ByteArray), .int .i64 0]) ?_ 0 _ rfl; (with_reducible repeat (first | refine blk_drewN ?_ _ | refine blk_drew ?_ | refine blk_alloc ?_ _)); exact BK135.out) Try.underlying37 rfl (by kernel_rfl)) rfl ?_
                            exact ⟨by first | rfl | (simp [errW_none, errW_some] <;> rfl) | (simp only [← hji25]; first | rfl | (simp [errW_none, errW_some] <;> rfl)) | (simp [*, errW_none, errW_some] <;> rfl), by repeat (first | (with_reducible first | exact HB.out | apply below_alloc | apply pw_below_drewN | apply below_drew1 | refine below_set ?_ GE135.out | refine below_set ?_ GE142.out) | exact HB.out)⟩
                        · replace c48 := Bool.eq_false_iff.mpr c48
                          subst c48
                          have H1 : (some (t145, (rdOf ByteArray.empty t136 1), x143002_29, t150, false)) = some (r1, r2, r3, r4, r5) := by rw [if_neg (show ¬ (false = true) by decide)] at H; exact H
                          clear H
                          have H := H1
                          clear H1
                          simp only [Option.some.injEq, Prod.mk.injEq] at H
                          obtain ⟨rfl, rfl, rfl, rfl, rfl⟩ := H
                          have p149 : 0 ≤ (3 : Int) := (by omega)
                          have q149 : 3 < (t136.length : Int) := of_decide_eq_true (by first | (with_reducible assumption) | assumption)
                          obtain ⟨ad149, e149, hx149_0⟩ := Kd.at_string (Kd.R_reads' HO_4.out).2.2 3 p149 q149
                          obtain rfl : ad143 = ad149 := (by injection e149)
                          (try simp only [show (3 : Int).toNat = 3 from rfl, Nat.reduceMul, Nat.reduceEqDiff, Go.Addr.add, ↓reduceIte] at hx149_0)
                          have qi149 : (3 < t136.length) = True := eq_true (by omega)
                          (try rw [show ((3 : Int)).toNat = 3 from rfl] at hx149_0)
                          replace p149 := eq_true p149
                          replace q149 := eq_true q149
                          (try (have qz149 := q149; rw [ByteArray.size_extract, Nat.min_self] at qz149))
                          try go_wp2_with (first | ((first | ((with_reducible refine gate_callee (f := 38) rfl ?_); refine goesL_ (some 78) rfl rfl Try.func38 (by kernel_rfl) rfl #[.string (rdOf ByteArray.empty t136 3)] rfl (by (try simp only [List.map_toArray, List.map_cons, List.map_nil]); first | done | rfl | (simp only [List.length_drop, List.length_take]; rfl)) ?_; (with_reducible refine (trace_number.calls kj29 (rdOf ByteArray.empty t136 3) t150 t151 _ A47.out).mono ?_); rintro e w80 ⟨rfl, hb⟩; refine ⟨_, rfl, ?_⟩) | (go_at_call 38; (with_reducible refine (trace_number.calls kj29 (rdOf ByteArray.empty t136 3) t150 t151 _ A47.out).mono ?_); rintro e w80 ⟨rfl, hb⟩)); have n0_ := Aside0.mk (Kd.R_below (by (with_reducible repeat (first | apply Kd.R_alloc | apply Kd.R_drewN | apply Kd.R_drew)); exact HO_4.out) hb); have n1_ := Aside0.mk (blk_below (g := gb135) (o := .cells #[.int .i64 0, .string (⟨#[]⟩ : ByteArray), .string (⟨#[]⟩ : ByteArray), .int .i64 0] 37 (0, 0)) (by (with_reducible repeat (first | refine blk_drewN ?_ _ | refine blk_drew ?_ | refine blk_alloc ?_ _)); exact BK135.out) hb); have n2_ := Aside0.mk (blk_below (g := gb142) (o := .cells #[.int .i64 t145, .string (rdOf ByteArray.empty t136 1), .string x143002_29, .int .i64 0] 37 (0, 0)) (by (with_reducible repeat (first | refine blk_drewN ?_ _ | refine blk_drew ?_ | refine blk_alloc ?_ _)); exact BK142.out) hb); have n3_ := Aside0.mk (below_step (by repeat (first | (with_reducible first | exact HB.out | apply below_alloc | apply pw_below_drewN | apply below_drew1 | refine below_set ?_ GE135.out | refine below_set ?_ GE142.out) | exact HB.out)) hb); clear HO_4; clear BK135; clear BK142; clear HB; have HO_4 := n0_; have BK135 := n1_; have BK142 := n2_; have HB := n3_; clear n0_ n1_ n2_ n3_; (try clear hb); (try clear hb2); (try clear hk); (try clear hi); have hnb81 := NB142_135.out; have hnc81 := NB135_142.out; have hcz82_0 : w80.cell? ⟨gb142, 0, none⟩ = some (.int .i64 t145) := (blk_cell BK142.out 0).trans rfl; have hcz82_1 : w80.cell? ⟨gb142, 1, none⟩ = some (.string (rdOf ByteArray.empty t136 1)) := (blk_cell BK142.out 1).trans rfl; have hcz82_2 : w80.cell? ⟨gb142, 2, none⟩ = some (.string x143002_29) := (blk_cell BK142.out 2).trans rfl; have hcz82_3 : w80.cell? ⟨gb142, 3, none⟩ = some (.int .i64 0) := (blk_cell BK142.out 3).trans rfl; have hfz82_0 := blk_frozen BK142.out 0; have hfz82_1 := blk_frozen BK142.out 1; have hfz82_2 := blk_frozen BK142.out 2; have hfz82_3 := blk_frozen BK142.out 3))
                          have n0_ : Aside0 (Kd.R Kd.string 9 (w80.setCell ⟨gb142, 3, none⟩ (.int .i64 t150)) w.heap.size (fun _ => True) (.slice (some ad143) t136.length co33) t136) := ⟨by (with_reducible repeat (first | apply Kd.R_alloc | apply Kd.R_drewN | apply Kd.R_drew)); exact Kd.R_mono (Kd.R_far (p := ⟨gb142, 3, none⟩) (Kd.R_types HO_4.out BK142.out (by decide)) (fun _ hk => hk.2) (.int .i64 t150)) (fun _ hk => trivial)⟩
                          have n1_ : Aside0 ((w80.setCell ⟨gb142, 3, none⟩ (.int .i64 t150)).heap[gb135]? = some (.cells #[.int .i64 0, .string (⟨#[]⟩ : ByteArray), .string (⟨#[]⟩ : ByteArray), .int .i64 0] 37 (0, 0))) := ⟨by (with_reducible repeat (first | refine blk_drewN ?_ _ | refine blk_drew ?_ | refine blk_alloc ?_ _)); refine blk_far ?_ NB135_142.out _; (with_reducible repeat (first | refine blk_drewN ?_ _ | refine blk_drew ?_ | refine blk_alloc ?_ _)); exact BK135.out⟩
                          have n2_ : Aside0 ((w80.setCell ⟨gb142, 3, none⟩ (.int .i64 t150)).heap[gb142]? = some (.cells #[.int .i64 t145, .string (rdOf ByteArray.empty t136 1), .string x143002_29, .int .i64 t150] 37 (0, 0))) := ⟨by (with_reducible repeat (first | refine blk_drewN ?_ _ | refine blk_drew ?_ | refine blk_alloc ?_ _)); refine blk_put (cs := #[.int .i64 t145, .string (rdOf ByteArray.empty t136 1), .string x143002_29, .int .i64 0]) ?_ 3 _ rfl; (with_reducible repeat (first | refine blk_drewN ?_ _ | refine blk_drew ?_ | refine blk_alloc ?_ _)); exact BK142.out⟩
                          have n3_ : Aside0 (Below w.heap.size w (w80.setCell ⟨gb142, 3, none⟩ (.int .i64 t150))) := ⟨by repeat (first | (with_reducible first | exact HB.out | apply below_alloc | apply pw_below_drewN | apply below_drew1 | refine below_set ?_ GE135.out | refine below_set ?_ GE142.out) | exact HB.out)⟩
                          (try clear HO_4)
                          (try clear BK135)
                          (try clear BK142)
                          (try clear HB)
                          generalize (w80.setCell ⟨gb142, 3, none⟩ (.int .i64 t150)) = w83 at n0_ n1_ n2_ n3_ ⊢
                          have HO_4 := n0_
                          have BK135 := n1_
                          have BK142 := n2_
                          have HB := n3_
                          clear n0_ n1_ n2_ n3_
                          have n0_ := Aside0.mk (Kd.R_drew HO_4.out)
                          have n1_ := Aside0.mk (blk_drew BK135.out)
                          have n2_ := Aside0.mk (blk_drew BK142.out)
                          have n3_ := Aside0.mk (below_drew1 HB.out)
                          clear HO_4
                          clear BK135
                          clear BK142
                          clear HB
                          have HO_4 := n0_
                          have BK135 := n1_
                          have BK142 := n2_
                          have HB := n3_
                          clear n0_ n1_ n2_ n3_
                          refine start_ (n := 8) (S := fun w' => w'.cell? ⟨gb142, 0, none⟩ = some (.int .i64 t145) ∧ w'.cell? ⟨gb142, 1, none⟩ = some (.string (rdOf ByteArray.empty t136 1)) ∧ w'.cell? ⟨gb142, 2, none⟩ = some (.string x143002_29) ∧ w'.cell? ⟨gb142, 3, none⟩ = some (.int .i64 t150)) (ds := []) #[false, false, false, false, false, false, false, false] (by kernel_rfl) rfl rfl ⟨(blk_cell BK142.out 0).trans rfl, (blk_cell BK142.out 1).trans rfl, (blk_cell BK142.out 2).trans rfl, (blk_cell BK142.out 3).trans rfl⟩ (fun hHeld => ?_); refine with_tabW trace_read.tab14 trace_read.bits14 (fun HT_ HW_ => ?_)
                          generalize w83.drew = w84 at HO_4 BK135 BK142 HB hHeld ⊢
                          refine pure_ (i := 1) (N := some 92) (v := ?_) (a' := ?_) #[false, true, false, false, false, false, false, false] rfl rfl (any_of HT_.out (by kernel_rfl)) (fun _ _ _ h => h) (Or.inl ⟨by rfl, ?_⟩) ?_ ?_
                          rotate_left
                          · intro w'; go_simp; with_reducible rfl
                          rotate_left
                          · simp only [Act.put, List.setIfInBounds_toArray, List.set_cons_zero, List.set_cons_succ, i64_w, i32_w]; rfl
                          refine pure_ (i := 2) (N := some 93) (v := ?_) (a' := ?_) #[false, true, true, false, false, false, false, false] rfl rfl (any_of HT_.out (by kernel_rfl)) (fun _ _ _ h => h) (Or.inl ⟨by rfl, ?_⟩) ?_ ?_
                          rotate_left
                          · intro w'; go_simp; with_reducible rfl
                          rotate_left
                          · simp only [Act.put, List.setIfInBounds_toArray, List.set_cons_zero, List.set_cons_succ, i64_w, i32_w]; rfl
                          refine pure_ (i := 3) (N := some 94) (v := undef) (a' := ?_) #[false, true, true, true, false, false, false, false] rfl rfl (any_of HT_.out (by kernel_rfl)) (fun _ _ _ h => h) (Or.inr ⟨by rfl, rfl⟩) ?_ ?_
                          rotate_left
                          · simp only [Act.put, List.setIfInBounds_toArray, List.set_cons_zero, List.set_cons_succ, i64_w, i32_w]; rfl
                          refine pure_ (i := 4) (N := some 95) (v := undef) (a' := ?_) #[false, true, true, true, true, false, false, false] rfl rfl (any_of HT_.out (by kernel_rfl)) (fun _ _ _ h => h) (Or.inr ⟨by rfl, rfl⟩) ?_ ?_
                          rotate_left
                          · simp only [Act.put, List.setIfInBounds_toArray, List.set_cons_zero, List.set_cons_succ, i64_w, i32_w]; rfl
                          refine pure_ (i := 5) (N := some 96) (v := ?_) (a' := ?_) #[false, true, true, true, true, true, false, false] rfl rfl (any_of HT_.out (by kernel_rfl)) (fun _ _ _ h => h) (Or.inl ⟨by rfl, ?_⟩) ?_ ?_
                          rotate_left
                          · intro w'; go_simp; with_reducible rfl
                          rotate_left
                          · simp only [Act.put, List.setIfInBounds_toArray, List.set_cons_zero, List.set_cons_succ, i64_w, i32_w]; rfl
                          refine take_ (i := 0) (N := some 91) (v := ?_) (a' := ?_) #[true, true, true, true, true, true, false, false] rfl rfl (take_ofW HT_.out HW_.out (by kernel_rfl)) (fun _ _ _ h => h) (Or.inl ⟨by rfl, ?_⟩) hHeld ?_ ?_
                          rotate_left
                          · rintro w' ⟨s0, s1, s2, s3⟩; go_simp; with_reducible rfl
                          rotate_left
                          · simp only [Act.put, List.setIfInBounds_toArray, List.set_cons_zero, List.set_cons_succ, i64_w, i32_w]; rfl
                          refine one_ (i := 6) (N := none) #[true, true, true, true, true, true, true, false] rfl rfl (one_of HT_.out (by kernel_rfl)) (by decide) (fun K hK => ?_)
                          have hs85 : w84.cell? ⟨gb135, 0, none⟩ = some (.int .i64 0) := (blk_cell BK135.out 0).trans rfl
                          have hfs85 := blk_frozen BK135.out 0
                          have hns85_1 := NB142_135.out
                          have hms85_1 := NB135_142.out
                          have hs86 : w84.cell? ⟨gb135, 1, none⟩ = some (.string (⟨#[]⟩ : ByteArray)) := (blk_cell BK135.out 1).trans rfl
                          have hfs86 := blk_frozen BK135.out 1
                          have hns86_1 := NB142_135.out
                          have hms86_1 := NB135_142.out
                          have hs87 : w84.cell? ⟨gb135, 2, none⟩ = some (.string (⟨#[]⟩ : ByteArray)) := (blk_cell BK135.out 2).trans rfl
                          have hfs87 := blk_frozen BK135.out 2
                          have hns87_1 := NB142_135.out
                          have hms87_1 := NB135_142.out
                          have hs88 : w84.cell? ⟨gb135, 3, none⟩ = some (.int .i64 0) := (blk_cell BK135.out 3).trans rfl
                          have hfs88 := blk_frozen BK135.out 3
                          have hns88_1 := NB142_135.out
                          have hms88_1 := NB135_142.out
                          refine skip_ (w1 := ?_) (by rfl) rfl ?_ ?_
                          rotate_left
                          · go_simp
                            rfl
                          refine hK.out _ _ ⟨((cell_far (p := ⟨gb135, _, none⟩) NB142_135.out _).trans (((cell_far (p := ⟨gb135, _, none⟩) NB142_135.out _).trans (((cell_far (p := ⟨gb135, _, none⟩) NB142_135.out _).trans (((cell_far (p := ⟨gb135, _, none⟩) NB142_135.out _).trans (hHeld.1)))))))), ((cell_far (p := ⟨gb135, _, none⟩) NB142_135.out _).trans (((cell_far (p := ⟨gb135, _, none⟩) NB142_135.out _).trans (((cell_far (p := ⟨gb135, _, none⟩) NB142_135.out _).trans (((cell_far (p := ⟨gb135, _, none⟩) NB142_135.out _).trans (hHeld.2.1)))))))), ((cell_far (p := ⟨gb135, _, none⟩) NB142_135.out _).trans (((cell_far (p := ⟨gb135, _, none⟩) NB142_135.out _).trans (((cell_far (p := ⟨gb135, _, none⟩) NB142_135.out _).trans (((cell_far (p := ⟨gb135, _, none⟩) NB142_135.out _).trans (hHeld.2.2.1)))))))), ((cell_far (p := ⟨gb135, _, none⟩) NB142_135.out _).trans (((cell_far (p := ⟨gb135, _, none⟩) NB142_135.out _).trans (((cell_far (p := ⟨gb135, _, none⟩) NB142_135.out _).trans (((cell_far (p := ⟨gb135, _, none⟩) NB142_135.out _).trans (hHeld.2.2.2))))))))⟩ (fun hHeld => ?_)
                          clear hK K
                          refine pure_ (i := 7) (N := some 3) (v := ?_) (a' := ?_) #[true, true, true, true, true, true, true, true] rfl rfl (any_of HT_.out (by kernel_rfl)) (fun _ _ _ h => h) (Or.inl ⟨by rfl, ?_⟩) ?_ ?_
                          rotate_left
                          · intro w'; go_simp; with_reducible rfl
                          rotate_left
                          · simp only [Act.put, List.setIfInBounds_toArray, List.set_cons_zero, List.set_cons_succ, i64_w, i32_w]; rfl
                          refine done_ (done_of HT_.out (by kernel_rfl)) ?_
                          try go_wp2
                          refine bodyPost_ret (results_ct rfl _ _ gb135 37 #[.int .i64 t145, .string (rdOf ByteArray.empty t136 1), .string x143002_29, .int .i64 t150] (0, 0) _ rfl (by (with_reducible repeat (first | refine blk_drewN ?_ _ | refine blk_drew ?_ | refine blk_alloc ?_ _)); refine blk_put (cs := #[.int .i64 t145, .string (rdOf ByteArray.empty t136 1), .string x143002_29, .int .i64 0]) ?_ 3 _ rfl; (with_reducible repeat (first | refine blk_drewN ?_ _ | refine blk_drew ?_ | refine blk_alloc ?_ _)); refine blk_put (cs := #[.int .i64 t145, .string (rdOf ByteArray.empty t136 1), .string (⟨#[]⟩ : ByteArray), .int .i64 0]) ?_ 2 _ rfl; (with_reducible repeat (first | refine blk_drewN ?_ _ | refine blk_drew ?_ | refine blk_alloc ?_ _)); refine blk_put (cs := #[.int .i64 t145, .string (⟨#[]⟩ : ByteArray), .string (⟨#[]⟩ : ByteArray), .int .i64 0]) ?_ 1 _ rfl; (with_reducible repeat (first | refine blk_drewN ?_ _ | refine blk_drew ?_ | refine blk_alloc ?_ _)); refine blk_put (cs := #[.int .i64 0, .string (⟨#[]⟩ : ByteArray), .string (⟨#[]⟩ : ByteArray), .int .i64 0]) ?_ 0 _ rfl; (with_reducible repeat (first | refine blk_drewN ?_ _ | refine blk_drew ?_ | refine blk_alloc ?_ _)); exact BK135.out) Try.underlying37 rfl (by kernel_rfl)) rfl ?_
                          exact ⟨by first | rfl | (simp [errW_none, errW_some] <;> rfl) | (simp only [← hji25]; first | rfl | (simp [errW_none, errW_some] <;> rfl)) | (simp [*, errW_none, errW_some] <;> rfl), by repeat (first | (with_reducible first | exact HB.out | apply below_alloc | apply pw_below_drewN | apply below_drew1 | refine below_set ?_ GE135.out | refine below_set ?_ GE142.out) | exact HB.out)⟩
                      · rw [if_neg c46] at H
                        exact absurd H (by simp)
                    · rw [if_neg c45] at H
                      have c45b0 : decide (3 < (t136.length : Int)) = false := decide_eq_false c45
                      have c45b1 : decide (3 < t136.length) = false := decide_eq_false (by omega)
                      clear c45
                      by_cases c89 : x7_29 = true
                      · subst c89
                        have H1 : ((trace_Right.f kj29 t145 (rdOf ByteArray.empty t136 1) x143002_29 0).bind fun t153 => (some (t145, (rdOf ByteArray.empty t136 1), x143002_29, 0, t153))) = some (r1, r2, r3, r4, r5) := by rw [if_pos rfl] at H; exact H
                        clear H
                        have H := H1
                        clear H1
                        replace H := Option.bind_eq_some_iff.mp H
                        obtain ⟨t153, A900, H⟩ := H
                        replace H : (some (t145, (rdOf ByteArray.empty t136 1), x143002_29, 0, t153)) = some (r1, r2, r3, r4, r5) := H
                        have A90 := Aside0.mk A900
                        clear A900
                        simp only [Option.some.injEq, Prod.mk.injEq] at H
                        obtain ⟨rfl, rfl, rfl, rfl, rfl⟩ := H
                        try go_wp2
                        have n0_ := Aside0.mk (Kd.R_drew HO_4.out)
                        have n1_ := Aside0.mk (blk_drew BK135.out)
                        have n2_ := Aside0.mk (blk_drew BK142.out)
                        have n3_ := Aside0.mk (below_drew1 HB.out)
                        clear HO_4
                        clear BK135
                        clear BK142
                        clear HB
                        have HO_4 := n0_
                        have BK135 := n1_
                        have BK142 := n2_
                        have HB := n3_
                        clear n0_ n1_ n2_ n3_
                        refine start_ (n := 8) (S := fun w' => w'.cell? ⟨gb142, 0, none⟩ = some (.int .i64 t145) ∧ w'.cell? ⟨gb142, 1, none⟩ = some (.string (rdOf ByteArray.empty t136 1)) ∧ w'.cell? ⟨gb142, 2, none⟩ = some (.string x143002_29) ∧ w'.cell? ⟨gb142, 3, none⟩ = some (.int .i64 0)) (ds := []) #[false, false, false, false, false, false, false, false] (by kernel_rfl) rfl rfl ⟨(blk_cell BK142.out 0).trans rfl, (blk_cell BK142.out 1).trans rfl, (blk_cell BK142.out 2).trans rfl, (blk_cell BK142.out 3).trans rfl⟩ (fun hHeld => ?_); refine with_tabW trace_read.tab14 trace_read.bits14 (fun HT_ HW_ => ?_)
                        generalize wc.drew = w91 at HO_4 BK135 BK142 HB hHeld ⊢
                        refine pure_ (i := 1) (N := some 92) (v := ?_) (a' := ?_) #[false, true, false, false, false, false, false, false] rfl rfl (any_of HT_.out (by kernel_rfl)) (fun _ _ _ h => h) (Or.inl ⟨by rfl, ?_⟩) ?_ ?_
                        rotate_left
                        · intro w'; go_simp; with_reducible rfl
                        rotate_left
                        · simp only [Act.put, List.setIfInBounds_toArray, List.set_cons_zero, List.set_cons_succ, i64_w, i32_w]; rfl
                        refine pure_ (i := 2) (N := some 93) (v := ?_) (a' := ?_) #[false, true, true, false, false, false, false, false] rfl rfl (any_of HT_.out (by kernel_rfl)) (fun _ _ _ h => h) (Or.inl ⟨by rfl, ?_⟩) ?_ ?_
                        rotate_left
                        · intro w'; go_simp; with_reducible rfl
                        rotate_left
                        · simp only [Act.put, List.setIfInBounds_toArray, List.set_cons_zero, List.set_cons_succ, i64_w, i32_w]; rfl
                        refine take_ (i := 0) (N := some 91) (v := ?_) (a' := ?_) #[true, true, true, false, false, false, false, false] rfl rfl (take_ofW HT_.out HW_.out (by kernel_rfl)) (fun _ _ _ h => h) (Or.inl ⟨by rfl, ?_⟩) hHeld ?_ ?_
                        rotate_left
                        · rintro w' ⟨s0, s1, s2, s3⟩; go_simp; with_reducible rfl
                        rotate_left
                        · simp only [Act.put, List.setIfInBounds_toArray, List.set_cons_zero, List.set_cons_succ, i64_w, i32_w]; rfl
                        refine take_ (i := 3) (N := some 94) (v := ?_) (a' := ?_) #[true, true, true, true, false, false, false, false] rfl rfl (take_ofW HT_.out HW_.out (by kernel_rfl)) (fun _ _ _ h => h) (Or.inl ⟨by rfl, ?_⟩) hHeld ?_ ?_
                        rotate_left
                        · rintro w' ⟨s0, s1, s2, s3⟩; go_simp; with_reducible rfl
                        rotate_left
                        · simp only [Act.put, List.setIfInBounds_toArray, List.set_cons_zero, List.set_cons_succ, i64_w, i32_w]; rfl
                        refine one_ (i := 4) (N := some 95) #[true, true, true, true, true, false, false, false] rfl rfl (one_of HT_.out (by kernel_rfl)) (by decide) (fun K hK => ?_)
                        refine goes_ Try.func14 (by kernel_rfl) rfl #[.agg #[.int .i64 t145, .string (rdOf ByteArray.empty t136 1), .string x143002_29, .int .i64 0]] (by rfl) rfl rfl (by (try simp only [List.map_toArray, List.map_cons, List.map_nil]); first | done | rfl | (simp only [List.length_drop, List.length_take]; rfl)) ?_
                        with_reducible refine (trace_Right.calls kj29 t145 (rdOf ByteArray.empty t136 1) x143002_29 0 t153 _ A90.out).mono ?_
                        rintro e w92 ⟨rfl, hb⟩
                        refine ⟨_, rfl, ?_⟩
                        have n0_ := Aside0.mk (Kd.R_below (by (with_reducible repeat (first | apply Kd.R_alloc | apply Kd.R_drewN | apply Kd.R_drew)); exact HO_4.out) hb)
                        have n1_ := Aside0.mk (blk_below (g := gb135) (o := .cells #[.int .i64 0, .string (⟨#[]⟩ : ByteArray), .string (⟨#[]⟩ : ByteArray), .int .i64 0] 37 (0, 0)) (by (with_reducible repeat (first | refine blk_drewN ?_ _ | refine blk_drew ?_ | refine blk_alloc ?_ _)); exact BK135.out) hb)
                        have n2_ := Aside0.mk (blk_below (g := gb142) (o := .cells #[.int .i64 t145, .string (rdOf ByteArray.empty t136 1), .string x143002_29, .int .i64 0] 37 (0, 0)) (by (with_reducible repeat (first | refine blk_drewN ?_ _ | refine blk_drew ?_ | refine blk_alloc ?_ _)); exact BK142.out) hb)
                        have n3_ := Aside0.mk (below_step (by repeat (first | (with_reducible first | exact HB.out | apply below_alloc | apply pw_below_drewN | apply below_drew1 | refine below_set ?_ GE135.out | refine below_set ?_ GE142.out) | exact HB.out)) hb)
                        clear HO_4
                        clear BK135
                        clear BK142
                        clear HB
                        have HO_4 := n0_
                        have BK135 := n1_
                        have BK142 := n2_
                        have HB := n3_
                        clear n0_ n1_ n2_ n3_
                        (try clear hb); (try clear hb2); (try clear hk); (try clear hi)
                        refine hK.out _ _ ⟨(blk_cell BK142.out 0).trans rfl, (blk_cell BK142.out 1).trans rfl, (blk_cell BK142.out 2).trans rfl, (blk_cell BK142.out 3).trans rfl⟩ (fun hHeld => ?_)
                        clear hK K
                        refine norm_ (a' := ?_) ?_ ?_
                        rotate_left
                        · show Act.put _ (some 95) _ = _
                          simp only [Act.put, List.setIfInBounds_toArray, List.set_cons_zero, List.set_cons_succ, i64_w, i32_w]
                          rfl
                        refine pure_ (i := 5) (N := some 96) (v := ?_) (a' := ?_) #[true, true, true, true, true, true, false, false] rfl rfl (any_of HT_.out (by kernel_rfl)) (fun _ _ _ h => h) (Or.inl ⟨by rfl, ?_⟩) ?_ ?_
                        rotate_left
                        · intro w'; go_simp; with_reducible rfl
                        rotate_left
                        · simp only [Act.put, List.setIfInBounds_toArray, List.set_cons_zero, List.set_cons_succ, i64_w, i32_w]; rfl
                        refine one_ (i := 6) (N := none) #[true, true, true, true, true, true, true, false] rfl rfl (one_of HT_.out (by kernel_rfl)) (by decide) (fun K hK => ?_)
                        have hs93 : w92.cell? ⟨gb135, 0, none⟩ = some (.int .i64 0) := (blk_cell BK135.out 0).trans rfl
                        have hfs93 := blk_frozen BK135.out 0
                        have hns93_1 := NB142_135.out
                        have hms93_1 := NB135_142.out
                        have hs94 : w92.cell? ⟨gb135, 1, none⟩ = some (.string (⟨#[]⟩ : ByteArray)) := (blk_cell BK135.out 1).trans rfl
                        have hfs94 := blk_frozen BK135.out 1
                        have hns94_1 := NB142_135.out
                        have hms94_1 := NB135_142.out
                        have hs95 : w92.cell? ⟨gb135, 2, none⟩ = some (.string (⟨#[]⟩ : ByteArray)) := (blk_cell BK135.out 2).trans rfl
                        have hfs95 := blk_frozen BK135.out 2
                        have hns95_1 := NB142_135.out
                        have hms95_1 := NB135_142.out
                        have hs96 : w92.cell? ⟨gb135, 3, none⟩ = some (.int .i64 0) := (blk_cell BK135.out 3).trans rfl
                        have hfs96 := blk_frozen BK135.out 3
                        have hns96_1 := NB142_135.out
                        have hms96_1 := NB135_142.out
                        refine skip_ (w1 := ?_) (by rfl) rfl ?_ ?_
                        rotate_left
                        · go_simp
                          rfl
                        refine hK.out _ _ ⟨((cell_far (p := ⟨gb135, _, none⟩) NB142_135.out _).trans (((cell_far (p := ⟨gb135, _, none⟩) NB142_135.out _).trans (((cell_far (p := ⟨gb135, _, none⟩) NB142_135.out _).trans (((cell_far (p := ⟨gb135, _, none⟩) NB142_135.out _).trans (hHeld.1)))))))), ((cell_far (p := ⟨gb135, _, none⟩) NB142_135.out _).trans (((cell_far (p := ⟨gb135, _, none⟩) NB142_135.out _).trans (((cell_far (p := ⟨gb135, _, none⟩) NB142_135.out _).trans (((cell_far (p := ⟨gb135, _, none⟩) NB142_135.out _).trans (hHeld.2.1)))))))), ((cell_far (p := ⟨gb135, _, none⟩) NB142_135.out _).trans (((cell_far (p := ⟨gb135, _, none⟩) NB142_135.out _).trans (((cell_far (p := ⟨gb135, _, none⟩) NB142_135.out _).trans (((cell_far (p := ⟨gb135, _, none⟩) NB142_135.out _).trans (hHeld.2.2.1)))))))), ((cell_far (p := ⟨gb135, _, none⟩) NB142_135.out _).trans (((cell_far (p := ⟨gb135, _, none⟩) NB142_135.out _).trans (((cell_far (p := ⟨gb135, _, none⟩) NB142_135.out _).trans (((cell_far (p := ⟨gb135, _, none⟩) NB142_135.out _).trans (hHeld.2.2.2))))))))⟩ (fun hHeld => ?_)
                        clear hK K
                        refine pure_ (i := 7) (N := some 3) (v := ?_) (a' := ?_) #[true, true, true, true, true, true, true, true] rfl rfl (any_of HT_.out (by kernel_rfl)) (fun _ _ _ h => h) (Or.inl ⟨by rfl, ?_⟩) ?_ ?_
                        rotate_left
                        · intro w'; go_simp; with_reducible rfl
                        rotate_left
                        · simp only [Act.put, List.setIfInBounds_toArray, List.set_cons_zero, List.set_cons_succ, i64_w, i32_w]; rfl
                        refine done_ (done_of HT_.out (by kernel_rfl)) ?_
                        try go_wp2
                        refine bodyPost_ret (results_ct rfl _ _ gb135 37 #[.int .i64 t145, .string (rdOf ByteArray.empty t136 1), .string x143002_29, .int .i64 0] (0, 0) _ rfl (by (with_reducible repeat (first | refine blk_drewN ?_ _ | refine blk_drew ?_ | refine blk_alloc ?_ _)); refine blk_put (cs := #[.int .i64 t145, .string (rdOf ByteArray.empty t136 1), .string x143002_29, .int .i64 0]) ?_ 3 _ rfl; (with_reducible repeat (first | refine blk_drewN ?_ _ | refine blk_drew ?_ | refine blk_alloc ?_ _)); refine blk_put (cs := #[.int .i64 t145, .string (rdOf ByteArray.empty t136 1), .string (⟨#[]⟩ : ByteArray), .int .i64 0]) ?_ 2 _ rfl; (with_reducible repeat (first | refine blk_drewN ?_ _ | refine blk_drew ?_ | refine blk_alloc ?_ _)); refine blk_put (cs := #[.int .i64 t145, .string (⟨#[]⟩ : ByteArray), .string (⟨#[]⟩ : ByteArray), .int .i64 0]) ?_ 1 _ rfl; (with_reducible repeat (first | refine blk_drewN ?_ _ | refine blk_drew ?_ | refine blk_alloc ?_ _)); refine blk_put (cs := #[.int .i64 0, .string (⟨#[]⟩ : ByteArray), .string (⟨#[]⟩ : ByteArray), .int .i64 0]) ?_ 0 _ rfl; (with_reducible repeat (first | refine blk_drewN ?_ _ | refine blk_drew ?_ | refine blk_alloc ?_ _)); exact BK135.out) Try.underlying37 rfl (by kernel_rfl)) rfl ?_
                        exact ⟨by first | rfl | (simp [errW_none, errW_some] <;> rfl) | (simp only [← hji25]; first | rfl | (simp [errW_none, errW_some] <;> rfl)) | (simp [*, errW_none, errW_some] <;> rfl), by repeat (first | (with_reducible first | exact HB.out | apply below_alloc | apply pw_below_drewN | apply below_drew1 | refine below_set ?_ GE135.out | refine below_set ?_ GE142.out) | exact HB.out)⟩
                      · replace c89 := Bool.eq_false_iff.mpr c89
                        subst c89
                        have H1 : (some (t145, (rdOf ByteArray.empty t136 1), x143002_29, 0, false)) = some (r1, r2, r3, r4, r5) := by rw [if_neg (show ¬ (false = true) by decide)] at H; exact H
                        clear H
                        have H := H1
                        clear H1
                        simp only [Option.some.injEq, Prod.mk.injEq] at H
                        obtain ⟨rfl, rfl, rfl, rfl, rfl⟩ := H
                        try go_wp2
                        have n0_ := Aside0.mk (Kd.R_drew HO_4.out)
                        have n1_ := Aside0.mk (blk_drew BK135.out)
                        have n2_ := Aside0.mk (blk_drew BK142.out)
                        have n3_ := Aside0.mk (below_drew1 HB.out)
                        clear HO_4
                        clear BK135
                        clear BK142
                        clear HB
                        have HO_4 := n0_
                        have BK135 := n1_
                        have BK142 := n2_
                        have HB := n3_
                        clear n0_ n1_ n2_ n3_
                        refine start_ (n := 8) (S := fun w' => w'.cell? ⟨gb142, 0, none⟩ = some (.int .i64 t145) ∧ w'.cell? ⟨gb142, 1, none⟩ = some (.string (rdOf ByteArray.empty t136 1)) ∧ w'.cell? ⟨gb142, 2, none⟩ = some (.string x143002_29) ∧ w'.cell? ⟨gb142, 3, none⟩ = some (.int .i64 0)) (ds := []) #[false, false, false, false, false, false, false, false] (by kernel_rfl) rfl rfl ⟨(blk_cell BK142.out 0).trans rfl, (blk_cell BK142.out 1).trans rfl, (blk_cell BK142.out 2).trans rfl, (blk_cell BK142.out 3).trans rfl⟩ (fun hHeld => ?_); refine with_tabW trace_read.tab14 trace_read.bits14 (fun HT_ HW_ => ?_)
                        generalize wc.drew = w97 at HO_4 BK135 BK142 HB hHeld ⊢
                        refine pure_ (i := 1) (N := some 92) (v := ?_) (a' := ?_) #[false, true, false, false, false, false, false, false] rfl rfl (any_of HT_.out (by kernel_rfl)) (fun _ _ _ h => h) (Or.inl ⟨by rfl, ?_⟩) ?_ ?_
                        rotate_left
                        · intro w'; go_simp; with_reducible rfl
                        rotate_left
                        · simp only [Act.put, List.setIfInBounds_toArray, List.set_cons_zero, List.set_cons_succ, i64_w, i32_w]; rfl
                        refine pure_ (i := 2) (N := some 93) (v := ?_) (a' := ?_) #[false, true, true, false, false, false, false, false] rfl rfl (any_of HT_.out (by kernel_rfl)) (fun _ _ _ h => h) (Or.inl ⟨by rfl, ?_⟩) ?_ ?_
                        rotate_left
                        · intro w'; go_simp; with_reducible rfl
                        rotate_left
                        · simp only [Act.put, List.setIfInBounds_toArray, List.set_cons_zero, List.set_cons_succ, i64_w, i32_w]; rfl
                        refine pure_ (i := 3) (N := some 94) (v := undef) (a' := ?_) #[false, true, true, true, false, false, false, false] rfl rfl (any_of HT_.out (by kernel_rfl)) (fun _ _ _ h => h) (Or.inr ⟨by rfl, rfl⟩) ?_ ?_
                        rotate_left
                        · simp only [Act.put, List.setIfInBounds_toArray, List.set_cons_zero, List.set_cons_succ, i64_w, i32_w]; rfl
                        refine pure_ (i := 4) (N := some 95) (v := undef) (a' := ?_) #[false, true, true, true, true, false, false, false] rfl rfl (any_of HT_.out (by kernel_rfl)) (fun _ _ _ h => h) (Or.inr ⟨by rfl, rfl⟩) ?_ ?_
                        rotate_left
                        · simp only [Act.put, List.setIfInBounds_toArray, List.set_cons_zero, List.set_cons_succ, i64_w, i32_w]; rfl
                        refine pure_ (i := 5) (N := some 96) (v := ?_) (a' := ?_) #[false, true, true, true, true, true, false, false] rfl rfl (any_of HT_.out (by kernel_rfl)) (fun _ _ _ h => h) (Or.inl ⟨by rfl, ?_⟩) ?_ ?_
                        rotate_left
                        · intro w'; go_simp; with_reducible rfl
                        rotate_left
                        · simp only [Act.put, List.setIfInBounds_toArray, List.set_cons_zero, List.set_cons_succ, i64_w, i32_w]; rfl
                        refine take_ (i := 0) (N := some 91) (v := ?_) (a' := ?_) #[true, true, true, true, true, true, false, false] rfl rfl (take_ofW HT_.out HW_.out (by kernel_rfl)) (fun _ _ _ h => h) (Or.inl ⟨by rfl, ?_⟩) hHeld ?_ ?_
                        rotate_left
                        · rintro w' ⟨s0, s1, s2, s3⟩; go_simp; with_reducible rfl
                        rotate_left
                        · simp only [Act.put, List.setIfInBounds_toArray, List.set_cons_zero, List.set_cons_succ, i64_w, i32_w]; rfl
                        refine one_ (i := 6) (N := none) #[true, true, true, true, true, true, true, false] rfl rfl (one_of HT_.out (by kernel_rfl)) (by decide) (fun K hK => ?_)
                        have hs98 : w97.cell? ⟨gb135, 0, none⟩ = some (.int .i64 0) := (blk_cell BK135.out 0).trans rfl
                        have hfs98 := blk_frozen BK135.out 0
                        have hns98_1 := NB142_135.out
                        have hms98_1 := NB135_142.out
                        have hs99 : w97.cell? ⟨gb135, 1, none⟩ = some (.string (⟨#[]⟩ : ByteArray)) := (blk_cell BK135.out 1).trans rfl
                        have hfs99 := blk_frozen BK135.out 1
                        have hns99_1 := NB142_135.out
                        have hms99_1 := NB135_142.out
                        have hs100 : w97.cell? ⟨gb135, 2, none⟩ = some (.string (⟨#[]⟩ : ByteArray)) := (blk_cell BK135.out 2).trans rfl
                        have hfs100 := blk_frozen BK135.out 2
                        have hns100_1 := NB142_135.out
                        have hms100_1 := NB135_142.out
                        have hs101 : w97.cell? ⟨gb135, 3, none⟩ = some (.int .i64 0) := (blk_cell BK135.out 3).trans rfl
                        have hfs101 := blk_frozen BK135.out 3
                        have hns101_1 := NB142_135.out
                        have hms101_1 := NB135_142.out
                        refine skip_ (w1 := ?_) (by rfl) rfl ?_ ?_
                        rotate_left
                        · go_simp
                          rfl
                        refine hK.out _ _ ⟨((cell_far (p := ⟨gb135, _, none⟩) NB142_135.out _).trans (((cell_far (p := ⟨gb135, _, none⟩) NB142_135.out _).trans (((cell_far (p := ⟨gb135, _, none⟩) NB142_135.out _).trans (((cell_far (p := ⟨gb135, _, none⟩) NB142_135.out _).trans (hHeld.1)))))))), ((cell_far (p := ⟨gb135, _, none⟩) NB142_135.out _).trans (((cell_far (p := ⟨gb135, _, none⟩) NB142_135.out _).trans (((cell_far (p := ⟨gb135, _, none⟩) NB142_135.out _).trans (((cell_far (p := ⟨gb135, _, none⟩) NB142_135.out _).trans (hHeld.2.1)))))))), ((cell_far (p := ⟨gb135, _, none⟩) NB142_135.out _).trans (((cell_far (p := ⟨gb135, _, none⟩) NB142_135.out _).trans (((cell_far (p := ⟨gb135, _, none⟩) NB142_135.out _).trans (((cell_far (p := ⟨gb135, _, none⟩) NB142_135.out _).trans (hHeld.2.2.1)))))))), ((cell_far (p := ⟨gb135, _, none⟩) NB142_135.out _).trans (((cell_far (p := ⟨gb135, _, none⟩) NB142_135.out _).trans (((cell_far (p := ⟨gb135, _, none⟩) NB142_135.out _).trans (((cell_far (p := ⟨gb135, _, none⟩) NB142_135.out _).trans (hHeld.2.2.2))))))))⟩ (fun hHeld => ?_)
                        clear hK K
                        refine pure_ (i := 7) (N := some 3) (v := ?_) (a' := ?_) #[true, true, true, true, true, true, true, true] rfl rfl (any_of HT_.out (by kernel_rfl)) (fun _ _ _ h => h) (Or.inl ⟨by rfl, ?_⟩) ?_ ?_
                        rotate_left
                        · intro w'; go_simp; with_reducible rfl
                        rotate_left
                        · simp only [Act.put, List.setIfInBounds_toArray, List.set_cons_zero, List.set_cons_succ, i64_w, i32_w]; rfl
                        refine done_ (done_of HT_.out (by kernel_rfl)) ?_
                        try go_wp2
                        refine bodyPost_ret (results_ct rfl _ _ gb135 37 #[.int .i64 t145, .string (rdOf ByteArray.empty t136 1), .string x143002_29, .int .i64 0] (0, 0) _ rfl (by (with_reducible repeat (first | refine blk_drewN ?_ _ | refine blk_drew ?_ | refine blk_alloc ?_ _)); refine blk_put (cs := #[.int .i64 t145, .string (rdOf ByteArray.empty t136 1), .string x143002_29, .int .i64 0]) ?_ 3 _ rfl; (with_reducible repeat (first | refine blk_drewN ?_ _ | refine blk_drew ?_ | refine blk_alloc ?_ _)); refine blk_put (cs := #[.int .i64 t145, .string (rdOf ByteArray.empty t136 1), .string (⟨#[]⟩ : ByteArray), .int .i64 0]) ?_ 2 _ rfl; (with_reducible repeat (first | refine blk_drewN ?_ _ | refine blk_drew ?_ | refine blk_alloc ?_ _)); refine blk_put (cs := #[.int .i64 t145, .string (⟨#[]⟩ : ByteArray), .string (⟨#[]⟩ : ByteArray), .int .i64 0]) ?_ 1 _ rfl; (with_reducible repeat (first | refine blk_drewN ?_ _ | refine blk_drew ?_ | refine blk_alloc ?_ _)); refine blk_put (cs := #[.int .i64 0, .string (⟨#[]⟩ : ByteArray), .string (⟨#[]⟩ : ByteArray), .int .i64 0]) ?_ 0 _ rfl; (with_reducible repeat (first | refine blk_drewN ?_ _ | refine blk_drew ?_ | refine blk_alloc ?_ _)); exact BK135.out) Try.underlying37 rfl (by kernel_rfl)) rfl ?_
                        exact ⟨by first | rfl | (simp [errW_none, errW_some] <;> rfl) | (simp only [← hji25]; first | rfl | (simp [errW_none, errW_some] <;> rfl)) | (simp [*, errW_none, errW_some] <;> rfl), by repeat (first | (with_reducible first | exact HB.out | apply below_alloc | apply pw_below_drewN | apply below_drew1 | refine below_set ?_ GE135.out | refine below_set ?_ GE142.out) | exact HB.out)⟩
              · rw [if_neg c29] at H
                exact absurd H (by simp)
            · rw [if_neg c27] at H
              exact absurd H (by simp)
          · rw [if_neg c26] at H
            exact absurd H (by simp)
        · rw [if_neg c24] at H
          exact absurd H (by simp)
end Go.Proofs.Ytngmcigkihfnkaa.H
end
section
namespace Go.Proofs.Ytngmcigkihfnkaa.H
open Go.RowKit Go.Proofs.YtngmcigkihfnkaaW.PrintWords Go.Proofs.YtngmcigkihfnkaaW.PrintLast Go.Proofs.YtngmcigkihfnkaaW.PrintMore
attribute [local go_sem] max2_int min2_int max_two min_two max_three min_three max_four min_four   -- for this text's walks alone
set_option linter.unusedVariables false
set_option linter.unusedSimpArgs false
mutual
def trace_Parse.j0 : Nat → List ByteArray → Option ((List (S37)) × Int × Int)
  | 0, _ => none
  | k + 1, x5 => trace_Parse.l0 k ([] : List (S37)) x5 (x5.length : Int) 0
def trace_Parse.l0 : Nat → List (S37) → List ByteArray → Int → Int → Option ((List (S37)) × Int × Int)
  | 0, _, _, _, _ => none
  | k + 1, x6, x25, x26, x27 => if x27 < x26 then (if 0 ≤ x27 then (if x27 < (x25.length : Int) then ((trace_read.f k (rdOf ByteArray.empty x25 x27)).bind fun bt162 => (if bt162.2.2.2.2 = true then (if x6.length < 2932031007402 then (trace_Parse.l0 k (x6 ++ [(⟨bt162.1, bt162.2.1, bt162.2.2.1, bt162.2.2.2.1⟩ : S37)]) x25 x26 (wrap64 (x27 + 1))) else (none)) else (some (([] : List (S37)), 12, wrap64 (x27 + 1))))) else (none)) else (none)) else (some (x6, 0, 0))
end
def trace_Parse.f (k : Nat) (a0 : ByteArray) : Option ((List (S37)) × Int × Int) := (trace_parts.f k a0 10).bind fun t154 => (if 0 ≤ (wrap64 ((t154.length : Int) - 1)) then (if (wrap64 ((t154.length : Int) - 1)) < (t154.length : Int) then (if (rdOf ByteArray.empty t154 (wrap64 ((t154.length : Int) - 1))).toList = ([] : List UInt8) then (if (wrap64 ((t154.length : Int) - 1)) ≤ (t154.length : Int) then (trace_Parse.j0 k (t154.take ((wrap64 ((t154.length : Int) - 1)) : Int).toNat)) else (none)) else (trace_Parse.j0 k t154)) else (none)) else (none))
theorem trace_Parse.mono_l : ∀ k, (∀ y0, LeO (trace_Parse.j0 k y0) (trace_Parse.j0 (k + 1) y0)) ∧ (∀ y0 y1 y2 y3, LeO (trace_Parse.l0 k y0 y1 y2 y3) (trace_Parse.l0 (k + 1) y0 y1 y2 y3))
  | 0 => ⟨fun _ r h => by simp [trace_Parse.j0] at h, fun _ _ _ _ r h => by simp [trace_Parse.l0] at h⟩
  | k + 1 => by
    obtain ⟨ih0, ih1⟩ := trace_Parse.mono_l k
    refine ⟨?_, ?_⟩
    · intro y0
      unfold trace_Parse.j0
      repeat' first
      | (with_reducible exact ih0 _)
      | (with_reducible exact ih1 _ _ _ _)
      | (with_reducible exact trace_parts.mono _ _ _)
      | (with_reducible exact trace_read.mono _ _)
      | (with_reducible exact LeO.refl _)
      | (with_reducible exact LeO.none _)
      | (with_reducible refine LeO.ite ?_ ?_)
      | (with_reducible refine LeO.bind ?_ (fun _ => ?_))
      | exact ih0 _
      | exact ih1 _ _ _ _
      | exact trace_parts.mono _ _ _
      | exact trace_read.mono _ _
      | exact LeO.none _
      | refine LeO.ite ?_ ?_
      | refine LeO.bind ?_ (fun _ => ?_)
    · intro y0 y1 y2 y3
      unfold trace_Parse.l0
      repeat' first
      | (with_reducible exact ih0 _)
      | (with_reducible exact ih1 _ _ _ _)
      | (with_reducible exact trace_parts.mono _ _ _)
      | (with_reducible exact trace_read.mono _ _)
      | (with_reducible exact LeO.refl _)
      | (with_reducible exact LeO.none _)
      | (with_reducible refine LeO.ite ?_ ?_)
      | (with_reducible refine LeO.bind ?_ (fun _ => ?_))
      | exact ih0 _
      | exact ih1 _ _ _ _
      | exact trace_parts.mono _ _ _
      | exact trace_read.mono _ _
      | exact LeO.none _
      | refine LeO.ite ?_ ?_
      | refine LeO.bind ?_ (fun _ => ?_)
theorem trace_Parse.mono : ∀ a0 k, LeO (trace_Parse.f k a0) (trace_Parse.f (k + 1) a0) := by
  intro a0 k
  obtain ⟨ih0, ih1⟩ := trace_Parse.mono_l k
  unfold trace_Parse.f
  repeat' first
      | (with_reducible exact ih0 _)
      | (with_reducible exact ih1 _ _ _ _)
      | (with_reducible exact trace_parts.mono _ _ _)
      | (with_reducible exact trace_read.mono _ _)
      | (with_reducible exact LeO.refl _)
      | (with_reducible exact LeO.none _)
      | (with_reducible refine LeO.ite ?_ ?_)
      | (with_reducible refine LeO.bind ?_ (fun _ => ?_))
      | exact ih0 _
      | exact ih1 _ _ _ _
      | exact trace_parts.mono _ _ _
      | exact trace_read.mono _ _
      | exact LeO.none _
      | refine LeO.ite ?_ ?_
      | refine LeO.bind ?_ (fun _ => ?_)
set_option maxHeartbeats 8000000 in
set_option maxRecDepth 100000 in
theorem trace_Parse.calls (k : Nat) (a0 : ByteArray) (r1 : List (S37)) (r2 : Int) (r3 : Int) (w : World) (h : trace_Parse.f k a0 = some (r1, r2, r3)) :
    Calls Try.prog 8 #[.string a0] w fun e w' => ∃ v0_ : Value, e = .returned (.tuple #[v0_, .int .i64 r2, .int .i64 r3]) ∧ Kd.R k37 37 w' w.heap.size (fun _ => True) v0_ r1 ∧ Below w.heap.size w w' := by
  have hu37 := Try.underlying37
  have HB := Aside0.mk (Below.refl w.heap.size w)
  have H : ((trace_parts.f k a0 10).bind fun t154 => (if 0 ≤ (wrap64 ((t154.length : Int) - 1)) then (if (wrap64 ((t154.length : Int) - 1)) < (t154.length : Int) then (if (rdOf ByteArray.empty t154 (wrap64 ((t154.length : Int) - 1))).toList = ([] : List UInt8) then (if (wrap64 ((t154.length : Int) - 1)) ≤ (t154.length : Int) then (trace_Parse.j0 k (t154.take ((wrap64 ((t154.length : Int) - 1)) : Int).toNat)) else (none)) else (trace_Parse.j0 k t154)) else (none)) else (none))) = some (r1, r2, r3) := h
  clear h
  replace H := Option.bind_eq_some_iff.mp H
  obtain ⟨t154, A20, H⟩ := H
  replace H : (if 0 ≤ (wrap64 ((t154.length : Int) - 1)) then (if (wrap64 ((t154.length : Int) - 1)) < (t154.length : Int) then (if (rdOf ByteArray.empty t154 (wrap64 ((t154.length : Int) - 1))).toList = ([] : List UInt8) then (if (wrap64 ((t154.length : Int) - 1)) ≤ (t154.length : Int) then (trace_Parse.j0 k (t154.take ((wrap64 ((t154.length : Int) - 1)) : Int).toNat)) else (none)) else (trace_Parse.j0 k t154)) else (none)) else (none)) = some (r1, r2, r3) := H
  have A2 := Aside0.mk A20
  clear A20
  obtain ⟨ji3, hji3⟩ : ∃ j_ : Int, (wrap64 ((t154.length : Int) - 1)) = j_ := ⟨_, rfl⟩
  replace H : (if 0 ≤ (ji3) then (if (ji3) < (t154.length : Int) then (if (rdOf ByteArray.empty t154 (ji3)).toList = ([] : List UInt8) then (if (ji3) ≤ (t154.length : Int) then (trace_Parse.j0 k (t154.take ((ji3) : Int).toNat)) else (none)) else (trace_Parse.j0 k t154)) else (none)) else (none)) = some (r1, r2, r3) := by first | (rw [hji3] at H; exact H) | (simp only [hji3] at H ⊢; exact H)
  (try rw [hji3] at A2)
  have hji3w : (IntKind.i64.wrap ((t154.length : Int) - 1)) = ji3 := (i64_w _).trans hji3
  by_cases c4 : 0 ≤ (ji3)
  · rw [if_pos c4] at H
    have c4b0 : decide (0 ≤ (ji3)) = true := decide_eq_true c4
    clear c4
    by_cases c5 : (ji3) < (t154.length : Int)
    · rw [if_pos c5] at H
      have c5b0 : decide ((ji3) < (t154.length : Int)) = true := decide_eq_true c5
      clear c5
      have HC6 := Aside0.mk H
      clear H
      go_enter Try.func8, Try.ntmps8
      go_upto_if 19 with (first | ((first | ((with_reducible refine gate_callee (f := 24) rfl ?_); refine goesL_ (some 12) rfl rfl Try.func24 (by kernel_rfl) rfl #[.string a0, .int .u8 10] rfl (by (try simp only [List.map_toArray, List.map_cons, List.map_nil]); first | done | rfl | (simp only [List.length_drop, List.length_take]; rfl)) ?_; (with_reducible refine (trace_parts.calls k a0 10 t154 _ A2.out).mono ?_); rintro e w7 ⟨v155, rfl, ho0, hb⟩; refine ⟨_, rfl, ?_⟩) | (go_at_call 24; (with_reducible refine (trace_parts.calls k a0 10 t154 _ A2.out).mono ?_); rintro e w7 ⟨v155, rfl, ho0, hb⟩)); have n0_ := Aside0.mk (Kd.R_lower ho0 (below_size (by repeat (first | (with_reducible first | exact HB.out | apply below_alloc | apply pw_below_drewN | apply below_drew1) | exact HB.out)))); have n1_ := Aside0.mk (below_step (by repeat (first | (with_reducible first | exact HB.out | apply below_alloc | apply pw_below_drewN | apply below_drew1) | exact HB.out)) hb); clear HB; have HO156 := n0_; have HB := n1_; clear n0_ n1_; (try clear hb); (try clear hb2); (try clear hk); (try clear hi); (try clear ho0); obtain ⟨Ao8, co8, eo8⟩ := Kd.R_slice HO156.out; subst eo8; have p157 : 0 ≤ ((ji3) : Int) := of_decide_eq_true (by first | (with_reducible assumption) | assumption); have q157 : (ji3) < (t154.length : Int) := of_decide_eq_true (by first | (with_reducible assumption) | assumption); obtain ⟨ad157, e157, hx157_0⟩ := Kd.at_string (Kd.R_reads' HO156.out).2.2 (ji3) p157 q157; cases e157; replace p157 := eq_true p157; replace q157 := eq_true q157))
      (try simp only [Act.put, List.setIfInBounds_toArray, List.set_cons_zero, List.set_cons_succ])
      go_cut [5] (fun v5 wc => ∃ (kq : Nat) (x5_5 : List ByteArray), Aside0 (trace_Parse.j0 kq x5_5 = some (r1, r2, r3)) ∧ Aside0 (kq ≤ k) ∧ Aside0 (Kd.R Kd.string 9 wc w.heap.size (fun _ => True) v5 x5_5) ∧ Aside0 (Below w.heap.size w wc))
      case first =>
        have H := HC6.out
        clear HC6
        by_cases c9 : (rdOf ByteArray.empty t154 (ji3)).toList = ([] : List UInt8)
        · rw [if_pos c9] at H
          have c9b0 : ((rdOf ByteArray.empty t154 (ji3)).toList == ([] : List UInt8)) = true := beq_iff_eq.mpr c9
          have c9e0 : ((rdOf ByteArray.empty t154 (ji3)).toList).isEmpty = true := by rw [c9]; rfl
          have c9b1 : ((rdOf ByteArray.empty t154 (ji3)).toList != ([] : List UInt8)) = false := bne_eq_false_iff_eq.mpr c9
          clear c9
          (first | rw [c9b0] | rw [c9e0] | (simp only [i64_w, i32_w]; rw [c9b0]) | skip)
          by_cases c10 : (ji3) ≤ (t154.length : Int)
          · rw [if_pos c10] at H
            have c10b0 := eq_true c10
            (try (have c10z := c10b0; rw [ByteArray.size_extract, Nat.min_self] at c10z))
            have c10b1 : decide ((ji3) ≤ (t154.length : Int)) = true := decide_eq_true c10
            clear c10
            obtain ⟨y158, hy158⟩ : ∃ y_ : List ByteArray, y_ = (t154.take ((ji3) : Int).toNat) := ⟨_, rfl⟩
            replace H : (trace_Parse.j0 k y158) = some (r1, r2, r3) := by first | (rw [hy158]; with_reducible exact H) | (have H2_ := (Option.bind_some _ _).symm.trans H; rw [hy158]; with_reducible exact H2_) | (have H2_ := (Option.bind_some _ _).symm.trans H; with_reducible exact H2_) | with_reducible exact H | (rw [hy158]; exact H) | exact H
            have Ny158 := Aside0.mk hy158
            clear hy158
            have H' := Aside0.mk H
            clear H
            have q11 : ((ji3) : Int) ≤ ((t154.length : Int) : Int) := of_decide_eq_true (by first | (with_reducible assumption) | assumption)
            obtain ⟨i011, hi011, _, hsz11, _⟩ := info_parts info9
            have hcut11 := cut_to (P := Try.prog) 47 9 .i64 Try.underlying47 hi011 (some ad157) t154.length co8 (ji3) (of_decide_eq_true (by first | (with_reducible assumption) | assumption)) q11 (Kd.R_reads' HO156.out).2.1
            have hr11 := Kd.R_take (m := ((ji3) : Int).toNat) HO156.out (by omega)
            have hy11 : y158.length = ((ji3) : Int).toNat := (by rw [Ny158.out, List.length_take]; omega)
            rw [← Ny158.out] at hr11
            rw [← hy11] at hr11 hcut11
            clear hy11 hi011 hsz11 HO156
            have HO160 := Aside0.mk hr11
            clear hr11
            replace q11 := eq_true q11
            (try (have qz11 := q11; rw [ByteArray.size_extract, Nat.min_self] at qz11))
            go_wp2
            go_meet
            case rel => exact ⟨_, (y158), H', ⟨by first | omega | exact Nat.le_refl _⟩, ⟨by (with_reducible repeat (first | apply Kd.R_alloc | apply Kd.R_drewN | apply Kd.R_drew)); exact HO160.out⟩, ⟨by repeat (first | (with_reducible first | exact HB.out | apply below_alloc | apply pw_below_drewN | apply below_drew1) | exact HB.out)⟩⟩
          · rw [if_neg c10] at H
            exact absurd H (by simp)
        · rw [if_neg c9] at H
          have c9b0 : ((rdOf ByteArray.empty t154 (ji3)).toList == ([] : List UInt8)) = false := beq_eq_false_iff_ne.mpr c9
          have c9e0 : ((rdOf ByteArray.empty t154 (ji3)).toList).isEmpty = false := by cases h_ : (rdOf ByteArray.empty t154 (ji3)).toList with | nil => exact absurd h_ c9 | cons a_ b_ => rfl
          have c9b1 : ((rdOf ByteArray.empty t154 (ji3)).toList != ([] : List UInt8)) = true := bne_iff_ne.mpr c9
          (first | rw [c9b0] | rw [c9e0] | (simp only [i64_w, i32_w]; rw [c9b0]) | skip)
          have H' := Aside0.mk H
          clear H
          go_wp2
          go_meet
          case rel => exact ⟨_, (t154), H', ⟨by first | omega | exact Nat.le_refl _⟩, ⟨by (with_reducible repeat (first | apply Kd.R_alloc | apply Kd.R_drewN | apply Kd.R_drew)); exact HO156.out⟩, ⟨by repeat (first | (with_reducible first | exact HB.out | apply below_alloc | apply pw_below_drewN | apply below_drew1) | exact HB.out)⟩⟩
      case rest =>
        clear HC6
        try clear c1
        try clear p1
        try clear q1
        try clear hx1
        try clear c2
        try clear p2
        try clear c4
        try clear c4b0
        try clear c5
        try clear c5b0
        try clear p6
        try clear c8
        try clear c9
        try clear c9b0
        try clear c9b1
        try clear c10
        try clear c10b0
        try clear c10b1
        try clear q11
        try clear hx157_0
        try clear p157
        try clear q11
        try clear q157
        obtain ⟨kq, x5_5, HA, HJ5, HO_5, HB⟩ := hcut
        cases kq with
        | zero => exact absurd HA.out (by simp [trace_Parse.j0])
        | succ kj5 =>
          have H := HA.out
          clear HA
          simp only [trace_Parse.j0] at H
          have H' := Aside0.mk H
          clear H
          obtain ⟨Ao12, co12, eo12⟩ := Kd.R_slice HO_5.out
          subst eo12
          go_wp2
          go_loopg [6, 27] kj5 (fun kq v6 v27 w' => ∃ (x6_2 : List (S37)) (x27_2 : Int), v27 = .int .i64 x27_2 ∧ Aside0 (trace_Parse.l0 kq x6_2 x5_5 (x5_5.length : Int) x27_2 = some (r1, r2, r3)) ∧ Aside0 (kq ≤ kj5) ∧ Aside0 (Kd.R k37 37 w' w.heap.size (fun _ => True) v6 x6_2) ∧ Aside0 (Kd.R Kd.string 9 w' w.heap.size (fun _ => True) (.slice Ao12 x5_5.length co12) x5_5) ∧ Aside0 (Below w.heap.size w w'))
          case atStart => exact ⟨(([] : List (S37))), (0), (by first | rfl | (simp; done) | (simp [*]; done)), H', ⟨Nat.le_refl _⟩, ⟨by first | exact Kd.R_nil _ _ _ _ _ | exact Kd.N_nil _ _ _ _ _ | exact Kd.V_nil _ _ _ _ _ | exact Kd.Q_nil _ _ _ _ _ | exact Kd.S_nil _ _ _ _ _⟩, ⟨by (with_reducible repeat (first | apply Kd.R_alloc | apply Kd.R_drewN | apply Kd.R_drew)); exact HO_5.out⟩, ⟨by repeat (first | (with_reducible first | exact HB.out | apply below_alloc | apply pw_below_drewN | apply below_drew1) | exact HB.out)⟩⟩
          case round =>
            clear H'
            try clear c1
            try clear p1
            try clear q1
            try clear hx1
            try clear c2
            try clear p2
            try clear c4
            try clear c4b0
            try clear c5
            try clear c5b0
            try clear p6
            try clear c8
            try clear c9
            try clear c9b0
            try clear c9b1
            try clear c10
            try clear c10b0
            try clear c10b1
            try clear q11
            try clear hx157_0
            try clear p1
            try clear p157
            try clear p2
            try clear p6
            try clear q1
            try clear q11
            try clear q157
            obtain ⟨x6_2, x27_2, rfl, HA, HK2, HO_6, HO_25, HB⟩ := hrel
            cases gk with
            | zero => exact absurd HA.out (by simp [trace_Parse.l0])
            | succ k2 =>
              have H := HA.out
              clear HA
              simp only [trace_Parse.l0] at H
              by_cases c13 : x27_2 < (x5_5.length : Int)
              · rw [if_pos c13] at H
                have c13b0 : decide (x27_2 < (x5_5.length : Int)) = true := decide_eq_true c13
                clear c13
                by_cases c14 : 0 ≤ x27_2
                · rw [if_pos c14] at H
                  have c14b0 : decide (0 ≤ x27_2) = true := decide_eq_true c14
                  clear c14
                  by_cases c15 : x27_2 < (x5_5.length : Int)
                  · rw [if_pos c15] at H
                    have c15b0 : decide (x27_2 < (x5_5.length : Int)) = true := decide_eq_true c15
                    clear c15
                    replace H := Option.bind_eq_some_iff.mp H
                    obtain ⟨⟨t162, t163, t164, t165, t166⟩, A160, H⟩ := H
                    replace H : (if t166 = true then (if x6_2.length < 2932031007402 then (trace_Parse.l0 k2 (x6_2 ++ [(⟨t162, t163, t164, t165⟩ : S37)]) x5_5 (x5_5.length : Int) (wrap64 (x27_2 + 1))) else (none)) else (some (([] : List (S37)), 12, wrap64 (x27_2 + 1)))) = some (r1, r2, r3) := H
                    have A16 := Aside0.mk A160
                    clear A160
                    by_cases c17 : t166 = true
                    · subst c17
                      have H1 : (if x6_2.length < 2932031007402 then (trace_Parse.l0 k2 (x6_2 ++ [(⟨t162, t163, t164, t165⟩ : S37)]) x5_5 (x5_5.length : Int) (wrap64 (x27_2 + 1))) else (none)) = some (r1, r2, r3) := by rw [if_pos rfl] at H; exact H
                      clear H
                      have H := H1
                      clear H1
                      by_cases c18 : x6_2.length < 2932031007402
                      · rw [if_pos c18] at H
                        have LMc18 := Aside0.mk c18
                        clear c18
                        obtain ⟨y168, hy168⟩ : ∃ y_ : List (S37), y_ = (x6_2 ++ [(⟨t162, t163, t164, t165⟩ : S37)]) := ⟨_, rfl⟩
                        replace H : (trace_Parse.l0 k2 y168 x5_5 (x5_5.length : Int) (wrap64 (x27_2 + 1))) = some (r1, r2, r3) := by first | (rw [hy168]; with_reducible exact H) | (have H2_ := (Option.bind_some _ _).symm.trans H; rw [hy168]; with_reducible exact H2_) | (have H2_ := (Option.bind_some _ _).symm.trans H; with_reducible exact H2_) | with_reducible exact H | (rw [hy168]; exact H) | exact H
                        have Ny168 := Aside0.mk hy168
                        clear hy168
                        have H' := Aside0.mk H
                        clear H
                        have p161 : 0 ≤ (x27_2 : Int) := of_decide_eq_true (by first | (with_reducible assumption) | assumption)
                        have q161 : x27_2 < (x5_5.length : Int) := of_decide_eq_true (by first | (with_reducible assumption) | assumption)
                        obtain ⟨ad161, e161, hx161_0⟩ := Kd.at_string (Kd.R_reads' HO_25.out).2.2 x27_2 p161 q161
                        cases e161
                        replace p161 := eq_true p161
                        replace q161 := eq_true q161
                        (try (have qz161 := q161; rw [ByteArray.size_extract, Nat.min_self] at qz161))
                        go_wp2_with (first | ((first | ((with_reducible refine gate_callee (f := 25) rfl ?_); refine goesL_ (some 34) rfl rfl Try.func25 (by kernel_rfl) rfl #[.string (rdOf ByteArray.empty x5_5 x27_2)] rfl (by (try simp only [List.map_toArray, List.map_cons, List.map_nil]); first | done | rfl | (simp only [List.length_drop, List.length_take]; rfl)) ?_; (with_reducible refine (trace_read.calls k2 (rdOf ByteArray.empty x5_5 x27_2) t162 t163 t164 t165 true _ A16.out).mono ?_); rintro e w19 ⟨rfl, hb⟩; refine ⟨_, rfl, ?_⟩) | (go_at_call 25; (with_reducible refine (trace_read.calls k2 (rdOf ByteArray.empty x5_5 x27_2) t162 t163 t164 t165 true _ A16.out).mono ?_); rintro e w19 ⟨rfl, hb⟩)); have n0_ := Aside0.mk (Kd.R_below (by (with_reducible repeat (first | apply Kd.R_alloc | apply Kd.R_drewN | apply Kd.R_drew)); exact HO_6.out) hb); have n1_ := Aside0.mk (Kd.R_below (by (with_reducible repeat (first | apply Kd.R_alloc | apply Kd.R_drewN | apply Kd.R_drew)); exact HO_25.out) hb); have n2_ := Aside0.mk (below_step (by repeat (first | (with_reducible first | exact HB.out | apply below_alloc | apply pw_below_drewN | apply below_drew1) | exact HB.out)) hb); clear HO_6; clear HO_25; clear HB; have HO_6 := n0_; have HO_25 := n1_; have HB := n2_; clear n0_ n1_ n2_; (try clear hb); (try clear hb2); (try clear hk); (try clear hi)) | ((with_reducible refine gate_dst (N := 9) rfl ?_); refine box_event ?hg (N := 9) ?hd (cs := #[.int .i64 0, .string (⟨#[]⟩ : ByteArray), .string (⟨#[]⟩ : ByteArray), .int .i64 0]) (t := 37) ?hr ?_; (case hd => rfl); (case hg => rfl); (case hr => first | (go_simp; done) | (go_simp; rfl)); intro gb167 hg w20 hbox hb; have n0_ := Aside0.mk (Kd.R_below (Kd.R_elderB (by (with_reducible repeat (first | apply Kd.R_alloc | apply Kd.R_drewN | apply Kd.R_drew)); exact HO_6.out) gb167 (Nat.le_of_eq hg.symm)) hb); have n1_ := Aside0.mk (Kd.R_below (by (with_reducible repeat (first | apply Kd.R_alloc | apply Kd.R_drewN | apply Kd.R_drew)); exact HO_25.out) hb); have n2_ := Aside0.mk (below_step (by repeat (first | (with_reducible first | exact HB.out | apply below_alloc | apply pw_below_drewN | apply below_drew1) | exact HB.out)) hb); have n3_ := Aside0.mk (hbox); have n4_ := Aside0.mk ((by rw [hg]; exact (below_size (by repeat (first | (with_reducible first | exact HB.out | apply below_alloc | apply pw_below_drewN | apply below_drew1) | exact HB.out))) : w.heap.size ≤ gb167)); have n5_ := Aside0.mk ((by rw [hg]; exact (below_size (by repeat (first | (with_reducible first | exact HB.out | apply below_alloc | apply pw_below_drewN | apply below_drew1) | exact HB.out))) : w.heap.size ≤ gb167)); clear HO_6; clear HO_25; clear HB; have HO_6 := n0_; have HO_25 := n1_; have HB := n2_; have BK167 := n3_; have GW167 := n4_; have GE167 := n5_; clear n0_ n1_ n2_ n3_ n4_ n5_; clear hb hbox hg; have hcz21_0 : w20.cell? ⟨gb167, 0, none⟩ = some (.int .i64 0) := (blk_cell BK167.out 0).trans rfl; have hcz21_1 : w20.cell? ⟨gb167, 1, none⟩ = some (.string (⟨#[]⟩ : ByteArray)) := (blk_cell BK167.out 1).trans rfl; have hcz21_2 : w20.cell? ⟨gb167, 2, none⟩ = some (.string (⟨#[]⟩ : ByteArray)) := (blk_cell BK167.out 2).trans rfl; have hcz21_3 : w20.cell? ⟨gb167, 3, none⟩ = some (.int .i64 0) := (blk_cell BK167.out 3).trans rfl; have hfz21_0 := blk_frozen BK167.out 0; have hfz21_1 := blk_frozen BK167.out 1; have hfz21_2 := blk_frozen BK167.out 2; have hfz21_3 := blk_frozen BK167.out 3) | ((with_reducible refine gate_builtin (b := .append) (xs := #[.tmp 41, .tmp 43]) rfl ?_); at_builtin; refine Kd.R_append k37 (w0 := w) w.heap.size rfl (.tmp 41) (.tmp 43) 23 37 (.agg #[(.int .i64 0), (.string ⟨#[]⟩), (.string ⟨#[]⟩), (.int .i64 0)]) 48 rfl Try.underlying23 info37 rfl (by decide) (by omega) u6 x6_2 (⟨t162, t163, t164, t165⟩ : S37) [.int .i64 t162, .string t163, .string t164, .int .i64 t165] (fun k_ => k_ ≠ gb167) (fun _ => False) rfl (by first | (go_simp; done) | (go_simp; rfl)) ?aP (fun _ hk => hk.elim) ?aF ?aO ?aB ?aS ?aL ?_; (case aP => exact k37_mkM _ _ _ (⟨t162, t163, t164, t165⟩ : S37)); (case aB => exact (by repeat (first | (with_reducible first | exact HB.out | apply below_alloc | apply pw_below_drewN | apply below_drew1 | refine below_set ?_ GE167.out) | exact HB.out))); (case aF => exact (fun k_ hk => Kd.freshB (g := gb167) (o := .cells #[.int .i64 t162, .string t163, .string t164, .int .i64 t165] 37 (0, 0)) (by (with_reducible repeat (first | refine blk_drewN ?_ _ | refine blk_drew ?_ | refine blk_alloc ?_ _)); refine blk_put (cs := #[.int .i64 t162, .string t163, .string t164, .int .i64 0]) ?_ 3 _ rfl; (with_reducible repeat (first | refine blk_drewN ?_ _ | refine blk_drew ?_ | refine blk_alloc ?_ _)); refine blk_put (cs := #[.int .i64 t162, .string t163, .string (⟨#[]⟩ : ByteArray), .int .i64 0]) ?_ 2 _ rfl; (with_reducible repeat (first | refine blk_drewN ?_ _ | refine blk_drew ?_ | refine blk_alloc ?_ _)); refine blk_put (cs := #[.int .i64 t162, .string (⟨#[]⟩ : ByteArray), .string (⟨#[]⟩ : ByteArray), .int .i64 0]) ?_ 1 _ rfl; (with_reducible repeat (first | refine blk_drewN ?_ _ | refine blk_drew ?_ | refine blk_alloc ?_ _)); refine blk_put (cs := #[.int .i64 0, .string (⟨#[]⟩ : ByteArray), .string (⟨#[]⟩ : ByteArray), .int .i64 0]) ?_ 0 _ rfl; (with_reducible repeat (first | refine blk_drewN ?_ _ | refine blk_drew ?_ | refine blk_alloc ?_ _)); exact BK167.out) k_ hk)); (case aO => exact (by (with_reducible repeat (first | apply Kd.R_alloc | apply Kd.R_drewN | apply Kd.R_drew)); exact Kd.R_mono (Kd.R_far (p := ⟨gb167, 3, none⟩) (Kd.R_far (p := ⟨gb167, 2, none⟩) (Kd.R_far (p := ⟨gb167, 1, none⟩) (Kd.R_far (p := ⟨gb167, 0, none⟩) (Kd.R_mono HO_6.out (fun k_ hk => (⟨hk, hk.2⟩ : _ ∧ k_ ≠ gb167))) (fun _ hk => hk.2) (.int .i64 t162)) (fun _ hk => hk.2) (.string t163)) (fun _ hk => hk.2) (.string t164)) (fun _ hk => hk.2) (.int .i64 t165)) (fun _ hk => hk.1.2))); (case aS => exact (below_size (by repeat (first | (with_reducible first | exact HB.out | apply below_alloc | apply pw_below_drewN | apply below_drew1 | refine below_set ?_ GE167.out) | exact HB.out)))); (case aL => have := LMc18.out; omega); intro v169 w22 ho hb hg hat; rw [← Ny168.out] at ho; have n0_ := Aside0.mk (Kd.R_over' (by (with_reducible repeat (first | apply Kd.R_alloc | apply Kd.R_drewN | apply Kd.R_drew)); exact (Kd.R_mono (Kd.R_far (p := ⟨gb167, 3, none⟩) (Kd.R_far (p := ⟨gb167, 2, none⟩) (Kd.R_far (p := ⟨gb167, 1, none⟩) (Kd.R_far (p := ⟨gb167, 0, none⟩) (Kd.R_types HO_25.out BK167.out (by decide)) (fun _ hk => hk.2) (.int .i64 t162)) (fun _ hk => hk.2) (.string t163)) (fun _ hk => hk.2) (.string t164)) (fun _ hk => hk.2) (.int .i64 t165)) (fun _ h_ => h_.1))) (Kd.R_typed (by (with_reducible repeat (first | apply Kd.R_alloc | apply Kd.R_drewN | apply Kd.R_drew)); exact (Kd.R_mono (Kd.R_far (p := ⟨gb167, 3, none⟩) (Kd.R_far (p := ⟨gb167, 2, none⟩) (Kd.R_far (p := ⟨gb167, 1, none⟩) (Kd.R_far (p := ⟨gb167, 0, none⟩) (Kd.R_mono HO_6.out (fun k_ hk => (⟨hk, hk.2⟩ : _ ∧ k_ ≠ gb167))) (fun _ hk => hk.2) (.int .i64 t162)) (fun _ hk => hk.2) (.string t163)) (fun _ hk => hk.2) (.string t164)) (fun _ hk => hk.2) (.int .i64 t165)) (fun _ h_ => h_.1)))) (by decide) hg); have n1_ := Aside0.mk (blk_grown (g := gb167) (o := .cells #[.int .i64 t162, .string t163, .string t164, .int .i64 t165] 37 (0, 0)) (by (with_reducible repeat (first | refine blk_drewN ?_ _ | refine blk_drew ?_ | refine blk_alloc ?_ _)); refine blk_put (cs := #[.int .i64 t162, .string t163, .string t164, .int .i64 0]) ?_ 3 _ rfl; (with_reducible repeat (first | refine blk_drewN ?_ _ | refine blk_drew ?_ | refine blk_alloc ?_ _)); refine blk_put (cs := #[.int .i64 t162, .string t163, .string (⟨#[]⟩ : ByteArray), .int .i64 0]) ?_ 2 _ rfl; (with_reducible repeat (first | refine blk_drewN ?_ _ | refine blk_drew ?_ | refine blk_alloc ?_ _)); refine blk_put (cs := #[.int .i64 t162, .string (⟨#[]⟩ : ByteArray), .string (⟨#[]⟩ : ByteArray), .int .i64 0]) ?_ 1 _ rfl; (with_reducible repeat (first | refine blk_drewN ?_ _ | refine blk_drew ?_ | refine blk_alloc ?_ _)); refine blk_put (cs := #[.int .i64 0, .string (⟨#[]⟩ : ByteArray), .string (⟨#[]⟩ : ByteArray), .int .i64 0]) ?_ 0 _ rfl; (with_reducible repeat (first | refine blk_drewN ?_ _ | refine blk_drew ?_ | refine blk_alloc ?_ _)); exact BK167.out) hg (Kd.R_away HO_6.out (fun _ hk => hk.2))); have n2_ := Aside0.mk (hb); have n3_ := Aside0.mk (ho); clear HO_25; clear BK167; clear HB; clear HO_6; have HO_25 := n0_; have BK167 := n1_; have HB := n2_; have HO170 := n3_; clear n0_ n1_ n2_ n3_; clear ho hb hg hat))
                        go_roundg k2
                        case measure => have := HJ5.out; have := HK2.out; omega
                        case rel => exact ⟨(y168), (wrap64 (x27_2 + 1)), (by first | rfl | (simp; done) | (simp [*]; done)), H', ⟨by have := HJ5.out; have := HK2.out; omega⟩, ⟨by (with_reducible repeat (first | apply Kd.R_alloc | apply Kd.R_drewN | apply Kd.R_drew)); exact Kd.R_mono HO170.out (fun _ hk => trivial)⟩, ⟨by (with_reducible repeat (first | apply Kd.R_alloc | apply Kd.R_drewN | apply Kd.R_drew)); exact HO_25.out⟩, ⟨by repeat (first | (with_reducible first | exact HB.out | apply below_alloc | apply pw_below_drewN | apply below_drew1 | refine below_set ?_ GE167.out) | exact HB.out)⟩⟩
                      · rw [if_neg c18] at H
                        exact absurd H (by simp)
                    · replace c17 := Bool.eq_false_iff.mpr c17
                      subst c17
                      have H1 : (some (([] : List (S37)), 12, wrap64 (x27_2 + 1))) = some (r1, r2, r3) := by rw [if_neg (show ¬ (false = true) by decide)] at H; exact H
                      clear H
                      have H := H1
                      clear H1
                      simp only [Option.some.injEq, Prod.mk.injEq] at H
                      obtain ⟨rfl, rfl, rfl⟩ := H
                      have p161 : 0 ≤ (x27_2 : Int) := of_decide_eq_true (by first | (with_reducible assumption) | assumption)
                      have q161 : x27_2 < (x5_5.length : Int) := of_decide_eq_true (by first | (with_reducible assumption) | assumption)
                      obtain ⟨ad161, e161, hx161_0⟩ := Kd.at_string (Kd.R_reads' HO_25.out).2.2 x27_2 p161 q161
                      cases e161
                      replace p161 := eq_true p161
                      replace q161 := eq_true q161
                      (try (have qz161 := q161; rw [ByteArray.size_extract, Nat.min_self] at qz161))
                      go_wp2_with (first | ((first | ((with_reducible refine gate_callee (f := 25) rfl ?_); refine goesL_ (some 34) rfl rfl Try.func25 (by kernel_rfl) rfl #[.string (rdOf ByteArray.empty x5_5 x27_2)] rfl (by (try simp only [List.map_toArray, List.map_cons, List.map_nil]); first | done | rfl | (simp only [List.length_drop, List.length_take]; rfl)) ?_; (with_reducible refine (trace_read.calls k2 (rdOf ByteArray.empty x5_5 x27_2) t162 t163 t164 t165 false _ A16.out).mono ?_); rintro e w23 ⟨rfl, hb⟩; refine ⟨_, rfl, ?_⟩) | (go_at_call 25; (with_reducible refine (trace_read.calls k2 (rdOf ByteArray.empty x5_5 x27_2) t162 t163 t164 t165 false _ A16.out).mono ?_); rintro e w23 ⟨rfl, hb⟩)); have n0_ := Aside0.mk (Kd.R_below (by (with_reducible repeat (first | apply Kd.R_alloc | apply Kd.R_drewN | apply Kd.R_drew)); exact HO_6.out) hb); have n1_ := Aside0.mk (Kd.R_below (by (with_reducible repeat (first | apply Kd.R_alloc | apply Kd.R_drewN | apply Kd.R_drew)); exact HO_25.out) hb); have n2_ := Aside0.mk (below_step (by repeat (first | (with_reducible first | exact HB.out | apply below_alloc | apply pw_below_drewN | apply below_drew1) | exact HB.out)) hb); clear HO_6; clear HO_25; clear HB; have HO_6 := n0_; have HO_25 := n1_; have HB := n2_; clear n0_ n1_ n2_; (try clear hb); (try clear hb2); (try clear hk); (try clear hi)) | ((with_reducible refine gate_dst (N := 9) rfl ?_); refine box_event ?hg (N := 9) ?hd (cs := #[.int .i64 0, .string (⟨#[]⟩ : ByteArray), .string (⟨#[]⟩ : ByteArray), .int .i64 0]) (t := 37) ?hr ?_; (case hd => rfl); (case hg => rfl); (case hr => first | (go_simp; done) | (go_simp; rfl)); intro gb167 hg w24 hbox hb; have n0_ := Aside0.mk (Kd.R_below (Kd.R_elderB (by (with_reducible repeat (first | apply Kd.R_alloc | apply Kd.R_drewN | apply Kd.R_drew)); exact HO_6.out) gb167 (Nat.le_of_eq hg.symm)) hb); have n1_ := Aside0.mk (Kd.R_below (by (with_reducible repeat (first | apply Kd.R_alloc | apply Kd.R_drewN | apply Kd.R_drew)); exact HO_25.out) hb); have n2_ := Aside0.mk (below_step (by repeat (first | (with_reducible first | exact HB.out | apply below_alloc | apply pw_below_drewN | apply below_drew1) | exact HB.out)) hb); have n3_ := Aside0.mk (hbox); have n4_ := Aside0.mk ((by rw [hg]; exact (below_size (by repeat (first | (with_reducible first | exact HB.out | apply below_alloc | apply pw_below_drewN | apply below_drew1) | exact HB.out))) : w.heap.size ≤ gb167)); have n5_ := Aside0.mk ((by rw [hg]; exact (below_size (by repeat (first | (with_reducible first | exact HB.out | apply below_alloc | apply pw_below_drewN | apply below_drew1) | exact HB.out))) : w.heap.size ≤ gb167)); clear HO_6; clear HO_25; clear HB; have HO_6 := n0_; have HO_25 := n1_; have HB := n2_; have BK167 := n3_; have GW167 := n4_; have GE167 := n5_; clear n0_ n1_ n2_ n3_ n4_ n5_; clear hb hbox hg; have hcz25_0 : w24.cell? ⟨gb167, 0, none⟩ = some (.int .i64 0) := (blk_cell BK167.out 0).trans rfl; have hcz25_1 : w24.cell? ⟨gb167, 1, none⟩ = some (.string (⟨#[]⟩ : ByteArray)) := (blk_cell BK167.out 1).trans rfl; have hcz25_2 : w24.cell? ⟨gb167, 2, none⟩ = some (.string (⟨#[]⟩ : ByteArray)) := (blk_cell BK167.out 2).trans rfl; have hcz25_3 : w24.cell? ⟨gb167, 3, none⟩ = some (.int .i64 0) := (blk_cell BK167.out 3).trans rfl; have hfz25_0 := blk_frozen BK167.out 0; have hfz25_1 := blk_frozen BK167.out 1; have hfz25_2 := blk_frozen BK167.out 2; have hfz25_3 := blk_frozen BK167.out 3))
                      go_ret3
                      exact ⟨_, by first | rfl | (simp [errW_none, errW_some] <;> rfl) | (simp only [← hji3]; first | rfl | (simp [errW_none, errW_some] <;> rfl)) | (simp [*, errW_none, errW_some] <;> rfl), by first | exact Kd.R_nil _ _ _ _ _ | exact Kd.N_nil _ _ _ _ _ | exact Kd.V_nil _ _ _ _ _ | exact Kd.Q_nil _ _ _ _ _ | exact Kd.S_nil _ _ _ _ _, by repeat (first | (with_reducible first | exact HB.out | apply below_alloc | apply pw_below_drewN | apply below_drew1 | refine below_set ?_ GE167.out) | exact HB.out)⟩
                  · rw [if_neg c15] at H
                    exact absurd H (by simp)
                · rw [if_neg c14] at H
                  exact absurd H (by simp)
              · rw [if_neg c13] at H
                have c13b0 : decide (x27_2 < (x5_5.length : Int)) = false := decide_eq_false c13
                clear c13
                simp only [Option.some.injEq, Prod.mk.injEq] at H
                obtain ⟨rfl, rfl, rfl⟩ := H
                go_wp2
                go_ret3
                exact ⟨_, by first | rfl | (simp [errW_none, errW_some] <;> rfl) | (simp only [← hji3]; first | rfl | (simp [errW_none, errW_some] <;> rfl)) | (simp [*, errW_none, errW_some] <;> rfl), by (with_reducible repeat (first | apply Kd.R_alloc | apply Kd.R_drewN | apply Kd.R_drew)); exact HO_6.out, by repeat (first | (with_reducible first | exact HB.out | apply below_alloc | apply pw_below_drewN | apply below_drew1) | exact HB.out)⟩
    · rw [if_neg c5] at H
      exact absurd H (by simp)
  · rw [if_neg c4] at H
    exact absurd H (by simp)
end Go.Proofs.Ytngmcigkihfnkaa.H
end
