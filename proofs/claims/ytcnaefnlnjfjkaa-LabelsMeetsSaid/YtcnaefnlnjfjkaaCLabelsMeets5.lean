import Derived.Test.YtcnaefnlnjfjkaaCLabelsMeets0
import Derived.Test.YtcnaefnlnjfjkaaCLabelsMeets1
import Derived.Test.YtcnaefnlnjfjkaaCLabelsMeets2
import Derived.Test.YtcnaefnlnjfjkaaCLabelsMeets3
import Derived.Test.YtcnaefnlnjfjkaaCLabelsMeets4
section
namespace Go.Proofs.Ytcnaefnlnjfjkaa.H
open Go.RowKit Go.Proofs.YtcnaefnlnjfjkaaW.PrintWords Go.Proofs.YtcnaefnlnjfjkaaW.PrintLast Go.Proofs.YtcnaefnlnjfjkaaW.PrintMore
attribute [local go_sem] max2_int min2_int max_two min_two max_three min_three max_four min_four   -- for this text's walks alone
set_option linter.unusedVariables false
set_option linter.unusedSimpArgs false
def lrGt (pre : List S31) (x : S31) : Bool := match pre.getLast? with | none => false | some y => !(Op.bytesLess y.f0.toList x.f0.toList || y.f0.toList == x.f0.toList)
def lrHad (pre : List S31) (s : ByteArray) : Bool := pre.any (fun y => decide (y.f0 = s))
def labels_Right.go : List S31 → List S31 → Option Bool
  | pre, [] => some (decide ((pre.length : Int) ≤ 16))
  | pre, x :: xs => if x.f0.size ≤ 140737488351232 then (if lrHad pre x.f0 = true then some false else (lex_Word.f x.f0).bind fun a => if a = false then some false else (labels_maybe.f x.f1).bind fun m => if m = false then some false else if lrGt pre x = true then some false else labels_Right.go (pre ++ [x]) xs) else none
def labels_Right.f (l0 : List S31) : Option Bool := labels_Right.go [] l0
def lrCnt (pre : List S31) (s : ByteArray) : Int := if lrHad pre s = true then 1 else 0
theorem lrCnt_snoc (pre : List S31) (x : S31) (h : lrHad pre x.f0 = false) (s : ByteArray) : (if s = x.f0 then 1 else lrCnt pre s) = lrCnt (pre ++ [x]) s := by
  unfold lrCnt lrHad at *
  rw [List.any_append]
  by_cases hs : s = x.f0
  · subst hs; simp
  · have : ¬ x.f0 = s := fun e => hs e.symm
    simp [hs, this]
theorem rd_at (pre : List S31) (x : S31) (xs : List S31) : rd_T31 (pre ++ x :: xs) (pre.length : Int) = x := by
  unfold rd_T31
  simp [List.getD_eq_getElem?_getD]
theorem lrGt_at (pre : List S31) (x : S31) (xs : List S31) (h : 0 < pre.length) : lrGt pre x = !(Op.bytesLess (rd_T31 (pre ++ x :: xs) ((pre.length : Int) - 1)).f0.toList x.f0.toList || (rd_T31 (pre ++ x :: xs) ((pre.length : Int) - 1)).f0.toList == x.f0.toList) := by
  obtain ⟨y, hy⟩ : ∃ y, pre.getLast? = some y := by
    cases hp : pre.getLast? with
    | none => rw [List.getLast?_eq_none_iff] at hp; simp [hp] at h
    | some y => exact ⟨y, rfl⟩
  have e : rd_T31 (pre ++ x :: xs) ((pre.length : Int) - 1) = y := by
    unfold rd_T31
    have h1 : ((pre.length : Int) - 1).toNat = pre.length - 1 := by omega
    rw [h1, List.getD_eq_getElem?_getD, List.getElem?_append_left (by omega)]
    rw [List.getLast?_eq_getElem?] at hy
    rw [hy]; rfl
  unfold lrGt
  rw [hy, e]
theorem lrZero (w : World) : (zeroValue 3).run Try.prog w = .ok (.int .i64 0) w := by kernel_rfl
set_option maxHeartbeats 8000000 in
set_option maxRecDepth 100000 in
theorem labels_Right.calls (A0 : Option Addr) (c0 : Nat) (l0 : List S31) (r : Bool) (w : World) (hr0 : Kd.C k31 w A0 l0.length l0) (hc0 : l0.length ≤ c0) (h : labels_Right.f l0 = some r) :
    Calls Try.prog 26 #[.slice A0 l0.length c0] w fun e w' => e = .returned (.bool r) ∧ Below w.heap.size w w' := by
  have hmm := @run_makeMap Try.prog
  have hlen := hr0.1
  have hmax : l0.length ≤ 9223372036854775807 := hr0.2.1
  have HR0 := Aside0.mk hr0
  clear hr0
  have H := Aside0.mk h
  clear h
  go_enter Try.func26, Try.ntmps26
  go_wp2
  go_loopw [9] (fun v w' => ∃ (pre suf : List S31) (i : Int), Aside0 (l0 = pre ++ suf) ∧ Aside0 (i = pre.length) ∧ v = .int .i64 i ∧ Aside0 (MapSI Try.prog 9 3 w' w.heap.size pre.length (lrCnt pre)) ∧ Aside0 (Below w.heap.size w w') ∧ Aside0 (labels_Right.go pre suf = some r)) (fun v w' => l0.length - (intOf v).toNat)
  case atStart => exact ⟨[], l0, 0, ⟨rfl⟩, ⟨rfl⟩, rfl, ⟨MapSI.made _ _ _ _⟩, ⟨(Below.refl _ _).alloc (Nat.le_refl _) _⟩, H⟩
  case round =>
    clear H
    obtain ⟨pre, suf, i, HL, HI, rfl, HM, HB, HG⟩ := hrel
    cases suf with
    | nil =>
      have q1 : decide (i < (l0.length : Int)) = false := decide_eq_false (by rw [HL.out, HI.out]; simp)
      go_wp2
      go_ret
      have h1 := HG.out
      simp only [labels_Right.go, Option.some.injEq] at h1
      have h2 : l0 = pre := by have := HL.out; simpa using this
      rw [← h2] at h1
      exact ⟨by rw [← h1]; first | rfl | (simp; done), HB.out⟩
    | cons x xs =>
      have q1 : i < (l0.length : Int) := by rw [HL.out, HI.out]; simp; omega
      have p1 : 0 ≤ i := by rw [HI.out]; omega
      obtain ⟨ad, e1, hx0, hx1⟩ := at_T31 HR0.out i p1 q1
      have hrd : rd_T31 l0 i = x := by rw [HL.out, HI.out]; exact rd_at _ _ _
      rw [hrd] at hx0 hx1
      clear hrd
      subst e1
      replace hx0 := (HB.out.cell (World.block_lt_of_cell? w _ hx0)).trans hx0
      replace hx1 := (HB.out.cell (World.block_lt_of_cell? w _ hx1)).trans hx1
      have hu31 := Try.underlying31
      have hg := HG.out
      simp only [labels_Right.go] at hg
      clear HG
      by_cases hs : x.f0.size ≤ 140737488351232
      · rw [if_pos hs] at hg
        have hs2 : x.f0.size ≤ maxLen := by unfold maxLen; omega
        have HM1 := Aside0.mk (HM.out.below (below_alloc (Below.refl _ _) (.cells #[.string x.f0, .string x.f1] 31)))
        have hn : pre.length < maxLen := by have := HI.out; unfold maxLen; omega
        have HB1 := Aside0.mk (HB.out.alloc HB.out.size (.cells #[.string x.f0, .string x.f1] 31))
        have HC0 : (wr.alloc (.cells #[.string x.f0, .string x.f1] 31)).cell? ⟨wr.heap.size, 0, none⟩ = some (.string x.f0) := by simp
        have HC1 : (wr.alloc (.cells #[.string x.f0, .string x.f1] 31)).cell? ⟨wr.heap.size, 1, none⟩ = some (.string x.f1) := by simp
        have HC := Aside0.mk (And.intro HC0 HC1)
        clear HC0 HC1
        have HBm : w.heap.size < wr.heap.size := HM.out.lt
        cases hd : lrHad pre x.f0 with
        | true =>
          rw [hd] at hg
          simp only [if_true, Option.some.injEq] at hg
          subst hg
          have hlk := HM1.out.lookup Try.underlying9 Try.underlying3 Try.underlying54 lrZero hs2
          rw [show lrCnt pre x.f0 = 1 by unfold lrCnt; rw [hd]; rfl] at hlk
          go_wp2_with (first | (at_mapUpdate; refine wpList_mapUpdate_si _ rfl _ _ _ 54 rfl 9 3 Try.underlying9 Try.underlying3 Try.underlying54 w.heap.size pre.length _ rfl HM1.out hn _ 2 rfl rfl hs2 (by decide) ?_; intro w2 HM2 hgrow))
          clear hlk
          replace HM2 := Aside0.mk HM2
          have hb0 := hgrow.cell HC.out.1 (by simp; omega)
          have hb1 := hgrow.cell HC.out.2 (by simp; omega)
          have hlk : ∀ q : BW w2, (Instr.lookup 54 (.map (some w.heap.size)) (.string x.f0) false).run Try.prog q.1 = .ok (.int .i64 2) q.1 := fun q => by
            have := (HM2.out.below q.2).lookup Try.underlying9 Try.underlying3 Try.underlying54 lrZero hs2
            rwa [if_pos rfl] at this
          have hq0 := fun q : BW w2 => q.cell hb0
          have hq1 := fun q : BW w2 => q.cell hb1
          have HB2 := Aside0.mk (HB1.out.grown hgrow HB1.out.size (fun j hj => by cases hj; exact Nat.le_refl _))
          clear hgrow hb0 hb1
          simp only [Act.put]
          refine wp_region_bw (by kernel_rfl) (by kernel_rfl) ?_
          repeat (go_big_quiet_step (fail))
          refine wpQuiet_nil ?_
          intro q
          go_wp2
          go_ret
          exact ⟨rfl, below_then HB2.out HB2.out.size q.2⟩
        | false =>
          rw [hd] at hg
          simp only [Bool.false_eq_true, if_false] at hg
          have hlk := HM1.out.lookup Try.underlying9 Try.underlying3 Try.underlying54 lrZero hs2
          rw [show lrCnt pre x.f0 = 0 by unfold lrCnt; rw [hd]; rfl] at hlk
          go_wp2_with (first | (at_mapUpdate; refine wpList_mapUpdate_si _ rfl _ _ _ 54 rfl 9 3 Try.underlying9 Try.underlying3 Try.underlying54 w.heap.size pre.length _ rfl HM1.out hn _ 1 rfl rfl hs2 (by decide) ?_; intro w2 HM2 hgrow))
          clear hlk
          replace HM2 := Aside0.mk HM2
          have hb0 := hgrow.cell HC.out.1 (by simp; omega)
          have hb1 := hgrow.cell HC.out.2 (by simp; omega)
          have hlk : ∀ q : BW w2, (Instr.lookup 54 (.map (some w.heap.size)) (.string x.f0) false).run Try.prog q.1 = .ok (.int .i64 1) q.1 := fun q => by
            have := (HM2.out.below q.2).lookup Try.underlying9 Try.underlying3 Try.underlying54 lrZero hs2
            rwa [if_pos rfl] at this
          have hq0 := fun q : BW w2 => q.cell hb0
          have hq1 := fun q : BW w2 => q.cell hb1
          have HB2 := Aside0.mk (HB1.out.grown hgrow HB1.out.size (fun j hj => by cases hj; exact Nat.le_refl _))
          clear hgrow hb0 hb1 hx0 hx1
          obtain ⟨aw, hw, hg⟩ := Option.bind_eq_some_iff.1 hg
          have HW := Aside0.mk (fun W : World => lex_Word.calls x.f0 aw W hw)
          have HV := Aside0.mk True.intro
          clear hw
          cases aw with
          | false =>
            simp only [if_true, Option.some.injEq] at hg
            subst hg
            simp only [Act.put]
            refine wp_region_bw (by kernel_rfl) (by kernel_rfl) ?_
            repeat (go_big_quiet_step (first | (go_at_call 35; exact Calls.bw (HW.out _)) | (go_at_call 36; exact Calls.bw (HV.out _))))
            refine wpQuiet_nil ?_
            intro q
            go_wp2
            go_ret
            exact ⟨rfl, below_then HB2.out HB2.out.size q.2⟩
          | true =>
            simp only [Bool.true_eq_false, if_false] at hg
            obtain ⟨am, hm, hg⟩ := Option.bind_eq_some_iff.1 hg
            replace HV := Aside0.mk (fun W : World => labels_maybe.calls x.f1 am W hm)
            clear hm
            cases am with
            | false =>
              simp only [if_true, Option.some.injEq] at hg
              subst hg
              simp only [Act.put]
              refine wp_region_bw (by kernel_rfl) (by kernel_rfl) ?_
              repeat (go_big_quiet_step (first | (go_at_call 35; exact Calls.bw (HW.out _)) | (go_at_call 36; exact Calls.bw (HV.out _))))
              refine wpQuiet_nil ?_
              intro q
              go_wp2
              go_ret
              exact ⟨rfl, below_then HB2.out HB2.out.size q.2⟩
            | true =>
              simp only [Bool.true_eq_false, if_false] at hg
              by_cases hi : 0 < i
              · have hgt := lrGt_at pre x xs (by have := HI.out; omega)
                rw [← HL.out, ← HI.out] at hgt
                obtain ⟨ad2, e2, hy0, _⟩ := at_T31 HR0.out (i - 1) (by omega) (by omega)
                obtain rfl : ad = ad2 := by injection e2
                rw [show (i - 1).toNat = i.toNat - 1 by omega] at hy0
                replace hy0 := HB2.out.cell (World.block_lt_of_cell? w _ hy0) |>.trans hy0
                have hqy := fun q : BW w2 => q.cell hy0
                clear hy0
                have p2 : 0 ≤ i - 1 := by omega
                have q2 : i - 1 < (l0.length : Int) := by omega
                generalize hgb : lrGt pre x = gb at hg hgt
                cases gb with
                | true =>
                  replace hgt := hgt.symm
                  simp only [if_true, Option.some.injEq] at hg
                  subst hg
                  simp only [Act.put]
                  refine wp_region_bw (by kernel_rfl) (by kernel_rfl) ?_
                  repeat (go_big_quiet_step (first | (go_at_call 35; exact Calls.bw (HW.out _)) | (go_at_call 36; exact Calls.bw (HV.out _))))
                  refine wpQuiet_nil ?_
                  intro q
                  go_wp2
                  go_ret
                  exact ⟨rfl, below_then HB2.out HB2.out.size q.2⟩
                | false =>
                  replace hgt := hgt.symm
                  simp only [Bool.false_eq_true, if_false] at hg
                  simp only [Act.put]
                  refine wp_region_bw (by kernel_rfl) (by kernel_rfl) ?_
                  repeat (go_big_quiet_step (first | (go_at_call 35; exact Calls.bw (HW.out _)) | (go_at_call 36; exact Calls.bw (HV.out _))))
                  refine wpQuiet_nil ?_
                  intro q
                  go_wp2
                  go_roundw
                  case rel => exact ⟨pre ++ [x], xs, i + 1, ⟨by rw [HL.out]; simp⟩, ⟨by rw [HI.out]; simp⟩, rfl, ⟨by
                    have h1 := (HM2.out.below q.2).congr (g := lrCnt (pre ++ [x])) (fun s _ => lrCnt_snoc pre x hd s)
                    rwa [show (pre ++ [x]).length = pre.length + 1 by simp]⟩, ⟨below_then HB2.out HB2.out.size q.2⟩, ⟨hg⟩⟩
                  case measure => simp [intOf]; omega
              · have hi2 : decide (0 < i) = false := decide_eq_false hi
                have hgt : lrGt pre x = false := by
                  have h0 : pre = [] := List.eq_nil_of_length_eq_zero (by have := HI.out; omega)
                  subst h0
                  rfl
                rw [hgt] at hg
                simp only [Bool.false_eq_true, if_false] at hg
                simp only [Act.put]
                refine wp_region_bw (by kernel_rfl) (by kernel_rfl) ?_
                repeat (go_big_quiet_step (first | (go_at_call 35; exact Calls.bw (HW.out _)) | (go_at_call 36; exact Calls.bw (HV.out _))))
                refine wpQuiet_nil ?_
                intro q
                go_wp2
                go_roundw
                case rel => exact ⟨pre ++ [x], xs, i + 1, ⟨by rw [HL.out]; simp⟩, ⟨by rw [HI.out]; simp⟩, rfl, ⟨by
                  have h1 := (HM2.out.below q.2).congr (g := lrCnt (pre ++ [x])) (fun s _ => lrCnt_snoc pre x hd s)
                  rwa [show (pre ++ [x]).length = pre.length + 1 by simp]⟩, ⟨below_then HB2.out HB2.out.size q.2⟩, ⟨hg⟩⟩
                case measure => simp [intOf]; omega
      · rw [if_neg hs] at hg
        cases hg
end Go.Proofs.Ytcnaefnlnjfjkaa.H
end
section
namespace Go.Proofs.Ytcnaefnlnjfjkaa.H
open Go.RowKit Go.Proofs.YtcnaefnlnjfjkaaW.PrintWords Go.Proofs.YtcnaefnlnjfjkaaW.PrintLast Go.Proofs.YtcnaefnlnjfjkaaW.PrintMore
attribute [local go_sem] max2_int min2_int max_two min_two max_three min_three max_four min_four   -- for this text's walks alone
set_option linter.unusedVariables false
set_option linter.unusedSimpArgs false
mutual
def labels_RightTerm.j0 : Nat → ByteArray → Int → List ByteArray → Option (Bool)
  | 0, _, _, _ => none
  | k + 1, x191000, x191001, x191002 => labels_RightTerm.l0 k x191002 (x191002.length : Int) 0 x191000 x191001 x191002
def labels_RightTerm.l0 : Nat → List ByteArray → Int → Int → ByteArray → Int → List ByteArray → Option (Bool)
  | 0, _, _, _, _, _, _ => none
  | k + 1, x25, x26, x27, x191000, x191001, x191002 => if x27 < x26 then (if 0 ≤ x27 then (if x27 < (x25.length : Int) then ((labels_maybe.f (rdOf ByteArray.empty x25 x27)).bind fun t199 => (if t199 = true then (labels_RightTerm.l0 k x25 x26 (wrap64 (x27 + 1)) x191000 x191001 x191002) else (some false))) else (none)) else (none)) else (if (x191002.length : Int) ≥ 1 then (some (decide ((x191002.length : Int) ≤ 16))) else (some false))
end
def labels_RightTerm.f (k : Nat) (a0_0 : ByteArray) (a0_1 : Int) (l0_2 : List ByteArray) : Option (Bool) := (lex_Word.f a0_0).bind fun t191 => (if t191 = true then (if a0_1 = 1 then (labels_RightTerm.j0 k a0_0 a0_1 l0_2) else (if a0_1 = 2 then (labels_RightTerm.j0 k a0_0 a0_1 l0_2) else (if a0_1 = 3 then (some ((l0_2.length : Int) == 0)) else (if a0_1 = 4 then (some ((l0_2.length : Int) == 0)) else (if a0_1 = 5 then (if (l0_2.length : Int) = 1 then (if 0 < (l0_2.length : Int) then ((labels_number.f k (rdOf ByteArray.empty l0_2 0)).bind fun bt193 => (some bt193.2)) else (none)) else (some false)) else (if a0_1 = 6 then (if (l0_2.length : Int) = 1 then (if 0 < (l0_2.length : Int) then ((labels_number.f k (rdOf ByteArray.empty l0_2 0)).bind fun bt196 => (some bt196.2)) else (none)) else (some false)) else (some false))))))) else (some false))
theorem labels_RightTerm.mono_l : ∀ k, (∀ y0 y1 y2, LeO (labels_RightTerm.j0 k y0 y1 y2) (labels_RightTerm.j0 (k + 1) y0 y1 y2)) ∧ (∀ y0 y1 y2 y3 y4 y5, LeO (labels_RightTerm.l0 k y0 y1 y2 y3 y4 y5) (labels_RightTerm.l0 (k + 1) y0 y1 y2 y3 y4 y5))
  | 0 => ⟨fun _ _ _ r h => by simp [labels_RightTerm.j0] at h, fun _ _ _ _ _ _ r h => by simp [labels_RightTerm.l0] at h⟩
  | k + 1 => by
    obtain ⟨ih0, ih1⟩ := labels_RightTerm.mono_l k
    refine ⟨?_, ?_⟩
    · intro y0 y1 y2
      unfold labels_RightTerm.j0
      repeat' first
      | (with_reducible exact ih0 _ _ _)
      | (with_reducible exact ih1 _ _ _ _ _ _)
      | (with_reducible exact labels_number.mono _ _)
      | (with_reducible exact LeO.refl _)
      | (with_reducible exact LeO.none _)
      | (with_reducible refine LeO.ite ?_ ?_)
      | (with_reducible refine LeO.bind ?_ (fun _ => ?_))
      | exact ih0 _ _ _
      | exact ih1 _ _ _ _ _ _
      | exact labels_number.mono _ _
      | exact LeO.none _
      | refine LeO.ite ?_ ?_
      | refine LeO.bind ?_ (fun _ => ?_)
    · intro y0 y1 y2 y3 y4 y5
      unfold labels_RightTerm.l0
      repeat' first
      | (with_reducible exact ih0 _ _ _)
      | (with_reducible exact ih1 _ _ _ _ _ _)
      | (with_reducible exact labels_number.mono _ _)
      | (with_reducible exact LeO.refl _)
      | (with_reducible exact LeO.none _)
      | (with_reducible refine LeO.ite ?_ ?_)
      | (with_reducible refine LeO.bind ?_ (fun _ => ?_))
      | exact ih0 _ _ _
      | exact ih1 _ _ _ _ _ _
      | exact labels_number.mono _ _
      | exact LeO.none _
      | refine LeO.ite ?_ ?_
      | refine LeO.bind ?_ (fun _ => ?_)
theorem labels_RightTerm.mono : ∀ a0 a1 a2 k, LeO (labels_RightTerm.f k a0 a1 a2) (labels_RightTerm.f (k + 1) a0 a1 a2) := by
  intro a0 a1 a2 k
  obtain ⟨ih0, ih1⟩ := labels_RightTerm.mono_l k
  unfold labels_RightTerm.f
  repeat' first
      | (with_reducible exact ih0 _ _ _)
      | (with_reducible exact ih1 _ _ _ _ _ _)
      | (with_reducible exact labels_number.mono _ _)
      | (with_reducible exact LeO.refl _)
      | (with_reducible exact LeO.none _)
      | (with_reducible refine LeO.ite ?_ ?_)
      | (with_reducible refine LeO.bind ?_ (fun _ => ?_))
      | exact ih0 _ _ _
      | exact ih1 _ _ _ _ _ _
      | exact labels_number.mono _ _
      | exact LeO.none _
      | refine LeO.ite ?_ ?_
      | refine LeO.bind ?_ (fun _ => ?_)
set_option maxHeartbeats 8000000 in
set_option maxRecDepth 100000 in
theorem labels_RightTerm.calls (k : Nat) (a0_0 : ByteArray) (a0_1 : Int) (A0_2 : Option Addr) (c0_2 : Nat) (l0_2 : List ByteArray) (r : Bool) (w : World) (hr0_2 : Kd.C Kd.string w A0_2 l0_2.length l0_2) (hc0_2 : l0_2.length ≤ c0_2) (h : labels_RightTerm.f k a0_0 a0_1 l0_2 = some r) :
    Calls Try.prog 27 #[.agg #[.string a0_0, .int .i64 a0_1, .slice A0_2 l0_2.length c0_2]] w fun e w' => e = .returned (.bool r) ∧ Below w.heap.size w w' := by
  have hu37 := Try.underlying37
  have HR0_2 := Aside0.mk hr0_2
  have HC0_2 := Aside0.mk hc0_2
  clear hr0_2 hc0_2
  have HB := Aside0.mk (Below.refl w.heap.size w)
  have H : ((lex_Word.f a0_0).bind fun t191 => (if t191 = true then (if a0_1 = 1 then (labels_RightTerm.j0 k a0_0 a0_1 l0_2) else (if a0_1 = 2 then (labels_RightTerm.j0 k a0_0 a0_1 l0_2) else (if a0_1 = 3 then (some ((l0_2.length : Int) == 0)) else (if a0_1 = 4 then (some ((l0_2.length : Int) == 0)) else (if a0_1 = 5 then (if (l0_2.length : Int) = 1 then (if 0 < (l0_2.length : Int) then ((labels_number.f k (rdOf ByteArray.empty l0_2 0)).bind fun bt193 => (some bt193.2)) else (none)) else (some false)) else (if a0_1 = 6 then (if (l0_2.length : Int) = 1 then (if 0 < (l0_2.length : Int) then ((labels_number.f k (rdOf ByteArray.empty l0_2 0)).bind fun bt196 => (some bt196.2)) else (none)) else (some false)) else (some false))))))) else (some false))) = some r := h
  clear h
  replace H := Option.bind_eq_some_iff.mp H
  obtain ⟨t191, A20, H⟩ := H
  replace H : (if t191 = true then (if a0_1 = 1 then (labels_RightTerm.j0 k a0_0 a0_1 l0_2) else (if a0_1 = 2 then (labels_RightTerm.j0 k a0_0 a0_1 l0_2) else (if a0_1 = 3 then (some ((l0_2.length : Int) == 0)) else (if a0_1 = 4 then (some ((l0_2.length : Int) == 0)) else (if a0_1 = 5 then (if (l0_2.length : Int) = 1 then (if 0 < (l0_2.length : Int) then ((labels_number.f k (rdOf ByteArray.empty l0_2 0)).bind fun bt193 => (some bt193.2)) else (none)) else (some false)) else (if a0_1 = 6 then (if (l0_2.length : Int) = 1 then (if 0 < (l0_2.length : Int) then ((labels_number.f k (rdOf ByteArray.empty l0_2 0)).bind fun bt196 => (some bt196.2)) else (none)) else (some false)) else (some false))))))) else (some false)) = some r := H
  have A2 := Aside0.mk A20
  clear A20
  by_cases c3 : t191 = true
  · subst c3
    have H1 : (if a0_1 = 1 then (labels_RightTerm.j0 k a0_0 a0_1 l0_2) else (if a0_1 = 2 then (labels_RightTerm.j0 k a0_0 a0_1 l0_2) else (if a0_1 = 3 then (some ((l0_2.length : Int) == 0)) else (if a0_1 = 4 then (some ((l0_2.length : Int) == 0)) else (if a0_1 = 5 then (if (l0_2.length : Int) = 1 then (if 0 < (l0_2.length : Int) then ((labels_number.f k (rdOf ByteArray.empty l0_2 0)).bind fun bt193 => (some bt193.2)) else (none)) else (some false)) else (if a0_1 = 6 then (if (l0_2.length : Int) = 1 then (if 0 < (l0_2.length : Int) then ((labels_number.f k (rdOf ByteArray.empty l0_2 0)).bind fun bt196 => (some bt196.2)) else (none)) else (some false)) else (some false))))))) = some r := by rw [if_pos rfl] at H; exact H
    clear H
    have H := H1
    clear H1
    have HC4 := Aside0.mk H
    clear H
    go_enter Try.func27, Try.ntmps27
    go_upto_block 2 with (first | ((with_reducible refine gate_dst (N := 1) rfl ?_); (try (refine gate_guard (by rfl) ?_; dsimp only)); refine box_event ?hg (N := 1) ?hd (cs := #[.string a0_0, .int .i64 a0_1, .slice A0_2 l0_2.length c0_2]) (t := 37) ?hr ?_; (case hd => rfl); (case hg => rfl); (case hr => first | (go_simp; done) | (go_simp; rfl)); intro gb190 hg w5 hbox hb; have n0_ := Aside0.mk (below_step (by repeat (first | (with_reducible first | exact HB.out | apply below_alloc | apply pw_below_drewN | apply below_drew1) | exact HB.out)) hb); have n1_ := Aside0.mk (hbox); have n2_ := Aside0.mk ((by rw [hg]; exact (below_size (by repeat (first | (with_reducible first | exact HB.out | apply below_alloc | apply pw_below_drewN | apply below_drew1) | exact HB.out))) : w.heap.size ≤ gb190)); have n3_ := Aside0.mk ((by rw [hg]; exact (below_size (by repeat (first | (with_reducible first | exact HB.out | apply below_alloc | apply pw_below_drewN | apply below_drew1) | exact HB.out))) : w.heap.size ≤ gb190)); clear HB; have HB := n0_; have BK190 := n1_; have GW190 := n2_; have GE190 := n3_; clear n0_ n1_ n2_ n3_; clear hb hbox hg; have hcz6_0 : w5.cell? ⟨gb190, 0, none⟩ = some (.string a0_0) := (blk_cell BK190.out 0).trans rfl; have hcz6_1 : w5.cell? ⟨gb190, 1, none⟩ = some (.int .i64 a0_1) := (blk_cell BK190.out 1).trans rfl; have hcz6_2 : w5.cell? ⟨gb190, 2, none⟩ = some (.slice A0_2 l0_2.length c0_2) := (blk_cell BK190.out 2).trans rfl; have hfz6_0 := blk_frozen BK190.out 0; have hfz6_1 := blk_frozen BK190.out 1; have hfz6_2 := blk_frozen BK190.out 2) | ((first | ((with_reducible refine gate_callee (f := 35) rfl ?_); refine goesL_ (some 9) rfl rfl Try.func35 (by kernel_rfl) rfl #[.string a0_0] rfl (by (try simp only [List.map_toArray, List.map_cons, List.map_nil]); first | done | rfl | (simp only [List.length_drop, List.length_take]; rfl)) ?_; (with_reducible refine (lex_Word.calls a0_0 true _ A2.out).mono ?_); rintro e w7 ⟨rfl, hb⟩; refine ⟨_, rfl, ?_⟩) | (go_at_call 35; (with_reducible refine (lex_Word.calls a0_0 true _ A2.out).mono ?_); rintro e w7 ⟨rfl, hb⟩)); have n0_ := Aside0.mk (blk_below (g := gb190) (o := .cells #[.string a0_0, .int .i64 a0_1, .slice A0_2 l0_2.length c0_2] 37 (0, 0)) (by (with_reducible repeat (first | refine blk_drewN ?_ _ | refine blk_drew ?_ | refine blk_alloc ?_ _)); exact BK190.out) hb); have n1_ := Aside0.mk (below_step (by repeat (first | (with_reducible first | exact HB.out | apply below_alloc | apply pw_below_drewN | apply below_drew1 | refine below_set ?_ GE190.out) | exact HB.out)) hb); clear BK190; clear HB; have BK190 := n0_; have HB := n1_; clear n0_ n1_; (try clear hb); (try clear hb2); (try clear hk); (try clear hi); have hcz8_0 : w7.cell? ⟨gb190, 0, none⟩ = some (.string a0_0) := (blk_cell BK190.out 0).trans rfl; have hcz8_1 : w7.cell? ⟨gb190, 1, none⟩ = some (.int .i64 a0_1) := (blk_cell BK190.out 1).trans rfl; have hcz8_2 : w7.cell? ⟨gb190, 2, none⟩ = some (.slice A0_2 l0_2.length c0_2) := (blk_cell BK190.out 2).trans rfl; have hfz8_0 := blk_frozen BK190.out 0; have hfz8_1 := blk_frozen BK190.out 1; have hfz8_2 := blk_frozen BK190.out 2))
    (try simp only [Act.put, List.setIfInBounds_toArray, List.set_cons_zero, List.set_cons_succ])
    go_cut [] (fun wc => ∃ (kq : Nat), Aside0 (labels_RightTerm.j0 kq a0_0 a0_1 l0_2 = some r) ∧ Aside0 (kq ≤ k) ∧ Aside0 (wc.heap[gb190]? = some (.cells #[.string a0_0, .int .i64 a0_1, (.slice A0_2 l0_2.length c0_2)] 37 (0, 0))) ∧ Aside0 (Below w.heap.size w wc))
    case first =>
      have H := HC4.out
      clear HC4
      by_cases c9 : a0_1 = 1
      · rw [if_pos c9] at H
        have c9b0 : (a0_1 == 1) = true := beq_iff_eq.mpr c9
        have c9b1 : (a0_1 != 1) = false := bne_eq_false_iff_eq.mpr c9
        clear c9
        (first | rw [c9b0] | (simp only [i64_w, i32_w]; rw [c9b0]) | skip)
        have H' := Aside0.mk H
        clear H
        go_wp2
        go_meet
        case rel => exact ⟨_, H', ⟨by first | omega | exact Nat.le_refl _⟩, ⟨by (with_reducible repeat (first | refine blk_drewN ?_ _ | refine blk_drew ?_ | refine blk_alloc ?_ _)); exact BK190.out⟩, ⟨by repeat (first | (with_reducible first | exact HB.out | apply below_alloc | apply pw_below_drewN | apply below_drew1 | refine below_set ?_ GE190.out) | exact HB.out)⟩⟩
      · rw [if_neg c9] at H
        have c9b0 : (a0_1 == 1) = false := beq_eq_false_iff_ne.mpr c9
        have c9b1 : (a0_1 != 1) = true := bne_iff_ne.mpr c9
        (first | rw [c9b0] | (simp only [i64_w, i32_w]; rw [c9b0]) | skip)
        by_cases c10 : a0_1 = 2
        · rw [if_pos c10] at H
          have c10b0 : (a0_1 == 2) = true := beq_iff_eq.mpr c10
          have c10b1 : (a0_1 != 2) = false := bne_eq_false_iff_eq.mpr c10
          clear c10
          have H' := Aside0.mk H
          clear H
          go_wp2
          go_meet
          case rel => exact ⟨_, H', ⟨by first | omega | exact Nat.le_refl _⟩, ⟨by (with_reducible repeat (first | refine blk_drewN ?_ _ | refine blk_drew ?_ | refine blk_alloc ?_ _)); exact BK190.out⟩, ⟨by repeat (first | (with_reducible first | exact HB.out | apply below_alloc | apply pw_below_drewN | apply below_drew1 | refine below_set ?_ GE190.out) | exact HB.out)⟩⟩
        · rw [if_neg c10] at H
          have c10b0 : (a0_1 == 2) = false := beq_eq_false_iff_ne.mpr c10
          have c10b1 : (a0_1 != 2) = true := bne_iff_ne.mpr c10
          by_cases c11 : a0_1 = 3
          · rw [if_pos c11] at H
            have c11b0 : (a0_1 == 3) = true := beq_iff_eq.mpr c11
            have c11b1 : (a0_1 != 3) = false := bne_eq_false_iff_eq.mpr c11
            clear c11
            obtain rfl := Option.some.inj H
            have hcz12_0 : w7.cell? ⟨gb190, 0, none⟩ = some (.string a0_0) := (blk_cell BK190.out 0).trans rfl
            have hcz12_1 : w7.cell? ⟨gb190, 1, none⟩ = some (.int .i64 a0_1) := (blk_cell BK190.out 1).trans rfl
            have hcz12_2 : w7.cell? ⟨gb190, 2, none⟩ = some (.slice A0_2 l0_2.length c0_2) := (blk_cell BK190.out 2).trans rfl
            have hfz12_0 := blk_frozen BK190.out 0
            have hfz12_1 := blk_frozen BK190.out 1
            have hfz12_2 := blk_frozen BK190.out 2
            go_wp2
            go_ret
            exact ⟨by first | rfl | (simp [errW_none, errW_some] <;> rfl) | (simp [*, errW_none, errW_some] <;> rfl), by repeat (first | (with_reducible first | exact HB.out | apply below_alloc | apply pw_below_drewN | apply below_drew1 | refine below_set ?_ GE190.out) | exact HB.out)⟩
          · rw [if_neg c11] at H
            have c11b0 : (a0_1 == 3) = false := beq_eq_false_iff_ne.mpr c11
            have c11b1 : (a0_1 != 3) = true := bne_iff_ne.mpr c11
            by_cases c13 : a0_1 = 4
            · rw [if_pos c13] at H
              have c13b0 : (a0_1 == 4) = true := beq_iff_eq.mpr c13
              have c13b1 : (a0_1 != 4) = false := bne_eq_false_iff_eq.mpr c13
              clear c13
              obtain rfl := Option.some.inj H
              have hcz14_0 : w7.cell? ⟨gb190, 0, none⟩ = some (.string a0_0) := (blk_cell BK190.out 0).trans rfl
              have hcz14_1 : w7.cell? ⟨gb190, 1, none⟩ = some (.int .i64 a0_1) := (blk_cell BK190.out 1).trans rfl
              have hcz14_2 : w7.cell? ⟨gb190, 2, none⟩ = some (.slice A0_2 l0_2.length c0_2) := (blk_cell BK190.out 2).trans rfl
              have hfz14_0 := blk_frozen BK190.out 0
              have hfz14_1 := blk_frozen BK190.out 1
              have hfz14_2 := blk_frozen BK190.out 2
              go_wp2
              go_ret
              exact ⟨by first | rfl | (simp [errW_none, errW_some] <;> rfl) | (simp [*, errW_none, errW_some] <;> rfl), by repeat (first | (with_reducible first | exact HB.out | apply below_alloc | apply pw_below_drewN | apply below_drew1 | refine below_set ?_ GE190.out) | exact HB.out)⟩
            · rw [if_neg c13] at H
              have c13b0 : (a0_1 == 4) = false := beq_eq_false_iff_ne.mpr c13
              have c13b1 : (a0_1 != 4) = true := bne_iff_ne.mpr c13
              by_cases c15 : a0_1 = 5
              · rw [if_pos c15] at H
                have c15b0 : (a0_1 == 5) = true := beq_iff_eq.mpr c15
                have c15b1 : (a0_1 != 5) = false := bne_eq_false_iff_eq.mpr c15
                clear c15
                by_cases c16 : (l0_2.length : Int) = 1
                · rw [if_pos c16] at H
                  have c16b0 : ((l0_2.length : Int) == 1) = true := beq_iff_eq.mpr c16
                  have c16b1 : ((l0_2.length : Int) != 1) = false := bne_eq_false_iff_eq.mpr c16
                  clear c16
                  by_cases c17 : 0 < (l0_2.length : Int)
                  · rw [if_pos c17] at H
                    have c17b0 : decide (0 < (l0_2.length : Int)) = true := decide_eq_true c17
                    have c17b1 : decide (0 < l0_2.length) = true := decide_eq_true (by omega)
                    clear c17
                    replace H := Option.bind_eq_some_iff.mp H
                    obtain ⟨⟨t193, t194⟩, A180, H⟩ := H
                    replace H : (some t194) = some r := H
                    have A18 := Aside0.mk A180
                    clear A180
                    obtain rfl := Option.some.inj H
                    have hcz19_0 : w7.cell? ⟨gb190, 0, none⟩ = some (.string a0_0) := (blk_cell BK190.out 0).trans rfl
                    have hcz19_1 : w7.cell? ⟨gb190, 1, none⟩ = some (.int .i64 a0_1) := (blk_cell BK190.out 1).trans rfl
                    have hcz19_2 : w7.cell? ⟨gb190, 2, none⟩ = some (.slice A0_2 l0_2.length c0_2) := (blk_cell BK190.out 2).trans rfl
                    have hfz19_0 := blk_frozen BK190.out 0
                    have hfz19_1 := blk_frozen BK190.out 1
                    have hfz19_2 := blk_frozen BK190.out 2
                    have p192 : 0 ≤ (0 : Int) := (by omega)
                    have q192 : 0 < (l0_2.length : Int) := of_decide_eq_true (by first | (with_reducible assumption) | assumption)
                    obtain ⟨ad192, e192, hx192_0⟩ := Kd.at_string HR0_2.out 0 p192 q192
                    cases e192
                    have qi192 : (0 < l0_2.length) = True := eq_true (by omega)
                    (try rw [show ((0 : Int)).toNat = 0 from rfl] at hx192_0)
                    (try rw [Addr.add_zero'] at hx192_0)
                    replace hx192_0 := (HB.out.cell (World.block_lt_of_cell? w _ hx192_0)).trans hx192_0
                    replace p192 := eq_true p192
                    replace q192 := eq_true q192
                    go_wp2_with (first | ((first | ((with_reducible refine gate_callee (f := 32) rfl ?_); refine goesL_ (some 58) rfl rfl Try.func32 (by kernel_rfl) rfl #[.string (rdOf ByteArray.empty l0_2 0)] rfl (by (try simp only [List.map_toArray, List.map_cons, List.map_nil]); first | done | rfl | (simp only [List.length_drop, List.length_take]; rfl)) ?_; (with_reducible refine (labels_number.calls k (rdOf ByteArray.empty l0_2 0) t193 t194 _ A18.out).mono ?_); rintro e w' ⟨rfl, ⟨nd, rfl⟩⟩; refine ⟨_, rfl, ?_⟩) | (go_at_call 32; (with_reducible refine (labels_number.calls k (rdOf ByteArray.empty l0_2 0) t193 t194 _ A18.out).mono ?_); rintro e w' ⟨rfl, ⟨nd, rfl⟩⟩))))
                    go_ret
                    exact ⟨by first | rfl | (simp [errW_none, errW_some] <;> rfl) | (simp [*, errW_none, errW_some] <;> rfl), by repeat (first | (with_reducible first | exact HB.out | apply below_alloc | apply pw_below_drewN | apply below_drew1 | refine below_set ?_ GE190.out) | exact HB.out)⟩
                  · rw [if_neg c17] at H
                    exact absurd H (by simp)
                · rw [if_neg c16] at H
                  have c16b0 : ((l0_2.length : Int) == 1) = false := beq_eq_false_iff_ne.mpr c16
                  have c16b1 : ((l0_2.length : Int) != 1) = true := bne_iff_ne.mpr c16
                  obtain rfl := Option.some.inj H
                  have hcz20_0 : w7.cell? ⟨gb190, 0, none⟩ = some (.string a0_0) := (blk_cell BK190.out 0).trans rfl
                  have hcz20_1 : w7.cell? ⟨gb190, 1, none⟩ = some (.int .i64 a0_1) := (blk_cell BK190.out 1).trans rfl
                  have hcz20_2 : w7.cell? ⟨gb190, 2, none⟩ = some (.slice A0_2 l0_2.length c0_2) := (blk_cell BK190.out 2).trans rfl
                  have hfz20_0 := blk_frozen BK190.out 0
                  have hfz20_1 := blk_frozen BK190.out 1
                  have hfz20_2 := blk_frozen BK190.out 2
                  go_wp2
                  go_ret
                  exact ⟨by first | rfl | (simp [errW_none, errW_some] <;> rfl) | (simp [*, errW_none, errW_some] <;> rfl), by repeat (first | (with_reducible first | exact HB.out | apply below_alloc | apply pw_below_drewN | apply below_drew1 | refine below_set ?_ GE190.out) | exact HB.out)⟩
              · rw [if_neg c15] at H
                have c15b0 : (a0_1 == 5) = false := beq_eq_false_iff_ne.mpr c15
                have c15b1 : (a0_1 != 5) = true := bne_iff_ne.mpr c15
                by_cases c21 : a0_1 = 6
                · rw [if_pos c21] at H
                  have c21b0 : (a0_1 == 6) = true := beq_iff_eq.mpr c21
                  have c21b1 : (a0_1 != 6) = false := bne_eq_false_iff_eq.mpr c21
                  clear c21
                  by_cases c22 : (l0_2.length : Int) = 1
                  · rw [if_pos c22] at H
                    have c22b0 : ((l0_2.length : Int) == 1) = true := beq_iff_eq.mpr c22
                    have c22b1 : ((l0_2.length : Int) != 1) = false := bne_eq_false_iff_eq.mpr c22
                    clear c22
                    by_cases c23 : 0 < (l0_2.length : Int)
                    · rw [if_pos c23] at H
                      have c23b0 : decide (0 < (l0_2.length : Int)) = true := decide_eq_true c23
                      have c23b1 : decide (0 < l0_2.length) = true := decide_eq_true (by omega)
                      clear c23
                      replace H := Option.bind_eq_some_iff.mp H
                      obtain ⟨⟨t196, t197⟩, A240, H⟩ := H
                      replace H : (some t197) = some r := H
                      have A24 := Aside0.mk A240
                      clear A240
                      obtain rfl := Option.some.inj H
                      have hcz25_0 : w7.cell? ⟨gb190, 0, none⟩ = some (.string a0_0) := (blk_cell BK190.out 0).trans rfl
                      have hcz25_1 : w7.cell? ⟨gb190, 1, none⟩ = some (.int .i64 a0_1) := (blk_cell BK190.out 1).trans rfl
                      have hcz25_2 : w7.cell? ⟨gb190, 2, none⟩ = some (.slice A0_2 l0_2.length c0_2) := (blk_cell BK190.out 2).trans rfl
                      have hfz25_0 := blk_frozen BK190.out 0
                      have hfz25_1 := blk_frozen BK190.out 1
                      have hfz25_2 := blk_frozen BK190.out 2
                      have p195 : 0 ≤ (0 : Int) := (by omega)
                      have q195 : 0 < (l0_2.length : Int) := of_decide_eq_true (by first | (with_reducible assumption) | assumption)
                      obtain ⟨ad195, e195, hx195_0⟩ := Kd.at_string HR0_2.out 0 p195 q195
                      cases e195
                      have qi195 : (0 < l0_2.length) = True := eq_true (by omega)
                      (try rw [show ((0 : Int)).toNat = 0 from rfl] at hx195_0)
                      (try rw [Addr.add_zero'] at hx195_0)
                      replace hx195_0 := (HB.out.cell (World.block_lt_of_cell? w _ hx195_0)).trans hx195_0
                      replace p195 := eq_true p195
                      replace q195 := eq_true q195
                      go_wp2_with (first | ((first | ((with_reducible refine gate_callee (f := 32) rfl ?_); refine goesL_ (some 58) rfl rfl Try.func32 (by kernel_rfl) rfl #[.string (rdOf ByteArray.empty l0_2 0)] rfl (by (try simp only [List.map_toArray, List.map_cons, List.map_nil]); first | done | rfl | (simp only [List.length_drop, List.length_take]; rfl)) ?_; (with_reducible refine (labels_number.calls k (rdOf ByteArray.empty l0_2 0) t196 t197 _ A24.out).mono ?_); rintro e w' ⟨rfl, ⟨nd, rfl⟩⟩; refine ⟨_, rfl, ?_⟩) | (go_at_call 32; (with_reducible refine (labels_number.calls k (rdOf ByteArray.empty l0_2 0) t196 t197 _ A24.out).mono ?_); rintro e w' ⟨rfl, ⟨nd, rfl⟩⟩))))
                      go_ret
                      exact ⟨by first | rfl | (simp [errW_none, errW_some] <;> rfl) | (simp [*, errW_none, errW_some] <;> rfl), by repeat (first | (with_reducible first | exact HB.out | apply below_alloc | apply pw_below_drewN | apply below_drew1 | refine below_set ?_ GE190.out) | exact HB.out)⟩
                    · rw [if_neg c23] at H
                      exact absurd H (by simp)
                  · rw [if_neg c22] at H
                    have c22b0 : ((l0_2.length : Int) == 1) = false := beq_eq_false_iff_ne.mpr c22
                    have c22b1 : ((l0_2.length : Int) != 1) = true := bne_iff_ne.mpr c22
                    obtain rfl := Option.some.inj H
                    have hcz26_0 : w7.cell? ⟨gb190, 0, none⟩ = some (.string a0_0) := (blk_cell BK190.out 0).trans rfl
                    have hcz26_1 : w7.cell? ⟨gb190, 1, none⟩ = some (.int .i64 a0_1) := (blk_cell BK190.out 1).trans rfl
                    have hcz26_2 : w7.cell? ⟨gb190, 2, none⟩ = some (.slice A0_2 l0_2.length c0_2) := (blk_cell BK190.out 2).trans rfl
                    have hfz26_0 := blk_frozen BK190.out 0
                    have hfz26_1 := blk_frozen BK190.out 1
                    have hfz26_2 := blk_frozen BK190.out 2
                    go_wp2
                    go_ret
                    exact ⟨by first | rfl | (simp [errW_none, errW_some] <;> rfl) | (simp [*, errW_none, errW_some] <;> rfl), by repeat (first | (with_reducible first | exact HB.out | apply below_alloc | apply pw_below_drewN | apply below_drew1 | refine below_set ?_ GE190.out) | exact HB.out)⟩
                · rw [if_neg c21] at H
                  have c21b0 : (a0_1 == 6) = false := beq_eq_false_iff_ne.mpr c21
                  have c21b1 : (a0_1 != 6) = true := bne_iff_ne.mpr c21
                  obtain rfl := Option.some.inj H
                  go_wp2
                  go_ret
                  exact ⟨by first | rfl | (simp [errW_none, errW_some] <;> rfl) | (simp [*, errW_none, errW_some] <;> rfl), by repeat (first | (with_reducible first | exact HB.out | apply below_alloc | apply pw_below_drewN | apply below_drew1 | refine below_set ?_ GE190.out) | exact HB.out)⟩
    case rest =>
      clear HC4
      try clear c1
      try clear p1
      try clear q1
      try clear hx1
      try clear qi1
      try clear c2
      try clear p2
      try clear c3
      try clear c9
      try clear c9b0
      try clear c9b1
      try clear c10
      try clear c10b0
      try clear c10b1
      try clear c11
      try clear c11b0
      try clear c11b1
      try clear c13
      try clear c13b0
      try clear c13b1
      try clear c15
      try clear c15b0
      try clear c15b1
      try clear c16
      try clear c16b0
      try clear c16b1
      try clear c17
      try clear c17b0
      try clear c17b1
      try clear p19
      try clear q19
      try clear hx19
      try clear qi19
      try clear c21
      try clear c21b0
      try clear c21b1
      try clear c22
      try clear c22b0
      try clear c22b1
      try clear c23
      try clear c23b0
      try clear c23b1
      try clear hcz12_0
      try clear hcz12_1
      try clear hcz12_2
      try clear hcz14_0
      try clear hcz14_1
      try clear hcz14_2
      try clear hcz19_0
      try clear hcz19_1
      try clear hcz19_2
      try clear hcz20_0
      try clear hcz20_1
      try clear hcz20_2
      try clear hcz25_0
      try clear hcz25_1
      try clear hcz25_2
      try clear hcz26_0
      try clear hcz26_1
      try clear hcz26_2
      try clear hcz6_0
      try clear hcz6_1
      try clear hcz6_2
      try clear hcz8_0
      try clear hcz8_1
      try clear hcz8_2
      try clear hfz12_0
      try clear hfz12_1
      try clear hfz12_2
      try clear hfz14_0
      try clear hfz14_1
      try clear hfz14_2
      try clear hfz19_0
      try clear hfz19_1
      try clear hfz19_2
      try clear hfz20_0
      try clear hfz20_1
      try clear hfz20_2
      try clear hfz25_0
      try clear hfz25_1
      try clear hfz25_2
      try clear hfz26_0
      try clear hfz26_1
      try clear hfz26_2
      try clear hfz6_0
      try clear hfz6_1
      try clear hfz6_2
      try clear hfz8_0
      try clear hfz8_1
      try clear hfz8_2
      try clear hx192_0
      try clear hx195_0
      try clear p192
      try clear p195
      try clear q192
      try clear q195
      obtain ⟨kq, HA, HJ3, BK190, HB⟩ := hcut
      cases kq with
      | zero => exact absurd HA.out (by simp [labels_RightTerm.j0])
      | succ kj3 =>
        have H := HA.out
        clear HA
        simp only [labels_RightTerm.j0] at H
        have H' := Aside0.mk H
        clear H
        have hcz27_0 : wc.cell? ⟨gb190, 0, none⟩ = some (.string a0_0) := (blk_cell BK190.out 0).trans rfl
        have hcz27_1 : wc.cell? ⟨gb190, 1, none⟩ = some (.int .i64 a0_1) := (blk_cell BK190.out 1).trans rfl
        have hcz27_2 : wc.cell? ⟨gb190, 2, none⟩ = some (.slice A0_2 l0_2.length c0_2) := (blk_cell BK190.out 2).trans rfl
        have hfz27_0 := blk_frozen BK190.out 0
        have hfz27_1 := blk_frozen BK190.out 1
        have hfz27_2 := blk_frozen BK190.out 2
        go_wp2
        go_loopg [27] kj3 (fun kq v27 w' => ∃ (x27_2 : Int), v27 = .int .i64 x27_2 ∧ Aside0 (labels_RightTerm.l0 kq l0_2 (l0_2.length : Int) x27_2 a0_0 a0_1 l0_2 = some r) ∧ Aside0 (kq ≤ kj3) ∧ Aside0 (w'.heap[gb190]? = some (.cells #[.string a0_0, .int .i64 a0_1, (.slice A0_2 l0_2.length c0_2)] 37 (0, 0))) ∧ Aside0 (Below w.heap.size w w'))
        case atStart => exact ⟨(0), (by first | rfl | (simp; done) | (simp [*]; done)), H', ⟨Nat.le_refl _⟩, ⟨by (with_reducible repeat (first | refine blk_drewN ?_ _ | refine blk_drew ?_ | refine blk_alloc ?_ _)); exact BK190.out⟩, ⟨by repeat (first | (with_reducible first | exact HB.out | apply below_alloc | apply pw_below_drewN | apply below_drew1 | refine below_set ?_ GE190.out) | exact HB.out)⟩⟩
        case round =>
          clear H'
          try clear c1
          try clear p1
          try clear q1
          try clear hx1
          try clear qi1
          try clear c2
          try clear p2
          try clear c3
          try clear c9
          try clear c9b0
          try clear c9b1
          try clear c10
          try clear c10b0
          try clear c10b1
          try clear c11
          try clear c11b0
          try clear c11b1
          try clear c13
          try clear c13b0
          try clear c13b1
          try clear c15
          try clear c15b0
          try clear c15b1
          try clear c16
          try clear c16b0
          try clear c16b1
          try clear c17
          try clear c17b0
          try clear c17b1
          try clear p19
          try clear q19
          try clear hx19
          try clear qi19
          try clear c21
          try clear c21b0
          try clear c21b1
          try clear c22
          try clear c22b0
          try clear c22b1
          try clear c23
          try clear c23b0
          try clear c23b1
          try clear c27
          try clear hcz12_0
          try clear hcz12_1
          try clear hcz12_2
          try clear hcz14_0
          try clear hcz14_1
          try clear hcz14_2
          try clear hcz19_0
          try clear hcz19_1
          try clear hcz19_2
          try clear hcz20_0
          try clear hcz20_1
          try clear hcz20_2
          try clear hcz25_0
          try clear hcz25_1
          try clear hcz25_2
          try clear hcz26_0
          try clear hcz26_1
          try clear hcz26_2
          try clear hcz27_0
          try clear hcz27_1
          try clear hcz27_2
          try clear hcz6_0
          try clear hcz6_1
          try clear hcz6_2
          try clear hcz8_0
          try clear hcz8_1
          try clear hcz8_2
          try clear hfz12_0
          try clear hfz12_1
          try clear hfz12_2
          try clear hfz14_0
          try clear hfz14_1
          try clear hfz14_2
          try clear hfz19_0
          try clear hfz19_1
          try clear hfz19_2
          try clear hfz20_0
          try clear hfz20_1
          try clear hfz20_2
          try clear hfz25_0
          try clear hfz25_1
          try clear hfz25_2
          try clear hfz26_0
          try clear hfz26_1
          try clear hfz26_2
          try clear hfz27_0
          try clear hfz27_1
          try clear hfz27_2
          try clear hfz6_0
          try clear hfz6_1
          try clear hfz6_2
          try clear hfz8_0
          try clear hfz8_1
          try clear hfz8_2
          try clear hx192_0
          try clear hx195_0
          try clear p1
          try clear p19
          try clear p192
          try clear p195
          try clear p2
          try clear q1
          try clear q19
          try clear q192
          try clear q195
          obtain ⟨x27_2, rfl, HA, HK2, BK190, HB⟩ := hrel
          cases gk with
          | zero => exact absurd HA.out (by simp [labels_RightTerm.l0])
          | succ k2 =>
            have H := HA.out
            clear HA
            simp only [labels_RightTerm.l0] at H
            by_cases c28 : x27_2 < (l0_2.length : Int)
            · rw [if_pos c28] at H
              have c28b0 : decide (x27_2 < (l0_2.length : Int)) = true := decide_eq_true c28
              clear c28
              by_cases c29 : 0 ≤ x27_2
              · rw [if_pos c29] at H
                have c29b0 : decide (0 ≤ x27_2) = true := decide_eq_true c29
                clear c29
                by_cases c30 : x27_2 < (l0_2.length : Int)
                · rw [if_pos c30] at H
                  have c30b0 : decide (x27_2 < (l0_2.length : Int)) = true := decide_eq_true c30
                  clear c30
                  replace H := Option.bind_eq_some_iff.mp H
                  obtain ⟨t199, A310, H⟩ := H
                  replace H : (if t199 = true then (labels_RightTerm.l0 k2 l0_2 (l0_2.length : Int) (wrap64 (x27_2 + 1)) a0_0 a0_1 l0_2) else (some false)) = some r := H
                  have A31 := Aside0.mk A310
                  clear A310
                  by_cases c32 : t199 = true
                  · subst c32
                    have H1 : (labels_RightTerm.l0 k2 l0_2 (l0_2.length : Int) (wrap64 (x27_2 + 1)) a0_0 a0_1 l0_2) = some r := by rw [if_pos rfl] at H; exact H
                    clear H
                    have H := H1
                    clear H1
                    have H' := Aside0.mk H
                    clear H
                    have p198 : 0 ≤ (x27_2 : Int) := of_decide_eq_true (by first | (with_reducible assumption) | assumption)
                    have q198 : x27_2 < (l0_2.length : Int) := of_decide_eq_true (by first | (with_reducible assumption) | assumption)
                    obtain ⟨ad198, e198, hx198_0⟩ := Kd.at_string HR0_2.out x27_2 p198 q198
                    cases e198
                    replace hx198_0 := (HB.out.cell (World.block_lt_of_cell? w _ hx198_0)).trans hx198_0
                    replace p198 := eq_true p198
                    replace q198 := eq_true q198
                    go_wp2_with (first | ((first | ((with_reducible refine gate_callee (f := 36) rfl ?_); refine goesL_ (some 32) rfl rfl Try.func36 (by kernel_rfl) rfl #[.string (rdOf ByteArray.empty l0_2 x27_2)] rfl (by (try simp only [List.map_toArray, List.map_cons, List.map_nil]); first | done | rfl | (simp only [List.length_drop, List.length_take]; rfl)) ?_; (with_reducible refine (labels_maybe.calls (rdOf ByteArray.empty l0_2 x27_2) true _ A31.out).mono ?_); rintro e w33 ⟨rfl, hb⟩; refine ⟨_, rfl, ?_⟩) | (go_at_call 36; (with_reducible refine (labels_maybe.calls (rdOf ByteArray.empty l0_2 x27_2) true _ A31.out).mono ?_); rintro e w33 ⟨rfl, hb⟩)); have n0_ := Aside0.mk (blk_below (g := gb190) (o := .cells #[.string a0_0, .int .i64 a0_1, .slice (some ad198) l0_2.length c0_2] 37 (0, 0)) (by (with_reducible repeat (first | refine blk_drewN ?_ _ | refine blk_drew ?_ | refine blk_alloc ?_ _)); exact BK190.out) hb); have n1_ := Aside0.mk (below_step (by repeat (first | (with_reducible first | exact HB.out | apply below_alloc | apply pw_below_drewN | apply below_drew1 | refine below_set ?_ GE190.out) | exact HB.out)) hb); clear BK190; clear HB; have BK190 := n0_; have HB := n1_; clear n0_ n1_; (try clear hb); (try clear hb2); (try clear hk); (try clear hi)))
                    go_roundg k2
                    case measure => have := HJ3.out; have := HK2.out; omega
                    case rel => exact ⟨(wrap64 (x27_2 + 1)), (by first | rfl | (simp; done) | (simp [*]; done)), H', ⟨by have := HJ3.out; have := HK2.out; omega⟩, ⟨by (with_reducible repeat (first | refine blk_drewN ?_ _ | refine blk_drew ?_ | refine blk_alloc ?_ _)); exact BK190.out⟩, ⟨by repeat (first | (with_reducible first | exact HB.out | apply below_alloc | apply pw_below_drewN | apply below_drew1 | refine below_set ?_ GE190.out) | exact HB.out)⟩⟩
                  · replace c32 := Bool.eq_false_iff.mpr c32
                    subst c32
                    have H1 : (some false) = some r := by rw [if_neg (show ¬ (false = true) by decide)] at H; exact H
                    clear H
                    have H := H1
                    clear H1
                    obtain rfl := Option.some.inj H
                    have p198 : 0 ≤ (x27_2 : Int) := of_decide_eq_true (by first | (with_reducible assumption) | assumption)
                    have q198 : x27_2 < (l0_2.length : Int) := of_decide_eq_true (by first | (with_reducible assumption) | assumption)
                    obtain ⟨ad198, e198, hx198_0⟩ := Kd.at_string HR0_2.out x27_2 p198 q198
                    cases e198
                    replace hx198_0 := (HB.out.cell (World.block_lt_of_cell? w _ hx198_0)).trans hx198_0
                    replace p198 := eq_true p198
                    replace q198 := eq_true q198
                    go_wp2_with (first | ((first | ((with_reducible refine gate_callee (f := 36) rfl ?_); refine goesL_ (some 32) rfl rfl Try.func36 (by kernel_rfl) rfl #[.string (rdOf ByteArray.empty l0_2 x27_2)] rfl (by (try simp only [List.map_toArray, List.map_cons, List.map_nil]); first | done | rfl | (simp only [List.length_drop, List.length_take]; rfl)) ?_; (with_reducible refine (labels_maybe.calls (rdOf ByteArray.empty l0_2 x27_2) false _ A31.out).mono ?_); rintro e w34 ⟨rfl, hb⟩; refine ⟨_, rfl, ?_⟩) | (go_at_call 36; (with_reducible refine (labels_maybe.calls (rdOf ByteArray.empty l0_2 x27_2) false _ A31.out).mono ?_); rintro e w34 ⟨rfl, hb⟩)); have n0_ := Aside0.mk (blk_below (g := gb190) (o := .cells #[.string a0_0, .int .i64 a0_1, .slice (some ad198) l0_2.length c0_2] 37 (0, 0)) (by (with_reducible repeat (first | refine blk_drewN ?_ _ | refine blk_drew ?_ | refine blk_alloc ?_ _)); exact BK190.out) hb); have n1_ := Aside0.mk (below_step (by repeat (first | (with_reducible first | exact HB.out | apply below_alloc | apply pw_below_drewN | apply below_drew1 | refine below_set ?_ GE190.out) | exact HB.out)) hb); clear BK190; clear HB; have BK190 := n0_; have HB := n1_; clear n0_ n1_; (try clear hb); (try clear hb2); (try clear hk); (try clear hi)))
                    go_ret
                    exact ⟨by first | rfl | (simp [errW_none, errW_some] <;> rfl) | (simp [*, errW_none, errW_some] <;> rfl), by repeat (first | (with_reducible first | exact HB.out | apply below_alloc | apply pw_below_drewN | apply below_drew1 | refine below_set ?_ GE190.out) | exact HB.out)⟩
                · rw [if_neg c30] at H
                  exact absurd H (by simp)
              · rw [if_neg c29] at H
                exact absurd H (by simp)
            · rw [if_neg c28] at H
              have c28b0 : decide (x27_2 < (l0_2.length : Int)) = false := decide_eq_false c28
              clear c28
              by_cases c35 : (l0_2.length : Int) ≥ 1
              · rw [if_pos c35] at H
                have c35b0 : decide (1 ≤ (l0_2.length : Int)) = true := decide_eq_true c35
                have c35b1 : decide (1 ≤ l0_2.length) = true := decide_eq_true (by omega)
                clear c35
                obtain rfl := Option.some.inj H
                have hcz36_0 : wr.cell? ⟨gb190, 0, none⟩ = some (.string a0_0) := (blk_cell BK190.out 0).trans rfl
                have hcz36_1 : wr.cell? ⟨gb190, 1, none⟩ = some (.int .i64 a0_1) := (blk_cell BK190.out 1).trans rfl
                have hcz36_2 : wr.cell? ⟨gb190, 2, none⟩ = some (.slice A0_2 l0_2.length c0_2) := (blk_cell BK190.out 2).trans rfl
                have hfz36_0 := blk_frozen BK190.out 0
                have hfz36_1 := blk_frozen BK190.out 1
                have hfz36_2 := blk_frozen BK190.out 2
                go_wp2
                go_ret
                exact ⟨by first | rfl | (simp [errW_none, errW_some] <;> rfl) | (simp [*, errW_none, errW_some] <;> rfl), by repeat (first | (with_reducible first | exact HB.out | apply below_alloc | apply pw_below_drewN | apply below_drew1 | refine below_set ?_ GE190.out) | exact HB.out)⟩
              · rw [if_neg c35] at H
                have c35b0 : decide (1 ≤ (l0_2.length : Int)) = false := decide_eq_false c35
                have c35b1 : decide (1 ≤ l0_2.length) = false := decide_eq_false (by omega)
                clear c35
                obtain rfl := Option.some.inj H
                have hcz37_0 : wr.cell? ⟨gb190, 0, none⟩ = some (.string a0_0) := (blk_cell BK190.out 0).trans rfl
                have hcz37_1 : wr.cell? ⟨gb190, 1, none⟩ = some (.int .i64 a0_1) := (blk_cell BK190.out 1).trans rfl
                have hcz37_2 : wr.cell? ⟨gb190, 2, none⟩ = some (.slice A0_2 l0_2.length c0_2) := (blk_cell BK190.out 2).trans rfl
                have hfz37_0 := blk_frozen BK190.out 0
                have hfz37_1 := blk_frozen BK190.out 1
                have hfz37_2 := blk_frozen BK190.out 2
                go_wp2
                go_ret
                exact ⟨by first | rfl | (simp [errW_none, errW_some] <;> rfl) | (simp [*, errW_none, errW_some] <;> rfl), by repeat (first | (with_reducible first | exact HB.out | apply below_alloc | apply pw_below_drewN | apply below_drew1 | refine below_set ?_ GE190.out) | exact HB.out)⟩
  · replace c3 := Bool.eq_false_iff.mpr c3
    subst c3
    have H1 : (some false) = some r := by rw [if_neg (show ¬ (false = true) by decide)] at H; exact H
    clear H
    have H := H1
    clear H1
    obtain rfl := Option.some.inj H
    go_enter Try.func27, Try.ntmps27
    go_wp2_with (first | ((with_reducible refine gate_dst (N := 1) rfl ?_); (try (refine gate_guard (by rfl) ?_; dsimp only)); refine box_event ?hg (N := 1) ?hd (cs := #[.string a0_0, .int .i64 a0_1, .slice A0_2 l0_2.length c0_2]) (t := 37) ?hr ?_; (case hd => rfl); (case hg => rfl); (case hr => first | (go_simp; done) | (go_simp; rfl)); intro gb190 hg w38 hbox hb; have n0_ := Aside0.mk (below_step (by repeat (first | (with_reducible first | exact HB.out | apply below_alloc | apply pw_below_drewN | apply below_drew1) | exact HB.out)) hb); have n1_ := Aside0.mk (hbox); have n2_ := Aside0.mk ((by rw [hg]; exact (below_size (by repeat (first | (with_reducible first | exact HB.out | apply below_alloc | apply pw_below_drewN | apply below_drew1) | exact HB.out))) : w.heap.size ≤ gb190)); have n3_ := Aside0.mk ((by rw [hg]; exact (below_size (by repeat (first | (with_reducible first | exact HB.out | apply below_alloc | apply pw_below_drewN | apply below_drew1) | exact HB.out))) : w.heap.size ≤ gb190)); clear HB; have HB := n0_; have BK190 := n1_; have GW190 := n2_; have GE190 := n3_; clear n0_ n1_ n2_ n3_; clear hb hbox hg; have hcz39_0 : w38.cell? ⟨gb190, 0, none⟩ = some (.string a0_0) := (blk_cell BK190.out 0).trans rfl; have hcz39_1 : w38.cell? ⟨gb190, 1, none⟩ = some (.int .i64 a0_1) := (blk_cell BK190.out 1).trans rfl; have hcz39_2 : w38.cell? ⟨gb190, 2, none⟩ = some (.slice A0_2 l0_2.length c0_2) := (blk_cell BK190.out 2).trans rfl; have hfz39_0 := blk_frozen BK190.out 0; have hfz39_1 := blk_frozen BK190.out 1; have hfz39_2 := blk_frozen BK190.out 2) | ((first | ((with_reducible refine gate_callee (f := 35) rfl ?_); refine goesL_ (some 9) rfl rfl Try.func35 (by kernel_rfl) rfl #[.string a0_0] rfl (by (try simp only [List.map_toArray, List.map_cons, List.map_nil]); first | done | rfl | (simp only [List.length_drop, List.length_take]; rfl)) ?_; (with_reducible refine (lex_Word.calls a0_0 false _ A2.out).mono ?_); rintro e w40 ⟨rfl, hb⟩; refine ⟨_, rfl, ?_⟩) | (go_at_call 35; (with_reducible refine (lex_Word.calls a0_0 false _ A2.out).mono ?_); rintro e w40 ⟨rfl, hb⟩)); have n0_ := Aside0.mk (blk_below (g := gb190) (o := .cells #[.string a0_0, .int .i64 a0_1, .slice A0_2 l0_2.length c0_2] 37 (0, 0)) (by (with_reducible repeat (first | refine blk_drewN ?_ _ | refine blk_drew ?_ | refine blk_alloc ?_ _)); exact BK190.out) hb); have n1_ := Aside0.mk (below_step (by repeat (first | (with_reducible first | exact HB.out | apply below_alloc | apply pw_below_drewN | apply below_drew1 | refine below_set ?_ GE190.out) | exact HB.out)) hb); clear BK190; clear HB; have BK190 := n0_; have HB := n1_; clear n0_ n1_; (try clear hb); (try clear hb2); (try clear hk); (try clear hi)))
    go_ret
    exact ⟨by first | rfl | (simp [errW_none, errW_some] <;> rfl) | (simp [*, errW_none, errW_some] <;> rfl), by repeat (first | (with_reducible first | exact HB.out | apply below_alloc | apply pw_below_drewN | apply below_drew1 | refine below_set ?_ GE190.out) | exact HB.out)⟩
end Go.Proofs.Ytcnaefnlnjfjkaa.H
end
section
namespace Go.Proofs.Ytcnaefnlnjfjkaa.H
open Go.RowKit Go.Proofs.YtcnaefnlnjfjkaaW.PrintWords Go.Proofs.YtcnaefnlnjfjkaaW.PrintLast Go.Proofs.YtcnaefnlnjfjkaaW.PrintMore
attribute [local go_sem] max2_int min2_int max_two min_two max_three min_three max_four min_four   -- for this text's walks alone
set_option linter.unusedVariables false
set_option linter.unusedSimpArgs false
theorem alloc_cell_at (W : World) (cs : List Value) (e : Nat) (i : Nat) (u : Value) (h : cs[i]? = some u) : (W.alloc (.cells cs.toArray e)).cell? ⟨W.heap.size, i, none⟩ = some u := by
  have hb : (W.alloc (.cells cs.toArray e)).heap[W.heap.size]? = some (.cells cs.toArray e (0, 0)) := heap_alloc_new W _
  unfold World.cell?
  simp only []
  rw [hb]
  simp [h]
theorem C_lit {α : Type} (d : Kd α) (W : World) {xs : List α} {inner : List Value} (e : Nat) (n : Nat) (hn : xs.length = n) (hm : n ≤ 9223372036854775807) (hrep : Reps (d.K W) d.sz xs inner) :
    d.C (W.alloc (.cells inner.toArray e)) (some ⟨W.heap.size, 0, none⟩) n xs := by
  refine ⟨hn, hm, fun _ => ⟨_, rfl, fun j p hj => ?_⟩⟩
  have hp := hrep.2 j p hj
  refine ⟨_, d.K_len hp, d.K_below (below_alloc (Below.refl _ _) _) hp, fun i u hu => ?_⟩
  rw [add_plain]
  refine alloc_cell_at W inner e _ u ?_
  rw [List.getElem?_take] at hu
  split at hu
  · rw [List.getElem?_drop] at hu
    exact hu
  · cases hu
end Go.Proofs.Ytcnaefnlnjfjkaa.H
end
section
namespace Go.Proofs.Ytcnaefnlnjfjkaa.H
open Go.RowKit Go.Proofs.YtcnaefnlnjfjkaaW.PrintWords Go.Proofs.YtcnaefnlnjfjkaaW.PrintLast Go.Proofs.YtcnaefnlnjfjkaaW.PrintMore
attribute [local go_sem] max2_int min2_int max_two min_two max_three min_three max_four min_four   -- for this text's walks alone
set_option linter.unusedVariables false
set_option linter.unusedSimpArgs false
def kLab : List S31 := [⟨⟨#[110]⟩, ⟨#[55]⟩⟩, ⟨⟨#[122, 111, 110, 101]⟩, ⟨#[97]⟩⟩]
def kLab2 : List S31 := [⟨⟨#[110]⟩, ⟨#[55]⟩⟩, ⟨⟨#[112]⟩, ⟨#[113]⟩⟩, ⟨⟨#[122, 111, 110, 101]⟩, ⟨#[97]⟩⟩]
def triremelaw05_known.f : Option Bool := some true
theorem kLab_reps (W : World) : Reps (k31.K W) 2 kLab [.string ⟨#[110]⟩, .string ⟨#[55]⟩, .string ⟨#[122, 111, 110, 101]⟩, .string ⟨#[97]⟩] :=
  ((Reps.none _ 2).snoc (k31_mk W ⟨⟨#[110]⟩, ⟨#[55]⟩⟩) rfl).snoc (k31_mk W ⟨⟨#[122, 111, 110, 101]⟩, ⟨#[97]⟩⟩) rfl
theorem kLab2_reps (W : World) : Reps (k31.K W) 2 kLab2 [.string ⟨#[110]⟩, .string ⟨#[55]⟩, .string ⟨#[112]⟩, .string ⟨#[113]⟩, .string ⟨#[122, 111, 110, 101]⟩, .string ⟨#[97]⟩] :=
  (((Reps.none _ 2).snoc (k31_mk W ⟨⟨#[110]⟩, ⟨#[55]⟩⟩) rfl).snoc (k31_mk W ⟨⟨#[112]⟩, ⟨#[113]⟩⟩) rfl).snoc (k31_mk W ⟨⟨#[122, 111, 110, 101]⟩, ⟨#[97]⟩⟩) rfl
theorem kStr_reps (W : World) (a b : ByteArray) : Reps (Kd.string.K W) 1 [a, b] [.string a, .string b] := ((Reps.none _ 1).snoc (show Kd.string.K W a [.string a] from rfl) rfl).snoc (show Kd.string.K W b [.string b] from rfl) rfl
theorem kStr1_reps (W : World) (a : ByteArray) : Reps (Kd.string.K W) 1 [a] [.string a] := (Reps.none _ 1).snoc (show Kd.string.K W a [.string a] from rfl) rfl
theorem kGet : labels_Get.f 40 kLab ⟨#[122, 111, 110, 101]⟩ = some (⟨#[97]⟩, true) := by kernel_rfl
theorem kRight : labels_Right.f kLab = some true := by kernel_rfl
theorem kMeets1 : labels_Meets.f 40 kLab ⟨#[122, 111, 110, 101]⟩ 1 [⟨#[97]⟩, ⟨#[98]⟩] = some true := by kernel_rfl
theorem kMeets2 : labels_Meets.f 40 kLab ⟨#[122, 111, 110, 101]⟩ 4 [] = some false := by kernel_rfl
theorem kMeets3 : labels_Meets.f 40 kLab ⟨#[110]⟩ 5 [⟨#[53]⟩] = some true := by kernel_rfl
theorem kSet : labels_Set.f 40 kLab ⟨#[112]⟩ ⟨#[113]⟩ = some kLab2 := by kernel_rfl
theorem kSame : triremeref05_Same.f 40 kLab2 kLab2 = some true := by kernel_rfl
theorem kHas1 : labels_Has.f 40 kLab (kLab.drop 1) = some true := by kernel_rfl
theorem kHas2 : labels_Has.f 40 (kLab.drop 1) kLab = some false := by kernel_rfl
theorem kTerm1 : labels_RightTerm.f 40 ⟨#[97]⟩ 3 [] = some true := by kernel_rfl
theorem kTerm2 : labels_RightTerm.f 40 ⟨#[97]⟩ 1 [] = some false := by kernel_rfl
theorem kDrop : labels_Drop.f 40 kLab ⟨#[110]⟩ = some (kLab.drop 1) := by kernel_rfl
theorem kAll : labels_All.f 40 kLab [] = some true := by kernel_rfl
set_option maxHeartbeats 8000000 in
set_option maxRecDepth 100000 in
theorem triremelaw05_known.calls (r : Bool) (w : World) (h : triremelaw05_known.f = some r) :
    Calls Try.prog 7 #[] w fun e w' => e = .returned (.bool r) ∧ Below w.heap.size w w' := by
  obtain rfl := Option.some.inj h
  clear h
  have hu1 := Try.underlying31
  have hu2 := Try.underlying37
  have HL := Aside0.mk (fun (W : World) (hb : Below (w.alloc (.cells #[.string ⟨#[110]⟩, .string ⟨#[55]⟩, .string ⟨#[122, 111, 110, 101]⟩, .string ⟨#[97]⟩] 31)).heap.size (w.alloc (.cells #[.string ⟨#[110]⟩, .string ⟨#[55]⟩, .string ⟨#[122, 111, 110, 101]⟩, .string ⟨#[97]⟩] 31)) W) =>
    Kd.C_below (C_lit k31 w (xs := kLab) (inner := [.string ⟨#[110]⟩, .string ⟨#[55]⟩, .string ⟨#[122, 111, 110, 101]⟩, .string ⟨#[97]⟩]) 31 2 rfl (by decide) (kLab_reps w)) hb)
  have HB0 := Aside0.mk (below_alloc (Below.refl w.heap.size w) (.cells #[.string ⟨#[110]⟩, .string ⟨#[55]⟩, .string ⟨#[122, 111, 110, 101]⟩, .string ⟨#[97]⟩] 31))
  go_enter Try.func7, Try.ntmps7
  go_wp2_with fail
  go_at_call 8
  refine (labels_Get.calls 40 (some ⟨w.heap.size, 0, none⟩) 2 kLab ⟨#[122, 111, 110, 101]⟩ ⟨#[97]⟩ true _ (HL.out _ (Below.refl _ _)) (Nat.le_refl _) kGet).mono ?_
  rintro e w1 ⟨rfl, hb⟩
  replace HB := Aside0.mk hb
  clear hb
  go_wp2_with fail
  go_at_call 26
  refine (labels_Right.calls (some ⟨w.heap.size, 0, none⟩) 2 kLab true _ (HL.out _ HB.out) (Nat.le_refl _) kRight).mono ?_
  rintro e w2 ⟨rfl, hb⟩
  replace HB := Aside0.mk (below_then HB.out HB.out.size hb)
  clear hb
  go_wp2_with fail
  go_at_call 17
  refine (labels_Meets.calls 40 (some ⟨w.heap.size, 0, none⟩) 2 kLab ⟨#[122, 111, 110, 101]⟩ 1 (some ⟨w2.heap.size, 0, none⟩) 2 [⟨#[97]⟩, ⟨#[98]⟩] true _ (HL.out _ (HB.out.alloc HB.out.size _)) (Nat.le_refl _) (C_lit Kd.string w2 (inner := [.string ⟨#[97]⟩, .string ⟨#[98]⟩]) 9 2 rfl (by decide) (kStr_reps w2 _ _)) (Nat.le_refl _) kMeets1).mono ?_
  rintro e w3 ⟨rfl, hb⟩
  replace HB := Aside0.mk (below_then (HB.out.alloc HB.out.size _) (HB.out.alloc HB.out.size _).size hb)
  clear hb
  go_wp2_with fail
  go_at_call 17
  refine (labels_Meets.calls 40 (some ⟨w.heap.size, 0, none⟩) 2 kLab ⟨#[122, 111, 110, 101]⟩ 4 none 0 [] false _ (HL.out _ HB.out) (Nat.le_refl _) (Kd.C_nil _ _) (Nat.le_refl _) kMeets2).mono ?_
  rintro e w4 ⟨rfl, hb⟩
  replace HB := Aside0.mk (below_then (HB.out) (HB.out).size hb)
  clear hb
  go_wp2_with fail
  go_at_call 17
  refine (labels_Meets.calls 40 (some ⟨w.heap.size, 0, none⟩) 2 kLab ⟨#[110]⟩ 5 (some ⟨w4.heap.size, 0, none⟩) 1 [⟨#[53]⟩] true _ (HL.out _ (HB.out.alloc HB.out.size _)) (Nat.le_refl _) (C_lit Kd.string w4 (inner := [.string ⟨#[53]⟩]) 9 1 rfl (by decide) (kStr1_reps w4 _)) (Nat.le_refl _) kMeets3).mono ?_
  rintro e w5 ⟨rfl, hb⟩
  replace HB := Aside0.mk (below_then (HB.out.alloc HB.out.size _) (HB.out.alloc HB.out.size _).size hb)
  clear hb
  go_wp2_with fail
  go_at_call 10
  refine (labels_Set.calls 40 (some ⟨w.heap.size, 0, none⟩) 2 kLab ⟨#[112]⟩ ⟨#[113]⟩ kLab2 _ (HL.out _ HB.out) (Nat.le_refl _) kSet).mono ?_
  rintro e w6 ⟨v, rfl, hv, hb⟩
  replace HB := Aside0.mk (below_then (HB.out) (HB.out).size hb)
  clear hb
  obtain ⟨A6, c6, rfl⟩ := Kd.R_slice hv
  have HV := Aside0.mk (Kd.R_reads' hv).2
  clear hv
  go_wp2_with fail
  go_at_call 12
  refine (triremeref05_Same.calls 40 A6 c6 kLab2 (some ⟨w6.heap.size, 0, none⟩) 3 kLab2 true _ (Kd.C_alloc HV.out.2 _) HV.out.1 (C_lit k31 w6 (xs := kLab2) (inner := [.string ⟨#[110]⟩, .string ⟨#[55]⟩, .string ⟨#[112]⟩, .string ⟨#[113]⟩, .string ⟨#[122, 111, 110, 101]⟩, .string ⟨#[97]⟩]) 31 3 rfl (by decide) (kLab2_reps w6)) (Nat.le_refl _) kSame).mono ?_
  rintro e w7 ⟨rfl, hd⟩
  replace HB := Aside0.mk (below_then (HB.out.alloc HB.out.size _) (HB.out.alloc HB.out.size _).size hd.below)
  clear hd
  have HD := Aside0.mk (fun (W : World) hb => (show k31.C W (some ⟨w.heap.size, 2, none⟩) (kLab.drop 1).length (kLab.drop 1) from Kd.C_drop (m := 1) (c := 2) (HL.out W hb) (by decide) (by decide)))
  go_wp2_with fail
  go_at_call 19
  refine (labels_Has.calls 40 (some ⟨w.heap.size, 0, none⟩) 2 kLab (some ⟨w.heap.size, 2, none⟩) 1 (kLab.drop 1) true _ (HL.out _ HB.out) (Nat.le_refl _) (HD.out _ HB.out) (Nat.le_refl _) kHas1).mono ?_
  rintro e w8 ⟨rfl, hb⟩
  replace HB := Aside0.mk (below_then (HB.out) (HB.out).size hb)
  clear hb
  go_wp2_with fail
  go_at_call 19
  refine (labels_Has.calls 40 (some ⟨w.heap.size, 2, none⟩) 1 (kLab.drop 1) (some ⟨w.heap.size, 0, none⟩) 2 kLab false _ (HD.out _ HB.out) (Nat.le_refl _) (HL.out _ HB.out) (Nat.le_refl _) kHas2).mono ?_
  rintro e w9 ⟨rfl, hb⟩
  replace HB := Aside0.mk (below_then (HB.out) (HB.out).size hb)
  clear hb
  go_wp2_with fail
  go_at_call 27
  refine (labels_RightTerm.calls 40 ⟨#[97]⟩ 3 none 0 [] true _ (Kd.C_nil _ _) (Nat.le_refl _) kTerm1).mono ?_
  rintro e w10 ⟨rfl, hb⟩
  replace HB := Aside0.mk (below_then (HB.out) (HB.out).size hb)
  clear hb
  go_wp2_with fail
  go_at_call 27
  refine (labels_RightTerm.calls 40 ⟨#[97]⟩ 1 none 0 [] false _ (Kd.C_nil _ _) (Nat.le_refl _) kTerm2).mono ?_
  rintro e w11 ⟨rfl, hb⟩
  replace HB := Aside0.mk (below_then (HB.out) (HB.out).size hb)
  clear hb
  go_wp2_with fail
  go_at_call 11
  refine (labels_Drop.calls 40 (some ⟨w.heap.size, 0, none⟩) 2 kLab ⟨#[110]⟩ (kLab.drop 1) _ (HL.out _ HB.out) (Nat.le_refl _) kDrop).mono ?_
  rintro e w12 ⟨v, rfl, hv, hb⟩
  replace HB := Aside0.mk (below_then (HB.out) (HB.out).size hb)
  clear hb
  obtain ⟨A12, c12, rfl⟩ := Kd.R_slice hv
  clear hv
  have hl1 : (kLab.drop 1).length = 1 := rfl
  rw [hl1]
  go_wp2_with fail
  go_at_call 21
  refine (labels_All.calls 40 (some ⟨w.heap.size, 0, none⟩) 2 kLab none 0 [] true _ (HL.out _ HB.out) (Nat.le_refl _) (Kd.C_nil _ _) (Nat.le_refl _) kAll).mono ?_
  rintro e w13 ⟨rfl, hb⟩
  replace HB := Aside0.mk (below_then (HB.out) (HB.out).size hb)
  clear hb
  go_wp2
  go_ret
  exact ⟨by first | rfl | (simp; done) | (simp [*]; done), below_then HB0.out HB0.out.size HB.out⟩
end Go.Proofs.Ytcnaefnlnjfjkaa.H
end
section
namespace Go.Proofs.Ytcnaefnlnjfjkaa.H
open Go.RowKit Go.Proofs.YtcnaefnlnjfjkaaW.PrintWords Go.Proofs.YtcnaefnlnjfjkaaW.PrintLast Go.Proofs.YtcnaefnlnjfjkaaW.PrintMore
attribute [local go_sem] max2_int min2_int max_two min_two max_three min_three max_four min_four   -- for this text's walks alone
set_option linter.unusedVariables false
set_option linter.unusedSimpArgs false
mutual
def triremeref05_LightTerm.j0 : Nat → Bool → ByteArray → Int → List ByteArray → Option (Bool)
  | 0, _, _, _, _ => none
  | k + 1, x13, x268000, x268001, x268002 => if x13 = true then (some false) else (triremeref05_LightTerm.l0 k 0 x268000 x268001 x268002)
def triremeref05_LightTerm.l0 : Nat → Int → ByteArray → Int → List ByteArray → Option (Bool)
  | 0, _, _, _, _ => none
  | k + 1, x3, x268000, x268001, x268002 => if x3 < (x268002.length : Int) then (if 0 ≤ x3 then (if ((rdOf ByteArray.empty x268002 x3).size : Int) > 300 then (some false) else (triremeref05_LightTerm.l0 k (wrap64 (x3 + 1)) x268000 x268001 x268002)) else (none)) else (some true)
end
def triremeref05_LightTerm.f (k : Nat) (a0_0 : ByteArray) (a0_1 : Int) (l0_2 : List ByteArray) : Option (Bool) := if (l0_2.length : Int) > 40 then (triremeref05_LightTerm.j0 k true a0_0 a0_1 l0_2) else (triremeref05_LightTerm.j0 k (decide ((a0_0.size : Int) > 300)) a0_0 a0_1 l0_2)
theorem triremeref05_LightTerm.mono_l : ∀ k, (∀ y0 y1 y2 y3, LeO (triremeref05_LightTerm.j0 k y0 y1 y2 y3) (triremeref05_LightTerm.j0 (k + 1) y0 y1 y2 y3)) ∧ (∀ y0 y1 y2 y3, LeO (triremeref05_LightTerm.l0 k y0 y1 y2 y3) (triremeref05_LightTerm.l0 (k + 1) y0 y1 y2 y3))
  | 0 => ⟨fun _ _ _ _ r h => by simp [triremeref05_LightTerm.j0] at h, fun _ _ _ _ r h => by simp [triremeref05_LightTerm.l0] at h⟩
  | k + 1 => by
    obtain ⟨ih0, ih1⟩ := triremeref05_LightTerm.mono_l k
    refine ⟨?_, ?_⟩
    · intro y0 y1 y2 y3
      unfold triremeref05_LightTerm.j0
      repeat' first
      | (with_reducible exact ih0 _ _ _ _)
      | (with_reducible exact ih1 _ _ _ _)
      | (with_reducible exact LeO.refl _)
      | (with_reducible exact LeO.none _)
      | (with_reducible refine LeO.ite ?_ ?_)
      | (with_reducible refine LeO.bind ?_ (fun _ => ?_))
      | exact ih0 _ _ _ _
      | exact ih1 _ _ _ _
      | exact LeO.none _
      | refine LeO.ite ?_ ?_
      | refine LeO.bind ?_ (fun _ => ?_)
    · intro y0 y1 y2 y3
      unfold triremeref05_LightTerm.l0
      repeat' first
      | (with_reducible exact ih0 _ _ _ _)
      | (with_reducible exact ih1 _ _ _ _)
      | (with_reducible exact LeO.refl _)
      | (with_reducible exact LeO.none _)
      | (with_reducible refine LeO.ite ?_ ?_)
      | (with_reducible refine LeO.bind ?_ (fun _ => ?_))
      | exact ih0 _ _ _ _
      | exact ih1 _ _ _ _
      | exact LeO.none _
      | refine LeO.ite ?_ ?_
      | refine LeO.bind ?_ (fun _ => ?_)
theorem triremeref05_LightTerm.mono : ∀ a0 a1 a2 k, LeO (triremeref05_LightTerm.f k a0 a1 a2) (triremeref05_LightTerm.f (k + 1) a0 a1 a2) := by
  intro a0 a1 a2 k
  obtain ⟨ih0, ih1⟩ := triremeref05_LightTerm.mono_l k
  unfold triremeref05_LightTerm.f
  repeat' first
      | (with_reducible exact ih0 _ _ _ _)
      | (with_reducible exact ih1 _ _ _ _)
      | (with_reducible exact LeO.refl _)
      | (with_reducible exact LeO.none _)
      | (with_reducible refine LeO.ite ?_ ?_)
      | (with_reducible refine LeO.bind ?_ (fun _ => ?_))
      | exact ih0 _ _ _ _
      | exact ih1 _ _ _ _
      | exact LeO.none _
      | refine LeO.ite ?_ ?_
      | refine LeO.bind ?_ (fun _ => ?_)
set_option maxHeartbeats 8000000 in
set_option maxRecDepth 100000 in
theorem triremeref05_LightTerm.calls (k : Nat) (a0_0 : ByteArray) (a0_1 : Int) (A0_2 : Option Addr) (c0_2 : Nat) (l0_2 : List ByteArray) (r : Bool) (w : World) (hr0_2 : Kd.C Kd.string w A0_2 l0_2.length l0_2) (hc0_2 : l0_2.length ≤ c0_2) (h : triremeref05_LightTerm.f k a0_0 a0_1 l0_2 = some r) :
    Calls Try.prog 15 #[.agg #[.string a0_0, .int .i64 a0_1, .slice A0_2 l0_2.length c0_2]] w fun e w' => e = .returned (.bool r) ∧ Below w.heap.size w w' := by
  have hu37 := Try.underlying37
  have HR0_2 := Aside0.mk hr0_2
  have HC0_2 := Aside0.mk hc0_2
  clear hr0_2 hc0_2
  have HB := Aside0.mk (Below.refl w.heap.size w)
  have H : (if (l0_2.length : Int) > 40 then (triremeref05_LightTerm.j0 k true a0_0 a0_1 l0_2) else (triremeref05_LightTerm.j0 k (decide ((a0_0.size : Int) > 300)) a0_0 a0_1 l0_2)) = some r := h
  clear h
  have HC2 := Aside0.mk H
  clear H
  go_enter Try.func15, Try.ntmps15
  go_upto_region 1 with (first | ((with_reducible refine gate_dst (N := 1) rfl ?_); (try (refine gate_guard (by rfl) ?_; dsimp only)); refine box_event ?hg (N := 1) ?hd (cs := #[.string a0_0, .int .i64 a0_1, .slice A0_2 l0_2.length c0_2]) (t := 37) ?hr ?_; (case hd => rfl); (case hg => rfl); (case hr => first | (go_simp; done) | (go_simp; rfl)); intro gb267 hg w3 hbox hb; have n0_ := Aside0.mk (below_step (by repeat (first | (with_reducible first | exact HB.out | apply below_alloc | apply pw_below_drewN | apply below_drew1) | exact HB.out)) hb); have n1_ := Aside0.mk (hbox); have n2_ := Aside0.mk ((by rw [hg]; exact (below_size (by repeat (first | (with_reducible first | exact HB.out | apply below_alloc | apply pw_below_drewN | apply below_drew1) | exact HB.out))) : w.heap.size ≤ gb267)); have n3_ := Aside0.mk ((by rw [hg]; exact (below_size (by repeat (first | (with_reducible first | exact HB.out | apply below_alloc | apply pw_below_drewN | apply below_drew1) | exact HB.out))) : w.heap.size ≤ gb267)); clear HB; have HB := n0_; have BK267 := n1_; have GW267 := n2_; have GE267 := n3_; clear n0_ n1_ n2_ n3_; clear hb hbox hg))
  (try simp only [Act.put, List.setIfInBounds_toArray, List.set_cons_zero, List.set_cons_succ])
  go_cut [13] (fun v13 wc => ∃ (kq : Nat) (x13_1 : Bool), v13 = .bool x13_1 ∧ Aside0 (triremeref05_LightTerm.j0 kq x13_1 a0_0 a0_1 l0_2 = some r) ∧ Aside0 (kq ≤ k) ∧ Aside0 (wc.heap[gb267]? = some (.cells #[.string a0_0, .int .i64 a0_1, (.slice A0_2 l0_2.length c0_2)] 37 (0, 0))) ∧ Aside0 (Below w.heap.size w wc))
  case first =>
    have H := HC2.out
    clear HC2
    by_cases c4 : (l0_2.length : Int) > 40
    · rw [if_pos c4] at H
      have c4b0 : decide (40 < (l0_2.length : Int)) = true := decide_eq_true c4
      have c4b1 : decide (40 < l0_2.length) = true := decide_eq_true (by omega)
      clear c4
      (first | rw [c4b0] | (simp only [i64_w, i32_w]; rw [c4b0]) | skip)
      have H' := Aside0.mk H
      clear H
      have hcz5_0 : w3.cell? ⟨gb267, 0, none⟩ = some (.string a0_0) := (blk_cell BK267.out 0).trans rfl
      have hcz5_1 : w3.cell? ⟨gb267, 1, none⟩ = some (.int .i64 a0_1) := (blk_cell BK267.out 1).trans rfl
      have hcz5_2 : w3.cell? ⟨gb267, 2, none⟩ = some (.slice A0_2 l0_2.length c0_2) := (blk_cell BK267.out 2).trans rfl
      have hfz5_0 := blk_frozen BK267.out 0
      have hfz5_1 := blk_frozen BK267.out 1
      have hfz5_2 := blk_frozen BK267.out 2
      go_wp2
      go_meet
      case rel => exact ⟨_, (true), (by first | rfl | (simp; done) | (simp [*]; done)), H', ⟨by first | omega | exact Nat.le_refl _⟩, ⟨by (with_reducible repeat (first | refine blk_drewN ?_ _ | refine blk_drew ?_ | refine blk_alloc ?_ _)); exact BK267.out⟩, ⟨by repeat (first | (with_reducible first | exact HB.out | apply below_alloc | apply pw_below_drewN | apply below_drew1 | refine below_set ?_ GE267.out) | exact HB.out)⟩⟩
    · rw [if_neg c4] at H
      have c4b0 : decide (40 < (l0_2.length : Int)) = false := decide_eq_false c4
      have c4b1 : decide (40 < l0_2.length) = false := decide_eq_false (by omega)
      clear c4
      (first | rw [c4b0] | (simp only [i64_w, i32_w]; rw [c4b0]) | skip)
      have H' := Aside0.mk H
      clear H
      have hcz6_0 : w3.cell? ⟨gb267, 0, none⟩ = some (.string a0_0) := (blk_cell BK267.out 0).trans rfl
      have hcz6_1 : w3.cell? ⟨gb267, 1, none⟩ = some (.int .i64 a0_1) := (blk_cell BK267.out 1).trans rfl
      have hcz6_2 : w3.cell? ⟨gb267, 2, none⟩ = some (.slice A0_2 l0_2.length c0_2) := (blk_cell BK267.out 2).trans rfl
      have hfz6_0 := blk_frozen BK267.out 0
      have hfz6_1 := blk_frozen BK267.out 1
      have hfz6_2 := blk_frozen BK267.out 2
      go_wp2
      go_meet
      case rel => exact ⟨_, (decide ((a0_0.size : Int) > 300)), (by first | rfl | (simp; done) | (simp [*]; done)), H', ⟨by first | omega | exact Nat.le_refl _⟩, ⟨by (with_reducible repeat (first | refine blk_drewN ?_ _ | refine blk_drew ?_ | refine blk_alloc ?_ _)); exact BK267.out⟩, ⟨by repeat (first | (with_reducible first | exact HB.out | apply below_alloc | apply pw_below_drewN | apply below_drew1 | refine below_set ?_ GE267.out) | exact HB.out)⟩⟩
  case rest =>
    clear HC2
    try clear c1
    try clear p2
    try clear c4
    try clear c4b0
    try clear c4b1
    try clear hcz5_0
    try clear hcz5_1
    try clear hcz5_2
    try clear hcz6_0
    try clear hcz6_1
    try clear hcz6_2
    try clear hfz5_0
    try clear hfz5_1
    try clear hfz5_2
    try clear hfz6_0
    try clear hfz6_1
    try clear hfz6_2
    obtain ⟨kq, x13_1, rfl, HA, HJ1, BK267, HB⟩ := hcut
    cases kq with
    | zero => exact absurd HA.out (by simp [triremeref05_LightTerm.j0])
    | succ kj1 =>
      have H := HA.out
      clear HA
      simp only [triremeref05_LightTerm.j0] at H
      by_cases c7 : x13_1 = true
      · subst c7
        have H1 : (some false) = some r := by rw [if_pos rfl] at H; exact H
        clear H
        have H := H1
        clear H1
        obtain rfl := Option.some.inj H
        go_wp2
        go_ret
        exact ⟨by first | rfl | (simp [errW_none, errW_some] <;> rfl) | (simp [*, errW_none, errW_some] <;> rfl), by repeat (first | (with_reducible first | exact HB.out | apply below_alloc | apply pw_below_drewN | apply below_drew1 | refine below_set ?_ GE267.out) | exact HB.out)⟩
      · replace c7 := Bool.eq_false_iff.mpr c7
        subst c7
        have H1 : (triremeref05_LightTerm.l0 kj1 0 a0_0 a0_1 l0_2) = some r := by rw [if_neg (show ¬ (false = true) by decide)] at H; exact H
        clear H
        have H := H1
        clear H1
        have H' := Aside0.mk H
        clear H
        go_wp2
        go_loopg [3] kj1 (fun kq v3 w' => ∃ (x3_2 : Int), v3 = .int .i64 x3_2 ∧ Aside0 (triremeref05_LightTerm.l0 kq x3_2 a0_0 a0_1 l0_2 = some r) ∧ Aside0 (kq ≤ kj1) ∧ Aside0 (w'.heap[gb267]? = some (.cells #[.string a0_0, .int .i64 a0_1, (.slice A0_2 l0_2.length c0_2)] 37 (0, 0))) ∧ Aside0 (Below w.heap.size w w'))
        case atStart => exact ⟨(0), (by first | rfl | (simp; done) | (simp [*]; done)), H', ⟨Nat.le_refl _⟩, ⟨by (with_reducible repeat (first | refine blk_drewN ?_ _ | refine blk_drew ?_ | refine blk_alloc ?_ _)); exact BK267.out⟩, ⟨by repeat (first | (with_reducible first | exact HB.out | apply below_alloc | apply pw_below_drewN | apply below_drew1 | refine below_set ?_ GE267.out) | exact HB.out)⟩⟩
        case round =>
          clear H'
          try clear c1
          try clear p2
          try clear c4
          try clear c4b0
          try clear c4b1
          try clear c7
          try clear hcz5_0
          try clear hcz5_1
          try clear hcz5_2
          try clear hcz6_0
          try clear hcz6_1
          try clear hcz6_2
          try clear hfz5_0
          try clear hfz5_1
          try clear hfz5_2
          try clear hfz6_0
          try clear hfz6_1
          try clear hfz6_2
          try clear p2
          obtain ⟨x3_2, rfl, HA, HK2, BK267, HB⟩ := hrel
          cases gk with
          | zero => exact absurd HA.out (by simp [triremeref05_LightTerm.l0])
          | succ k2 =>
            have H := HA.out
            clear HA
            simp only [triremeref05_LightTerm.l0] at H
            by_cases c8 : x3_2 < (l0_2.length : Int)
            · rw [if_pos c8] at H
              have c8b0 : decide (x3_2 < (l0_2.length : Int)) = true := decide_eq_true c8
              clear c8
              by_cases c9 : 0 ≤ x3_2
              · rw [if_pos c9] at H
                have c9b0 : decide (0 ≤ x3_2) = true := decide_eq_true c9
                clear c9
                by_cases c10 : ((rdOf ByteArray.empty l0_2 x3_2).size : Int) > 300
                · rw [if_pos c10] at H
                  have c10b0 : decide (300 < ((rdOf ByteArray.empty l0_2 x3_2).size : Int)) = true := decide_eq_true c10
                  have c10b1 : decide (300 < (rdOf ByteArray.empty l0_2 x3_2).size) = true := decide_eq_true (by omega)
                  clear c10
                  obtain rfl := Option.some.inj H
                  have hcz11_0 : wr.cell? ⟨gb267, 0, none⟩ = some (.string a0_0) := (blk_cell BK267.out 0).trans rfl
                  have hcz11_1 : wr.cell? ⟨gb267, 1, none⟩ = some (.int .i64 a0_1) := (blk_cell BK267.out 1).trans rfl
                  have hcz11_2 : wr.cell? ⟨gb267, 2, none⟩ = some (.slice A0_2 l0_2.length c0_2) := (blk_cell BK267.out 2).trans rfl
                  have hfz11_0 := blk_frozen BK267.out 0
                  have hfz11_1 := blk_frozen BK267.out 1
                  have hfz11_2 := blk_frozen BK267.out 2
                  have p268 : 0 ≤ (x3_2 : Int) := of_decide_eq_true (by first | (with_reducible assumption) | assumption)
                  have q268 : x3_2 < (l0_2.length : Int) := of_decide_eq_true (by first | (with_reducible assumption) | assumption)
                  obtain ⟨ad268, e268, hx268_0⟩ := Kd.at_string HR0_2.out x3_2 p268 q268
                  cases e268
                  replace hx268_0 := (HB.out.cell (World.block_lt_of_cell? w _ hx268_0)).trans hx268_0
                  replace p268 := eq_true p268
                  replace q268 := eq_true q268
                  go_wp2
                  go_ret
                  exact ⟨by first | rfl | (simp [errW_none, errW_some] <;> rfl) | (simp [*, errW_none, errW_some] <;> rfl), by repeat (first | (with_reducible first | exact HB.out | apply below_alloc | apply pw_below_drewN | apply below_drew1 | refine below_set ?_ GE267.out) | exact HB.out)⟩
                · rw [if_neg c10] at H
                  have c10b0 : decide (300 < ((rdOf ByteArray.empty l0_2 x3_2).size : Int)) = false := decide_eq_false c10
                  have c10b1 : decide (300 < (rdOf ByteArray.empty l0_2 x3_2).size) = false := decide_eq_false (by omega)
                  clear c10
                  have H' := Aside0.mk H
                  clear H
                  have hcz12_0 : wr.cell? ⟨gb267, 0, none⟩ = some (.string a0_0) := (blk_cell BK267.out 0).trans rfl
                  have hcz12_1 : wr.cell? ⟨gb267, 1, none⟩ = some (.int .i64 a0_1) := (blk_cell BK267.out 1).trans rfl
                  have hcz12_2 : wr.cell? ⟨gb267, 2, none⟩ = some (.slice A0_2 l0_2.length c0_2) := (blk_cell BK267.out 2).trans rfl
                  have hfz12_0 := blk_frozen BK267.out 0
                  have hfz12_1 := blk_frozen BK267.out 1
                  have hfz12_2 := blk_frozen BK267.out 2
                  have p268 : 0 ≤ (x3_2 : Int) := of_decide_eq_true (by first | (with_reducible assumption) | assumption)
                  have q268 : x3_2 < (l0_2.length : Int) := of_decide_eq_true (by first | (with_reducible assumption) | assumption)
                  obtain ⟨ad268, e268, hx268_0⟩ := Kd.at_string HR0_2.out x3_2 p268 q268
                  cases e268
                  replace hx268_0 := (HB.out.cell (World.block_lt_of_cell? w _ hx268_0)).trans hx268_0
                  replace p268 := eq_true p268
                  replace q268 := eq_true q268
                  go_wp2
                  go_roundg k2
                  case measure => have := HJ1.out; have := HK2.out; omega
                  case rel => exact ⟨(wrap64 (x3_2 + 1)), (by first | rfl | (simp; done) | (simp [*]; done)), H', ⟨by have := HJ1.out; have := HK2.out; omega⟩, ⟨by (with_reducible repeat (first | refine blk_drewN ?_ _ | refine blk_drew ?_ | refine blk_alloc ?_ _)); exact BK267.out⟩, ⟨by repeat (first | (with_reducible first | exact HB.out | apply below_alloc | apply pw_below_drewN | apply below_drew1 | refine below_set ?_ GE267.out) | exact HB.out)⟩⟩
              · rw [if_neg c9] at H
                exact absurd H (by simp)
            · rw [if_neg c8] at H
              have c8b0 : decide (x3_2 < (l0_2.length : Int)) = false := decide_eq_false c8
              clear c8
              obtain rfl := Option.some.inj H
              have hcz13_0 : wr.cell? ⟨gb267, 0, none⟩ = some (.string a0_0) := (blk_cell BK267.out 0).trans rfl
              have hcz13_1 : wr.cell? ⟨gb267, 1, none⟩ = some (.int .i64 a0_1) := (blk_cell BK267.out 1).trans rfl
              have hcz13_2 : wr.cell? ⟨gb267, 2, none⟩ = some (.slice A0_2 l0_2.length c0_2) := (blk_cell BK267.out 2).trans rfl
              have hfz13_0 := blk_frozen BK267.out 0
              have hfz13_1 := blk_frozen BK267.out 1
              have hfz13_2 := blk_frozen BK267.out 2
              go_wp2
              go_ret
              exact ⟨by first | rfl | (simp [errW_none, errW_some] <;> rfl) | (simp [*, errW_none, errW_some] <;> rfl), by repeat (first | (with_reducible first | exact HB.out | apply below_alloc | apply pw_below_drewN | apply below_drew1 | refine below_set ?_ GE267.out) | exact HB.out)⟩
end Go.Proofs.Ytcnaefnlnjfjkaa.H
end
section
namespace Go.Proofs.Ytcnaefnlnjfjkaa.H
open Go.RowKit Go.Proofs.YtcnaefnlnjfjkaaW.PrintWords Go.Proofs.YtcnaefnlnjfjkaaW.PrintLast Go.Proofs.YtcnaefnlnjfjkaaW.PrintMore
attribute [local go_sem] max2_int min2_int max_two min_two max_three min_three max_four min_four   -- for this text's walks alone
set_option linter.unusedVariables false
set_option linter.unusedSimpArgs false
def triremeref03_digit.f (a0 : Int) : Option (Bool) := if a0 ≥ 48 then (some (decide (a0 ≤ 57))) else (some false)
set_option maxHeartbeats 8000000 in
set_option maxRecDepth 100000 in
theorem triremeref03_digit.calls (a0 : Int) (r : Bool) (w : World) (h : triremeref03_digit.f a0 = some r) :
    Calls Try.prog 44 #[.int .u8 a0] w fun e w' => e = .returned (.bool r) ∧ Drawn0 w w' := by
  have H : (if a0 ≥ 48 then (some (decide (a0 ≤ 57))) else (some false)) = some r := h
  clear h
  by_cases c2 : a0 ≥ 48
  · rw [if_pos c2] at H
    have c2b0 : decide (48 ≤ a0) = true := decide_eq_true c2
    clear c2
    obtain rfl := Option.some.inj H
    go_enter Try.func44, Try.ntmps44
    go_wp2
    go_ret
    exact ⟨by first | rfl | (simp; done) | (simp [*]; done), by repeat (first | exact Drawn0.refl _ | apply Drawn0.step)⟩
  · rw [if_neg c2] at H
    have c2b0 : decide (48 ≤ a0) = false := decide_eq_false c2
    clear c2
    obtain rfl := Option.some.inj H
    go_enter Try.func44, Try.ntmps44
    go_wp2
    go_ret
    exact ⟨by first | rfl | (simp; done) | (simp [*]; done), by repeat (first | exact Drawn0.refl _ | apply Drawn0.step)⟩
end Go.Proofs.Ytcnaefnlnjfjkaa.H
end
section
namespace Go.Proofs.Ytcnaefnlnjfjkaa.H
open Go.RowKit Go.Proofs.YtcnaefnlnjfjkaaW.PrintWords Go.Proofs.YtcnaefnlnjfjkaaW.PrintLast Go.Proofs.YtcnaefnlnjfjkaaW.PrintMore
attribute [local go_sem] max2_int min2_int max_two min_two max_three min_three max_four min_four   -- for this text's walks alone
set_option linter.unusedVariables false
set_option linter.unusedSimpArgs false
def triremeref03_digits.l0 : Nat → ByteArray → Int → Option (Int)
  | 0, _, _ => none
  | k + 1, x0, x3 => if x3 < (x0.size : Int) then (if 0 ≤ x3 then ((triremeref03_digit.f (bt x0 x3)).bind fun t269 => (if t269 = true then (triremeref03_digits.l0 k x0 (wrap64 (x3 + 1))) else (some x3))) else (none)) else (some x3)
def triremeref03_digits.f (k : Nat) (a0 : ByteArray) : Option (Int) := triremeref03_digits.l0 k a0 0
theorem triremeref03_digits.mono_l : ∀ k, (∀ y0 y1, LeO (triremeref03_digits.l0 k y0 y1) (triremeref03_digits.l0 (k + 1) y0 y1))
  | 0 => fun _ _ r h => by simp [triremeref03_digits.l0] at h
  | k + 1 => by
    have ih0 := triremeref03_digits.mono_l k
    · intro y0 y1
      unfold triremeref03_digits.l0
      repeat' first
      | (with_reducible exact ih0 _ _)
      | (with_reducible exact LeO.refl _)
      | (with_reducible exact LeO.none _)
      | (with_reducible refine LeO.ite ?_ ?_)
      | (with_reducible refine LeO.bind ?_ (fun _ => ?_))
      | exact ih0 _ _
      | exact LeO.none _
      | refine LeO.ite ?_ ?_
      | refine LeO.bind ?_ (fun _ => ?_)
theorem triremeref03_digits.mono : ∀ a0 k, LeO (triremeref03_digits.f k a0) (triremeref03_digits.f (k + 1) a0) := by
  intro a0 k
  have ih0 := triremeref03_digits.mono_l k
  unfold triremeref03_digits.f
  repeat' first
      | (with_reducible exact ih0 _ _)
      | (with_reducible exact LeO.refl _)
      | (with_reducible exact LeO.none _)
      | (with_reducible refine LeO.ite ?_ ?_)
      | (with_reducible refine LeO.bind ?_ (fun _ => ?_))
      | exact ih0 _ _
      | exact LeO.none _
      | refine LeO.ite ?_ ?_
      | refine LeO.bind ?_ (fun _ => ?_)
set_option maxHeartbeats 8000000 in
set_option maxRecDepth 100000 in
theorem triremeref03_digits.calls (k : Nat) (a0 : ByteArray) (r : Int) (w : World) (h : triremeref03_digits.f k a0 = some r) :
    Calls Try.prog 37 #[.string a0] w fun e w' => e = .returned (.int .i64 r) ∧ Drawn0 w w' := by
  have H : (triremeref03_digits.l0 k a0 0) = some r := h
  clear h
  have H' := Aside0.mk H
  clear H
  go_enter Try.func37, Try.ntmps37
  go_wp2
  go_loopg [3] k (fun kq v3 w' => ∃ (x3_1 : Int), v3 = .int .i64 x3_1 ∧ Aside0 (triremeref03_digits.l0 kq a0 x3_1 = some r) ∧ Aside0 (kq ≤ k) ∧ Drawn0 w w')
  case atStart => exact ⟨(0), (by first | rfl | (simp; done) | (simp [*]; done)), H', ⟨Nat.le_refl _⟩, by repeat (first | exact Drawn0.refl _ | apply Drawn0.step)⟩
  case round =>
    clear H'
    obtain ⟨x3_1, rfl, HA, HK1, ⟨m1, rfl⟩⟩ := hrel
    cases gk with
    | zero => exact absurd HA.out (by simp [triremeref03_digits.l0])
    | succ k1 =>
      have H := HA.out
      clear HA
      simp only [triremeref03_digits.l0] at H
      by_cases c2 : x3_1 < (a0.size : Int)
      · rw [if_pos c2] at H
        have c2b0 : decide (x3_1 < (a0.size : Int)) = true := decide_eq_true c2
        clear c2
        by_cases c3 : 0 ≤ x3_1
        · rw [if_pos c3] at H
          have c3b0 : decide (0 ≤ x3_1) = true := decide_eq_true c3
          clear c3
          replace H := Option.bind_eq_some_iff.mp H
          obtain ⟨t269, A50, H⟩ := H
          replace H : (if t269 = true then (triremeref03_digits.l0 k1 a0 (wrap64 (x3_1 + 1))) else (some x3_1)) = some r := H
          have A5 := Aside0.mk A50
          clear A50
          by_cases c6 : t269 = true
          · subst c6
            have H1 : (triremeref03_digits.l0 k1 a0 (wrap64 (x3_1 + 1))) = some r := by rw [if_pos rfl] at H; exact H
            clear H
            have H := H1
            clear H1
            have H' := Aside0.mk H
            clear H
            have p4 : 0 ≤ (x3_1 : Int) := of_decide_eq_true (by first | (with_reducible assumption) | assumption)
            have q4 : x3_1 < (a0.size : Int) := of_decide_eq_true (by first | (with_reducible assumption) | assumption)
            have hx4 := bt_at a0 x3_1
            replace p4 := eq_true p4
            replace q4 := eq_true q4
            go_wp2_with (first | (go_at_call 44; (with_reducible refine (triremeref03_digit.calls (bt a0 x3_1) true _ A5.out).mono ?_); rintro e w' ⟨rfl, ⟨nd, rfl⟩⟩))
            go_roundg k1
            case measure => have := HK1.out; omega
            case rel => exact ⟨(wrap64 (x3_1 + 1)), (by first | rfl | (simp; done) | (simp [*]; done)), H', ⟨by have := HK1.out; omega⟩, by repeat (first | exact Drawn0.refl _ | apply Drawn0.step)⟩
          · replace c6 := Bool.eq_false_iff.mpr c6
            subst c6
            have H1 : (some x3_1) = some r := by rw [if_neg (show ¬ (false = true) by decide)] at H; exact H
            clear H
            have H := H1
            clear H1
            obtain rfl := Option.some.inj H
            have p4 : 0 ≤ (x3_1 : Int) := of_decide_eq_true (by first | (with_reducible assumption) | assumption)
            have q4 : x3_1 < (a0.size : Int) := of_decide_eq_true (by first | (with_reducible assumption) | assumption)
            have hx4 := bt_at a0 x3_1
            replace p4 := eq_true p4
            replace q4 := eq_true q4
            go_wp2_with (first | (go_at_call 44; (with_reducible refine (triremeref03_digit.calls (bt a0 x3_1) false _ A5.out).mono ?_); rintro e w' ⟨rfl, ⟨nd, rfl⟩⟩))
            go_ret
            exact ⟨by first | rfl | (simp; done) | (simp [*]; done), by repeat (first | exact Drawn0.refl _ | apply Drawn0.step)⟩
        · rw [if_neg c3] at H
          exact absurd H (by simp)
      · rw [if_neg c2] at H
        have c2b0 : decide (x3_1 < (a0.size : Int)) = false := decide_eq_false c2
        clear c2
        obtain rfl := Option.some.inj H
        go_wp2
        go_ret
        exact ⟨by first | rfl | (simp; done) | (simp [*]; done), by repeat (first | exact Drawn0.refl _ | apply Drawn0.step)⟩
end Go.Proofs.Ytcnaefnlnjfjkaa.H
end
section
namespace Go.Proofs.Ytcnaefnlnjfjkaa.H
open Go.RowKit Go.Proofs.YtcnaefnlnjfjkaaW.PrintWords Go.Proofs.YtcnaefnlnjfjkaaW.PrintLast Go.Proofs.YtcnaefnlnjfjkaaW.PrintMore
attribute [local go_sem] max2_int min2_int max_two min_two max_three min_three max_four min_four   -- for this text's walks alone
set_option linter.unusedVariables false
set_option linter.unusedSimpArgs false
def triremeref03_value.l0 : Nat → ByteArray → Int → Int → Option (Int)
  | 0, _, _, _ => none
  | k + 1, x0, x3, x4 => if x4 < (x0.size : Int) then (if 0 ≤ x4 then (triremeref03_value.l0 k x0 (mn (wrap64 ((wrap64 (10 * x3)) + (((bt x0 x4) - 48) % 256))) 1125899906842625) (wrap64 (x4 + 1))) else (none)) else (some x3)
def triremeref03_value.f (k : Nat) (a0 : ByteArray) : Option (Int) := triremeref03_value.l0 k a0 0 0
theorem triremeref03_value.mono_l : ∀ k, (∀ y0 y1 y2, LeO (triremeref03_value.l0 k y0 y1 y2) (triremeref03_value.l0 (k + 1) y0 y1 y2))
  | 0 => fun _ _ _ r h => by simp [triremeref03_value.l0] at h
  | k + 1 => by
    have ih0 := triremeref03_value.mono_l k
    · intro y0 y1 y2
      unfold triremeref03_value.l0
      repeat' first
      | (with_reducible exact ih0 _ _ _)
      | (with_reducible exact LeO.refl _)
      | (with_reducible exact LeO.none _)
      | (with_reducible refine LeO.ite ?_ ?_)
      | (with_reducible refine LeO.bind ?_ (fun _ => ?_))
      | exact ih0 _ _ _
      | exact LeO.none _
      | refine LeO.ite ?_ ?_
      | refine LeO.bind ?_ (fun _ => ?_)
theorem triremeref03_value.mono : ∀ a0 k, LeO (triremeref03_value.f k a0) (triremeref03_value.f (k + 1) a0) := by
  intro a0 k
  have ih0 := triremeref03_value.mono_l k
  unfold triremeref03_value.f
  repeat' first
      | (with_reducible exact ih0 _ _ _)
      | (with_reducible exact LeO.refl _)
      | (with_reducible exact LeO.none _)
      | (with_reducible refine LeO.ite ?_ ?_)
      | (with_reducible refine LeO.bind ?_ (fun _ => ?_))
      | exact ih0 _ _ _
      | exact LeO.none _
      | refine LeO.ite ?_ ?_
      | refine LeO.bind ?_ (fun _ => ?_)
set_option maxHeartbeats 8000000 in
set_option maxRecDepth 100000 in
theorem triremeref03_value.calls (k : Nat) (a0 : ByteArray) (r : Int) (w : World) (h : triremeref03_value.f k a0 = some r) :
    Calls Try.prog 38 #[.string a0] w fun e w' => e = .returned (.int .i64 r) ∧ Below w.heap.size w w' := by
  have HB := Aside0.mk (Below.refl w.heap.size w)
  have H : (triremeref03_value.l0 k a0 0 0) = some r := h
  clear h
  have H' := Aside0.mk H
  clear H
  go_enter Try.func38, Try.ntmps38
  go_wp2
  go_loopg [3, 4] k (fun kq v3 v4 w' => ∃ (x3_1 : Int) (x4_1 : Int), v3 = .int .i64 x3_1 ∧ v4 = .int .i64 x4_1 ∧ Aside0 (triremeref03_value.l0 kq a0 x3_1 x4_1 = some r) ∧ Aside0 (kq ≤ k) ∧ Aside0 (Below w.heap.size w w'))
  case atStart => exact ⟨(0), (0), (by first | rfl | (simp; done) | (simp [*]; done)), (by first | rfl | (simp; done) | (simp [*]; done)), H', ⟨Nat.le_refl _⟩, ⟨by repeat (first | (with_reducible first | exact HB.out | apply below_alloc | apply pw_below_drewN | apply below_drew1) | exact HB.out)⟩⟩
  case round =>
    clear H'
    obtain ⟨x3_1, x4_1, rfl, rfl, HA, HK1, HB⟩ := hrel
    cases gk with
    | zero => exact absurd HA.out (by simp [triremeref03_value.l0])
    | succ k1 =>
      have H := HA.out
      clear HA
      simp only [triremeref03_value.l0] at H
      by_cases c2 : x4_1 < (a0.size : Int)
      · rw [if_pos c2] at H
        have c2b0 : decide (x4_1 < (a0.size : Int)) = true := decide_eq_true c2
        clear c2
        by_cases c3 : 0 ≤ x4_1
        · rw [if_pos c3] at H
          have c3b0 : decide (0 ≤ x4_1) = true := decide_eq_true c3
          clear c3
          obtain ⟨ji5, hji5⟩ : ∃ j_ : Int, (mn (wrap64 ((wrap64 (10 * x3_1)) + (((bt a0 x4_1) - 48) % 256))) 1125899906842625) = j_ := ⟨_, rfl⟩
          replace H : (triremeref03_value.l0 k1 a0 ji5 (wrap64 (x4_1 + 1))) = some r := by first | (rw [hji5] at H; exact H) | (simp only [hji5] at H ⊢; exact H)
          have hji5_ : (if 1125899906842625 < (wrap64 ((wrap64 (10 * x3_1)) + (((bt a0 x4_1) - 48) % 256))) then 1125899906842625 else (wrap64 ((wrap64 (10 * x3_1)) + (((bt a0 x4_1) - 48) % 256)))) = ji5 := hji5
          have H' := Aside0.mk H
          clear H
          have p4 : 0 ≤ (x4_1 : Int) := of_decide_eq_true (by first | (with_reducible assumption) | assumption)
          have q4 : x4_1 < (a0.size : Int) := of_decide_eq_true (by first | (with_reducible assumption) | assumption)
          have hx4 := bt_at a0 x4_1
          replace p4 := eq_true p4
          replace q4 := eq_true q4
          go_wp2
          go_roundg k1
          case measure => have := HK1.out; omega
          case rel => exact ⟨(ji5), (wrap64 (x4_1 + 1)), (by first | rfl | (simp; done) | (simp only [← hji5] <;> (first | rfl | simp)) | (simp [*]; done)), (by first | rfl | (simp; done) | (simp [*]; done)), H', ⟨by have := HK1.out; omega⟩, ⟨by repeat (first | (with_reducible first | exact HB.out | apply below_alloc | apply pw_below_drewN | apply below_drew1) | exact HB.out)⟩⟩
        · rw [if_neg c3] at H
          exact absurd H (by simp)
      · rw [if_neg c2] at H
        have c2b0 : decide (x4_1 < (a0.size : Int)) = false := decide_eq_false c2
        clear c2
        obtain rfl := Option.some.inj H
        go_wp2
        go_ret
        exact ⟨by first | rfl | (simp [errW_none, errW_some] <;> rfl) | (simp [*, errW_none, errW_some] <;> rfl), by repeat (first | (with_reducible first | exact HB.out | apply below_alloc | apply pw_below_drewN | apply below_drew1) | exact HB.out)⟩
end Go.Proofs.Ytcnaefnlnjfjkaa.H
end
section
namespace Go.Proofs.Ytcnaefnlnjfjkaa.H
open Go.RowKit Go.Proofs.YtcnaefnlnjfjkaaW.PrintWords Go.Proofs.YtcnaefnlnjfjkaaW.PrintLast Go.Proofs.YtcnaefnlnjfjkaaW.PrintMore
attribute [local go_sem] max2_int min2_int max_two min_two max_three min_three max_four min_four   -- for this text's walks alone
set_option linter.unusedVariables false
set_option linter.unusedSimpArgs false
def triremeref03_Number.j0 : Nat → ByteArray → Bool → Option (Int × Int)
  | 0, _, _ => none
  | k + 1, x0, x14 => if x14 = true then (some (0, 8)) else ((triremeref03_value.f k x0).bind fun t271 => (if t271 > 1125899906842624 then (some (0, 10)) else (some (t271, 0))))
def triremeref03_Number.f (k : Nat) (a0 : ByteArray) : Option (Int × Int) := if (a0.size : Int) = 0 then (triremeref03_Number.j0 k a0 true) else ((triremeref03_digits.f k a0).bind fun t270 => (triremeref03_Number.j0 k a0 (decide (t270 < (a0.size : Int)))))
theorem triremeref03_Number.mono_l : ∀ k, (∀ y0 y1, LeO (triremeref03_Number.j0 k y0 y1) (triremeref03_Number.j0 (k + 1) y0 y1))
  | 0 => fun _ _ r h => by simp [triremeref03_Number.j0] at h
  | k + 1 => by
    have ih0 := triremeref03_Number.mono_l k
    · intro y0 y1
      unfold triremeref03_Number.j0
      repeat' first
      | (with_reducible exact ih0 _ _)
      | (with_reducible exact triremeref03_digits.mono _ _)
      | (with_reducible exact triremeref03_value.mono _ _)
      | (with_reducible exact LeO.refl _)
      | (with_reducible exact LeO.none _)
      | (with_reducible refine LeO.ite ?_ ?_)
      | (with_reducible refine LeO.bind ?_ (fun _ => ?_))
      | exact ih0 _ _
      | exact triremeref03_digits.mono _ _
      | exact triremeref03_value.mono _ _
      | exact LeO.none _
      | refine LeO.ite ?_ ?_
      | refine LeO.bind ?_ (fun _ => ?_)
theorem triremeref03_Number.mono : ∀ a0 k, LeO (triremeref03_Number.f k a0) (triremeref03_Number.f (k + 1) a0) := by
  intro a0 k
  have ih0 := triremeref03_Number.mono_l k
  unfold triremeref03_Number.f
  repeat' first
      | (with_reducible exact ih0 _ _)
      | (with_reducible exact triremeref03_digits.mono _ _)
      | (with_reducible exact triremeref03_value.mono _ _)
      | (with_reducible exact LeO.refl _)
      | (with_reducible exact LeO.none _)
      | (with_reducible refine LeO.ite ?_ ?_)
      | (with_reducible refine LeO.bind ?_ (fun _ => ?_))
      | exact ih0 _ _
      | exact triremeref03_digits.mono _ _
      | exact triremeref03_value.mono _ _
      | exact LeO.none _
      | refine LeO.ite ?_ ?_
      | refine LeO.bind ?_ (fun _ => ?_)
set_option maxHeartbeats 8000000 in
set_option maxRecDepth 100000 in
theorem triremeref03_Number.calls (k : Nat) (a0 : ByteArray) (r1 : Int) (r2 : Int) (w : World) (h : triremeref03_Number.f k a0 = some (r1, r2)) :
    Calls Try.prog 30 #[.string a0] w fun e w' => e = .returned (.tuple #[.int .i64 r1, .int .i64 r2]) ∧ Below w.heap.size w w' := by
  have HB := Aside0.mk (Below.refl w.heap.size w)
  have H : (if (a0.size : Int) = 0 then (triremeref03_Number.j0 k a0 true) else ((triremeref03_digits.f k a0).bind fun t270 => (triremeref03_Number.j0 k a0 (decide (t270 < (a0.size : Int)))))) = some (r1, r2) := h
  clear h
  have HC2 := Aside0.mk H
  clear H
  go_enter Try.func30, Try.ntmps30
  go_upto_region 1 with (fail)
  go_cut [14] (fun v14 wc => ∃ (kq : Nat) (x14_1 : Bool), v14 = .bool x14_1 ∧ Aside0 (triremeref03_Number.j0 kq a0 x14_1 = some (r1, r2)) ∧ Aside0 (kq ≤ k) ∧ Aside0 (Below w.heap.size w wc))
  case first =>
    have H := HC2.out
    clear HC2
    by_cases c3 : (a0.size : Int) = 0
    · rw [if_pos c3] at H
      have c3b0 : ((a0.size : Int) == 0) = true := beq_iff_eq.mpr c3
      have c3b1 : ((a0.size : Int) != 0) = false := bne_eq_false_iff_eq.mpr c3
      clear c3
      (first | rw [c3b0] | (simp only [i64_w, i32_w]; rw [c3b0]) | skip)
      have H' := Aside0.mk H
      clear H
      go_wp2
      go_meet
      case rel => exact ⟨_, (true), (by first | rfl | (simp; done) | (simp [*]; done)), H', ⟨by first | omega | exact Nat.le_refl _⟩, ⟨by repeat (first | (with_reducible first | exact HB.out | apply below_alloc | apply pw_below_drewN | apply below_drew1) | exact HB.out)⟩⟩
    · rw [if_neg c3] at H
      have c3b0 : ((a0.size : Int) == 0) = false := beq_eq_false_iff_ne.mpr c3
      have c3b1 : ((a0.size : Int) != 0) = true := bne_iff_ne.mpr c3
      (first | rw [c3b0] | (simp only [i64_w, i32_w]; rw [c3b0]) | skip)
      replace H := Option.bind_eq_some_iff.mp H
      obtain ⟨t270, A40, H⟩ := H
      replace H : (triremeref03_Number.j0 k a0 (decide (t270 < (a0.size : Int)))) = some (r1, r2) := H
      have A4 := Aside0.mk A40
      clear A40
      have H' := Aside0.mk H
      clear H
      go_wp2_with (first | (go_at_call 37; (with_reducible refine (triremeref03_digits.calls k a0 t270 _ A4.out).mono ?_); rintro e w' ⟨rfl, ⟨nd, rfl⟩⟩))
      go_meet
      case rel => exact ⟨_, (decide (t270 < (a0.size : Int))), (by first | rfl | (simp; done) | (simp [*]; done)), H', ⟨by first | omega | exact Nat.le_refl _⟩, ⟨by repeat (first | (with_reducible first | exact HB.out | apply below_alloc | apply pw_below_drewN | apply below_drew1) | exact HB.out)⟩⟩
  case rest =>
    clear HC2
    try clear p2
    try clear c3
    try clear c3b0
    try clear c3b1
    obtain ⟨kq, x14_1, rfl, HA, HJ1, HB⟩ := hcut
    cases kq with
    | zero => exact absurd HA.out (by simp [triremeref03_Number.j0])
    | succ kj1 =>
      have H := HA.out
      clear HA
      simp only [triremeref03_Number.j0] at H
      by_cases c5 : x14_1 = true
      · subst c5
        have H1 : (some (0, 8)) = some (r1, r2) := by rw [if_pos rfl] at H; exact H
        clear H
        have H := H1
        clear H1
        simp only [Option.some.injEq, Prod.mk.injEq] at H
        obtain ⟨rfl, rfl⟩ := H
        go_wp2
        go_ret2
        exact ⟨by first | rfl | (simp [errW_none, errW_some] <;> rfl) | (simp [*, errW_none, errW_some] <;> rfl), by repeat (first | (with_reducible first | exact HB.out | apply below_alloc | apply pw_below_drewN | apply below_drew1) | exact HB.out)⟩
      · replace c5 := Bool.eq_false_iff.mpr c5
        subst c5
        have H1 : ((triremeref03_value.f kj1 a0).bind fun t271 => (if t271 > 1125899906842624 then (some (0, 10)) else (some (t271, 0)))) = some (r1, r2) := by rw [if_neg (show ¬ (false = true) by decide)] at H; exact H
        clear H
        have H := H1
        clear H1
        replace H := Option.bind_eq_some_iff.mp H
        obtain ⟨t271, A60, H⟩ := H
        replace H : (if t271 > 1125899906842624 then (some (0, 10)) else (some (t271, 0))) = some (r1, r2) := H
        have A6 := Aside0.mk A60
        clear A60
        by_cases c7 : t271 > 1125899906842624
        · rw [if_pos c7] at H
          have c7b0 : decide (1125899906842624 < t271) = true := decide_eq_true c7
          clear c7
          simp only [Option.some.injEq, Prod.mk.injEq] at H
          obtain ⟨rfl, rfl⟩ := H
          go_wp2_with (first | ((first | ((with_reducible refine gate_callee (f := 38) rfl ?_); refine goesL_ (some 16) rfl rfl Try.func38 (by kernel_rfl) rfl #[.string a0] rfl (by (try simp only [List.map_toArray, List.map_cons, List.map_nil]); first | done | rfl | (simp only [List.length_drop, List.length_take]; rfl)) ?_; (with_reducible refine (triremeref03_value.calls kj1 a0 t271 _ A6.out).mono ?_); rintro e w8 ⟨rfl, hb⟩; refine ⟨_, rfl, ?_⟩) | (go_at_call 38; (with_reducible refine (triremeref03_value.calls kj1 a0 t271 _ A6.out).mono ?_); rintro e w8 ⟨rfl, hb⟩)); have n0_ := Aside0.mk (below_step (by repeat (first | (with_reducible first | exact HB.out | apply below_alloc | apply pw_below_drewN | apply below_drew1) | exact HB.out)) hb); clear HB; have HB := n0_; clear n0_; (try clear hb); (try clear hb2); (try clear hk); (try clear hi)))
          go_ret2
          exact ⟨by first | rfl | (simp [errW_none, errW_some] <;> rfl) | (simp [*, errW_none, errW_some] <;> rfl), by repeat (first | (with_reducible first | exact HB.out | apply below_alloc | apply pw_below_drewN | apply below_drew1) | exact HB.out)⟩
        · rw [if_neg c7] at H
          have c7b0 : decide (1125899906842624 < t271) = false := decide_eq_false c7
          clear c7
          simp only [Option.some.injEq, Prod.mk.injEq] at H
          obtain ⟨rfl, rfl⟩ := H
          go_wp2_with (first | ((first | ((with_reducible refine gate_callee (f := 38) rfl ?_); refine goesL_ (some 16) rfl rfl Try.func38 (by kernel_rfl) rfl #[.string a0] rfl (by (try simp only [List.map_toArray, List.map_cons, List.map_nil]); first | done | rfl | (simp only [List.length_drop, List.length_take]; rfl)) ?_; (with_reducible refine (triremeref03_value.calls kj1 a0 t271 _ A6.out).mono ?_); rintro e w9 ⟨rfl, hb⟩; refine ⟨_, rfl, ?_⟩) | (go_at_call 38; (with_reducible refine (triremeref03_value.calls kj1 a0 t271 _ A6.out).mono ?_); rintro e w9 ⟨rfl, hb⟩)); have n0_ := Aside0.mk (below_step (by repeat (first | (with_reducible first | exact HB.out | apply below_alloc | apply pw_below_drewN | apply below_drew1) | exact HB.out)) hb); clear HB; have HB := n0_; clear n0_; (try clear hb); (try clear hb2); (try clear hk); (try clear hi)))
          go_ret2
          exact ⟨by first | rfl | (simp [errW_none, errW_some] <;> rfl) | (simp [*, errW_none, errW_some] <;> rfl), by repeat (first | (with_reducible first | exact HB.out | apply below_alloc | apply pw_below_drewN | apply below_drew1) | exact HB.out)⟩
end Go.Proofs.Ytcnaefnlnjfjkaa.H
end
