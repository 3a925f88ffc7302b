import Derived.Test.YtcnaefnlnjfjkaaCLabelsMeets0
import Derived.Test.YtcnaefnlnjfjkaaCLabelsMeets1
import Derived.Test.YtcnaefnlnjfjkaaCLabelsMeets2
import Derived.Test.YtcnaefnlnjfjkaaCLabelsMeets3
import Derived.Test.YtcnaefnlnjfjkaaCLabelsMeets4
import Derived.Test.YtcnaefnlnjfjkaaCLabelsMeets5
section
namespace Go.Proofs.Ytcnaefnlnjfjkaa.H
open Go.RowKit Go.Proofs.YtcnaefnlnjfjkaaW.PrintWords Go.Proofs.YtcnaefnlnjfjkaaW.PrintLast Go.Proofs.YtcnaefnlnjfjkaaW.PrintMore
attribute [local go_sem] max2_int min2_int max_two min_two max_three min_three max_four min_four   -- for this text's walks alone
set_option linter.unusedVariables false
set_option linter.unusedSimpArgs false
mutual
def triremeref05_RightTerm.j0 : Nat → Int → Bool → ByteArray → Int → List ByteArray → Option (Bool)
  | 0, _, _, _, _, _ => none
  | k + 1, x11, x12, x273000, x273001, x273002 => if x12 = true then (triremeref05_RightTerm.l0 k 0 x273000 x273001 x273002) else (if x11 = 3 then (triremeref05_RightTerm.j2 k x11 (x11 == 3) x273000 x273001 x273002) else (triremeref05_RightTerm.j2 k x11 (x11 == 4) x273000 x273001 x273002))
def triremeref05_RightTerm.l0 : Nat → Int → ByteArray → Int → List ByteArray → Option (Bool)
  | 0, _, _, _, _ => none
  | k + 1, x3, x273000, x273001, x273002 => if x3 < (x273002.length : Int) then (if 0 ≤ x3 then ((triremeref05_maybe.f k (rdOf ByteArray.empty x273002 x3)).bind fun t275 => (if t275 = true then (triremeref05_RightTerm.l0 k (wrap64 (x3 + 1)) x273000 x273001 x273002) else (some false))) else (none)) else (if (x273002.length : Int) ≥ 1 then (some (decide ((x273002.length : Int) ≤ 16))) else (some false))
def triremeref05_RightTerm.j2 : Nat → Int → Bool → ByteArray → Int → List ByteArray → Option (Bool)
  | 0, _, _, _, _, _ => none
  | k + 1, x11, x39, x273000, x273001, x273002 => if x39 = true then (some ((x273002.length : Int) == 0)) else (if x11 = 5 then (triremeref05_RightTerm.j3 k (x11 == 5) x273000 x273001 x273002) else (triremeref05_RightTerm.j3 k (x11 == 6) x273000 x273001 x273002))
def triremeref05_RightTerm.j3 : Nat → Bool → ByteArray → Int → List ByteArray → Option (Bool)
  | 0, _, _, _, _ => none
  | k + 1, x46, x273000, x273001, x273002 => if x46 = true then (if (x273002.length : Int) = 1 then (if 0 < (x273002.length : Int) then ((triremeref03_Number.f k (rdOf ByteArray.empty x273002 0)).bind fun bt277 => (some (bt277.2 == 0))) else (none)) else (some false)) else (some false)
end
def triremeref05_RightTerm.f (k : Nat) (a0_0 : ByteArray) (a0_1 : Int) (l0_2 : List ByteArray) : Option (Bool) := (triremeref01_Word.f k a0_0).bind fun t273 => (if t273 = true then (if a0_1 = 1 then (triremeref05_RightTerm.j0 k a0_1 (a0_1 == 1) a0_0 a0_1 l0_2) else (triremeref05_RightTerm.j0 k a0_1 (a0_1 == 2) a0_0 a0_1 l0_2)) else (some false))
theorem triremeref05_RightTerm.mono_l : ∀ k, (∀ y0 y1 y2 y3 y4, LeO (triremeref05_RightTerm.j0 k y0 y1 y2 y3 y4) (triremeref05_RightTerm.j0 (k + 1) y0 y1 y2 y3 y4)) ∧ (∀ y0 y1 y2 y3, LeO (triremeref05_RightTerm.l0 k y0 y1 y2 y3) (triremeref05_RightTerm.l0 (k + 1) y0 y1 y2 y3)) ∧ (∀ y0 y1 y2 y3 y4, LeO (triremeref05_RightTerm.j2 k y0 y1 y2 y3 y4) (triremeref05_RightTerm.j2 (k + 1) y0 y1 y2 y3 y4)) ∧ (∀ y0 y1 y2 y3, LeO (triremeref05_RightTerm.j3 k y0 y1 y2 y3) (triremeref05_RightTerm.j3 (k + 1) y0 y1 y2 y3))
  | 0 => ⟨fun _ _ _ _ _ r h => by simp [triremeref05_RightTerm.j0] at h, fun _ _ _ _ r h => by simp [triremeref05_RightTerm.l0] at h, fun _ _ _ _ _ r h => by simp [triremeref05_RightTerm.j2] at h, fun _ _ _ _ r h => by simp [triremeref05_RightTerm.j3] at h⟩
  | k + 1 => by
    obtain ⟨ih0, ih1, ih2, ih3⟩ := triremeref05_RightTerm.mono_l k
    refine ⟨?_, ?_, ?_, ?_⟩
    · intro y0 y1 y2 y3 y4
      unfold triremeref05_RightTerm.j0
      repeat' first
      | (with_reducible exact ih0 _ _ _ _ _)
      | (with_reducible exact ih1 _ _ _ _)
      | (with_reducible exact ih2 _ _ _ _ _)
      | (with_reducible exact ih3 _ _ _ _)
      | (with_reducible exact triremeref01_Word.mono _ _)
      | (with_reducible exact triremeref03_Number.mono _ _)
      | (with_reducible exact triremeref05_maybe.mono _ _)
      | (with_reducible exact LeO.refl _)
      | (with_reducible exact LeO.none _)
      | (with_reducible refine LeO.ite ?_ ?_)
      | (with_reducible refine LeO.bind ?_ (fun _ => ?_))
      | exact ih0 _ _ _ _ _
      | exact ih1 _ _ _ _
      | exact ih2 _ _ _ _ _
      | exact ih3 _ _ _ _
      | exact triremeref01_Word.mono _ _
      | exact triremeref03_Number.mono _ _
      | exact triremeref05_maybe.mono _ _
      | exact LeO.none _
      | refine LeO.ite ?_ ?_
      | refine LeO.bind ?_ (fun _ => ?_)
    · intro y0 y1 y2 y3
      unfold triremeref05_RightTerm.l0
      repeat' first
      | (with_reducible exact ih0 _ _ _ _ _)
      | (with_reducible exact ih1 _ _ _ _)
      | (with_reducible exact ih2 _ _ _ _ _)
      | (with_reducible exact ih3 _ _ _ _)
      | (with_reducible exact triremeref01_Word.mono _ _)
      | (with_reducible exact triremeref03_Number.mono _ _)
      | (with_reducible exact triremeref05_maybe.mono _ _)
      | (with_reducible exact LeO.refl _)
      | (with_reducible exact LeO.none _)
      | (with_reducible refine LeO.ite ?_ ?_)
      | (with_reducible refine LeO.bind ?_ (fun _ => ?_))
      | exact ih0 _ _ _ _ _
      | exact ih1 _ _ _ _
      | exact ih2 _ _ _ _ _
      | exact ih3 _ _ _ _
      | exact triremeref01_Word.mono _ _
      | exact triremeref03_Number.mono _ _
      | exact triremeref05_maybe.mono _ _
      | exact LeO.none _
      | refine LeO.ite ?_ ?_
      | refine LeO.bind ?_ (fun _ => ?_)
    · intro y0 y1 y2 y3 y4
      unfold triremeref05_RightTerm.j2
      repeat' first
      | (with_reducible exact ih0 _ _ _ _ _)
      | (with_reducible exact ih1 _ _ _ _)
      | (with_reducible exact ih2 _ _ _ _ _)
      | (with_reducible exact ih3 _ _ _ _)
      | (with_reducible exact triremeref01_Word.mono _ _)
      | (with_reducible exact triremeref03_Number.mono _ _)
      | (with_reducible exact triremeref05_maybe.mono _ _)
      | (with_reducible exact LeO.refl _)
      | (with_reducible exact LeO.none _)
      | (with_reducible refine LeO.ite ?_ ?_)
      | (with_reducible refine LeO.bind ?_ (fun _ => ?_))
      | exact ih0 _ _ _ _ _
      | exact ih1 _ _ _ _
      | exact ih2 _ _ _ _ _
      | exact ih3 _ _ _ _
      | exact triremeref01_Word.mono _ _
      | exact triremeref03_Number.mono _ _
      | exact triremeref05_maybe.mono _ _
      | exact LeO.none _
      | refine LeO.ite ?_ ?_
      | refine LeO.bind ?_ (fun _ => ?_)
    · intro y0 y1 y2 y3
      unfold triremeref05_RightTerm.j3
      repeat' first
      | (with_reducible exact ih0 _ _ _ _ _)
      | (with_reducible exact ih1 _ _ _ _)
      | (with_reducible exact ih2 _ _ _ _ _)
      | (with_reducible exact ih3 _ _ _ _)
      | (with_reducible exact triremeref01_Word.mono _ _)
      | (with_reducible exact triremeref03_Number.mono _ _)
      | (with_reducible exact triremeref05_maybe.mono _ _)
      | (with_reducible exact LeO.refl _)
      | (with_reducible exact LeO.none _)
      | (with_reducible refine LeO.ite ?_ ?_)
      | (with_reducible refine LeO.bind ?_ (fun _ => ?_))
      | exact ih0 _ _ _ _ _
      | exact ih1 _ _ _ _
      | exact ih2 _ _ _ _ _
      | exact ih3 _ _ _ _
      | exact triremeref01_Word.mono _ _
      | exact triremeref03_Number.mono _ _
      | exact triremeref05_maybe.mono _ _
      | exact LeO.none _
      | refine LeO.ite ?_ ?_
      | refine LeO.bind ?_ (fun _ => ?_)
theorem triremeref05_RightTerm.mono : ∀ a0 a1 a2 k, LeO (triremeref05_RightTerm.f k a0 a1 a2) (triremeref05_RightTerm.f (k + 1) a0 a1 a2) := by
  intro a0 a1 a2 k
  obtain ⟨ih0, ih1, ih2, ih3⟩ := triremeref05_RightTerm.mono_l k
  unfold triremeref05_RightTerm.f
  repeat' first
      | (with_reducible exact ih0 _ _ _ _ _)
      | (with_reducible exact ih1 _ _ _ _)
      | (with_reducible exact ih2 _ _ _ _ _)
      | (with_reducible exact ih3 _ _ _ _)
      | (with_reducible exact triremeref01_Word.mono _ _)
      | (with_reducible exact triremeref03_Number.mono _ _)
      | (with_reducible exact triremeref05_maybe.mono _ _)
      | (with_reducible exact LeO.refl _)
      | (with_reducible exact LeO.none _)
      | (with_reducible refine LeO.ite ?_ ?_)
      | (with_reducible refine LeO.bind ?_ (fun _ => ?_))
      | exact ih0 _ _ _ _ _
      | exact ih1 _ _ _ _
      | exact ih2 _ _ _ _ _
      | exact ih3 _ _ _ _
      | exact triremeref01_Word.mono _ _
      | exact triremeref03_Number.mono _ _
      | exact triremeref05_maybe.mono _ _
      | exact LeO.none _
      | refine LeO.ite ?_ ?_
      | refine LeO.bind ?_ (fun _ => ?_)
set_option maxHeartbeats 8000000 in
set_option maxRecDepth 100000 in
theorem triremeref05_RightTerm.calls (k : Nat) (a0_0 : ByteArray) (a0_1 : Int) (A0_2 : Option Addr) (c0_2 : Nat) (l0_2 : List ByteArray) (r : Bool) (w : World) (hr0_2 : Kd.C Kd.string w A0_2 l0_2.length l0_2) (hc0_2 : l0_2.length ≤ c0_2) (h : triremeref05_RightTerm.f k a0_0 a0_1 l0_2 = some r) :
    Calls Try.prog 16 #[.agg #[.string a0_0, .int .i64 a0_1, .slice A0_2 l0_2.length c0_2]] w fun e w' => e = .returned (.bool r) ∧ Below w.heap.size w w' := by
  have hu37 := Try.underlying37
  have HR0_2 := Aside0.mk hr0_2
  have HC0_2 := Aside0.mk hc0_2
  clear hr0_2 hc0_2
  have HB := Aside0.mk (Below.refl w.heap.size w)
  have H : ((triremeref01_Word.f k a0_0).bind fun t273 => (if t273 = true then (if a0_1 = 1 then (triremeref05_RightTerm.j0 k a0_1 (a0_1 == 1) a0_0 a0_1 l0_2) else (triremeref05_RightTerm.j0 k a0_1 (a0_1 == 2) a0_0 a0_1 l0_2)) else (some false))) = some r := h
  clear h
  replace H := Option.bind_eq_some_iff.mp H
  obtain ⟨t273, A20, H⟩ := H
  replace H : (if t273 = true then (if a0_1 = 1 then (triremeref05_RightTerm.j0 k a0_1 (a0_1 == 1) a0_0 a0_1 l0_2) else (triremeref05_RightTerm.j0 k a0_1 (a0_1 == 2) a0_0 a0_1 l0_2)) else (some false)) = some r := H
  have A2 := Aside0.mk A20
  clear A20
  by_cases c3 : t273 = true
  · subst c3
    have H1 : (if a0_1 = 1 then (triremeref05_RightTerm.j0 k a0_1 (a0_1 == 1) a0_0 a0_1 l0_2) else (triremeref05_RightTerm.j0 k a0_1 (a0_1 == 2) a0_0 a0_1 l0_2)) = some r := by rw [if_pos rfl] at H; exact H
    clear H
    have H := H1
    clear H1
    have HC4 := Aside0.mk H
    clear H
    go_enter Try.func16, Try.ntmps16
    go_upto_if 12 with (first | ((with_reducible refine gate_dst (N := 1) rfl ?_); (try (refine gate_guard (by rfl) ?_; dsimp only)); refine box_event ?hg (N := 1) ?hd (cs := #[.string a0_0, .int .i64 a0_1, .slice A0_2 l0_2.length c0_2]) (t := 37) ?hr ?_; (case hd => rfl); (case hg => rfl); (case hr => first | (go_simp; done) | (go_simp; rfl)); intro gb272 hg w5 hbox hb; have n0_ := Aside0.mk (below_step (by repeat (first | (with_reducible first | exact HB.out | apply below_alloc | apply pw_below_drewN | apply below_drew1) | exact HB.out)) hb); have n1_ := Aside0.mk (hbox); have n2_ := Aside0.mk ((by rw [hg]; exact (below_size (by repeat (first | (with_reducible first | exact HB.out | apply below_alloc | apply pw_below_drewN | apply below_drew1) | exact HB.out))) : w.heap.size ≤ gb272)); have n3_ := Aside0.mk ((by rw [hg]; exact (below_size (by repeat (first | (with_reducible first | exact HB.out | apply below_alloc | apply pw_below_drewN | apply below_drew1) | exact HB.out))) : w.heap.size ≤ gb272)); clear HB; have HB := n0_; have BK272 := n1_; have GW272 := n2_; have GE272 := n3_; clear n0_ n1_ n2_ n3_; clear hb hbox hg; have hcz6_0 : w5.cell? ⟨gb272, 0, none⟩ = some (.string a0_0) := (blk_cell BK272.out 0).trans rfl; have hcz6_1 : w5.cell? ⟨gb272, 1, none⟩ = some (.int .i64 a0_1) := (blk_cell BK272.out 1).trans rfl; have hcz6_2 : w5.cell? ⟨gb272, 2, none⟩ = some (.slice A0_2 l0_2.length c0_2) := (blk_cell BK272.out 2).trans rfl; have hfz6_0 := blk_frozen BK272.out 0; have hfz6_1 := blk_frozen BK272.out 1; have hfz6_2 := blk_frozen BK272.out 2) | ((first | ((with_reducible refine gate_callee (f := 23) rfl ?_); refine goesL_ (some 8) rfl rfl Try.func23 (by kernel_rfl) rfl #[.string a0_0] rfl (by (try simp only [List.map_toArray, List.map_cons, List.map_nil]); first | done | rfl | (simp only [List.length_drop, List.length_take]; rfl)) ?_; (with_reducible refine (triremeref01_Word.calls k a0_0 true _ A2.out).mono ?_); rintro e w' ⟨rfl, ⟨nd, rfl⟩⟩; refine ⟨_, rfl, ?_⟩) | (go_at_call 23; (with_reducible refine (triremeref01_Word.calls k a0_0 true _ A2.out).mono ?_); rintro e w' ⟨rfl, ⟨nd, rfl⟩⟩))))
    (try simp only [Act.put, List.setIfInBounds_toArray, List.set_cons_zero, List.set_cons_succ])
    go_cut [12] (fun v12 wc => ∃ (kq : Nat) (x12_3 : Bool), v12 = .bool x12_3 ∧ Aside0 (triremeref05_RightTerm.j0 kq a0_1 x12_3 a0_0 a0_1 l0_2 = some r) ∧ Aside0 (kq ≤ k) ∧ Aside0 (wc.heap[gb272]? = some (.cells #[.string a0_0, .int .i64 a0_1, (.slice A0_2 l0_2.length c0_2)] 37 (0, 0))) ∧ Aside0 (Below w.heap.size w wc))
    case first =>
      have H := HC4.out
      clear HC4
      by_cases c7 : a0_1 = 1
      · rw [if_pos c7] at H
        have c7b0 : (a0_1 == 1) = true := beq_iff_eq.mpr c7
        have c7b1 : (a0_1 != 1) = false := bne_eq_false_iff_eq.mpr c7
        clear c7
        (first | rw [c7b0] | (simp only [i64_w, i32_w]; rw [c7b0]) | skip)
        have H' := Aside0.mk H
        clear H
        go_wp2
        go_meet
        case rel => exact ⟨_, ((a0_1 == 1)), (by first | rfl | (simp; done) | (simp [*]; done)), H', ⟨by first | omega | exact Nat.le_refl _⟩, ⟨by (with_reducible repeat (first | refine blk_drewN ?_ _ | refine blk_drew ?_ | refine blk_alloc ?_ _)); exact BK272.out⟩, ⟨by repeat (first | (with_reducible first | exact HB.out | apply below_alloc | apply pw_below_drewN | apply below_drew1 | refine below_set ?_ GE272.out) | exact HB.out)⟩⟩
      · rw [if_neg c7] at H
        have c7b0 : (a0_1 == 1) = false := beq_eq_false_iff_ne.mpr c7
        have c7b1 : (a0_1 != 1) = true := bne_iff_ne.mpr c7
        (first | rw [c7b0] | (simp only [i64_w, i32_w]; rw [c7b0]) | skip)
        have H' := Aside0.mk H
        clear H
        go_wp2
        go_meet
        case rel => exact ⟨_, ((a0_1 == 2)), (by first | rfl | (simp; done) | (simp [*]; done)), H', ⟨by first | omega | exact Nat.le_refl _⟩, ⟨by (with_reducible repeat (first | refine blk_drewN ?_ _ | refine blk_drew ?_ | refine blk_alloc ?_ _)); exact BK272.out⟩, ⟨by repeat (first | (with_reducible first | exact HB.out | apply below_alloc | apply pw_below_drewN | apply below_drew1 | refine below_set ?_ GE272.out) | exact HB.out)⟩⟩
    case rest =>
      clear HC4
      try clear c1
      try clear c2
      try clear p2
      try clear c3
      try clear c7
      try clear c7b0
      try clear c7b1
      try clear hcz6_0
      try clear hcz6_1
      try clear hcz6_2
      try clear hfz6_0
      try clear hfz6_1
      try clear hfz6_2
      obtain ⟨kq, x12_3, rfl, HA, HJ3, BK272, HB⟩ := hcut
      cases kq with
      | zero => exact absurd HA.out (by simp [triremeref05_RightTerm.j0])
      | succ kj3 =>
        have H := HA.out
        clear HA
        simp only [triremeref05_RightTerm.j0] at H
        by_cases c8 : x12_3 = true
        · subst c8
          have H1 : (triremeref05_RightTerm.l0 kj3 0 a0_0 a0_1 l0_2) = some r := by rw [if_pos rfl] at H; exact H
          clear H
          have H := H1
          clear H1
          have H' := Aside0.mk H
          clear H
          go_wp2
          go_loopg [3] kj3 (fun kq v3 w' => ∃ (x3_2 : Int), v3 = .int .i64 x3_2 ∧ Aside0 (triremeref05_RightTerm.l0 kq x3_2 a0_0 a0_1 l0_2 = some r) ∧ Aside0 (kq ≤ kj3) ∧ Aside0 (w'.heap[gb272]? = some (.cells #[.string a0_0, .int .i64 a0_1, (.slice A0_2 l0_2.length c0_2)] 37 (0, 0))) ∧ Aside0 (Below w.heap.size w w'))
          case atStart => exact ⟨(0), (by first | rfl | (simp; done) | (simp [*]; done)), H', ⟨Nat.le_refl _⟩, ⟨by (with_reducible repeat (first | refine blk_drewN ?_ _ | refine blk_drew ?_ | refine blk_alloc ?_ _)); exact BK272.out⟩, ⟨by repeat (first | (with_reducible first | exact HB.out | apply below_alloc | apply pw_below_drewN | apply below_drew1 | refine below_set ?_ GE272.out) | exact HB.out)⟩⟩
          case round =>
            clear H'
            try clear c1
            try clear c2
            try clear p2
            try clear c3
            try clear c7
            try clear c7b0
            try clear c7b1
            try clear c8
            try clear hcz6_0
            try clear hcz6_1
            try clear hcz6_2
            try clear hfz6_0
            try clear hfz6_1
            try clear hfz6_2
            try clear p2
            obtain ⟨x3_2, rfl, HA, HK2, BK272, HB⟩ := hrel
            cases gk with
            | zero => exact absurd HA.out (by simp [triremeref05_RightTerm.l0])
            | succ k2 =>
              have H := HA.out
              clear HA
              simp only [triremeref05_RightTerm.l0] at H
              by_cases c9 : x3_2 < (l0_2.length : Int)
              · rw [if_pos c9] at H
                have c9b0 : decide (x3_2 < (l0_2.length : Int)) = true := decide_eq_true c9
                clear c9
                by_cases c10 : 0 ≤ x3_2
                · rw [if_pos c10] at H
                  have c10b0 : decide (0 ≤ x3_2) = true := decide_eq_true c10
                  clear c10
                  replace H := Option.bind_eq_some_iff.mp H
                  obtain ⟨t275, A110, H⟩ := H
                  replace H : (if t275 = true then (triremeref05_RightTerm.l0 k2 (wrap64 (x3_2 + 1)) a0_0 a0_1 l0_2) else (some false)) = some r := H
                  have A11 := Aside0.mk A110
                  clear A110
                  by_cases c12 : t275 = true
                  · subst c12
                    have H1 : (triremeref05_RightTerm.l0 k2 (wrap64 (x3_2 + 1)) a0_0 a0_1 l0_2) = some r := by rw [if_pos rfl] at H; exact H
                    clear H
                    have H := H1
                    clear H1
                    have H' := Aside0.mk H
                    clear H
                    have hcz13_0 : wr.cell? ⟨gb272, 0, none⟩ = some (.string a0_0) := (blk_cell BK272.out 0).trans rfl
                    have hcz13_1 : wr.cell? ⟨gb272, 1, none⟩ = some (.int .i64 a0_1) := (blk_cell BK272.out 1).trans rfl
                    have hcz13_2 : wr.cell? ⟨gb272, 2, none⟩ = some (.slice A0_2 l0_2.length c0_2) := (blk_cell BK272.out 2).trans rfl
                    have hfz13_0 := blk_frozen BK272.out 0
                    have hfz13_1 := blk_frozen BK272.out 1
                    have hfz13_2 := blk_frozen BK272.out 2
                    have p274 : 0 ≤ (x3_2 : Int) := of_decide_eq_true (by first | (with_reducible assumption) | assumption)
                    have q274 : x3_2 < (l0_2.length : Int) := of_decide_eq_true (by first | (with_reducible assumption) | assumption)
                    obtain ⟨ad274, e274, hx274_0⟩ := Kd.at_string HR0_2.out x3_2 p274 q274
                    cases e274
                    replace hx274_0 := (HB.out.cell (World.block_lt_of_cell? w _ hx274_0)).trans hx274_0
                    replace p274 := eq_true p274
                    replace q274 := eq_true q274
                    go_wp2_with (first | ((first | ((with_reducible refine gate_callee (f := 24) rfl ?_); refine goesL_ (some 27) rfl rfl Try.func24 (by kernel_rfl) rfl #[.string (rdOf ByteArray.empty l0_2 x3_2)] rfl (by (try simp only [List.map_toArray, List.map_cons, List.map_nil]); first | done | rfl | (simp only [List.length_drop, List.length_take]; rfl)) ?_; (with_reducible refine (triremeref05_maybe.calls k2 (rdOf ByteArray.empty l0_2 x3_2) true _ A11.out).mono ?_); rintro e w' ⟨rfl, ⟨nd, rfl⟩⟩; refine ⟨_, rfl, ?_⟩) | (go_at_call 24; (with_reducible refine (triremeref05_maybe.calls k2 (rdOf ByteArray.empty l0_2 x3_2) true _ A11.out).mono ?_); rintro e w' ⟨rfl, ⟨nd, rfl⟩⟩))))
                    go_roundg k2
                    case measure => have := HJ3.out; have := HK2.out; omega
                    case rel => exact ⟨(wrap64 (x3_2 + 1)), (by first | rfl | (simp; done) | (simp [*]; done)), H', ⟨by have := HJ3.out; have := HK2.out; omega⟩, ⟨by (with_reducible repeat (first | refine blk_drewN ?_ _ | refine blk_drew ?_ | refine blk_alloc ?_ _)); exact BK272.out⟩, ⟨by repeat (first | (with_reducible first | exact HB.out | apply below_alloc | apply pw_below_drewN | apply below_drew1 | refine below_set ?_ GE272.out) | exact HB.out)⟩⟩
                  · replace c12 := Bool.eq_false_iff.mpr c12
                    subst c12
                    have H1 : (some false) = some r := by rw [if_neg (show ¬ (false = true) by decide)] at H; exact H
                    clear H
                    have H := H1
                    clear H1
                    obtain rfl := Option.some.inj H
                    have hcz14_0 : wr.cell? ⟨gb272, 0, none⟩ = some (.string a0_0) := (blk_cell BK272.out 0).trans rfl
                    have hcz14_1 : wr.cell? ⟨gb272, 1, none⟩ = some (.int .i64 a0_1) := (blk_cell BK272.out 1).trans rfl
                    have hcz14_2 : wr.cell? ⟨gb272, 2, none⟩ = some (.slice A0_2 l0_2.length c0_2) := (blk_cell BK272.out 2).trans rfl
                    have hfz14_0 := blk_frozen BK272.out 0
                    have hfz14_1 := blk_frozen BK272.out 1
                    have hfz14_2 := blk_frozen BK272.out 2
                    have p274 : 0 ≤ (x3_2 : Int) := of_decide_eq_true (by first | (with_reducible assumption) | assumption)
                    have q274 : x3_2 < (l0_2.length : Int) := of_decide_eq_true (by first | (with_reducible assumption) | assumption)
                    obtain ⟨ad274, e274, hx274_0⟩ := Kd.at_string HR0_2.out x3_2 p274 q274
                    cases e274
                    replace hx274_0 := (HB.out.cell (World.block_lt_of_cell? w _ hx274_0)).trans hx274_0
                    replace p274 := eq_true p274
                    replace q274 := eq_true q274
                    go_wp2_with (first | ((first | ((with_reducible refine gate_callee (f := 24) rfl ?_); refine goesL_ (some 27) rfl rfl Try.func24 (by kernel_rfl) rfl #[.string (rdOf ByteArray.empty l0_2 x3_2)] rfl (by (try simp only [List.map_toArray, List.map_cons, List.map_nil]); first | done | rfl | (simp only [List.length_drop, List.length_take]; rfl)) ?_; (with_reducible refine (triremeref05_maybe.calls k2 (rdOf ByteArray.empty l0_2 x3_2) false _ A11.out).mono ?_); rintro e w' ⟨rfl, ⟨nd, rfl⟩⟩; refine ⟨_, rfl, ?_⟩) | (go_at_call 24; (with_reducible refine (triremeref05_maybe.calls k2 (rdOf ByteArray.empty l0_2 x3_2) false _ A11.out).mono ?_); rintro e w' ⟨rfl, ⟨nd, rfl⟩⟩))))
                    go_ret
                    exact ⟨by first | rfl | (simp [errW_none, errW_some] <;> rfl) | (simp [*, errW_none, errW_some] <;> rfl), by repeat (first | (with_reducible first | exact HB.out | apply below_alloc | apply pw_below_drewN | apply below_drew1 | refine below_set ?_ GE272.out) | exact HB.out)⟩
                · rw [if_neg c10] at H
                  exact absurd H (by simp)
              · rw [if_neg c9] at H
                have c9b0 : decide (x3_2 < (l0_2.length : Int)) = false := decide_eq_false c9
                clear c9
                by_cases c15 : (l0_2.length : Int) ≥ 1
                · rw [if_pos c15] at H
                  have c15b0 : decide (1 ≤ (l0_2.length : Int)) = true := decide_eq_true c15
                  have c15b1 : decide (1 ≤ l0_2.length) = true := decide_eq_true (by omega)
                  clear c15
                  obtain rfl := Option.some.inj H
                  have hcz16_0 : wr.cell? ⟨gb272, 0, none⟩ = some (.string a0_0) := (blk_cell BK272.out 0).trans rfl
                  have hcz16_1 : wr.cell? ⟨gb272, 1, none⟩ = some (.int .i64 a0_1) := (blk_cell BK272.out 1).trans rfl
                  have hcz16_2 : wr.cell? ⟨gb272, 2, none⟩ = some (.slice A0_2 l0_2.length c0_2) := (blk_cell BK272.out 2).trans rfl
                  have hfz16_0 := blk_frozen BK272.out 0
                  have hfz16_1 := blk_frozen BK272.out 1
                  have hfz16_2 := blk_frozen BK272.out 2
                  go_wp2
                  go_ret
                  exact ⟨by first | rfl | (simp [errW_none, errW_some] <;> rfl) | (simp [*, errW_none, errW_some] <;> rfl), by repeat (first | (with_reducible first | exact HB.out | apply below_alloc | apply pw_below_drewN | apply below_drew1 | refine below_set ?_ GE272.out) | exact HB.out)⟩
                · rw [if_neg c15] at H
                  have c15b0 : decide (1 ≤ (l0_2.length : Int)) = false := decide_eq_false c15
                  have c15b1 : decide (1 ≤ l0_2.length) = false := decide_eq_false (by omega)
                  clear c15
                  obtain rfl := Option.some.inj H
                  have hcz17_0 : wr.cell? ⟨gb272, 0, none⟩ = some (.string a0_0) := (blk_cell BK272.out 0).trans rfl
                  have hcz17_1 : wr.cell? ⟨gb272, 1, none⟩ = some (.int .i64 a0_1) := (blk_cell BK272.out 1).trans rfl
                  have hcz17_2 : wr.cell? ⟨gb272, 2, none⟩ = some (.slice A0_2 l0_2.length c0_2) := (blk_cell BK272.out 2).trans rfl
                  have hfz17_0 := blk_frozen BK272.out 0
                  have hfz17_1 := blk_frozen BK272.out 1
                  have hfz17_2 := blk_frozen BK272.out 2
                  go_wp2
                  go_ret
                  exact ⟨by first | rfl | (simp [errW_none, errW_some] <;> rfl) | (simp [*, errW_none, errW_some] <;> rfl), by repeat (first | (with_reducible first | exact HB.out | apply below_alloc | apply pw_below_drewN | apply below_drew1 | refine below_set ?_ GE272.out) | exact HB.out)⟩
        · replace c8 := Bool.eq_false_iff.mpr c8
          subst c8
          have H1 : (if a0_1 = 3 then (triremeref05_RightTerm.j2 kj3 a0_1 (a0_1 == 3) a0_0 a0_1 l0_2) else (triremeref05_RightTerm.j2 kj3 a0_1 (a0_1 == 4) a0_0 a0_1 l0_2)) = some r := by rw [if_neg (show ¬ (false = true) by decide)] at H; exact H
          clear H
          have H := H1
          clear H1
          have HC18 := Aside0.mk H
          clear H
          go_upto_if 39 with (fail)
          go_cut [39] (fun v39 wc => ∃ (kq : Nat) (x39_17 : Bool), v39 = .bool x39_17 ∧ Aside0 (triremeref05_RightTerm.j2 kq a0_1 x39_17 a0_0 a0_1 l0_2 = some r) ∧ Aside0 (kq ≤ kj3) ∧ Aside0 (wc.heap[gb272]? = some (.cells #[.string a0_0, .int .i64 a0_1, (.slice A0_2 l0_2.length c0_2)] 37 (0, 0))) ∧ Aside0 (Below w.heap.size w wc))
          case first =>
            have H := HC18.out
            clear HC18
            by_cases c19 : a0_1 = 3
            · rw [if_pos c19] at H
              have c19b0 : (a0_1 == 3) = true := beq_iff_eq.mpr c19
              have c19b1 : (a0_1 != 3) = false := bne_eq_false_iff_eq.mpr c19
              clear c19
              (first | rw [c19b0] | (simp only [i64_w, i32_w]; rw [c19b0]) | skip)
              have H' := Aside0.mk H
              clear H
              go_wp2
              go_meet
              case rel => exact ⟨_, ((a0_1 == 3)), (by first | rfl | (simp; done) | (simp [*]; done)), H', ⟨by have := HJ3.out; first | omega | exact Nat.le_refl _⟩, ⟨by (with_reducible repeat (first | refine blk_drewN ?_ _ | refine blk_drew ?_ | refine blk_alloc ?_ _)); exact BK272.out⟩, ⟨by repeat (first | (with_reducible first | exact HB.out | apply below_alloc | apply pw_below_drewN | apply below_drew1 | refine below_set ?_ GE272.out) | exact HB.out)⟩⟩
            · rw [if_neg c19] at H
              have c19b0 : (a0_1 == 3) = false := beq_eq_false_iff_ne.mpr c19
              have c19b1 : (a0_1 != 3) = true := bne_iff_ne.mpr c19
              (first | rw [c19b0] | (simp only [i64_w, i32_w]; rw [c19b0]) | skip)
              have H' := Aside0.mk H
              clear H
              go_wp2
              go_meet
              case rel => exact ⟨_, ((a0_1 == 4)), (by first | rfl | (simp; done) | (simp [*]; done)), H', ⟨by have := HJ3.out; first | omega | exact Nat.le_refl _⟩, ⟨by (with_reducible repeat (first | refine blk_drewN ?_ _ | refine blk_drew ?_ | refine blk_alloc ?_ _)); exact BK272.out⟩, ⟨by repeat (first | (with_reducible first | exact HB.out | apply below_alloc | apply pw_below_drewN | apply below_drew1 | refine below_set ?_ GE272.out) | exact HB.out)⟩⟩
          case rest =>
            clear HC18
            try clear c1
            try clear c2
            try clear p2
            try clear q2
            try clear hx2
            try clear c3
            try clear p6
            try clear c7
            try clear c7b0
            try clear c7b1
            try clear c8
            try clear c9
            try clear c9b0
            try clear c10
            try clear c10b0
            try clear c12
            try clear c15
            try clear c15b0
            try clear c15b1
            try clear c16
            try clear c19
            try clear c19b0
            try clear c19b1
            try clear hcz13_0
            try clear hcz13_1
            try clear hcz13_2
            try clear hcz14_0
            try clear hcz14_1
            try clear hcz14_2
            try clear hcz16_0
            try clear hcz16_1
            try clear hcz16_2
            try clear hcz17_0
            try clear hcz17_1
            try clear hcz17_2
            try clear hcz6_0
            try clear hcz6_1
            try clear hcz6_2
            try clear hfz13_0
            try clear hfz13_1
            try clear hfz13_2
            try clear hfz14_0
            try clear hfz14_1
            try clear hfz14_2
            try clear hfz16_0
            try clear hfz16_1
            try clear hfz16_2
            try clear hfz17_0
            try clear hfz17_1
            try clear hfz17_2
            try clear hfz6_0
            try clear hfz6_1
            try clear hfz6_2
            try clear hx274_0
            try clear p2
            try clear p274
            try clear q274
            obtain ⟨kq, x39_17, rfl, HA, HJ17, BK272, HB⟩ := hcut
            cases kq with
            | zero => exact absurd HA.out (by simp [triremeref05_RightTerm.j2])
            | succ kj17 =>
              have H := HA.out
              clear HA
              simp only [triremeref05_RightTerm.j2] at H
              by_cases c20 : x39_17 = true
              · subst c20
                have H1 : (some ((l0_2.length : Int) == 0)) = some r := by rw [if_pos rfl] at H; exact H
                clear H
                have H := H1
                clear H1
                obtain rfl := Option.some.inj H
                have hcz21_0 : wc.cell? ⟨gb272, 0, none⟩ = some (.string a0_0) := (blk_cell BK272.out 0).trans rfl
                have hcz21_1 : wc.cell? ⟨gb272, 1, none⟩ = some (.int .i64 a0_1) := (blk_cell BK272.out 1).trans rfl
                have hcz21_2 : wc.cell? ⟨gb272, 2, none⟩ = some (.slice A0_2 l0_2.length c0_2) := (blk_cell BK272.out 2).trans rfl
                have hfz21_0 := blk_frozen BK272.out 0
                have hfz21_1 := blk_frozen BK272.out 1
                have hfz21_2 := blk_frozen BK272.out 2
                go_wp2
                go_ret
                exact ⟨by first | rfl | (simp [errW_none, errW_some] <;> rfl) | (simp [*, errW_none, errW_some] <;> rfl), by repeat (first | (with_reducible first | exact HB.out | apply below_alloc | apply pw_below_drewN | apply below_drew1 | refine below_set ?_ GE272.out) | exact HB.out)⟩
              · replace c20 := Bool.eq_false_iff.mpr c20
                subst c20
                have H1 : (if a0_1 = 5 then (triremeref05_RightTerm.j3 kj17 (a0_1 == 5) a0_0 a0_1 l0_2) else (triremeref05_RightTerm.j3 kj17 (a0_1 == 6) a0_0 a0_1 l0_2)) = some r := by rw [if_neg (show ¬ (false = true) by decide)] at H; exact H
                clear H
                have H := H1
                clear H1
                have HC22 := Aside0.mk H
                clear H
                go_upto_if 46 with (fail)
                go_cut [46] (fun v46 wc => ∃ (kq : Nat) (x46_21 : Bool), v46 = .bool x46_21 ∧ Aside0 (triremeref05_RightTerm.j3 kq x46_21 a0_0 a0_1 l0_2 = some r) ∧ Aside0 (kq ≤ kj17) ∧ Aside0 (wc.heap[gb272]? = some (.cells #[.string a0_0, .int .i64 a0_1, (.slice A0_2 l0_2.length c0_2)] 37 (0, 0))) ∧ Aside0 (Below w.heap.size w wc))
                case first =>
                  have H := HC22.out
                  clear HC22
                  by_cases c23 : a0_1 = 5
                  · rw [if_pos c23] at H
                    have c23b0 : (a0_1 == 5) = true := beq_iff_eq.mpr c23
                    have c23b1 : (a0_1 != 5) = false := bne_eq_false_iff_eq.mpr c23
                    clear c23
                    (first | rw [c23b0] | (simp only [i64_w, i32_w]; rw [c23b0]) | skip)
                    have H' := Aside0.mk H
                    clear H
                    go_wp2
                    go_meet
                    case rel => exact ⟨_, ((a0_1 == 5)), (by first | rfl | (simp; done) | (simp [*]; done)), H', ⟨by have := HJ3.out; have := HJ17.out; first | omega | exact Nat.le_refl _⟩, ⟨by (with_reducible repeat (first | refine blk_drewN ?_ _ | refine blk_drew ?_ | refine blk_alloc ?_ _)); exact BK272.out⟩, ⟨by repeat (first | (with_reducible first | exact HB.out | apply below_alloc | apply pw_below_drewN | apply below_drew1 | refine below_set ?_ GE272.out) | exact HB.out)⟩⟩
                  · rw [if_neg c23] at H
                    have c23b0 : (a0_1 == 5) = false := beq_eq_false_iff_ne.mpr c23
                    have c23b1 : (a0_1 != 5) = true := bne_iff_ne.mpr c23
                    (first | rw [c23b0] | (simp only [i64_w, i32_w]; rw [c23b0]) | skip)
                    have H' := Aside0.mk H
                    clear H
                    go_wp2
                    go_meet
                    case rel => exact ⟨_, ((a0_1 == 6)), (by first | rfl | (simp; done) | (simp [*]; done)), H', ⟨by have := HJ3.out; have := HJ17.out; first | omega | exact Nat.le_refl _⟩, ⟨by (with_reducible repeat (first | refine blk_drewN ?_ _ | refine blk_drew ?_ | refine blk_alloc ?_ _)); exact BK272.out⟩, ⟨by repeat (first | (with_reducible first | exact HB.out | apply below_alloc | apply pw_below_drewN | apply below_drew1 | refine below_set ?_ GE272.out) | exact HB.out)⟩⟩
                case rest =>
                  clear HC22
                  try clear c1
                  try clear c2
                  try clear p2
                  try clear q2
                  try clear hx2
                  try clear c3
                  try clear p6
                  try clear c7
                  try clear c7b0
                  try clear c7b1
                  try clear c8
                  try clear c9
                  try clear c9b0
                  try clear c10
                  try clear c10b0
                  try clear c12
                  try clear c15
                  try clear c15b0
                  try clear c15b1
                  try clear c16
                  try clear c19
                  try clear c19b0
                  try clear c19b1
                  try clear c20
                  try clear c23
                  try clear c23b0
                  try clear c23b1
                  try clear hcz13_0
                  try clear hcz13_1
                  try clear hcz13_2
                  try clear hcz14_0
                  try clear hcz14_1
                  try clear hcz14_2
                  try clear hcz16_0
                  try clear hcz16_1
                  try clear hcz16_2
                  try clear hcz17_0
                  try clear hcz17_1
                  try clear hcz17_2
                  try clear hcz21_0
                  try clear hcz21_1
                  try clear hcz21_2
                  try clear hcz6_0
                  try clear hcz6_1
                  try clear hcz6_2
                  try clear hfz13_0
                  try clear hfz13_1
                  try clear hfz13_2
                  try clear hfz14_0
                  try clear hfz14_1
                  try clear hfz14_2
                  try clear hfz16_0
                  try clear hfz16_1
                  try clear hfz16_2
                  try clear hfz17_0
                  try clear hfz17_1
                  try clear hfz17_2
                  try clear hfz21_0
                  try clear hfz21_1
                  try clear hfz21_2
                  try clear hfz6_0
                  try clear hfz6_1
                  try clear hfz6_2
                  try clear hx274_0
                  try clear p2
                  try clear p274
                  try clear p6
                  try clear q2
                  try clear q274
                  obtain ⟨kq, x46_21, rfl, HA, HJ21, BK272, HB⟩ := hcut
                  cases kq with
                  | zero => exact absurd HA.out (by simp [triremeref05_RightTerm.j3])
                  | succ kj21 =>
                    have H := HA.out
                    clear HA
                    simp only [triremeref05_RightTerm.j3] at H
                    by_cases c24 : x46_21 = true
                    · subst c24
                      have H1 : (if (l0_2.length : Int) = 1 then (if 0 < (l0_2.length : Int) then ((triremeref03_Number.f kj21 (rdOf ByteArray.empty l0_2 0)).bind fun bt277 => (some (bt277.2 == 0))) else (none)) else (some false)) = some r := by rw [if_pos rfl] at H; exact H
                      clear H
                      have H := H1
                      clear H1
                      by_cases c25 : (l0_2.length : Int) = 1
                      · rw [if_pos c25] at H
                        have c25b0 : ((l0_2.length : Int) == 1) = true := beq_iff_eq.mpr c25
                        have c25b1 : ((l0_2.length : Int) != 1) = false := bne_eq_false_iff_eq.mpr c25
                        clear c25
                        by_cases c26 : 0 < (l0_2.length : Int)
                        · rw [if_pos c26] at H
                          have c26b0 : decide (0 < (l0_2.length : Int)) = true := decide_eq_true c26
                          have c26b1 : decide (0 < l0_2.length) = true := decide_eq_true (by omega)
                          clear c26
                          replace H := Option.bind_eq_some_iff.mp H
                          obtain ⟨⟨t277, t278⟩, A270, H⟩ := H
                          replace H : (some (t278 == 0)) = some r := H
                          have A27 := Aside0.mk A270
                          clear A270
                          obtain rfl := Option.some.inj H
                          have hcz28_0 : wc.cell? ⟨gb272, 0, none⟩ = some (.string a0_0) := (blk_cell BK272.out 0).trans rfl
                          have hcz28_1 : wc.cell? ⟨gb272, 1, none⟩ = some (.int .i64 a0_1) := (blk_cell BK272.out 1).trans rfl
                          have hcz28_2 : wc.cell? ⟨gb272, 2, none⟩ = some (.slice A0_2 l0_2.length c0_2) := (blk_cell BK272.out 2).trans rfl
                          have hfz28_0 := blk_frozen BK272.out 0
                          have hfz28_1 := blk_frozen BK272.out 1
                          have hfz28_2 := blk_frozen BK272.out 2
                          have p276 : 0 ≤ (0 : Int) := (by omega)
                          have q276 : 0 < (l0_2.length : Int) := of_decide_eq_true (by first | (with_reducible assumption) | assumption)
                          obtain ⟨ad276, e276, hx276_0⟩ := Kd.at_string HR0_2.out 0 p276 q276
                          cases e276
                          have qi276 : (0 < l0_2.length) = True := eq_true (by omega)
                          (try rw [show ((0 : Int)).toNat = 0 from rfl] at hx276_0)
                          (try rw [Addr.add_zero'] at hx276_0)
                          replace hx276_0 := (HB.out.cell (World.block_lt_of_cell? w _ hx276_0)).trans hx276_0
                          replace p276 := eq_true p276
                          replace q276 := eq_true q276
                          go_wp2_with (first | ((first | ((with_reducible refine gate_callee (f := 30) rfl ?_); refine goesL_ (some 58) rfl rfl Try.func30 (by kernel_rfl) rfl #[.string (rdOf ByteArray.empty l0_2 0)] rfl (by (try simp only [List.map_toArray, List.map_cons, List.map_nil]); first | done | rfl | (simp only [List.length_drop, List.length_take]; rfl)) ?_; (with_reducible refine (triremeref03_Number.calls kj21 (rdOf ByteArray.empty l0_2 0) t277 t278 _ A27.out).mono ?_); rintro e w29 ⟨rfl, hb⟩; refine ⟨_, rfl, ?_⟩) | (go_at_call 30; (with_reducible refine (triremeref03_Number.calls kj21 (rdOf ByteArray.empty l0_2 0) t277 t278 _ A27.out).mono ?_); rintro e w29 ⟨rfl, hb⟩)); have n0_ := Aside0.mk (blk_below (g := gb272) (o := .cells #[.string a0_0, .int .i64 a0_1, .slice (some ad276) l0_2.length c0_2] 37 (0, 0)) (by (with_reducible repeat (first | refine blk_drewN ?_ _ | refine blk_drew ?_ | refine blk_alloc ?_ _)); exact BK272.out) hb); have n1_ := Aside0.mk (below_step (by repeat (first | (with_reducible first | exact HB.out | apply below_alloc | apply pw_below_drewN | apply below_drew1 | refine below_set ?_ GE272.out) | exact HB.out)) hb); clear BK272; clear HB; have BK272 := n0_; have HB := n1_; clear n0_ n1_; (try clear hb); (try clear hb2); (try clear hk); (try clear hi)))
                          go_ret
                          exact ⟨by first | rfl | (simp [errW_none, errW_some] <;> rfl) | (simp [*, errW_none, errW_some] <;> rfl), by repeat (first | (with_reducible first | exact HB.out | apply below_alloc | apply pw_below_drewN | apply below_drew1 | refine below_set ?_ GE272.out) | exact HB.out)⟩
                        · rw [if_neg c26] at H
                          exact absurd H (by simp)
                      · rw [if_neg c25] at H
                        have c25b0 : ((l0_2.length : Int) == 1) = false := beq_eq_false_iff_ne.mpr c25
                        have c25b1 : ((l0_2.length : Int) != 1) = true := bne_iff_ne.mpr c25
                        obtain rfl := Option.some.inj H
                        have hcz30_0 : wc.cell? ⟨gb272, 0, none⟩ = some (.string a0_0) := (blk_cell BK272.out 0).trans rfl
                        have hcz30_1 : wc.cell? ⟨gb272, 1, none⟩ = some (.int .i64 a0_1) := (blk_cell BK272.out 1).trans rfl
                        have hcz30_2 : wc.cell? ⟨gb272, 2, none⟩ = some (.slice A0_2 l0_2.length c0_2) := (blk_cell BK272.out 2).trans rfl
                        have hfz30_0 := blk_frozen BK272.out 0
                        have hfz30_1 := blk_frozen BK272.out 1
                        have hfz30_2 := blk_frozen BK272.out 2
                        go_wp2
                        go_ret
                        exact ⟨by first | rfl | (simp [errW_none, errW_some] <;> rfl) | (simp [*, errW_none, errW_some] <;> rfl), by repeat (first | (with_reducible first | exact HB.out | apply below_alloc | apply pw_below_drewN | apply below_drew1 | refine below_set ?_ GE272.out) | exact HB.out)⟩
                    · replace c24 := Bool.eq_false_iff.mpr c24
                      subst c24
                      have H1 : (some false) = some r := by rw [if_neg (show ¬ (false = true) by decide)] at H; exact H
                      clear H
                      have H := H1
                      clear H1
                      obtain rfl := Option.some.inj H
                      go_wp2
                      go_ret
                      exact ⟨by first | rfl | (simp [errW_none, errW_some] <;> rfl) | (simp [*, errW_none, errW_some] <;> rfl), by repeat (first | (with_reducible first | exact HB.out | apply below_alloc | apply pw_below_drewN | apply below_drew1 | refine below_set ?_ GE272.out) | exact HB.out)⟩
  · replace c3 := Bool.eq_false_iff.mpr c3
    subst c3
    have H1 : (some false) = some r := by rw [if_neg (show ¬ (false = true) by decide)] at H; exact H
    clear H
    have H := H1
    clear H1
    obtain rfl := Option.some.inj H
    go_enter Try.func16, Try.ntmps16
    go_wp2_with (first | ((with_reducible refine gate_dst (N := 1) rfl ?_); (try (refine gate_guard (by rfl) ?_; dsimp only)); refine box_event ?hg (N := 1) ?hd (cs := #[.string a0_0, .int .i64 a0_1, .slice A0_2 l0_2.length c0_2]) (t := 37) ?hr ?_; (case hd => rfl); (case hg => rfl); (case hr => first | (go_simp; done) | (go_simp; rfl)); intro gb272 hg w31 hbox hb; have n0_ := Aside0.mk (below_step (by repeat (first | (with_reducible first | exact HB.out | apply below_alloc | apply pw_below_drewN | apply below_drew1) | exact HB.out)) hb); have n1_ := Aside0.mk (hbox); have n2_ := Aside0.mk ((by rw [hg]; exact (below_size (by repeat (first | (with_reducible first | exact HB.out | apply below_alloc | apply pw_below_drewN | apply below_drew1) | exact HB.out))) : w.heap.size ≤ gb272)); have n3_ := Aside0.mk ((by rw [hg]; exact (below_size (by repeat (first | (with_reducible first | exact HB.out | apply below_alloc | apply pw_below_drewN | apply below_drew1) | exact HB.out))) : w.heap.size ≤ gb272)); clear HB; have HB := n0_; have BK272 := n1_; have GW272 := n2_; have GE272 := n3_; clear n0_ n1_ n2_ n3_; clear hb hbox hg; have hcz32_0 : w31.cell? ⟨gb272, 0, none⟩ = some (.string a0_0) := (blk_cell BK272.out 0).trans rfl; have hcz32_1 : w31.cell? ⟨gb272, 1, none⟩ = some (.int .i64 a0_1) := (blk_cell BK272.out 1).trans rfl; have hcz32_2 : w31.cell? ⟨gb272, 2, none⟩ = some (.slice A0_2 l0_2.length c0_2) := (blk_cell BK272.out 2).trans rfl; have hfz32_0 := blk_frozen BK272.out 0; have hfz32_1 := blk_frozen BK272.out 1; have hfz32_2 := blk_frozen BK272.out 2) | ((first | ((with_reducible refine gate_callee (f := 23) rfl ?_); refine goesL_ (some 8) rfl rfl Try.func23 (by kernel_rfl) rfl #[.string a0_0] rfl (by (try simp only [List.map_toArray, List.map_cons, List.map_nil]); first | done | rfl | (simp only [List.length_drop, List.length_take]; rfl)) ?_; (with_reducible refine (triremeref01_Word.calls k a0_0 false _ A2.out).mono ?_); rintro e w' ⟨rfl, ⟨nd, rfl⟩⟩; refine ⟨_, rfl, ?_⟩) | (go_at_call 23; (with_reducible refine (triremeref01_Word.calls k a0_0 false _ A2.out).mono ?_); rintro e w' ⟨rfl, ⟨nd, rfl⟩⟩))))
    go_ret
    exact ⟨by first | rfl | (simp [errW_none, errW_some] <;> rfl) | (simp [*, errW_none, errW_some] <;> rfl), by repeat (first | (with_reducible first | exact HB.out | apply below_alloc | apply pw_below_drewN | apply below_drew1 | refine below_set ?_ GE272.out) | exact HB.out)⟩
end Go.Proofs.Ytcnaefnlnjfjkaa.H
end
section
namespace Go.Proofs.Ytcnaefnlnjfjkaa.H
open Go.RowKit Go.Proofs.YtcnaefnlnjfjkaaW.PrintWords Go.Proofs.YtcnaefnlnjfjkaaW.PrintLast Go.Proofs.YtcnaefnlnjfjkaaW.PrintMore
attribute [local go_sem] max2_int min2_int max_two min_two max_three min_three max_four min_four   -- for this text's walks alone
set_option linter.unusedVariables false
set_option linter.unusedSimpArgs false
def triremeref05_Get.l0 : Nat → List (S31) → ByteArray → Int → Option (ByteArray × Bool)
  | 0, _, _, _ => none
  | k + 1, x0, x1, x6 => if x6 < (x0.length : Int) then (if 0 ≤ x6 then (if ((rd_T31 x0 x6).f0).toList = x1.toList then (some ((rd_T31 x0 x6).f1, true)) else (triremeref05_Get.l0 k x0 x1 (wrap64 (x6 + 1)))) else (none)) else (some ((⟨#[]⟩ : ByteArray), false))
def triremeref05_Get.f (k : Nat) (l0 : List (S31)) (a1 : ByteArray) : Option (ByteArray × Bool) := triremeref05_Get.l0 k l0 a1 0
theorem triremeref05_Get.mono_l : ∀ k, (∀ y0 y1 y2, LeO (triremeref05_Get.l0 k y0 y1 y2) (triremeref05_Get.l0 (k + 1) y0 y1 y2))
  | 0 => fun _ _ _ r h => by simp [triremeref05_Get.l0] at h
  | k + 1 => by
    have ih0 := triremeref05_Get.mono_l k
    · intro y0 y1 y2
      unfold triremeref05_Get.l0
      repeat' first
      | (with_reducible exact ih0 _ _ _)
      | (with_reducible exact LeO.refl _)
      | (with_reducible exact LeO.none _)
      | (with_reducible refine LeO.ite ?_ ?_)
      | (with_reducible refine LeO.bind ?_ (fun _ => ?_))
      | exact ih0 _ _ _
      | exact LeO.none _
      | refine LeO.ite ?_ ?_
      | refine LeO.bind ?_ (fun _ => ?_)
theorem triremeref05_Get.mono : ∀ a0 a1 k, LeO (triremeref05_Get.f k a0 a1) (triremeref05_Get.f (k + 1) a0 a1) := by
  intro a0 a1 k
  have ih0 := triremeref05_Get.mono_l k
  unfold triremeref05_Get.f
  repeat' first
      | (with_reducible exact ih0 _ _ _)
      | (with_reducible exact LeO.refl _)
      | (with_reducible exact LeO.none _)
      | (with_reducible refine LeO.ite ?_ ?_)
      | (with_reducible refine LeO.bind ?_ (fun _ => ?_))
      | exact ih0 _ _ _
      | exact LeO.none _
      | refine LeO.ite ?_ ?_
      | refine LeO.bind ?_ (fun _ => ?_)
set_option maxHeartbeats 8000000 in
set_option maxRecDepth 100000 in
theorem triremeref05_Get.calls (k : Nat) (A0 : Option Addr) (c0 : Nat) (l0 : List (S31)) (a1 : ByteArray) (r1 : ByteArray) (r2 : Bool) (w : World) (hr0 : Kd.C k31 w A0 l0.length l0) (hc0 : l0.length ≤ c0) (h : triremeref05_Get.f k l0 a1 = some (r1, r2)) :
    Calls Try.prog 9 #[.slice A0 l0.length c0, .string a1] w fun e w' => e = .returned (.tuple #[.string r1, .bool r2]) ∧ Drawn0 w w' := by
  have HR0 := Aside0.mk hr0
  have HC0 := Aside0.mk hc0
  clear hr0 hc0
  have H : (triremeref05_Get.l0 k l0 a1 0) = some (r1, r2) := h
  clear h
  have H' := Aside0.mk H
  clear H
  go_enter Try.func9, Try.ntmps9
  go_wp2
  go_loopg [6] k (fun kq v6 w' => ∃ (x6_1 : Int), v6 = .int .i64 x6_1 ∧ Aside0 (triremeref05_Get.l0 kq l0 a1 x6_1 = some (r1, r2)) ∧ Aside0 (kq ≤ k) ∧ Drawn0 w w')
  case atStart => exact ⟨(0), (by first | rfl | (simp; done) | (simp [*]; done)), H', ⟨Nat.le_refl _⟩, by repeat (first | exact Drawn0.refl _ | apply Drawn0.step)⟩
  case round =>
    clear H'
    try clear p2
    obtain ⟨x6_1, rfl, HA, HK1, ⟨m1, rfl⟩⟩ := hrel
    cases gk with
    | zero => exact absurd HA.out (by simp [triremeref05_Get.l0])
    | succ k1 =>
      have H := HA.out
      clear HA
      simp only [triremeref05_Get.l0] at H
      by_cases c3 : x6_1 < (l0.length : Int)
      · rw [if_pos c3] at H
        have c3b0 : decide (x6_1 < (l0.length : Int)) = true := decide_eq_true c3
        clear c3
        by_cases c4 : 0 ≤ x6_1
        · rw [if_pos c4] at H
          have c4b0 : decide (0 ≤ x6_1) = true := decide_eq_true c4
          clear c4
          by_cases c5 : ((rd_T31 l0 x6_1).f0).toList = a1.toList
          · rw [if_pos c5] at H
            have c5b0 : (((rd_T31 l0 x6_1).f0).toList == a1.toList) = true := beq_iff_eq.mpr c5
            have c5b1 : (((rd_T31 l0 x6_1).f0).toList != a1.toList) = false := bne_eq_false_iff_eq.mpr c5
            clear c5
            simp only [Option.some.injEq, Prod.mk.injEq] at H
            obtain ⟨rfl, rfl⟩ := H
            have p200 : 0 ≤ (x6_1 : Int) := of_decide_eq_true (by first | (with_reducible assumption) | assumption)
            have q200 : x6_1 < (l0.length : Int) := of_decide_eq_true (by first | (with_reducible assumption) | assumption)
            obtain ⟨ad200, e200, hx200_0, hx200_1⟩ := at_T31 HR0.out x6_1 p200 q200
            cases e200
            replace p200 := eq_true p200
            replace q200 := eq_true q200
            have p201 : 0 ≤ (x6_1 : Int) := of_decide_eq_true (by first | (with_reducible assumption) | assumption)
            have q201 : x6_1 < (l0.length : Int) := of_decide_eq_true (by first | (with_reducible assumption) | assumption)
            obtain ⟨ad201, e201, hx201_0, hx201_1⟩ := at_T31 HR0.out x6_1 p201 q201
            obtain rfl : ad200 = ad201 := (by injection e201)
            replace p201 := eq_true p201
            replace q201 := eq_true q201
            go_wp2
            go_ret2
            exact ⟨by first | rfl | (simp; done) | (simp [*]; done), by repeat (first | exact Drawn0.refl _ | apply Drawn0.step)⟩
          · rw [if_neg c5] at H
            have c5b0 : (((rd_T31 l0 x6_1).f0).toList == a1.toList) = false := beq_eq_false_iff_ne.mpr c5
            have c5b1 : (((rd_T31 l0 x6_1).f0).toList != a1.toList) = true := bne_iff_ne.mpr c5
            have H' := Aside0.mk H
            clear H
            have p200 : 0 ≤ (x6_1 : Int) := of_decide_eq_true (by first | (with_reducible assumption) | assumption)
            have q200 : x6_1 < (l0.length : Int) := of_decide_eq_true (by first | (with_reducible assumption) | assumption)
            obtain ⟨ad200, e200, hx200_0, hx200_1⟩ := at_T31 HR0.out x6_1 p200 q200
            cases e200
            replace p200 := eq_true p200
            replace q200 := eq_true q200
            go_wp2
            go_roundg k1
            case measure => have := HK1.out; omega
            case rel => exact ⟨(wrap64 (x6_1 + 1)), (by first | rfl | (simp; done) | (simp [*]; done)), H', ⟨by have := HK1.out; omega⟩, by repeat (first | exact Drawn0.refl _ | apply Drawn0.step)⟩
        · rw [if_neg c4] at H
          exact absurd H (by simp)
      · rw [if_neg c3] at H
        have c3b0 : decide (x6_1 < (l0.length : Int)) = false := decide_eq_false c3
        clear c3
        simp only [Option.some.injEq, Prod.mk.injEq] at H
        obtain ⟨rfl, rfl⟩ := H
        go_wp2
        go_ret2
        exact ⟨by first | rfl | (simp; done) | (simp [*]; done), by repeat (first | exact Drawn0.refl _ | apply Drawn0.step)⟩
end Go.Proofs.Ytcnaefnlnjfjkaa.H
end
section
namespace Go.Proofs.Ytcnaefnlnjfjkaa.H
open Go.RowKit Go.Proofs.YtcnaefnlnjfjkaaW.PrintWords Go.Proofs.YtcnaefnlnjfjkaaW.PrintLast Go.Proofs.YtcnaefnlnjfjkaaW.PrintMore
attribute [local go_sem] max2_int min2_int max_two min_two max_three min_three max_four min_four   -- for this text's walks alone
set_option linter.unusedVariables false
set_option linter.unusedSimpArgs false
mutual
def triremeref05_Meets.l0 : Nat → ByteArray → Bool → Bool → Int → ByteArray → Int → List ByteArray → Option (Bool)
  | 0, _, _, _, _, _, _, _ => none
  | k + 1, x5, x6, x7, x8, x280000, x280001, x280002 => if x8 < (x280002.length : Int) then (if x7 = true then (triremeref05_Meets.l0 k x5 x6 true (wrap64 (x8 + 1)) x280000 x280001 x280002) else (if x6 = true then (if 0 ≤ x8 then (triremeref05_Meets.l0 k x5 x6 ((rdOf ByteArray.empty x280002 x8).toList == x5.toList) (wrap64 (x8 + 1)) x280000 x280001 x280002) else (none)) else (triremeref05_Meets.l0 k x5 x6 false (wrap64 (x8 + 1)) x280000 x280001 x280002))) else (if x280001 = 1 then (some x7) else (if x280001 = 2 then (some (!x7)) else (if x280001 = 3 then (some x6) else (if x280001 = 4 then (some (!x6)) else ((triremeref03_Number.f k x5).bind fun bt283 => (if 0 < (x280002.length : Int) then ((triremeref03_Number.f k (rdOf ByteArray.empty x280002 0)).bind fun bt286 => (if x6 = true then (triremeref05_Meets.j1 k bt283.1 bt286.1 (bt283.2 != 0) x280000 x280001 x280002) else (triremeref05_Meets.j1 k bt283.1 bt286.1 true x280000 x280001 x280002))) else (none)))))))
def triremeref05_Meets.j1 : Nat → Int → Int → Bool → ByteArray → Int → List ByteArray → Option (Bool)
  | 0, _, _, _, _, _, _ => none
  | k + 1, x9, x11, x74, x280000, x280001, x280002 => if x74 = true then (some false) else (if x280001 = 5 then (some (decide (x9 > x11))) else (some (decide (x9 < x11))))
end
def triremeref05_Meets.f (k : Nat) (l0 : List (S31)) (a1_0 : ByteArray) (a1_1 : Int) (l1_2 : List ByteArray) : Option (Bool) := (triremeref05_Get.f k l0 a1_0).bind fun bt280 => (triremeref05_Meets.l0 k bt280.1 bt280.2 false 0 a1_0 a1_1 l1_2)
theorem triremeref05_Meets.mono_l : ∀ k, (∀ y0 y1 y2 y3 y4 y5 y6, LeO (triremeref05_Meets.l0 k y0 y1 y2 y3 y4 y5 y6) (triremeref05_Meets.l0 (k + 1) y0 y1 y2 y3 y4 y5 y6)) ∧ (∀ y0 y1 y2 y3 y4 y5, LeO (triremeref05_Meets.j1 k y0 y1 y2 y3 y4 y5) (triremeref05_Meets.j1 (k + 1) y0 y1 y2 y3 y4 y5))
  | 0 => ⟨fun _ _ _ _ _ _ _ r h => by simp [triremeref05_Meets.l0] at h, fun _ _ _ _ _ _ r h => by simp [triremeref05_Meets.j1] at h⟩
  | k + 1 => by
    obtain ⟨ih0, ih1⟩ := triremeref05_Meets.mono_l k
    refine ⟨?_, ?_⟩
    · intro y0 y1 y2 y3 y4 y5 y6
      unfold triremeref05_Meets.l0
      repeat' first
      | (with_reducible exact ih0 _ _ _ _ _ _ _)
      | (with_reducible exact ih1 _ _ _ _ _ _)
      | (with_reducible exact triremeref03_Number.mono _ _)
      | (with_reducible exact triremeref05_Get.mono _ _ _)
      | (with_reducible exact LeO.refl _)
      | (with_reducible exact LeO.none _)
      | (with_reducible refine LeO.ite ?_ ?_)
      | (with_reducible refine LeO.bind ?_ (fun _ => ?_))
      | exact ih0 _ _ _ _ _ _ _
      | exact ih1 _ _ _ _ _ _
      | exact triremeref03_Number.mono _ _
      | exact triremeref05_Get.mono _ _ _
      | exact LeO.none _
      | refine LeO.ite ?_ ?_
      | refine LeO.bind ?_ (fun _ => ?_)
    · intro y0 y1 y2 y3 y4 y5
      unfold triremeref05_Meets.j1
      repeat' first
      | (with_reducible exact ih0 _ _ _ _ _ _ _)
      | (with_reducible exact ih1 _ _ _ _ _ _)
      | (with_reducible exact triremeref03_Number.mono _ _)
      | (with_reducible exact triremeref05_Get.mono _ _ _)
      | (with_reducible exact LeO.refl _)
      | (with_reducible exact LeO.none _)
      | (with_reducible refine LeO.ite ?_ ?_)
      | (with_reducible refine LeO.bind ?_ (fun _ => ?_))
      | exact ih0 _ _ _ _ _ _ _
      | exact ih1 _ _ _ _ _ _
      | exact triremeref03_Number.mono _ _
      | exact triremeref05_Get.mono _ _ _
      | exact LeO.none _
      | refine LeO.ite ?_ ?_
      | refine LeO.bind ?_ (fun _ => ?_)
theorem triremeref05_Meets.mono : ∀ a0 a1 a2 a3 k, LeO (triremeref05_Meets.f k a0 a1 a2 a3) (triremeref05_Meets.f (k + 1) a0 a1 a2 a3) := by
  intro a0 a1 a2 a3 k
  obtain ⟨ih0, ih1⟩ := triremeref05_Meets.mono_l k
  unfold triremeref05_Meets.f
  repeat' first
      | (with_reducible exact ih0 _ _ _ _ _ _ _)
      | (with_reducible exact ih1 _ _ _ _ _ _)
      | (with_reducible exact triremeref03_Number.mono _ _)
      | (with_reducible exact triremeref05_Get.mono _ _ _)
      | (with_reducible exact LeO.refl _)
      | (with_reducible exact LeO.none _)
      | (with_reducible refine LeO.ite ?_ ?_)
      | (with_reducible refine LeO.bind ?_ (fun _ => ?_))
      | exact ih0 _ _ _ _ _ _ _
      | exact ih1 _ _ _ _ _ _
      | exact triremeref03_Number.mono _ _
      | exact triremeref05_Get.mono _ _ _
      | exact LeO.none _
      | refine LeO.ite ?_ ?_
      | refine LeO.bind ?_ (fun _ => ?_)
set_option maxHeartbeats 8000000 in
set_option maxRecDepth 100000 in
theorem triremeref05_Meets.calls (k : Nat) (A0 : Option Addr) (c0 : Nat) (l0 : List (S31)) (a1_0 : ByteArray) (a1_1 : Int) (A1_2 : Option Addr) (c1_2 : Nat) (l1_2 : List ByteArray) (r : Bool) (w : World) (hr0 : Kd.C k31 w A0 l0.length l0) (hc0 : l0.length ≤ c0) (hr1_2 : Kd.C Kd.string w A1_2 l1_2.length l1_2) (hc1_2 : l1_2.length ≤ c1_2) (h : triremeref05_Meets.f k l0 a1_0 a1_1 l1_2 = some r) :
    Calls Try.prog 18 #[.slice A0 l0.length c0, .agg #[.string a1_0, .int .i64 a1_1, .slice A1_2 l1_2.length c1_2]] w fun e w' => e = .returned (.bool r) ∧ Below w.heap.size w w' := by
  have hu37 := Try.underlying37
  have HR0 := Aside0.mk hr0
  have HC0 := Aside0.mk hc0
  clear hr0 hc0
  have HR1_2 := Aside0.mk hr1_2
  have HC1_2 := Aside0.mk hc1_2
  clear hr1_2 hc1_2
  have HB := Aside0.mk (Below.refl w.heap.size w)
  have H : ((triremeref05_Get.f k l0 a1_0).bind fun bt280 => (triremeref05_Meets.l0 k bt280.1 bt280.2 false 0 a1_0 a1_1 l1_2)) = some r := h
  clear h
  replace H := Option.bind_eq_some_iff.mp H
  obtain ⟨⟨t280, t281⟩, A30, H⟩ := H
  replace H : (triremeref05_Meets.l0 k t280 t281 false 0 a1_0 a1_1 l1_2) = some r := H
  have A3 := Aside0.mk A30
  clear A30
  have H' := Aside0.mk H
  clear H
  go_enter Try.func18, Try.ntmps18
  go_wp2_with (first | ((with_reducible refine gate_dst (N := 3) rfl ?_); refine box_event ?hg (N := 3) ?hd (cs := #[.string a1_0, .int .i64 a1_1, .slice A1_2 l1_2.length c1_2]) (t := 37) ?hr ?_; (case hd => rfl); (case hg => rfl); (case hr => first | (go_simp; done) | (go_simp; rfl)); intro gb279 hg w4 hbox hb; have n0_ := Aside0.mk (below_step (by repeat (first | (with_reducible first | exact HB.out | apply below_alloc | apply pw_below_drewN | apply below_drew1) | exact HB.out)) hb); have n1_ := Aside0.mk (hbox); have n2_ := Aside0.mk ((by rw [hg]; exact (below_size (by repeat (first | (with_reducible first | exact HB.out | apply below_alloc | apply pw_below_drewN | apply below_drew1) | exact HB.out))) : w.heap.size ≤ gb279)); have n3_ := Aside0.mk ((by rw [hg]; exact (below_size (by repeat (first | (with_reducible first | exact HB.out | apply below_alloc | apply pw_below_drewN | apply below_drew1) | exact HB.out))) : w.heap.size ≤ gb279)); clear HB; have HB := n0_; have BK279 := n1_; have GW279 := n2_; have GE279 := n3_; clear n0_ n1_ n2_ n3_; clear hb hbox hg; have hcz5_0 : w4.cell? ⟨gb279, 0, none⟩ = some (.string a1_0) := (blk_cell BK279.out 0).trans rfl; have hcz5_1 : w4.cell? ⟨gb279, 1, none⟩ = some (.int .i64 a1_1) := (blk_cell BK279.out 1).trans rfl; have hcz5_2 : w4.cell? ⟨gb279, 2, none⟩ = some (.slice A1_2 l1_2.length c1_2) := (blk_cell BK279.out 2).trans rfl; have hfz5_0 := blk_frozen BK279.out 0; have hfz5_1 := blk_frozen BK279.out 1; have hfz5_2 := blk_frozen BK279.out 2) | ((first | ((with_reducible refine gate_callee (f := 9) rfl ?_); refine goesL_ (some 17) rfl rfl Try.func9 (by kernel_rfl) rfl #[.slice A0 l0.length c0, .string a1_0] rfl (by (try simp only [List.map_toArray, List.map_cons, List.map_nil]); first | done | rfl | (simp only [List.length_drop, List.length_take]; rfl)) ?_; (with_reducible refine (triremeref05_Get.calls k _ _ l0 a1_0 t280 t281 _ ?side1 ?side2 A3.out).mono ?_); (case side1 => repeat (first | exact (Kd.C_below HR0.out HB.out) | (with_reducible refine Kd.C_alloc ?_ _) | (with_reducible refine Kd.C_drewN ?_ _) | (with_reducible refine Kd.C_drew ?_))); (case side2 => exact HC0.out); rintro e w' ⟨rfl, ⟨nd, rfl⟩⟩; refine ⟨_, rfl, ?_⟩) | (go_at_call 9; (with_reducible refine (triremeref05_Get.calls k _ _ l0 a1_0 t280 t281 _ ?side1 ?side2 A3.out).mono ?_); (case side1 => repeat (first | exact (Kd.C_below HR0.out HB.out) | (with_reducible refine Kd.C_alloc ?_ _) | (with_reducible refine Kd.C_drewN ?_ _) | (with_reducible refine Kd.C_drew ?_))); (case side2 => exact HC0.out); rintro e w' ⟨rfl, ⟨nd, rfl⟩⟩))))
  go_loopg [7, 8] k (fun kq v7 v8 w' => ∃ (x7_1 : Bool) (x8_1 : Int), v7 = .bool x7_1 ∧ v8 = .int .i64 x8_1 ∧ Aside0 (triremeref05_Meets.l0 kq t280 t281 x7_1 x8_1 a1_0 a1_1 l1_2 = some r) ∧ Aside0 (kq ≤ k) ∧ Aside0 (w'.heap[gb279]? = some (.cells #[.string a1_0, .int .i64 a1_1, (.slice A1_2 l1_2.length c1_2)] 37 (0, 0))) ∧ Aside0 (Below w.heap.size w w'))
  case atStart => exact ⟨(false), (0), (by first | rfl | (simp; done) | (simp [*]; done)), (by first | rfl | (simp; done) | (simp [*]; done)), H', ⟨Nat.le_refl _⟩, ⟨by (with_reducible repeat (first | refine blk_drewN ?_ _ | refine blk_drew ?_ | refine blk_alloc ?_ _)); exact BK279.out⟩, ⟨by repeat (first | (with_reducible first | exact HB.out | apply below_alloc | apply pw_below_drewN | apply below_drew1 | refine below_set ?_ GE279.out) | exact HB.out)⟩⟩
  case round =>
    clear H'
    try clear c1
    try clear p2
    try clear hcz5_0
    try clear hcz5_1
    try clear hcz5_2
    try clear hfz5_0
    try clear hfz5_1
    try clear hfz5_2
    obtain ⟨x7_1, x8_1, rfl, rfl, HA, HK1, BK279, HB⟩ := hrel
    cases gk with
    | zero => exact absurd HA.out (by simp [triremeref05_Meets.l0])
    | succ k1 =>
      have H := HA.out
      clear HA
      simp only [triremeref05_Meets.l0] at H
      by_cases c6 : x8_1 < (l1_2.length : Int)
      · rw [if_pos c6] at H
        have c6b0 : decide (x8_1 < (l1_2.length : Int)) = true := decide_eq_true c6
        clear c6
        by_cases c7 : x7_1 = true
        · subst c7
          have H1 : (triremeref05_Meets.l0 k1 t280 t281 true (wrap64 (x8_1 + 1)) a1_0 a1_1 l1_2) = some r := by rw [if_pos rfl] at H; exact H
          clear H
          have H := H1
          clear H1
          have H' := Aside0.mk H
          clear H
          have hcz8_0 : wr.cell? ⟨gb279, 0, none⟩ = some (.string a1_0) := (blk_cell BK279.out 0).trans rfl
          have hcz8_1 : wr.cell? ⟨gb279, 1, none⟩ = some (.int .i64 a1_1) := (blk_cell BK279.out 1).trans rfl
          have hcz8_2 : wr.cell? ⟨gb279, 2, none⟩ = some (.slice A1_2 l1_2.length c1_2) := (blk_cell BK279.out 2).trans rfl
          have hfz8_0 := blk_frozen BK279.out 0
          have hfz8_1 := blk_frozen BK279.out 1
          have hfz8_2 := blk_frozen BK279.out 2
          go_wp2
          go_roundg k1
          case measure => have := HK1.out; omega
          case rel => exact ⟨(true), (wrap64 (x8_1 + 1)), (by first | rfl | (simp; done) | (simp [*]; done)), (by first | rfl | (simp; done) | (simp [*]; done)), H', ⟨by have := HK1.out; omega⟩, ⟨by (with_reducible repeat (first | refine blk_drewN ?_ _ | refine blk_drew ?_ | refine blk_alloc ?_ _)); exact BK279.out⟩, ⟨by repeat (first | (with_reducible first | exact HB.out | apply below_alloc | apply pw_below_drewN | apply below_drew1 | refine below_set ?_ GE279.out) | exact HB.out)⟩⟩
        · replace c7 := Bool.eq_false_iff.mpr c7
          subst c7
          have H1 : (if t281 = true then (if 0 ≤ x8_1 then (triremeref05_Meets.l0 k1 t280 t281 ((rdOf ByteArray.empty l1_2 x8_1).toList == t280.toList) (wrap64 (x8_1 + 1)) a1_0 a1_1 l1_2) else (none)) else (triremeref05_Meets.l0 k1 t280 t281 false (wrap64 (x8_1 + 1)) a1_0 a1_1 l1_2)) = some r := by rw [if_neg (show ¬ (false = true) by decide)] at H; exact H
          clear H
          have H := H1
          clear H1
          by_cases c9 : t281 = true
          · subst c9
            have H1 : (if 0 ≤ x8_1 then (triremeref05_Meets.l0 k1 t280 true ((rdOf ByteArray.empty l1_2 x8_1).toList == t280.toList) (wrap64 (x8_1 + 1)) a1_0 a1_1 l1_2) else (none)) = some r := by rw [if_pos rfl] at H; exact H
            clear H
            have H := H1
            clear H1
            by_cases c10 : 0 ≤ x8_1
            · rw [if_pos c10] at H
              have c10b0 : decide (0 ≤ x8_1) = true := decide_eq_true c10
              clear c10
              have H' := Aside0.mk H
              clear H
              have hcz11_0 : wr.cell? ⟨gb279, 0, none⟩ = some (.string a1_0) := (blk_cell BK279.out 0).trans rfl
              have hcz11_1 : wr.cell? ⟨gb279, 1, none⟩ = some (.int .i64 a1_1) := (blk_cell BK279.out 1).trans rfl
              have hcz11_2 : wr.cell? ⟨gb279, 2, none⟩ = some (.slice A1_2 l1_2.length c1_2) := (blk_cell BK279.out 2).trans rfl
              have hfz11_0 := blk_frozen BK279.out 0
              have hfz11_1 := blk_frozen BK279.out 1
              have hfz11_2 := blk_frozen BK279.out 2
              have p282 : 0 ≤ (x8_1 : Int) := of_decide_eq_true (by first | (with_reducible assumption) | assumption)
              have q282 : x8_1 < (l1_2.length : Int) := of_decide_eq_true (by first | (with_reducible assumption) | assumption)
              obtain ⟨ad282, e282, hx282_0⟩ := Kd.at_string HR1_2.out x8_1 p282 q282
              cases e282
              replace hx282_0 := (HB.out.cell (World.block_lt_of_cell? w _ hx282_0)).trans hx282_0
              replace p282 := eq_true p282
              replace q282 := eq_true q282
              go_wp2
              go_roundg k1
              case measure => have := HK1.out; omega
              case rel => exact ⟨(((rdOf ByteArray.empty l1_2 x8_1).toList == t280.toList)), (wrap64 (x8_1 + 1)), (by first | rfl | (simp; done) | (simp [*]; done)), (by first | rfl | (simp; done) | (simp [*]; done)), H', ⟨by have := HK1.out; omega⟩, ⟨by (with_reducible repeat (first | refine blk_drewN ?_ _ | refine blk_drew ?_ | refine blk_alloc ?_ _)); exact BK279.out⟩, ⟨by repeat (first | (with_reducible first | exact HB.out | apply below_alloc | apply pw_below_drewN | apply below_drew1 | refine below_set ?_ GE279.out) | exact HB.out)⟩⟩
            · rw [if_neg c10] at H
              exact absurd H (by simp)
          · replace c9 := Bool.eq_false_iff.mpr c9
            subst c9
            have H1 : (triremeref05_Meets.l0 k1 t280 false false (wrap64 (x8_1 + 1)) a1_0 a1_1 l1_2) = some r := by rw [if_neg (show ¬ (false = true) by decide)] at H; exact H
            clear H
            have H := H1
            clear H1
            have H' := Aside0.mk H
            clear H
            have hcz12_0 : wr.cell? ⟨gb279, 0, none⟩ = some (.string a1_0) := (blk_cell BK279.out 0).trans rfl
            have hcz12_1 : wr.cell? ⟨gb279, 1, none⟩ = some (.int .i64 a1_1) := (blk_cell BK279.out 1).trans rfl
            have hcz12_2 : wr.cell? ⟨gb279, 2, none⟩ = some (.slice A1_2 l1_2.length c1_2) := (blk_cell BK279.out 2).trans rfl
            have hfz12_0 := blk_frozen BK279.out 0
            have hfz12_1 := blk_frozen BK279.out 1
            have hfz12_2 := blk_frozen BK279.out 2
            go_wp2
            go_roundg k1
            case measure => have := HK1.out; omega
            case rel => exact ⟨(false), (wrap64 (x8_1 + 1)), (by first | rfl | (simp; done) | (simp [*]; done)), (by first | rfl | (simp; done) | (simp [*]; done)), H', ⟨by have := HK1.out; omega⟩, ⟨by (with_reducible repeat (first | refine blk_drewN ?_ _ | refine blk_drew ?_ | refine blk_alloc ?_ _)); exact BK279.out⟩, ⟨by repeat (first | (with_reducible first | exact HB.out | apply below_alloc | apply pw_below_drewN | apply below_drew1 | refine below_set ?_ GE279.out) | exact HB.out)⟩⟩
      · rw [if_neg c6] at H
        have c6b0 : decide (x8_1 < (l1_2.length : Int)) = false := decide_eq_false c6
        clear c6
        by_cases c13 : a1_1 = 1
        · rw [if_pos c13] at H
          have c13b0 : (a1_1 == 1) = true := beq_iff_eq.mpr c13
          have c13b1 : (a1_1 != 1) = false := bne_eq_false_iff_eq.mpr c13
          clear c13
          obtain rfl := Option.some.inj H
          have hcz14_0 : wr.cell? ⟨gb279, 0, none⟩ = some (.string a1_0) := (blk_cell BK279.out 0).trans rfl
          have hcz14_1 : wr.cell? ⟨gb279, 1, none⟩ = some (.int .i64 a1_1) := (blk_cell BK279.out 1).trans rfl
          have hcz14_2 : wr.cell? ⟨gb279, 2, none⟩ = some (.slice A1_2 l1_2.length c1_2) := (blk_cell BK279.out 2).trans rfl
          have hfz14_0 := blk_frozen BK279.out 0
          have hfz14_1 := blk_frozen BK279.out 1
          have hfz14_2 := blk_frozen BK279.out 2
          go_wp2
          go_ret
          exact ⟨by first | rfl | (simp [errW_none, errW_some] <;> rfl) | (simp [*, errW_none, errW_some] <;> rfl), by repeat (first | (with_reducible first | exact HB.out | apply below_alloc | apply pw_below_drewN | apply below_drew1 | refine below_set ?_ GE279.out) | exact HB.out)⟩
        · rw [if_neg c13] at H
          have c13b0 : (a1_1 == 1) = false := beq_eq_false_iff_ne.mpr c13
          have c13b1 : (a1_1 != 1) = true := bne_iff_ne.mpr c13
          by_cases c15 : a1_1 = 2
          · rw [if_pos c15] at H
            have c15b0 : (a1_1 == 2) = true := beq_iff_eq.mpr c15
            have c15b1 : (a1_1 != 2) = false := bne_eq_false_iff_eq.mpr c15
            clear c15
            obtain rfl := Option.some.inj H
            have hcz16_0 : wr.cell? ⟨gb279, 0, none⟩ = some (.string a1_0) := (blk_cell BK279.out 0).trans rfl
            have hcz16_1 : wr.cell? ⟨gb279, 1, none⟩ = some (.int .i64 a1_1) := (blk_cell BK279.out 1).trans rfl
            have hcz16_2 : wr.cell? ⟨gb279, 2, none⟩ = some (.slice A1_2 l1_2.length c1_2) := (blk_cell BK279.out 2).trans rfl
            have hfz16_0 := blk_frozen BK279.out 0
            have hfz16_1 := blk_frozen BK279.out 1
            have hfz16_2 := blk_frozen BK279.out 2
            go_wp2
            go_ret
            exact ⟨by first | rfl | (simp [errW_none, errW_some] <;> rfl) | (simp [*, errW_none, errW_some] <;> rfl), by repeat (first | (with_reducible first | exact HB.out | apply below_alloc | apply pw_below_drewN | apply below_drew1 | refine below_set ?_ GE279.out) | exact HB.out)⟩
          · rw [if_neg c15] at H
            have c15b0 : (a1_1 == 2) = false := beq_eq_false_iff_ne.mpr c15
            have c15b1 : (a1_1 != 2) = true := bne_iff_ne.mpr c15
            by_cases c17 : a1_1 = 3
            · rw [if_pos c17] at H
              have c17b0 : (a1_1 == 3) = true := beq_iff_eq.mpr c17
              have c17b1 : (a1_1 != 3) = false := bne_eq_false_iff_eq.mpr c17
              clear c17
              obtain rfl := Option.some.inj H
              have hcz18_0 : wr.cell? ⟨gb279, 0, none⟩ = some (.string a1_0) := (blk_cell BK279.out 0).trans rfl
              have hcz18_1 : wr.cell? ⟨gb279, 1, none⟩ = some (.int .i64 a1_1) := (blk_cell BK279.out 1).trans rfl
              have hcz18_2 : wr.cell? ⟨gb279, 2, none⟩ = some (.slice A1_2 l1_2.length c1_2) := (blk_cell BK279.out 2).trans rfl
              have hfz18_0 := blk_frozen BK279.out 0
              have hfz18_1 := blk_frozen BK279.out 1
              have hfz18_2 := blk_frozen BK279.out 2
              go_wp2
              go_ret
              exact ⟨by first | rfl | (simp [errW_none, errW_some] <;> rfl) | (simp [*, errW_none, errW_some] <;> rfl), by repeat (first | (with_reducible first | exact HB.out | apply below_alloc | apply pw_below_drewN | apply below_drew1 | refine below_set ?_ GE279.out) | exact HB.out)⟩
            · rw [if_neg c17] at H
              have c17b0 : (a1_1 == 3) = false := beq_eq_false_iff_ne.mpr c17
              have c17b1 : (a1_1 != 3) = true := bne_iff_ne.mpr c17
              by_cases c19 : a1_1 = 4
              · rw [if_pos c19] at H
                have c19b0 : (a1_1 == 4) = true := beq_iff_eq.mpr c19
                have c19b1 : (a1_1 != 4) = false := bne_eq_false_iff_eq.mpr c19
                clear c19
                obtain rfl := Option.some.inj H
                have hcz20_0 : wr.cell? ⟨gb279, 0, none⟩ = some (.string a1_0) := (blk_cell BK279.out 0).trans rfl
                have hcz20_1 : wr.cell? ⟨gb279, 1, none⟩ = some (.int .i64 a1_1) := (blk_cell BK279.out 1).trans rfl
                have hcz20_2 : wr.cell? ⟨gb279, 2, none⟩ = some (.slice A1_2 l1_2.length c1_2) := (blk_cell BK279.out 2).trans rfl
                have hfz20_0 := blk_frozen BK279.out 0
                have hfz20_1 := blk_frozen BK279.out 1
                have hfz20_2 := blk_frozen BK279.out 2
                go_wp2
                go_ret
                exact ⟨by first | rfl | (simp [errW_none, errW_some] <;> rfl) | (simp [*, errW_none, errW_some] <;> rfl), by repeat (first | (with_reducible first | exact HB.out | apply below_alloc | apply pw_below_drewN | apply below_drew1 | refine below_set ?_ GE279.out) | exact HB.out)⟩
              · rw [if_neg c19] at H
                have c19b0 : (a1_1 == 4) = false := beq_eq_false_iff_ne.mpr c19
                have c19b1 : (a1_1 != 4) = true := bne_iff_ne.mpr c19
                replace H := Option.bind_eq_some_iff.mp H
                obtain ⟨⟨t283, t284⟩, A210, H⟩ := H
                replace H : (if 0 < (l1_2.length : Int) then ((triremeref03_Number.f k1 (rdOf ByteArray.empty l1_2 0)).bind fun bt286 => (if t281 = true then (triremeref05_Meets.j1 k1 t283 bt286.1 (t284 != 0) a1_0 a1_1 l1_2) else (triremeref05_Meets.j1 k1 t283 bt286.1 true a1_0 a1_1 l1_2))) else (none)) = some r := H
                have A21 := Aside0.mk A210
                clear A210
                by_cases c22 : 0 < (l1_2.length : Int)
                · rw [if_pos c22] at H
                  have c22b0 : decide (0 < (l1_2.length : Int)) = true := decide_eq_true c22
                  have c22b1 : decide (0 < l1_2.length) = true := decide_eq_true (by omega)
                  clear c22
                  replace H := Option.bind_eq_some_iff.mp H
                  obtain ⟨⟨t286, t287⟩, A230, H⟩ := H
                  replace H : (if t281 = true then (triremeref05_Meets.j1 k1 t283 t286 (t284 != 0) a1_0 a1_1 l1_2) else (triremeref05_Meets.j1 k1 t283 t286 true a1_0 a1_1 l1_2)) = some r := H
                  have A23 := Aside0.mk A230
                  clear A230
                  have HC24 := Aside0.mk H
                  clear H
                  have hcz25_0 : wr.cell? ⟨gb279, 0, none⟩ = some (.string a1_0) := (blk_cell BK279.out 0).trans rfl
                  have hcz25_1 : wr.cell? ⟨gb279, 1, none⟩ = some (.int .i64 a1_1) := (blk_cell BK279.out 1).trans rfl
                  have hcz25_2 : wr.cell? ⟨gb279, 2, none⟩ = some (.slice A1_2 l1_2.length c1_2) := (blk_cell BK279.out 2).trans rfl
                  have hfz25_0 := blk_frozen BK279.out 0
                  have hfz25_1 := blk_frozen BK279.out 1
                  have hfz25_2 := blk_frozen BK279.out 2
                  go_upto_region 18 with (first | ((first | ((with_reducible refine gate_callee (f := 30) rfl ?_); refine goesL_ (some 58) rfl rfl Try.func30 (by kernel_rfl) rfl #[.string t280] rfl (by (try simp only [List.map_toArray, List.map_cons, List.map_nil]); first | done | rfl | (simp only [List.length_drop, List.length_take]; rfl)) ?_; (with_reducible refine (triremeref03_Number.calls k1 t280 t283 t284 _ A21.out).mono ?_); rintro e w26 ⟨rfl, hb⟩; refine ⟨_, rfl, ?_⟩) | (go_at_call 30; (with_reducible refine (triremeref03_Number.calls k1 t280 t283 t284 _ A21.out).mono ?_); rintro e w26 ⟨rfl, hb⟩)); have n0_ := Aside0.mk (blk_below (g := gb279) (o := .cells #[.string a1_0, .int .i64 a1_1, .slice A1_2 l1_2.length c1_2] 37 (0, 0)) (by (with_reducible repeat (first | refine blk_drewN ?_ _ | refine blk_drew ?_ | refine blk_alloc ?_ _)); exact BK279.out) hb); have n1_ := Aside0.mk (below_step (by repeat (first | (with_reducible first | exact HB.out | apply below_alloc | apply pw_below_drewN | apply below_drew1 | refine below_set ?_ GE279.out) | exact HB.out)) hb); clear BK279; clear HB; have BK279 := n0_; have HB := n1_; clear n0_ n1_; (try clear hb); (try clear hb2); (try clear hk); (try clear hi); have hcz27_0 : w26.cell? ⟨gb279, 0, none⟩ = some (.string a1_0) := (blk_cell BK279.out 0).trans rfl; have hcz27_1 : w26.cell? ⟨gb279, 1, none⟩ = some (.int .i64 a1_1) := (blk_cell BK279.out 1).trans rfl; have hcz27_2 : w26.cell? ⟨gb279, 2, none⟩ = some (.slice A1_2 l1_2.length c1_2) := (blk_cell BK279.out 2).trans rfl; have hfz27_0 := blk_frozen BK279.out 0; have hfz27_1 := blk_frozen BK279.out 1; have hfz27_2 := blk_frozen BK279.out 2; have p285 : 0 ≤ (0 : Int) := (by omega); have q285 : 0 < (l1_2.length : Int) := of_decide_eq_true (by first | (with_reducible assumption) | assumption); obtain ⟨ad285, e285, hx285_0⟩ := Kd.at_string HR1_2.out 0 p285 q285; cases e285; have qi285 : (0 < l1_2.length) = True := eq_true (by omega); (try rw [show ((0 : Int)).toNat = 0 from rfl] at hx285_0); (try rw [Addr.add_zero'] at hx285_0); replace hx285_0 := (HB.out.cell (World.block_lt_of_cell? w _ hx285_0)).trans hx285_0; replace p285 := eq_true p285; replace q285 := eq_true q285) | ((first | ((with_reducible refine gate_callee (f := 30) rfl ?_); refine goesL_ (some 66) rfl rfl Try.func30 (by kernel_rfl) rfl #[.string (rdOf ByteArray.empty l1_2 0)] rfl (by (try simp only [List.map_toArray, List.map_cons, List.map_nil]); first | done | rfl | (simp only [List.length_drop, List.length_take]; rfl)) ?_; (with_reducible refine (triremeref03_Number.calls k1 (rdOf ByteArray.empty l1_2 0) t286 t287 _ A23.out).mono ?_); rintro e w28 ⟨rfl, hb⟩; refine ⟨_, rfl, ?_⟩) | (go_at_call 30; (with_reducible refine (triremeref03_Number.calls k1 (rdOf ByteArray.empty l1_2 0) t286 t287 _ A23.out).mono ?_); rintro e w28 ⟨rfl, hb⟩)); have n0_ := Aside0.mk (blk_below (g := gb279) (o := .cells #[.string a1_0, .int .i64 a1_1, .slice (some ad285) l1_2.length c1_2] 37 (0, 0)) (by (with_reducible repeat (first | refine blk_drewN ?_ _ | refine blk_drew ?_ | refine blk_alloc ?_ _)); exact BK279.out) hb); have n1_ := Aside0.mk (below_step (by repeat (first | (with_reducible first | exact HB.out | apply below_alloc | apply pw_below_drewN | apply below_drew1 | refine below_set ?_ GE279.out) | exact HB.out)) hb); clear BK279; clear HB; have BK279 := n0_; have HB := n1_; clear n0_ n1_; (try clear hb); (try clear hb2); (try clear hk); (try clear hi)))
                  (try simp only [Act.put, List.setIfInBounds_toArray, List.set_cons_zero, List.set_cons_succ])
                  go_cut [74] (fun v74 wc => ∃ (kq : Nat) (x74_23 : Bool), v74 = .bool x74_23 ∧ Aside0 (triremeref05_Meets.j1 kq t283 t286 x74_23 a1_0 a1_1 l1_2 = some r) ∧ Aside0 (kq ≤ k1) ∧ Aside0 (wc.heap[gb279]? = some (.cells #[.string a1_0, .int .i64 a1_1, (.slice (some ad285) l1_2.length c1_2)] 37 (0, 0))) ∧ Aside0 (Below w.heap.size w wc))
                  case first =>
                    have H := HC24.out
                    clear HC24
                    by_cases c29 : t281 = true
                    · subst c29
                      have H1 : (triremeref05_Meets.j1 k1 t283 t286 (t284 != 0) a1_0 a1_1 l1_2) = some r := by rw [if_pos rfl] at H; exact H
                      clear H
                      have H := H1
                      clear H1
                      have H' := Aside0.mk H
                      clear H
                      go_wp2
                      go_meet
                      case rel => exact ⟨_, ((t284 != 0)), (by first | rfl | (simp; done) | (simp [*]; done)), H', ⟨by have := HK1.out; first | omega | exact Nat.le_refl _⟩, ⟨by (with_reducible repeat (first | refine blk_drewN ?_ _ | refine blk_drew ?_ | refine blk_alloc ?_ _)); exact BK279.out⟩, ⟨by repeat (first | (with_reducible first | exact HB.out | apply below_alloc | apply pw_below_drewN | apply below_drew1 | refine below_set ?_ GE279.out) | exact HB.out)⟩⟩
                    · replace c29 := Bool.eq_false_iff.mpr c29
                      subst c29
                      have H1 : (triremeref05_Meets.j1 k1 t283 t286 true a1_0 a1_1 l1_2) = some r := by rw [if_neg (show ¬ (false = true) by decide)] at H; exact H
                      clear H
                      have H := H1
                      clear H1
                      have H' := Aside0.mk H
                      clear H
                      go_wp2
                      go_meet
                      case rel => exact ⟨_, (true), (by first | rfl | (simp; done) | (simp [*]; done)), H', ⟨by have := HK1.out; first | omega | exact Nat.le_refl _⟩, ⟨by (with_reducible repeat (first | refine blk_drewN ?_ _ | refine blk_drew ?_ | refine blk_alloc ?_ _)); exact BK279.out⟩, ⟨by repeat (first | (with_reducible first | exact HB.out | apply below_alloc | apply pw_below_drewN | apply below_drew1 | refine below_set ?_ GE279.out) | exact HB.out)⟩⟩
                  case rest =>
                    clear HC24
                    try clear c1
                    try clear c2
                    try clear p2
                    try clear q2
                    try clear hx2
                    try clear qi2
                    try clear c3
                    try clear c6
                    try clear c6b0
                    try clear p6
                    try clear c7
                    try clear c9
                    try clear c10
                    try clear c10b0
                    try clear c13
                    try clear c13b0
                    try clear c13b1
                    try clear c15
                    try clear c15b0
                    try clear c15b1
                    try clear c17
                    try clear c17b0
                    try clear c17b1
                    try clear c18
                    try clear c19
                    try clear c19b0
                    try clear c19b1
                    try clear c22
                    try clear c22b0
                    try clear c22b1
                    try clear p28
                    try clear q28
                    try clear hx28
                    try clear qi28
                    try clear c29
                    try clear hcz11_0
                    try clear hcz11_1
                    try clear hcz11_2
                    try clear hcz12_0
                    try clear hcz12_1
                    try clear hcz12_2
                    try clear hcz14_0
                    try clear hcz14_1
                    try clear hcz14_2
                    try clear hcz16_0
                    try clear hcz16_1
                    try clear hcz16_2
                    try clear hcz18_0
                    try clear hcz18_1
                    try clear hcz18_2
                    try clear hcz20_0
                    try clear hcz20_1
                    try clear hcz20_2
                    try clear hcz25_0
                    try clear hcz25_1
                    try clear hcz25_2
                    try clear hcz27_0
                    try clear hcz27_1
                    try clear hcz27_2
                    try clear hcz5_0
                    try clear hcz5_1
                    try clear hcz5_2
                    try clear hcz8_0
                    try clear hcz8_1
                    try clear hcz8_2
                    try clear hfz11_0
                    try clear hfz11_1
                    try clear hfz11_2
                    try clear hfz12_0
                    try clear hfz12_1
                    try clear hfz12_2
                    try clear hfz14_0
                    try clear hfz14_1
                    try clear hfz14_2
                    try clear hfz16_0
                    try clear hfz16_1
                    try clear hfz16_2
                    try clear hfz18_0
                    try clear hfz18_1
                    try clear hfz18_2
                    try clear hfz20_0
                    try clear hfz20_1
                    try clear hfz20_2
                    try clear hfz25_0
                    try clear hfz25_1
                    try clear hfz25_2
                    try clear hfz27_0
                    try clear hfz27_1
                    try clear hfz27_2
                    try clear hfz5_0
                    try clear hfz5_1
                    try clear hfz5_2
                    try clear hfz8_0
                    try clear hfz8_1
                    try clear hfz8_2
                    try clear hx282_0
                    try clear hx285_0
                    try clear p2
                    try clear p282
                    try clear p285
                    try clear q282
                    try clear q285
                    obtain ⟨kq, x74_23, rfl, HA, HJ23, BK279, HB⟩ := hcut
                    cases kq with
                    | zero => exact absurd HA.out (by simp [triremeref05_Meets.j1])
                    | succ kj23 =>
                      have H := HA.out
                      clear HA
                      simp only [triremeref05_Meets.j1] at H
                      by_cases c30 : x74_23 = true
                      · subst c30
                        have H1 : (some false) = some r := by rw [if_pos rfl] at H; exact H
                        clear H
                        have H := H1
                        clear H1
                        obtain rfl := Option.some.inj H
                        go_wp2
                        go_ret
                        exact ⟨by first | rfl | (simp [errW_none, errW_some] <;> rfl) | (simp [*, errW_none, errW_some] <;> rfl), by repeat (first | (with_reducible first | exact HB.out | apply below_alloc | apply pw_below_drewN | apply below_drew1 | refine below_set ?_ GE279.out) | exact HB.out)⟩
                      · replace c30 := Bool.eq_false_iff.mpr c30
                        subst c30
                        have H1 : (if a1_1 = 5 then (some (decide (t283 > t286))) else (some (decide (t283 < t286)))) = some r := by rw [if_neg (show ¬ (false = true) by decide)] at H; exact H
                        clear H
                        have H := H1
                        clear H1
                        by_cases c31 : a1_1 = 5
                        · rw [if_pos c31] at H
                          have c31b0 : (a1_1 == 5) = true := beq_iff_eq.mpr c31
                          have c31b1 : (a1_1 != 5) = false := bne_eq_false_iff_eq.mpr c31
                          clear c31
                          obtain rfl := Option.some.inj H
                          have hcz32_0 : wc.cell? ⟨gb279, 0, none⟩ = some (.string a1_0) := (blk_cell BK279.out 0).trans rfl
                          have hcz32_1 : wc.cell? ⟨gb279, 1, none⟩ = some (.int .i64 a1_1) := (blk_cell BK279.out 1).trans rfl
                          have hcz32_2 : wc.cell? ⟨gb279, 2, none⟩ = some (.slice (some ad285) l1_2.length c1_2) := (blk_cell BK279.out 2).trans rfl
                          have hfz32_0 := blk_frozen BK279.out 0
                          have hfz32_1 := blk_frozen BK279.out 1
                          have hfz32_2 := blk_frozen BK279.out 2
                          go_wp2
                          go_ret
                          exact ⟨by first | rfl | (simp [errW_none, errW_some] <;> rfl) | (simp [*, errW_none, errW_some] <;> rfl), by repeat (first | (with_reducible first | exact HB.out | apply below_alloc | apply pw_below_drewN | apply below_drew1 | refine below_set ?_ GE279.out) | exact HB.out)⟩
                        · rw [if_neg c31] at H
                          have c31b0 : (a1_1 == 5) = false := beq_eq_false_iff_ne.mpr c31
                          have c31b1 : (a1_1 != 5) = true := bne_iff_ne.mpr c31
                          obtain rfl := Option.some.inj H
                          have hcz33_0 : wc.cell? ⟨gb279, 0, none⟩ = some (.string a1_0) := (blk_cell BK279.out 0).trans rfl
                          have hcz33_1 : wc.cell? ⟨gb279, 1, none⟩ = some (.int .i64 a1_1) := (blk_cell BK279.out 1).trans rfl
                          have hcz33_2 : wc.cell? ⟨gb279, 2, none⟩ = some (.slice (some ad285) l1_2.length c1_2) := (blk_cell BK279.out 2).trans rfl
                          have hfz33_0 := blk_frozen BK279.out 0
                          have hfz33_1 := blk_frozen BK279.out 1
                          have hfz33_2 := blk_frozen BK279.out 2
                          go_wp2
                          go_ret
                          exact ⟨by first | rfl | (simp [errW_none, errW_some] <;> rfl) | (simp [*, errW_none, errW_some] <;> rfl), by repeat (first | (with_reducible first | exact HB.out | apply below_alloc | apply pw_below_drewN | apply below_drew1 | refine below_set ?_ GE279.out) | exact HB.out)⟩
                · rw [if_neg c22] at H
                  exact absurd H (by simp)
end Go.Proofs.Ytcnaefnlnjfjkaa.H
end
section
namespace Go.Proofs.Ytcnaefnlnjfjkaa.H
open Go.RowKit Go.Proofs.YtcnaefnlnjfjkaaW.PrintWords Go.Proofs.YtcnaefnlnjfjkaaW.PrintLast Go.Proofs.YtcnaefnlnjfjkaaW.PrintMore
attribute [local go_sem] max2_int min2_int max_two min_two max_three min_three max_four min_four   -- for this text's walks alone
set_option linter.unusedVariables false
set_option linter.unusedSimpArgs false
def triremeref05_Has.l0 : Nat → List (S31) → List (S31) → Int → Option (Bool)
  | 0, _, _, _ => none
  | k + 1, x0, x1, x5 => if x5 < (x1.length : Int) then (if 0 ≤ x5 then ((triremeref05_Get.f k x0 ((rd_T31 x1 x5).f0)).bind fun bt289 => (if bt289.2 = true then (if bt289.1.toList = ((rd_T31 x1 x5).f1).toList then (triremeref05_Has.l0 k x0 x1 (wrap64 (x5 + 1))) else (some false)) else (some false))) else (none)) else (some true)
def triremeref05_Has.f (k : Nat) (l0 : List (S31)) (l1 : List (S31)) : Option (Bool) := triremeref05_Has.l0 k l0 l1 0
theorem triremeref05_Has.mono_l : ∀ k, (∀ y0 y1 y2, LeO (triremeref05_Has.l0 k y0 y1 y2) (triremeref05_Has.l0 (k + 1) y0 y1 y2))
  | 0 => fun _ _ _ r h => by simp [triremeref05_Has.l0] at h
  | k + 1 => by
    have ih0 := triremeref05_Has.mono_l k
    · intro y0 y1 y2
      unfold triremeref05_Has.l0
      repeat' first
      | (with_reducible exact ih0 _ _ _)
      | (with_reducible exact triremeref05_Get.mono _ _ _)
      | (with_reducible exact LeO.refl _)
      | (with_reducible exact LeO.none _)
      | (with_reducible refine LeO.ite ?_ ?_)
      | (with_reducible refine LeO.bind ?_ (fun _ => ?_))
      | exact ih0 _ _ _
      | exact triremeref05_Get.mono _ _ _
      | exact LeO.none _
      | refine LeO.ite ?_ ?_
      | refine LeO.bind ?_ (fun _ => ?_)
theorem triremeref05_Has.mono : ∀ a0 a1 k, LeO (triremeref05_Has.f k a0 a1) (triremeref05_Has.f (k + 1) a0 a1) := by
  intro a0 a1 k
  have ih0 := triremeref05_Has.mono_l k
  unfold triremeref05_Has.f
  repeat' first
      | (with_reducible exact ih0 _ _ _)
      | (with_reducible exact triremeref05_Get.mono _ _ _)
      | (with_reducible exact LeO.refl _)
      | (with_reducible exact LeO.none _)
      | (with_reducible refine LeO.ite ?_ ?_)
      | (with_reducible refine LeO.bind ?_ (fun _ => ?_))
      | exact ih0 _ _ _
      | exact triremeref05_Get.mono _ _ _
      | exact LeO.none _
      | refine LeO.ite ?_ ?_
      | refine LeO.bind ?_ (fun _ => ?_)
set_option maxHeartbeats 8000000 in
set_option maxRecDepth 100000 in
theorem triremeref05_Has.calls (k : Nat) (A0 : Option Addr) (c0 : Nat) (l0 : List (S31)) (A1 : Option Addr) (c1 : Nat) (l1 : List (S31)) (r : Bool) (w : World) (hr0 : Kd.C k31 w A0 l0.length l0) (hc0 : l0.length ≤ c0) (hr1 : Kd.C k31 w A1 l1.length l1) (hc1 : l1.length ≤ c1) (h : triremeref05_Has.f k l0 l1 = some r) :
    Calls Try.prog 20 #[.slice A0 l0.length c0, .slice A1 l1.length c1] w fun e w' => e = .returned (.bool r) ∧ Drawn0 w w' := by
  have HR0 := Aside0.mk hr0
  have HC0 := Aside0.mk hc0
  clear hr0 hc0
  have HR1 := Aside0.mk hr1
  have HC1 := Aside0.mk hc1
  clear hr1 hc1
  have H : (triremeref05_Has.l0 k l0 l1 0) = some r := h
  clear h
  have H' := Aside0.mk H
  clear H
  go_enter Try.func20, Try.ntmps20
  go_wp2
  go_loopg [5] k (fun kq v5 w' => ∃ (x5_1 : Int), v5 = .int .i64 x5_1 ∧ Aside0 (triremeref05_Has.l0 kq l0 l1 x5_1 = some r) ∧ Aside0 (kq ≤ k) ∧ Drawn0 w w')
  case atStart => exact ⟨(0), (by first | rfl | (simp; done) | (simp [*]; done)), H', ⟨Nat.le_refl _⟩, by repeat (first | exact Drawn0.refl _ | apply Drawn0.step)⟩
  case round =>
    clear H'
    try clear c1
    try clear c2
    try clear p2
    obtain ⟨x5_1, rfl, HA, HK1, ⟨m1, rfl⟩⟩ := hrel
    cases gk with
    | zero => exact absurd HA.out (by simp [triremeref05_Has.l0])
    | succ k1 =>
      have H := HA.out
      clear HA
      simp only [triremeref05_Has.l0] at H
      by_cases c3 : x5_1 < (l1.length : Int)
      · rw [if_pos c3] at H
        have c3b0 : decide (x5_1 < (l1.length : Int)) = true := decide_eq_true c3
        clear c3
        by_cases c4 : 0 ≤ x5_1
        · rw [if_pos c4] at H
          have c4b0 : decide (0 ≤ x5_1) = true := decide_eq_true c4
          clear c4
          replace H := Option.bind_eq_some_iff.mp H
          obtain ⟨⟨t289, t290⟩, A50, H⟩ := H
          replace H : (if t290 = true then (if t289.toList = ((rd_T31 l1 x5_1).f1).toList then (triremeref05_Has.l0 k1 l0 l1 (wrap64 (x5_1 + 1))) else (some false)) else (some false)) = some r := H
          have A5 := Aside0.mk A50
          clear A50
          by_cases c6 : t290 = true
          · subst c6
            have H1 : (if t289.toList = ((rd_T31 l1 x5_1).f1).toList then (triremeref05_Has.l0 k1 l0 l1 (wrap64 (x5_1 + 1))) else (some false)) = some r := by rw [if_pos rfl] at H; exact H
            clear H
            have H := H1
            clear H1
            by_cases c7 : t289.toList = ((rd_T31 l1 x5_1).f1).toList
            · rw [if_pos c7] at H
              have c7b0 : (t289.toList == ((rd_T31 l1 x5_1).f1).toList) = true := beq_iff_eq.mpr c7
              have c7b1 : (t289.toList != ((rd_T31 l1 x5_1).f1).toList) = false := bne_eq_false_iff_eq.mpr c7
              clear c7
              have H' := Aside0.mk H
              clear H
              have p288 : 0 ≤ (x5_1 : Int) := of_decide_eq_true (by first | (with_reducible assumption) | assumption)
              have q288 : x5_1 < (l1.length : Int) := of_decide_eq_true (by first | (with_reducible assumption) | assumption)
              obtain ⟨ad288, e288, hx288_0, hx288_1⟩ := at_T31 HR1.out x5_1 p288 q288
              cases e288
              replace p288 := eq_true p288
              replace q288 := eq_true q288
              go_wp2_with (first | ((first | ((with_reducible refine gate_callee (f := 9) rfl ?_); refine goesL_ (some 21) rfl rfl Try.func9 (by kernel_rfl) rfl #[.slice A0 l0.length c0, .string ((rd_T31 l1 x5_1).f0)] rfl (by (try simp only [List.map_toArray, List.map_cons, List.map_nil]); first | done | rfl | (simp only [List.length_drop, List.length_take]; rfl)) ?_; (with_reducible refine (triremeref05_Get.calls k1 _ _ l0 ((rd_T31 l1 x5_1).f0) t289 true _ ?side1 ?side2 A5.out).mono ?_); (case side1 => repeat (first | exact HR0.out | (with_reducible refine Kd.C_alloc ?_ _) | (with_reducible refine Kd.C_drewN ?_ _) | (with_reducible refine Kd.C_drew ?_))); (case side2 => exact HC0.out); rintro e w' ⟨rfl, ⟨nd, rfl⟩⟩; refine ⟨_, rfl, ?_⟩) | (go_at_call 9; (with_reducible refine (triremeref05_Get.calls k1 _ _ l0 ((rd_T31 l1 x5_1).f0) t289 true _ ?side1 ?side2 A5.out).mono ?_); (case side1 => repeat (first | exact HR0.out | (with_reducible refine Kd.C_alloc ?_ _) | (with_reducible refine Kd.C_drewN ?_ _) | (with_reducible refine Kd.C_drew ?_))); (case side2 => exact HC0.out); rintro e w' ⟨rfl, ⟨nd, rfl⟩⟩)); have p291 : 0 ≤ (x5_1 : Int) := of_decide_eq_true (by first | (with_reducible assumption) | assumption); have q291 : x5_1 < (l1.length : Int) := of_decide_eq_true (by first | (with_reducible assumption) | assumption); obtain ⟨ad291, e291, hx291_0, hx291_1⟩ := at_T31 HR1.out x5_1 p291 q291; obtain rfl : ad288 = ad291 := (by injection e291); replace p291 := eq_true p291; replace q291 := eq_true q291))
              go_roundg k1
              case measure => have := HK1.out; omega
              case rel => exact ⟨(wrap64 (x5_1 + 1)), (by first | rfl | (simp; done) | (simp [*]; done)), H', ⟨by have := HK1.out; omega⟩, by repeat (first | exact Drawn0.refl _ | apply Drawn0.step)⟩
            · rw [if_neg c7] at H
              have c7b0 : (t289.toList == ((rd_T31 l1 x5_1).f1).toList) = false := beq_eq_false_iff_ne.mpr c7
              have c7b1 : (t289.toList != ((rd_T31 l1 x5_1).f1).toList) = true := bne_iff_ne.mpr c7
              obtain rfl := Option.some.inj H
              have p288 : 0 ≤ (x5_1 : Int) := of_decide_eq_true (by first | (with_reducible assumption) | assumption)
              have q288 : x5_1 < (l1.length : Int) := of_decide_eq_true (by first | (with_reducible assumption) | assumption)
              obtain ⟨ad288, e288, hx288_0, hx288_1⟩ := at_T31 HR1.out x5_1 p288 q288
              cases e288
              replace p288 := eq_true p288
              replace q288 := eq_true q288
              go_wp2_with (first | ((first | ((with_reducible refine gate_callee (f := 9) rfl ?_); refine goesL_ (some 21) rfl rfl Try.func9 (by kernel_rfl) rfl #[.slice A0 l0.length c0, .string ((rd_T31 l1 x5_1).f0)] rfl (by (try simp only [List.map_toArray, List.map_cons, List.map_nil]); first | done | rfl | (simp only [List.length_drop, List.length_take]; rfl)) ?_; (with_reducible refine (triremeref05_Get.calls k1 _ _ l0 ((rd_T31 l1 x5_1).f0) t289 true _ ?side1 ?side2 A5.out).mono ?_); (case side1 => repeat (first | exact HR0.out | (with_reducible refine Kd.C_alloc ?_ _) | (with_reducible refine Kd.C_drewN ?_ _) | (with_reducible refine Kd.C_drew ?_))); (case side2 => exact HC0.out); rintro e w' ⟨rfl, ⟨nd, rfl⟩⟩; refine ⟨_, rfl, ?_⟩) | (go_at_call 9; (with_reducible refine (triremeref05_Get.calls k1 _ _ l0 ((rd_T31 l1 x5_1).f0) t289 true _ ?side1 ?side2 A5.out).mono ?_); (case side1 => repeat (first | exact HR0.out | (with_reducible refine Kd.C_alloc ?_ _) | (with_reducible refine Kd.C_drewN ?_ _) | (with_reducible refine Kd.C_drew ?_))); (case side2 => exact HC0.out); rintro e w' ⟨rfl, ⟨nd, rfl⟩⟩)); have p291 : 0 ≤ (x5_1 : Int) := of_decide_eq_true (by first | (with_reducible assumption) | assumption); have q291 : x5_1 < (l1.length : Int) := of_decide_eq_true (by first | (with_reducible assumption) | assumption); obtain ⟨ad291, e291, hx291_0, hx291_1⟩ := at_T31 HR1.out x5_1 p291 q291; obtain rfl : ad288 = ad291 := (by injection e291); replace p291 := eq_true p291; replace q291 := eq_true q291))
              go_ret
              exact ⟨by first | rfl | (simp; done) | (simp [*]; done), by repeat (first | exact Drawn0.refl _ | apply Drawn0.step)⟩
          · replace c6 := Bool.eq_false_iff.mpr c6
            subst c6
            have H1 : (some false) = some r := by rw [if_neg (show ¬ (false = true) by decide)] at H; exact H
            clear H
            have H := H1
            clear H1
            obtain rfl := Option.some.inj H
            have p288 : 0 ≤ (x5_1 : Int) := of_decide_eq_true (by first | (with_reducible assumption) | assumption)
            have q288 : x5_1 < (l1.length : Int) := of_decide_eq_true (by first | (with_reducible assumption) | assumption)
            obtain ⟨ad288, e288, hx288_0, hx288_1⟩ := at_T31 HR1.out x5_1 p288 q288
            cases e288
            replace p288 := eq_true p288
            replace q288 := eq_true q288
            go_wp2_with (first | ((first | ((with_reducible refine gate_callee (f := 9) rfl ?_); refine goesL_ (some 21) rfl rfl Try.func9 (by kernel_rfl) rfl #[.slice A0 l0.length c0, .string ((rd_T31 l1 x5_1).f0)] rfl (by (try simp only [List.map_toArray, List.map_cons, List.map_nil]); first | done | rfl | (simp only [List.length_drop, List.length_take]; rfl)) ?_; (with_reducible refine (triremeref05_Get.calls k1 _ _ l0 ((rd_T31 l1 x5_1).f0) t289 false _ ?side1 ?side2 A5.out).mono ?_); (case side1 => repeat (first | exact HR0.out | (with_reducible refine Kd.C_alloc ?_ _) | (with_reducible refine Kd.C_drewN ?_ _) | (with_reducible refine Kd.C_drew ?_))); (case side2 => exact HC0.out); rintro e w' ⟨rfl, ⟨nd, rfl⟩⟩; refine ⟨_, rfl, ?_⟩) | (go_at_call 9; (with_reducible refine (triremeref05_Get.calls k1 _ _ l0 ((rd_T31 l1 x5_1).f0) t289 false _ ?side1 ?side2 A5.out).mono ?_); (case side1 => repeat (first | exact HR0.out | (with_reducible refine Kd.C_alloc ?_ _) | (with_reducible refine Kd.C_drewN ?_ _) | (with_reducible refine Kd.C_drew ?_))); (case side2 => exact HC0.out); rintro e w' ⟨rfl, ⟨nd, rfl⟩⟩))))
            go_ret
            exact ⟨by first | rfl | (simp; done) | (simp [*]; done), by repeat (first | exact Drawn0.refl _ | apply Drawn0.step)⟩
        · rw [if_neg c4] at H
          exact absurd H (by simp)
      · rw [if_neg c3] at H
        have c3b0 : decide (x5_1 < (l1.length : Int)) = false := decide_eq_false c3
        clear c3
        obtain rfl := Option.some.inj H
        go_wp2
        go_ret
        exact ⟨by first | rfl | (simp; done) | (simp [*]; done), by repeat (first | exact Drawn0.refl _ | apply Drawn0.step)⟩
end Go.Proofs.Ytcnaefnlnjfjkaa.H
end
section
namespace Go.Proofs.Ytcnaefnlnjfjkaa.H
open Go.RowKit Go.Proofs.YtcnaefnlnjfjkaaW.PrintWords Go.Proofs.YtcnaefnlnjfjkaaW.PrintLast Go.Proofs.YtcnaefnlnjfjkaaW.PrintMore
attribute [local go_sem] max2_int min2_int max_two min_two max_three min_three max_four min_four   -- for this text's walks alone
set_option linter.unusedVariables false
set_option linter.unusedSimpArgs false
def triremeref05_All.l0 : Nat → List (S31) → List (S37) → Int → Option (Bool)
  | 0, _, _, _ => none
  | k + 1, x0, x1, x5 => if x5 < (x1.length : Int) then (if 0 ≤ x5 then ((triremeref05_Meets.f k x0 ((rd_T37 x1 x5).f0) ((rd_T37 x1 x5).f1) ((rd_T37 x1 x5).f2)).bind fun t293 => (if t293 = true then (triremeref05_All.l0 k x0 x1 (wrap64 (x5 + 1))) else (some false))) else (none)) else (some true)
def triremeref05_All.f (k : Nat) (l0 : List (S31)) (l1 : List (S37)) : Option (Bool) := triremeref05_All.l0 k l0 l1 0
theorem triremeref05_All.mono_l : ∀ k, (∀ y0 y1 y2, LeO (triremeref05_All.l0 k y0 y1 y2) (triremeref05_All.l0 (k + 1) y0 y1 y2))
  | 0 => fun _ _ _ r h => by simp [triremeref05_All.l0] at h
  | k + 1 => by
    have ih0 := triremeref05_All.mono_l k
    · intro y0 y1 y2
      unfold triremeref05_All.l0
      repeat' first
      | (with_reducible exact ih0 _ _ _)
      | (with_reducible exact triremeref05_Meets.mono _ _ _ _ _)
      | (with_reducible exact LeO.refl _)
      | (with_reducible exact LeO.none _)
      | (with_reducible refine LeO.ite ?_ ?_)
      | (with_reducible refine LeO.bind ?_ (fun _ => ?_))
      | exact ih0 _ _ _
      | exact triremeref05_Meets.mono _ _ _ _ _
      | exact LeO.none _
      | refine LeO.ite ?_ ?_
      | refine LeO.bind ?_ (fun _ => ?_)
theorem triremeref05_All.mono : ∀ a0 a1 k, LeO (triremeref05_All.f k a0 a1) (triremeref05_All.f (k + 1) a0 a1) := by
  intro a0 a1 k
  have ih0 := triremeref05_All.mono_l k
  unfold triremeref05_All.f
  repeat' first
      | (with_reducible exact ih0 _ _ _)
      | (with_reducible exact triremeref05_Meets.mono _ _ _ _ _)
      | (with_reducible exact LeO.refl _)
      | (with_reducible exact LeO.none _)
      | (with_reducible refine LeO.ite ?_ ?_)
      | (with_reducible refine LeO.bind ?_ (fun _ => ?_))
      | exact ih0 _ _ _
      | exact triremeref05_Meets.mono _ _ _ _ _
      | exact LeO.none _
      | refine LeO.ite ?_ ?_
      | refine LeO.bind ?_ (fun _ => ?_)
set_option maxHeartbeats 8000000 in
set_option maxRecDepth 100000 in
theorem triremeref05_All.calls (k : Nat) (A0 : Option Addr) (c0 : Nat) (l0 : List (S31)) (A1 : Option Addr) (c1 : Nat) (l1 : List (S37)) (r : Bool) (w : World) (hr0 : Kd.C k31 w A0 l0.length l0) (hc0 : l0.length ≤ c0) (hr1 : Kd.C k37 w A1 l1.length l1) (hc1 : l1.length ≤ c1) (h : triremeref05_All.f k l0 l1 = some r) :
    Calls Try.prog 22 #[.slice A0 l0.length c0, .slice A1 l1.length c1] w fun e w' => e = .returned (.bool r) ∧ Below w.heap.size w w' := by
  have hu37 := Try.underlying37
  have HR0 := Aside0.mk hr0
  have HC0 := Aside0.mk hc0
  clear hr0 hc0
  have HR1 := Aside0.mk hr1
  have HC1 := Aside0.mk hc1
  clear hr1 hc1
  have HB := Aside0.mk (Below.refl w.heap.size w)
  have H : (triremeref05_All.l0 k l0 l1 0) = some r := h
  clear h
  have H' := Aside0.mk H
  clear H
  go_enter Try.func22, Try.ntmps22
  go_wp2
  go_loopg [5] k (fun kq v5 w' => ∃ (x5_1 : Int), v5 = .int .i64 x5_1 ∧ Aside0 (triremeref05_All.l0 kq l0 l1 x5_1 = some r) ∧ Aside0 (kq ≤ k) ∧ Aside0 (Below w.heap.size w w'))
  case atStart => exact ⟨(0), (by first | rfl | (simp; done) | (simp [*]; done)), H', ⟨Nat.le_refl _⟩, ⟨by repeat (first | (with_reducible first | exact HB.out | apply below_alloc | apply pw_below_drewN | apply below_drew1) | exact HB.out)⟩⟩
  case round =>
    clear H'
    try clear c1
    try clear c2
    try clear p2
    obtain ⟨x5_1, rfl, HA, HK1, HB⟩ := hrel
    cases gk with
    | zero => exact absurd HA.out (by simp [triremeref05_All.l0])
    | succ k1 =>
      have H := HA.out
      clear HA
      simp only [triremeref05_All.l0] at H
      by_cases c3 : x5_1 < (l1.length : Int)
      · rw [if_pos c3] at H
        have c3b0 : decide (x5_1 < (l1.length : Int)) = true := decide_eq_true c3
        clear c3
        by_cases c4 : 0 ≤ x5_1
        · rw [if_pos c4] at H
          have c4b0 : decide (0 ≤ x5_1) = true := decide_eq_true c4
          clear c4
          replace H := Option.bind_eq_some_iff.mp H
          obtain ⟨t293, A50, H⟩ := H
          replace H : (if t293 = true then (triremeref05_All.l0 k1 l0 l1 (wrap64 (x5_1 + 1))) else (some false)) = some r := H
          have A5 := Aside0.mk A50
          clear A50
          by_cases c6 : t293 = true
          · subst c6
            have H1 : (triremeref05_All.l0 k1 l0 l1 (wrap64 (x5_1 + 1))) = some r := by rw [if_pos rfl] at H; exact H
            clear H
            have H := H1
            clear H1
            have H' := Aside0.mk H
            clear H
            have p292 : 0 ≤ (x5_1 : Int) := of_decide_eq_true (by first | (with_reducible assumption) | assumption)
            have q292 : x5_1 < (l1.length : Int) := of_decide_eq_true (by first | (with_reducible assumption) | assumption)
            obtain ⟨ad292, A292_2, c292_2, e292, hx292_0, hx292_1, hx292_2, hl292_2, hi292_2⟩ := at_T37 HR1.out x5_1 p292 q292
            cases e292
            replace hx292_0 := (HB.out.cell (World.block_lt_of_cell? w _ hx292_0)).trans hx292_0
            replace hx292_1 := (HB.out.cell (World.block_lt_of_cell? w _ hx292_1)).trans hx292_1
            replace hx292_2 := (HB.out.cell (World.block_lt_of_cell? w _ hx292_2)).trans hx292_2
            have HR292_2 := Aside0.mk hi292_2
            have HC292_2 := Aside0.mk hl292_2
            clear hi292_2 hl292_2
            replace p292 := eq_true p292
            replace q292 := eq_true q292
            go_wp2_with (first | ((first | ((with_reducible refine gate_callee (f := 18) rfl ?_); refine goesL_ (some 17) rfl rfl Try.func18 (by kernel_rfl) rfl #[.slice A0 l0.length c0, .agg #[.string ((rd_T37 l1 x5_1).f0), .int .i64 ((rd_T37 l1 x5_1).f1), .slice A292_2 ((rd_T37 l1 x5_1).f2).length c292_2]] rfl (by (try simp only [List.map_toArray, List.map_cons, List.map_nil]); first | done | rfl | (simp only [List.length_drop, List.length_take]; rfl)) ?_; (with_reducible refine (triremeref05_Meets.calls k1 _ _ l0 ((rd_T37 l1 x5_1).f0) ((rd_T37 l1 x5_1).f1) _ _ ((rd_T37 l1 x5_1).f2) true _ ?side1 ?side2 ?side3 ?side4 A5.out).mono ?_); (case side1 => repeat (first | exact (Kd.C_below HR0.out HB.out) | (with_reducible refine Kd.C_alloc ?_ _) | (with_reducible refine Kd.C_drewN ?_ _) | (with_reducible refine Kd.C_drew ?_))); (case side2 => exact HC0.out); (case side3 => repeat (first | exact (Kd.C_below HR292_2.out HB.out) | (with_reducible refine Kd.C_alloc ?_ _) | (with_reducible refine Kd.C_drewN ?_ _) | (with_reducible refine Kd.C_drew ?_))); (case side4 => exact HC292_2.out); rintro e w7 ⟨rfl, hb⟩; refine ⟨_, rfl, ?_⟩) | (go_at_call 18; (with_reducible refine (triremeref05_Meets.calls k1 _ _ l0 ((rd_T37 l1 x5_1).f0) ((rd_T37 l1 x5_1).f1) _ _ ((rd_T37 l1 x5_1).f2) true _ ?side1 ?side2 ?side3 ?side4 A5.out).mono ?_); (case side1 => repeat (first | exact (Kd.C_below HR0.out HB.out) | (with_reducible refine Kd.C_alloc ?_ _) | (with_reducible refine Kd.C_drewN ?_ _) | (with_reducible refine Kd.C_drew ?_))); (case side2 => exact HC0.out); (case side3 => repeat (first | exact (Kd.C_below HR292_2.out HB.out) | (with_reducible refine Kd.C_alloc ?_ _) | (with_reducible refine Kd.C_drewN ?_ _) | (with_reducible refine Kd.C_drew ?_))); (case side4 => exact HC292_2.out); rintro e w7 ⟨rfl, hb⟩)); have n0_ := Aside0.mk (below_step (by repeat (first | (with_reducible first | exact HB.out | apply below_alloc | apply pw_below_drewN | apply below_drew1) | exact HB.out)) hb); clear HB; have HB := n0_; clear n0_; (try clear hb); (try clear hb2); (try clear hk); (try clear hi)))
            go_roundg k1
            case measure => have := HK1.out; omega
            case rel => exact ⟨(wrap64 (x5_1 + 1)), (by first | rfl | (simp; done) | (simp [*]; done)), H', ⟨by have := HK1.out; omega⟩, ⟨by repeat (first | (with_reducible first | exact HB.out | apply below_alloc | apply pw_below_drewN | apply below_drew1) | exact HB.out)⟩⟩
          · replace c6 := Bool.eq_false_iff.mpr c6
            subst c6
            have H1 : (some false) = some r := by rw [if_neg (show ¬ (false = true) by decide)] at H; exact H
            clear H
            have H := H1
            clear H1
            obtain rfl := Option.some.inj H
            have p292 : 0 ≤ (x5_1 : Int) := of_decide_eq_true (by first | (with_reducible assumption) | assumption)
            have q292 : x5_1 < (l1.length : Int) := of_decide_eq_true (by first | (with_reducible assumption) | assumption)
            obtain ⟨ad292, A292_2, c292_2, e292, hx292_0, hx292_1, hx292_2, hl292_2, hi292_2⟩ := at_T37 HR1.out x5_1 p292 q292
            cases e292
            replace hx292_0 := (HB.out.cell (World.block_lt_of_cell? w _ hx292_0)).trans hx292_0
            replace hx292_1 := (HB.out.cell (World.block_lt_of_cell? w _ hx292_1)).trans hx292_1
            replace hx292_2 := (HB.out.cell (World.block_lt_of_cell? w _ hx292_2)).trans hx292_2
            have HR292_2 := Aside0.mk hi292_2
            have HC292_2 := Aside0.mk hl292_2
            clear hi292_2 hl292_2
            replace p292 := eq_true p292
            replace q292 := eq_true q292
            go_wp2_with (first | ((first | ((with_reducible refine gate_callee (f := 18) rfl ?_); refine goesL_ (some 17) rfl rfl Try.func18 (by kernel_rfl) rfl #[.slice A0 l0.length c0, .agg #[.string ((rd_T37 l1 x5_1).f0), .int .i64 ((rd_T37 l1 x5_1).f1), .slice A292_2 ((rd_T37 l1 x5_1).f2).length c292_2]] rfl (by (try simp only [List.map_toArray, List.map_cons, List.map_nil]); first | done | rfl | (simp only [List.length_drop, List.length_take]; rfl)) ?_; (with_reducible refine (triremeref05_Meets.calls k1 _ _ l0 ((rd_T37 l1 x5_1).f0) ((rd_T37 l1 x5_1).f1) _ _ ((rd_T37 l1 x5_1).f2) false _ ?side1 ?side2 ?side3 ?side4 A5.out).mono ?_); (case side1 => repeat (first | exact (Kd.C_below HR0.out HB.out) | (with_reducible refine Kd.C_alloc ?_ _) | (with_reducible refine Kd.C_drewN ?_ _) | (with_reducible refine Kd.C_drew ?_))); (case side2 => exact HC0.out); (case side3 => repeat (first | exact (Kd.C_below HR292_2.out HB.out) | (with_reducible refine Kd.C_alloc ?_ _) | (with_reducible refine Kd.C_drewN ?_ _) | (with_reducible refine Kd.C_drew ?_))); (case side4 => exact HC292_2.out); rintro e w8 ⟨rfl, hb⟩; refine ⟨_, rfl, ?_⟩) | (go_at_call 18; (with_reducible refine (triremeref05_Meets.calls k1 _ _ l0 ((rd_T37 l1 x5_1).f0) ((rd_T37 l1 x5_1).f1) _ _ ((rd_T37 l1 x5_1).f2) false _ ?side1 ?side2 ?side3 ?side4 A5.out).mono ?_); (case side1 => repeat (first | exact (Kd.C_below HR0.out HB.out) | (with_reducible refine Kd.C_alloc ?_ _) | (with_reducible refine Kd.C_drewN ?_ _) | (with_reducible refine Kd.C_drew ?_))); (case side2 => exact HC0.out); (case side3 => repeat (first | exact (Kd.C_below HR292_2.out HB.out) | (with_reducible refine Kd.C_alloc ?_ _) | (with_reducible refine Kd.C_drewN ?_ _) | (with_reducible refine Kd.C_drew ?_))); (case side4 => exact HC292_2.out); rintro e w8 ⟨rfl, hb⟩)); have n0_ := Aside0.mk (below_step (by repeat (first | (with_reducible first | exact HB.out | apply below_alloc | apply pw_below_drewN | apply below_drew1) | exact HB.out)) hb); clear HB; have HB := n0_; clear n0_; (try clear hb); (try clear hb2); (try clear hk); (try clear hi)))
            go_ret
            exact ⟨by first | rfl | (simp [errW_none, errW_some] <;> rfl) | (simp [*, errW_none, errW_some] <;> rfl), by repeat (first | (with_reducible first | exact HB.out | apply below_alloc | apply pw_below_drewN | apply below_drew1) | exact HB.out)⟩
        · rw [if_neg c4] at H
          exact absurd H (by simp)
      · rw [if_neg c3] at H
        have c3b0 : decide (x5_1 < (l1.length : Int)) = false := decide_eq_false c3
        clear c3
        obtain rfl := Option.some.inj H
        go_wp2
        go_ret
        exact ⟨by first | rfl | (simp [errW_none, errW_some] <;> rfl) | (simp [*, errW_none, errW_some] <;> rfl), by repeat (first | (with_reducible first | exact HB.out | apply below_alloc | apply pw_below_drewN | apply below_drew1) | exact HB.out)⟩
end Go.Proofs.Ytcnaefnlnjfjkaa.H
end
