import Derived.Lib.OthersKept
import Derived.Maps.Own
import Derived.Maps.OwnOps
import Derived.Maps.OwnSet
import Derived.Test.YtcnaefnlnjfjkaaCLabelsSet0
import Derived.Test.YtcnaefnlnjfjkaaCLabelsSet1
import Derived.Test.YtcnaefnlnjfjkaaCLabelsSet2
section
namespace Go.Proofs.Ytcnaefnlnjfjkaa.H
open Go.RowKit Go.Proofs.YtcnaefnlnjfjkaaW.PrintWords Go.Proofs.YtcnaefnlnjfjkaaW.PrintLast Go.Proofs.YtcnaefnlnjfjkaaW.PrintMore
attribute [local go_sem] max2_int min2_int max_two min_two max_three min_three max_four min_four   -- for this text's walks alone
set_option linter.unusedVariables false
set_option linter.unusedSimpArgs false
def labels_Meets.j0 : Nat → ByteArray → Bool → ByteArray → Int → List ByteArray → Option (Bool)
  | 0, _, _, _, _, _ => none
  | k + 1, x5, x54, x173000, x173001, x173002 => if x54 = true then (some false) else ((labels_number.f k x5).bind fun bt177 => (if 0 < (x173002.length : Int) then ((labels_number.f k (rdOf ByteArray.empty x173002 0)).bind fun bt180 => (if x173001 = 6 then (if bt177.2 = true then (some (decide (bt180.1 > bt177.1))) else (some false)) else (if bt177.2 = true then (some (decide (bt177.1 > bt180.1))) else (some false)))) else (none)))
def labels_Meets.f (k : Nat) (l0 : List (S31)) (a1_0 : ByteArray) (a1_1 : Int) (l1_2 : List ByteArray) : Option (Bool) := (labels_Get.f k l0 a1_0).bind fun bt173 => (if a1_1 = 1 then (if bt173.2 = true then ((labels_among.f k l1_2 bt173.1).bind fun t175 => (some t175)) else (some false)) else (if a1_1 = 2 then (if bt173.2 = true then ((labels_among.f k l1_2 bt173.1).bind fun t176 => (some (!t176))) else (some true)) else (if a1_1 = 3 then (some bt173.2) else (if a1_1 = 4 then (some (!bt173.2)) else (if bt173.2 = true then (labels_Meets.j0 k bt173.1 ((l1_2.length : Int) != 1) a1_0 a1_1 l1_2) else (labels_Meets.j0 k bt173.1 true a1_0 a1_1 l1_2))))))
theorem labels_Meets.mono_l : ∀ k, (∀ y0 y1 y2 y3 y4, LeO (labels_Meets.j0 k y0 y1 y2 y3 y4) (labels_Meets.j0 (k + 1) y0 y1 y2 y3 y4))
  | 0 => fun _ _ _ _ _ r h => by simp [labels_Meets.j0] at h
  | k + 1 => by
    have ih0 := labels_Meets.mono_l k
    · intro y0 y1 y2 y3 y4
      unfold labels_Meets.j0
      repeat' first
      | (with_reducible exact ih0 _ _ _ _ _)
      | (with_reducible exact labels_Get.mono _ _ _)
      | (with_reducible exact labels_among.mono _ _ _)
      | (with_reducible exact labels_number.mono _ _)
      | (with_reducible exact LeO.refl _)
      | (with_reducible exact LeO.none _)
      | (with_reducible refine LeO.ite ?_ ?_)
      | (with_reducible refine LeO.bind ?_ (fun _ => ?_))
      | exact ih0 _ _ _ _ _
      | exact labels_Get.mono _ _ _
      | exact labels_among.mono _ _ _
      | exact labels_number.mono _ _
      | exact LeO.none _
      | refine LeO.ite ?_ ?_
      | refine LeO.bind ?_ (fun _ => ?_)
theorem labels_Meets.mono : ∀ a0 a1 a2 a3 k, LeO (labels_Meets.f k a0 a1 a2 a3) (labels_Meets.f (k + 1) a0 a1 a2 a3) := by
  intro a0 a1 a2 a3 k
  have ih0 := labels_Meets.mono_l k
  unfold labels_Meets.f
  repeat' first
      | (with_reducible exact ih0 _ _ _ _ _)
      | (with_reducible exact labels_Get.mono _ _ _)
      | (with_reducible exact labels_among.mono _ _ _)
      | (with_reducible exact labels_number.mono _ _)
      | (with_reducible exact LeO.refl _)
      | (with_reducible exact LeO.none _)
      | (with_reducible refine LeO.ite ?_ ?_)
      | (with_reducible refine LeO.bind ?_ (fun _ => ?_))
      | exact ih0 _ _ _ _ _
      | exact labels_Get.mono _ _ _
      | exact labels_among.mono _ _ _
      | exact labels_number.mono _ _
      | exact LeO.none _
      | refine LeO.ite ?_ ?_
      | refine LeO.bind ?_ (fun _ => ?_)
set_option maxHeartbeats 8000000 in
set_option maxRecDepth 100000 in
theorem labels_Meets.calls (k : Nat) (A0 : Option Addr) (c0 : Nat) (l0 : List (S31)) (a1_0 : ByteArray) (a1_1 : Int) (A1_2 : Option Addr) (c1_2 : Nat) (l1_2 : List ByteArray) (r : Bool) (w : World) (hr0 : Kd.C k31 w A0 l0.length l0) (hc0 : l0.length ≤ c0) (hr1_2 : Kd.C Kd.string w A1_2 l1_2.length l1_2) (hc1_2 : l1_2.length ≤ c1_2) (h : labels_Meets.f k l0 a1_0 a1_1 l1_2 = some r) :
    Calls Try.prog 17 #[.slice A0 l0.length c0, .agg #[.string a1_0, .int .i64 a1_1, .slice A1_2 l1_2.length c1_2]] w fun e w' => e = .returned (.bool r) ∧ Below w.heap.size w w' := by
  have hu37 := Try.underlying37
  have HR0 := Aside0.mk hr0
  have HC0 := Aside0.mk hc0
  clear hr0 hc0
  have HR1_2 := Aside0.mk hr1_2
  have HC1_2 := Aside0.mk hc1_2
  clear hr1_2 hc1_2
  have HB := Aside0.mk (Below.refl w.heap.size w)
  have H : ((labels_Get.f k l0 a1_0).bind fun bt173 => (if a1_1 = 1 then (if bt173.2 = true then ((labels_among.f k l1_2 bt173.1).bind fun t175 => (some t175)) else (some false)) else (if a1_1 = 2 then (if bt173.2 = true then ((labels_among.f k l1_2 bt173.1).bind fun t176 => (some (!t176))) else (some true)) else (if a1_1 = 3 then (some bt173.2) else (if a1_1 = 4 then (some (!bt173.2)) else (if bt173.2 = true then (labels_Meets.j0 k bt173.1 ((l1_2.length : Int) != 1) a1_0 a1_1 l1_2) else (labels_Meets.j0 k bt173.1 true a1_0 a1_1 l1_2))))))) = some r := h
  clear h
  replace H := Option.bind_eq_some_iff.mp H
  obtain ⟨⟨t173, t174⟩, A30, H⟩ := H
  replace H : (if a1_1 = 1 then (if t174 = true then ((labels_among.f k l1_2 t173).bind fun t175 => (some t175)) else (some false)) else (if a1_1 = 2 then (if t174 = true then ((labels_among.f k l1_2 t173).bind fun t176 => (some (!t176))) else (some true)) else (if a1_1 = 3 then (some t174) else (if a1_1 = 4 then (some (!t174)) else (if t174 = true then (labels_Meets.j0 k t173 ((l1_2.length : Int) != 1) a1_0 a1_1 l1_2) else (labels_Meets.j0 k t173 true a1_0 a1_1 l1_2)))))) = some r := H
  have A3 := Aside0.mk A30
  clear A30
  by_cases c4 : a1_1 = 1
  · rw [if_pos c4] at H
    have c4b0 : (a1_1 == 1) = true := beq_iff_eq.mpr c4
    have c4b1 : (a1_1 != 1) = false := bne_eq_false_iff_eq.mpr c4
    clear c4
    by_cases c5 : t174 = true
    · subst c5
      have H1 : ((labels_among.f k l1_2 t173).bind fun t175 => (some t175)) = some r := by rw [if_pos rfl] at H; exact H
      clear H
      have H := H1
      clear H1
      replace H := Option.bind_eq_some_iff.mp H
      obtain ⟨t175, A60, H⟩ := H
      replace H : (some t175) = some r := H
      have A6 := Aside0.mk A60
      clear A60
      obtain rfl := Option.some.inj H
      go_enter Try.func17, Try.ntmps17
      go_wp2_with (first | ((with_reducible refine gate_dst (N := 3) rfl ?_); (try (refine gate_guard (by rfl) ?_; dsimp only)); refine box_event ?hg (N := 3) ?hd (cs := #[.string a1_0, .int .i64 a1_1, .slice A1_2 l1_2.length c1_2]) (t := 37) ?hr ?_; (case hd => rfl); (case hg => rfl); (case hr => first | (go_simp; done) | (go_simp; rfl)); intro gb172 hg w7 hbox hb; have n0_ := Aside0.mk (below_step (by repeat (first | (with_reducible first | exact HB.out | apply below_alloc | apply pw_below_drewN | apply below_drew1) | exact HB.out)) hb); have n1_ := Aside0.mk (hbox); have n2_ := Aside0.mk ((by rw [hg]; exact (below_size (by repeat (first | (with_reducible first | exact HB.out | apply below_alloc | apply pw_below_drewN | apply below_drew1) | exact HB.out))) : w.heap.size ≤ gb172)); have n3_ := Aside0.mk ((by rw [hg]; exact (below_size (by repeat (first | (with_reducible first | exact HB.out | apply below_alloc | apply pw_below_drewN | apply below_drew1) | exact HB.out))) : w.heap.size ≤ gb172)); clear HB; have HB := n0_; have BK172 := n1_; have GW172 := n2_; have GE172 := n3_; clear n0_ n1_ n2_ n3_; clear hb hbox hg; have hcz8_0 : w7.cell? ⟨gb172, 0, none⟩ = some (.string a1_0) := (blk_cell BK172.out 0).trans rfl; have hcz8_1 : w7.cell? ⟨gb172, 1, none⟩ = some (.int .i64 a1_1) := (blk_cell BK172.out 1).trans rfl; have hcz8_2 : w7.cell? ⟨gb172, 2, none⟩ = some (.slice A1_2 l1_2.length c1_2) := (blk_cell BK172.out 2).trans rfl; have hfz8_0 := blk_frozen BK172.out 0; have hfz8_1 := blk_frozen BK172.out 1; have hfz8_2 := blk_frozen BK172.out 2) | ((first | ((with_reducible refine gate_callee (f := 8) rfl ?_); refine goesL_ (some 15) rfl rfl Try.func8 (by kernel_rfl) rfl #[.slice A0 l0.length c0, .string a1_0] rfl (by (try simp only [List.map_toArray, List.map_cons, List.map_nil]); first | done | rfl | (simp only [List.length_drop, List.length_take]; rfl)) ?_; (with_reducible refine (labels_Get.calls k _ _ l0 a1_0 t173 true _ ?side1 ?side2 A3.out).mono ?_); (case side1 => repeat (first | exact (Kd.C_below HR0.out HB.out) | (with_reducible refine Kd.C_alloc ?_ _) | (with_reducible refine Kd.C_drewN ?_ _) | (with_reducible refine Kd.C_drew ?_))); (case side2 => exact HC0.out); rintro e w9 ⟨rfl, hb⟩; refine ⟨_, rfl, ?_⟩) | (go_at_call 8; (with_reducible refine (labels_Get.calls k _ _ l0 a1_0 t173 true _ ?side1 ?side2 A3.out).mono ?_); (case side1 => repeat (first | exact (Kd.C_below HR0.out HB.out) | (with_reducible refine Kd.C_alloc ?_ _) | (with_reducible refine Kd.C_drewN ?_ _) | (with_reducible refine Kd.C_drew ?_))); (case side2 => exact HC0.out); rintro e w9 ⟨rfl, hb⟩)); have n0_ := Aside0.mk (blk_below (g := gb172) (o := .cells #[.string a1_0, .int .i64 a1_1, .slice A1_2 l1_2.length c1_2] 37 (0, 0)) (by (with_reducible repeat (first | refine blk_drewN ?_ _ | refine blk_drew ?_ | refine blk_alloc ?_ _)); exact BK172.out) hb); have n1_ := Aside0.mk (below_step (by repeat (first | (with_reducible first | exact HB.out | apply below_alloc | apply pw_below_drewN | apply below_drew1 | refine below_set ?_ GE172.out) | exact HB.out)) hb); clear BK172; clear HB; have BK172 := n0_; have HB := n1_; clear n0_ n1_; (try clear hb); (try clear hb2); (try clear hk); (try clear hi); have hcz10_0 : w9.cell? ⟨gb172, 0, none⟩ = some (.string a1_0) := (blk_cell BK172.out 0).trans rfl; have hcz10_1 : w9.cell? ⟨gb172, 1, none⟩ = some (.int .i64 a1_1) := (blk_cell BK172.out 1).trans rfl; have hcz10_2 : w9.cell? ⟨gb172, 2, none⟩ = some (.slice A1_2 l1_2.length c1_2) := (blk_cell BK172.out 2).trans rfl; have hfz10_0 := blk_frozen BK172.out 0; have hfz10_1 := blk_frozen BK172.out 1; have hfz10_2 := blk_frozen BK172.out 2) | (go_at_call 31; (with_reducible refine (labels_among.calls k _ _ l1_2 t173 t175 _ ?side1 ?side2 A6.out).mono ?_); (case side1 => repeat (first | exact (Kd.C_below HR1_2.out HB.out) | (with_reducible refine Kd.C_alloc ?_ _) | (with_reducible refine Kd.C_drewN ?_ _) | (with_reducible refine Kd.C_drew ?_))); (case side2 => exact HC1_2.out); rintro e w' ⟨rfl, ⟨nd, rfl⟩⟩))
      go_ret
      exact ⟨by first | rfl | (simp [errW_none, errW_some] <;> rfl) | (simp [*, errW_none, errW_some] <;> rfl), by repeat (first | (with_reducible first | exact HB.out | apply below_alloc | apply pw_below_drewN | apply below_drew1 | refine below_set ?_ GE172.out) | exact HB.out)⟩
    · replace c5 := Bool.eq_false_iff.mpr c5
      subst c5
      have H1 : (some false) = some r := by rw [if_neg (show ¬ (false = true) by decide)] at H; exact H
      clear H
      have H := H1
      clear H1
      obtain rfl := Option.some.inj H
      go_enter Try.func17, Try.ntmps17
      go_wp2_with (first | ((with_reducible refine gate_dst (N := 3) rfl ?_); (try (refine gate_guard (by rfl) ?_; dsimp only)); refine box_event ?hg (N := 3) ?hd (cs := #[.string a1_0, .int .i64 a1_1, .slice A1_2 l1_2.length c1_2]) (t := 37) ?hr ?_; (case hd => rfl); (case hg => rfl); (case hr => first | (go_simp; done) | (go_simp; rfl)); intro gb172 hg w11 hbox hb; have n0_ := Aside0.mk (below_step (by repeat (first | (with_reducible first | exact HB.out | apply below_alloc | apply pw_below_drewN | apply below_drew1) | exact HB.out)) hb); have n1_ := Aside0.mk (hbox); have n2_ := Aside0.mk ((by rw [hg]; exact (below_size (by repeat (first | (with_reducible first | exact HB.out | apply below_alloc | apply pw_below_drewN | apply below_drew1) | exact HB.out))) : w.heap.size ≤ gb172)); have n3_ := Aside0.mk ((by rw [hg]; exact (below_size (by repeat (first | (with_reducible first | exact HB.out | apply below_alloc | apply pw_below_drewN | apply below_drew1) | exact HB.out))) : w.heap.size ≤ gb172)); clear HB; have HB := n0_; have BK172 := n1_; have GW172 := n2_; have GE172 := n3_; clear n0_ n1_ n2_ n3_; clear hb hbox hg; have hcz12_0 : w11.cell? ⟨gb172, 0, none⟩ = some (.string a1_0) := (blk_cell BK172.out 0).trans rfl; have hcz12_1 : w11.cell? ⟨gb172, 1, none⟩ = some (.int .i64 a1_1) := (blk_cell BK172.out 1).trans rfl; have hcz12_2 : w11.cell? ⟨gb172, 2, none⟩ = some (.slice A1_2 l1_2.length c1_2) := (blk_cell BK172.out 2).trans rfl; have hfz12_0 := blk_frozen BK172.out 0; have hfz12_1 := blk_frozen BK172.out 1; have hfz12_2 := blk_frozen BK172.out 2) | ((first | ((with_reducible refine gate_callee (f := 8) rfl ?_); refine goesL_ (some 15) rfl rfl Try.func8 (by kernel_rfl) rfl #[.slice A0 l0.length c0, .string a1_0] rfl (by (try simp only [List.map_toArray, List.map_cons, List.map_nil]); first | done | rfl | (simp only [List.length_drop, List.length_take]; rfl)) ?_; (with_reducible refine (labels_Get.calls k _ _ l0 a1_0 t173 false _ ?side1 ?side2 A3.out).mono ?_); (case side1 => repeat (first | exact (Kd.C_below HR0.out HB.out) | (with_reducible refine Kd.C_alloc ?_ _) | (with_reducible refine Kd.C_drewN ?_ _) | (with_reducible refine Kd.C_drew ?_))); (case side2 => exact HC0.out); rintro e w13 ⟨rfl, hb⟩; refine ⟨_, rfl, ?_⟩) | (go_at_call 8; (with_reducible refine (labels_Get.calls k _ _ l0 a1_0 t173 false _ ?side1 ?side2 A3.out).mono ?_); (case side1 => repeat (first | exact (Kd.C_below HR0.out HB.out) | (with_reducible refine Kd.C_alloc ?_ _) | (with_reducible refine Kd.C_drewN ?_ _) | (with_reducible refine Kd.C_drew ?_))); (case side2 => exact HC0.out); rintro e w13 ⟨rfl, hb⟩)); have n0_ := Aside0.mk (blk_below (g := gb172) (o := .cells #[.string a1_0, .int .i64 a1_1, .slice A1_2 l1_2.length c1_2] 37 (0, 0)) (by (with_reducible repeat (first | refine blk_drewN ?_ _ | refine blk_drew ?_ | refine blk_alloc ?_ _)); exact BK172.out) hb); have n1_ := Aside0.mk (below_step (by repeat (first | (with_reducible first | exact HB.out | apply below_alloc | apply pw_below_drewN | apply below_drew1 | refine below_set ?_ GE172.out) | exact HB.out)) hb); clear BK172; clear HB; have BK172 := n0_; have HB := n1_; clear n0_ n1_; (try clear hb); (try clear hb2); (try clear hk); (try clear hi); have hcz14_0 : w13.cell? ⟨gb172, 0, none⟩ = some (.string a1_0) := (blk_cell BK172.out 0).trans rfl; have hcz14_1 : w13.cell? ⟨gb172, 1, none⟩ = some (.int .i64 a1_1) := (blk_cell BK172.out 1).trans rfl; have hcz14_2 : w13.cell? ⟨gb172, 2, none⟩ = some (.slice A1_2 l1_2.length c1_2) := (blk_cell BK172.out 2).trans rfl; have hfz14_0 := blk_frozen BK172.out 0; have hfz14_1 := blk_frozen BK172.out 1; have hfz14_2 := blk_frozen BK172.out 2))
      go_ret
      exact ⟨by first | rfl | (simp [errW_none, errW_some] <;> rfl) | (simp [*, errW_none, errW_some] <;> rfl), by repeat (first | (with_reducible first | exact HB.out | apply below_alloc | apply pw_below_drewN | apply below_drew1 | refine below_set ?_ GE172.out) | exact HB.out)⟩
  · rw [if_neg c4] at H
    have c4b0 : (a1_1 == 1) = false := beq_eq_false_iff_ne.mpr c4
    have c4b1 : (a1_1 != 1) = true := bne_iff_ne.mpr c4
    by_cases c15 : a1_1 = 2
    · rw [if_pos c15] at H
      have c15b0 : (a1_1 == 2) = true := beq_iff_eq.mpr c15
      have c15b1 : (a1_1 != 2) = false := bne_eq_false_iff_eq.mpr c15
      clear c15
      by_cases c16 : t174 = true
      · subst c16
        have H1 : ((labels_among.f k l1_2 t173).bind fun t176 => (some (!t176))) = some r := by rw [if_pos rfl] at H; exact H
        clear H
        have H := H1
        clear H1
        replace H := Option.bind_eq_some_iff.mp H
        obtain ⟨t176, A170, H⟩ := H
        replace H : (some (!t176)) = some r := H
        have A17 := Aside0.mk A170
        clear A170
        obtain rfl := Option.some.inj H
        go_enter Try.func17, Try.ntmps17
        go_wp2_with (first | ((with_reducible refine gate_dst (N := 3) rfl ?_); (try (refine gate_guard (by rfl) ?_; dsimp only)); refine box_event ?hg (N := 3) ?hd (cs := #[.string a1_0, .int .i64 a1_1, .slice A1_2 l1_2.length c1_2]) (t := 37) ?hr ?_; (case hd => rfl); (case hg => rfl); (case hr => first | (go_simp; done) | (go_simp; rfl)); intro gb172 hg w18 hbox hb; have n0_ := Aside0.mk (below_step (by repeat (first | (with_reducible first | exact HB.out | apply below_alloc | apply pw_below_drewN | apply below_drew1) | exact HB.out)) hb); have n1_ := Aside0.mk (hbox); have n2_ := Aside0.mk ((by rw [hg]; exact (below_size (by repeat (first | (with_reducible first | exact HB.out | apply below_alloc | apply pw_below_drewN | apply below_drew1) | exact HB.out))) : w.heap.size ≤ gb172)); have n3_ := Aside0.mk ((by rw [hg]; exact (below_size (by repeat (first | (with_reducible first | exact HB.out | apply below_alloc | apply pw_below_drewN | apply below_drew1) | exact HB.out))) : w.heap.size ≤ gb172)); clear HB; have HB := n0_; have BK172 := n1_; have GW172 := n2_; have GE172 := n3_; clear n0_ n1_ n2_ n3_; clear hb hbox hg; have hcz19_0 : w18.cell? ⟨gb172, 0, none⟩ = some (.string a1_0) := (blk_cell BK172.out 0).trans rfl; have hcz19_1 : w18.cell? ⟨gb172, 1, none⟩ = some (.int .i64 a1_1) := (blk_cell BK172.out 1).trans rfl; have hcz19_2 : w18.cell? ⟨gb172, 2, none⟩ = some (.slice A1_2 l1_2.length c1_2) := (blk_cell BK172.out 2).trans rfl; have hfz19_0 := blk_frozen BK172.out 0; have hfz19_1 := blk_frozen BK172.out 1; have hfz19_2 := blk_frozen BK172.out 2) | ((first | ((with_reducible refine gate_callee (f := 8) rfl ?_); refine goesL_ (some 15) rfl rfl Try.func8 (by kernel_rfl) rfl #[.slice A0 l0.length c0, .string a1_0] rfl (by (try simp only [List.map_toArray, List.map_cons, List.map_nil]); first | done | rfl | (simp only [List.length_drop, List.length_take]; rfl)) ?_; (with_reducible refine (labels_Get.calls k _ _ l0 a1_0 t173 true _ ?side1 ?side2 A3.out).mono ?_); (case side1 => repeat (first | exact (Kd.C_below HR0.out HB.out) | (with_reducible refine Kd.C_alloc ?_ _) | (with_reducible refine Kd.C_drewN ?_ _) | (with_reducible refine Kd.C_drew ?_))); (case side2 => exact HC0.out); rintro e w20 ⟨rfl, hb⟩; refine ⟨_, rfl, ?_⟩) | (go_at_call 8; (with_reducible refine (labels_Get.calls k _ _ l0 a1_0 t173 true _ ?side1 ?side2 A3.out).mono ?_); (case side1 => repeat (first | exact (Kd.C_below HR0.out HB.out) | (with_reducible refine Kd.C_alloc ?_ _) | (with_reducible refine Kd.C_drewN ?_ _) | (with_reducible refine Kd.C_drew ?_))); (case side2 => exact HC0.out); rintro e w20 ⟨rfl, hb⟩)); have n0_ := Aside0.mk (blk_below (g := gb172) (o := .cells #[.string a1_0, .int .i64 a1_1, .slice A1_2 l1_2.length c1_2] 37 (0, 0)) (by (with_reducible repeat (first | refine blk_drewN ?_ _ | refine blk_drew ?_ | refine blk_alloc ?_ _)); exact BK172.out) hb); have n1_ := Aside0.mk (below_step (by repeat (first | (with_reducible first | exact HB.out | apply below_alloc | apply pw_below_drewN | apply below_drew1 | refine below_set ?_ GE172.out) | exact HB.out)) hb); clear BK172; clear HB; have BK172 := n0_; have HB := n1_; clear n0_ n1_; (try clear hb); (try clear hb2); (try clear hk); (try clear hi); have hcz21_0 : w20.cell? ⟨gb172, 0, none⟩ = some (.string a1_0) := (blk_cell BK172.out 0).trans rfl; have hcz21_1 : w20.cell? ⟨gb172, 1, none⟩ = some (.int .i64 a1_1) := (blk_cell BK172.out 1).trans rfl; have hcz21_2 : w20.cell? ⟨gb172, 2, none⟩ = some (.slice A1_2 l1_2.length c1_2) := (blk_cell BK172.out 2).trans rfl; have hfz21_0 := blk_frozen BK172.out 0; have hfz21_1 := blk_frozen BK172.out 1; have hfz21_2 := blk_frozen BK172.out 2) | (go_at_call 31; (with_reducible refine (labels_among.calls k _ _ l1_2 t173 t176 _ ?side1 ?side2 A17.out).mono ?_); (case side1 => repeat (first | exact (Kd.C_below HR1_2.out HB.out) | (with_reducible refine Kd.C_alloc ?_ _) | (with_reducible refine Kd.C_drewN ?_ _) | (with_reducible refine Kd.C_drew ?_))); (case side2 => exact HC1_2.out); rintro e w' ⟨rfl, ⟨nd, rfl⟩⟩))
        go_ret
        exact ⟨by first | rfl | (simp [errW_none, errW_some] <;> rfl) | (simp [*, errW_none, errW_some] <;> rfl), by repeat (first | (with_reducible first | exact HB.out | apply below_alloc | apply pw_below_drewN | apply below_drew1 | refine below_set ?_ GE172.out) | exact HB.out)⟩
      · replace c16 := Bool.eq_false_iff.mpr c16
        subst c16
        have H1 : (some true) = some r := by rw [if_neg (show ¬ (false = true) by decide)] at H; exact H
        clear H
        have H := H1
        clear H1
        obtain rfl := Option.some.inj H
        go_enter Try.func17, Try.ntmps17
        go_wp2_with (first | ((with_reducible refine gate_dst (N := 3) rfl ?_); (try (refine gate_guard (by rfl) ?_; dsimp only)); refine box_event ?hg (N := 3) ?hd (cs := #[.string a1_0, .int .i64 a1_1, .slice A1_2 l1_2.length c1_2]) (t := 37) ?hr ?_; (case hd => rfl); (case hg => rfl); (case hr => first | (go_simp; done) | (go_simp; rfl)); intro gb172 hg w22 hbox hb; have n0_ := Aside0.mk (below_step (by repeat (first | (with_reducible first | exact HB.out | apply below_alloc | apply pw_below_drewN | apply below_drew1) | exact HB.out)) hb); have n1_ := Aside0.mk (hbox); have n2_ := Aside0.mk ((by rw [hg]; exact (below_size (by repeat (first | (with_reducible first | exact HB.out | apply below_alloc | apply pw_below_drewN | apply below_drew1) | exact HB.out))) : w.heap.size ≤ gb172)); have n3_ := Aside0.mk ((by rw [hg]; exact (below_size (by repeat (first | (with_reducible first | exact HB.out | apply below_alloc | apply pw_below_drewN | apply below_drew1) | exact HB.out))) : w.heap.size ≤ gb172)); clear HB; have HB := n0_; have BK172 := n1_; have GW172 := n2_; have GE172 := n3_; clear n0_ n1_ n2_ n3_; clear hb hbox hg; have hcz23_0 : w22.cell? ⟨gb172, 0, none⟩ = some (.string a1_0) := (blk_cell BK172.out 0).trans rfl; have hcz23_1 : w22.cell? ⟨gb172, 1, none⟩ = some (.int .i64 a1_1) := (blk_cell BK172.out 1).trans rfl; have hcz23_2 : w22.cell? ⟨gb172, 2, none⟩ = some (.slice A1_2 l1_2.length c1_2) := (blk_cell BK172.out 2).trans rfl; have hfz23_0 := blk_frozen BK172.out 0; have hfz23_1 := blk_frozen BK172.out 1; have hfz23_2 := blk_frozen BK172.out 2) | ((first | ((with_reducible refine gate_callee (f := 8) rfl ?_); refine goesL_ (some 15) rfl rfl Try.func8 (by kernel_rfl) rfl #[.slice A0 l0.length c0, .string a1_0] rfl (by (try simp only [List.map_toArray, List.map_cons, List.map_nil]); first | done | rfl | (simp only [List.length_drop, List.length_take]; rfl)) ?_; (with_reducible refine (labels_Get.calls k _ _ l0 a1_0 t173 false _ ?side1 ?side2 A3.out).mono ?_); (case side1 => repeat (first | exact (Kd.C_below HR0.out HB.out) | (with_reducible refine Kd.C_alloc ?_ _) | (with_reducible refine Kd.C_drewN ?_ _) | (with_reducible refine Kd.C_drew ?_))); (case side2 => exact HC0.out); rintro e w24 ⟨rfl, hb⟩; refine ⟨_, rfl, ?_⟩) | (go_at_call 8; (with_reducible refine (labels_Get.calls k _ _ l0 a1_0 t173 false _ ?side1 ?side2 A3.out).mono ?_); (case side1 => repeat (first | exact (Kd.C_below HR0.out HB.out) | (with_reducible refine Kd.C_alloc ?_ _) | (with_reducible refine Kd.C_drewN ?_ _) | (with_reducible refine Kd.C_drew ?_))); (case side2 => exact HC0.out); rintro e w24 ⟨rfl, hb⟩)); have n0_ := Aside0.mk (blk_below (g := gb172) (o := .cells #[.string a1_0, .int .i64 a1_1, .slice A1_2 l1_2.length c1_2] 37 (0, 0)) (by (with_reducible repeat (first | refine blk_drewN ?_ _ | refine blk_drew ?_ | refine blk_alloc ?_ _)); exact BK172.out) hb); have n1_ := Aside0.mk (below_step (by repeat (first | (with_reducible first | exact HB.out | apply below_alloc | apply pw_below_drewN | apply below_drew1 | refine below_set ?_ GE172.out) | exact HB.out)) hb); clear BK172; clear HB; have BK172 := n0_; have HB := n1_; clear n0_ n1_; (try clear hb); (try clear hb2); (try clear hk); (try clear hi); have hcz25_0 : w24.cell? ⟨gb172, 0, none⟩ = some (.string a1_0) := (blk_cell BK172.out 0).trans rfl; have hcz25_1 : w24.cell? ⟨gb172, 1, none⟩ = some (.int .i64 a1_1) := (blk_cell BK172.out 1).trans rfl; have hcz25_2 : w24.cell? ⟨gb172, 2, none⟩ = some (.slice A1_2 l1_2.length c1_2) := (blk_cell BK172.out 2).trans rfl; have hfz25_0 := blk_frozen BK172.out 0; have hfz25_1 := blk_frozen BK172.out 1; have hfz25_2 := blk_frozen BK172.out 2))
        go_ret
        exact ⟨by first | rfl | (simp [errW_none, errW_some] <;> rfl) | (simp [*, errW_none, errW_some] <;> rfl), by repeat (first | (with_reducible first | exact HB.out | apply below_alloc | apply pw_below_drewN | apply below_drew1 | refine below_set ?_ GE172.out) | exact HB.out)⟩
    · rw [if_neg c15] at H
      have c15b0 : (a1_1 == 2) = false := beq_eq_false_iff_ne.mpr c15
      have c15b1 : (a1_1 != 2) = true := bne_iff_ne.mpr c15
      by_cases c26 : a1_1 = 3
      · rw [if_pos c26] at H
        have c26b0 : (a1_1 == 3) = true := beq_iff_eq.mpr c26
        have c26b1 : (a1_1 != 3) = false := bne_eq_false_iff_eq.mpr c26
        clear c26
        obtain rfl := Option.some.inj H
        go_enter Try.func17, Try.ntmps17
        go_wp2_with (first | ((with_reducible refine gate_dst (N := 3) rfl ?_); (try (refine gate_guard (by rfl) ?_; dsimp only)); refine box_event ?hg (N := 3) ?hd (cs := #[.string a1_0, .int .i64 a1_1, .slice A1_2 l1_2.length c1_2]) (t := 37) ?hr ?_; (case hd => rfl); (case hg => rfl); (case hr => first | (go_simp; done) | (go_simp; rfl)); intro gb172 hg w27 hbox hb; have n0_ := Aside0.mk (below_step (by repeat (first | (with_reducible first | exact HB.out | apply below_alloc | apply pw_below_drewN | apply below_drew1) | exact HB.out)) hb); have n1_ := Aside0.mk (hbox); have n2_ := Aside0.mk ((by rw [hg]; exact (below_size (by repeat (first | (with_reducible first | exact HB.out | apply below_alloc | apply pw_below_drewN | apply below_drew1) | exact HB.out))) : w.heap.size ≤ gb172)); have n3_ := Aside0.mk ((by rw [hg]; exact (below_size (by repeat (first | (with_reducible first | exact HB.out | apply below_alloc | apply pw_below_drewN | apply below_drew1) | exact HB.out))) : w.heap.size ≤ gb172)); clear HB; have HB := n0_; have BK172 := n1_; have GW172 := n2_; have GE172 := n3_; clear n0_ n1_ n2_ n3_; clear hb hbox hg; have hcz28_0 : w27.cell? ⟨gb172, 0, none⟩ = some (.string a1_0) := (blk_cell BK172.out 0).trans rfl; have hcz28_1 : w27.cell? ⟨gb172, 1, none⟩ = some (.int .i64 a1_1) := (blk_cell BK172.out 1).trans rfl; have hcz28_2 : w27.cell? ⟨gb172, 2, none⟩ = some (.slice A1_2 l1_2.length c1_2) := (blk_cell BK172.out 2).trans rfl; have hfz28_0 := blk_frozen BK172.out 0; have hfz28_1 := blk_frozen BK172.out 1; have hfz28_2 := blk_frozen BK172.out 2) | ((first | ((with_reducible refine gate_callee (f := 8) rfl ?_); refine goesL_ (some 15) rfl rfl Try.func8 (by kernel_rfl) rfl #[.slice A0 l0.length c0, .string a1_0] rfl (by (try simp only [List.map_toArray, List.map_cons, List.map_nil]); first | done | rfl | (simp only [List.length_drop, List.length_take]; rfl)) ?_; (with_reducible refine (labels_Get.calls k _ _ l0 a1_0 t173 t174 _ ?side1 ?side2 A3.out).mono ?_); (case side1 => repeat (first | exact (Kd.C_below HR0.out HB.out) | (with_reducible refine Kd.C_alloc ?_ _) | (with_reducible refine Kd.C_drewN ?_ _) | (with_reducible refine Kd.C_drew ?_))); (case side2 => exact HC0.out); rintro e w29 ⟨rfl, hb⟩; refine ⟨_, rfl, ?_⟩) | (go_at_call 8; (with_reducible refine (labels_Get.calls k _ _ l0 a1_0 t173 t174 _ ?side1 ?side2 A3.out).mono ?_); (case side1 => repeat (first | exact (Kd.C_below HR0.out HB.out) | (with_reducible refine Kd.C_alloc ?_ _) | (with_reducible refine Kd.C_drewN ?_ _) | (with_reducible refine Kd.C_drew ?_))); (case side2 => exact HC0.out); rintro e w29 ⟨rfl, hb⟩)); have n0_ := Aside0.mk (blk_below (g := gb172) (o := .cells #[.string a1_0, .int .i64 a1_1, .slice A1_2 l1_2.length c1_2] 37 (0, 0)) (by (with_reducible repeat (first | refine blk_drewN ?_ _ | refine blk_drew ?_ | refine blk_alloc ?_ _)); exact BK172.out) hb); have n1_ := Aside0.mk (below_step (by repeat (first | (with_reducible first | exact HB.out | apply below_alloc | apply pw_below_drewN | apply below_drew1 | refine below_set ?_ GE172.out) | exact HB.out)) hb); clear BK172; clear HB; have BK172 := n0_; have HB := n1_; clear n0_ n1_; (try clear hb); (try clear hb2); (try clear hk); (try clear hi); have hcz30_0 : w29.cell? ⟨gb172, 0, none⟩ = some (.string a1_0) := (blk_cell BK172.out 0).trans rfl; have hcz30_1 : w29.cell? ⟨gb172, 1, none⟩ = some (.int .i64 a1_1) := (blk_cell BK172.out 1).trans rfl; have hcz30_2 : w29.cell? ⟨gb172, 2, none⟩ = some (.slice A1_2 l1_2.length c1_2) := (blk_cell BK172.out 2).trans rfl; have hfz30_0 := blk_frozen BK172.out 0; have hfz30_1 := blk_frozen BK172.out 1; have hfz30_2 := blk_frozen BK172.out 2))
        go_ret
        exact ⟨by first | rfl | (simp [errW_none, errW_some] <;> rfl) | (simp [*, errW_none, errW_some] <;> rfl), by repeat (first | (with_reducible first | exact HB.out | apply below_alloc | apply pw_below_drewN | apply below_drew1 | refine below_set ?_ GE172.out) | exact HB.out)⟩
      · rw [if_neg c26] at H
        have c26b0 : (a1_1 == 3) = false := beq_eq_false_iff_ne.mpr c26
        have c26b1 : (a1_1 != 3) = true := bne_iff_ne.mpr c26
        by_cases c31 : a1_1 = 4
        · rw [if_pos c31] at H
          have c31b0 : (a1_1 == 4) = true := beq_iff_eq.mpr c31
          have c31b1 : (a1_1 != 4) = false := bne_eq_false_iff_eq.mpr c31
          clear c31
          obtain rfl := Option.some.inj H
          go_enter Try.func17, Try.ntmps17
          go_wp2_with (first | ((with_reducible refine gate_dst (N := 3) rfl ?_); (try (refine gate_guard (by rfl) ?_; dsimp only)); refine box_event ?hg (N := 3) ?hd (cs := #[.string a1_0, .int .i64 a1_1, .slice A1_2 l1_2.length c1_2]) (t := 37) ?hr ?_; (case hd => rfl); (case hg => rfl); (case hr => first | (go_simp; done) | (go_simp; rfl)); intro gb172 hg w32 hbox hb; have n0_ := Aside0.mk (below_step (by repeat (first | (with_reducible first | exact HB.out | apply below_alloc | apply pw_below_drewN | apply below_drew1) | exact HB.out)) hb); have n1_ := Aside0.mk (hbox); have n2_ := Aside0.mk ((by rw [hg]; exact (below_size (by repeat (first | (with_reducible first | exact HB.out | apply below_alloc | apply pw_below_drewN | apply below_drew1) | exact HB.out))) : w.heap.size ≤ gb172)); have n3_ := Aside0.mk ((by rw [hg]; exact (below_size (by repeat (first | (with_reducible first | exact HB.out | apply below_alloc | apply pw_below_drewN | apply below_drew1) | exact HB.out))) : w.heap.size ≤ gb172)); clear HB; have HB := n0_; have BK172 := n1_; have GW172 := n2_; have GE172 := n3_; clear n0_ n1_ n2_ n3_; clear hb hbox hg; have hcz33_0 : w32.cell? ⟨gb172, 0, none⟩ = some (.string a1_0) := (blk_cell BK172.out 0).trans rfl; have hcz33_1 : w32.cell? ⟨gb172, 1, none⟩ = some (.int .i64 a1_1) := (blk_cell BK172.out 1).trans rfl; have hcz33_2 : w32.cell? ⟨gb172, 2, none⟩ = some (.slice A1_2 l1_2.length c1_2) := (blk_cell BK172.out 2).trans rfl; have hfz33_0 := blk_frozen BK172.out 0; have hfz33_1 := blk_frozen BK172.out 1; have hfz33_2 := blk_frozen BK172.out 2) | ((first | ((with_reducible refine gate_callee (f := 8) rfl ?_); refine goesL_ (some 15) rfl rfl Try.func8 (by kernel_rfl) rfl #[.slice A0 l0.length c0, .string a1_0] rfl (by (try simp only [List.map_toArray, List.map_cons, List.map_nil]); first | done | rfl | (simp only [List.length_drop, List.length_take]; rfl)) ?_; (with_reducible refine (labels_Get.calls k _ _ l0 a1_0 t173 t174 _ ?side1 ?side2 A3.out).mono ?_); (case side1 => repeat (first | exact (Kd.C_below HR0.out HB.out) | (with_reducible refine Kd.C_alloc ?_ _) | (with_reducible refine Kd.C_drewN ?_ _) | (with_reducible refine Kd.C_drew ?_))); (case side2 => exact HC0.out); rintro e w34 ⟨rfl, hb⟩; refine ⟨_, rfl, ?_⟩) | (go_at_call 8; (with_reducible refine (labels_Get.calls k _ _ l0 a1_0 t173 t174 _ ?side1 ?side2 A3.out).mono ?_); (case side1 => repeat (first | exact (Kd.C_below HR0.out HB.out) | (with_reducible refine Kd.C_alloc ?_ _) | (with_reducible refine Kd.C_drewN ?_ _) | (with_reducible refine Kd.C_drew ?_))); (case side2 => exact HC0.out); rintro e w34 ⟨rfl, hb⟩)); have n0_ := Aside0.mk (blk_below (g := gb172) (o := .cells #[.string a1_0, .int .i64 a1_1, .slice A1_2 l1_2.length c1_2] 37 (0, 0)) (by (with_reducible repeat (first | refine blk_drewN ?_ _ | refine blk_drew ?_ | refine blk_alloc ?_ _)); exact BK172.out) hb); have n1_ := Aside0.mk (below_step (by repeat (first | (with_reducible first | exact HB.out | apply below_alloc | apply pw_below_drewN | apply below_drew1 | refine below_set ?_ GE172.out) | exact HB.out)) hb); clear BK172; clear HB; have BK172 := n0_; have HB := n1_; clear n0_ n1_; (try clear hb); (try clear hb2); (try clear hk); (try clear hi); have hcz35_0 : w34.cell? ⟨gb172, 0, none⟩ = some (.string a1_0) := (blk_cell BK172.out 0).trans rfl; have hcz35_1 : w34.cell? ⟨gb172, 1, none⟩ = some (.int .i64 a1_1) := (blk_cell BK172.out 1).trans rfl; have hcz35_2 : w34.cell? ⟨gb172, 2, none⟩ = some (.slice A1_2 l1_2.length c1_2) := (blk_cell BK172.out 2).trans rfl; have hfz35_0 := blk_frozen BK172.out 0; have hfz35_1 := blk_frozen BK172.out 1; have hfz35_2 := blk_frozen BK172.out 2))
          go_ret
          exact ⟨by first | rfl | (simp [errW_none, errW_some] <;> rfl) | (simp [*, errW_none, errW_some] <;> rfl), by repeat (first | (with_reducible first | exact HB.out | apply below_alloc | apply pw_below_drewN | apply below_drew1 | refine below_set ?_ GE172.out) | exact HB.out)⟩
        · rw [if_neg c31] at H
          have c31b0 : (a1_1 == 4) = false := beq_eq_false_iff_ne.mpr c31
          have c31b1 : (a1_1 != 4) = true := bne_iff_ne.mpr c31
          have HC36 := Aside0.mk H
          clear H
          go_enter Try.func17, Try.ntmps17
          go_upto_region 11 with (first | ((with_reducible refine gate_dst (N := 3) rfl ?_); (try (refine gate_guard (by rfl) ?_; dsimp only)); refine box_event ?hg (N := 3) ?hd (cs := #[.string a1_0, .int .i64 a1_1, .slice A1_2 l1_2.length c1_2]) (t := 37) ?hr ?_; (case hd => rfl); (case hg => rfl); (case hr => first | (go_simp; done) | (go_simp; rfl)); intro gb172 hg w37 hbox hb; have n0_ := Aside0.mk (below_step (by repeat (first | (with_reducible first | exact HB.out | apply below_alloc | apply pw_below_drewN | apply below_drew1) | exact HB.out)) hb); have n1_ := Aside0.mk (hbox); have n2_ := Aside0.mk ((by rw [hg]; exact (below_size (by repeat (first | (with_reducible first | exact HB.out | apply below_alloc | apply pw_below_drewN | apply below_drew1) | exact HB.out))) : w.heap.size ≤ gb172)); have n3_ := Aside0.mk ((by rw [hg]; exact (below_size (by repeat (first | (with_reducible first | exact HB.out | apply below_alloc | apply pw_below_drewN | apply below_drew1) | exact HB.out))) : w.heap.size ≤ gb172)); clear HB; have HB := n0_; have BK172 := n1_; have GW172 := n2_; have GE172 := n3_; clear n0_ n1_ n2_ n3_; clear hb hbox hg; have hcz38_0 : w37.cell? ⟨gb172, 0, none⟩ = some (.string a1_0) := (blk_cell BK172.out 0).trans rfl; have hcz38_1 : w37.cell? ⟨gb172, 1, none⟩ = some (.int .i64 a1_1) := (blk_cell BK172.out 1).trans rfl; have hcz38_2 : w37.cell? ⟨gb172, 2, none⟩ = some (.slice A1_2 l1_2.length c1_2) := (blk_cell BK172.out 2).trans rfl; have hfz38_0 := blk_frozen BK172.out 0; have hfz38_1 := blk_frozen BK172.out 1; have hfz38_2 := blk_frozen BK172.out 2) | ((first | ((with_reducible refine gate_callee (f := 8) rfl ?_); refine goesL_ (some 15) rfl rfl Try.func8 (by kernel_rfl) rfl #[.slice A0 l0.length c0, .string a1_0] rfl (by (try simp only [List.map_toArray, List.map_cons, List.map_nil]); first | done | rfl | (simp only [List.length_drop, List.length_take]; rfl)) ?_; (with_reducible refine (labels_Get.calls k _ _ l0 a1_0 t173 t174 _ ?side1 ?side2 A3.out).mono ?_); (case side1 => repeat (first | exact (Kd.C_below HR0.out HB.out) | (with_reducible refine Kd.C_alloc ?_ _) | (with_reducible refine Kd.C_drewN ?_ _) | (with_reducible refine Kd.C_drew ?_))); (case side2 => exact HC0.out); rintro e w39 ⟨rfl, hb⟩; refine ⟨_, rfl, ?_⟩) | (go_at_call 8; (with_reducible refine (labels_Get.calls k _ _ l0 a1_0 t173 t174 _ ?side1 ?side2 A3.out).mono ?_); (case side1 => repeat (first | exact (Kd.C_below HR0.out HB.out) | (with_reducible refine Kd.C_alloc ?_ _) | (with_reducible refine Kd.C_drewN ?_ _) | (with_reducible refine Kd.C_drew ?_))); (case side2 => exact HC0.out); rintro e w39 ⟨rfl, hb⟩)); have n0_ := Aside0.mk (blk_below (g := gb172) (o := .cells #[.string a1_0, .int .i64 a1_1, .slice A1_2 l1_2.length c1_2] 37 (0, 0)) (by (with_reducible repeat (first | refine blk_drewN ?_ _ | refine blk_drew ?_ | refine blk_alloc ?_ _)); exact BK172.out) hb); have n1_ := Aside0.mk (below_step (by repeat (first | (with_reducible first | exact HB.out | apply below_alloc | apply pw_below_drewN | apply below_drew1 | refine below_set ?_ GE172.out) | exact HB.out)) hb); clear BK172; clear HB; have BK172 := n0_; have HB := n1_; clear n0_ n1_; (try clear hb); (try clear hb2); (try clear hk); (try clear hi); have hcz40_0 : w39.cell? ⟨gb172, 0, none⟩ = some (.string a1_0) := (blk_cell BK172.out 0).trans rfl; have hcz40_1 : w39.cell? ⟨gb172, 1, none⟩ = some (.int .i64 a1_1) := (blk_cell BK172.out 1).trans rfl; have hcz40_2 : w39.cell? ⟨gb172, 2, none⟩ = some (.slice A1_2 l1_2.length c1_2) := (blk_cell BK172.out 2).trans rfl; have hfz40_0 := blk_frozen BK172.out 0; have hfz40_1 := blk_frozen BK172.out 1; have hfz40_2 := blk_frozen BK172.out 2))
          (try simp only [Act.put, List.setIfInBounds_toArray, List.set_cons_zero, List.set_cons_succ])
          go_cut [54] (fun v54 wc => ∃ (kq : Nat) (x54_35 : Bool), v54 = .bool x54_35 ∧ Aside0 (labels_Meets.j0 kq t173 x54_35 a1_0 a1_1 l1_2 = some r) ∧ Aside0 (kq ≤ k) ∧ Aside0 (wc.heap[gb172]? = some (.cells #[.string a1_0, .int .i64 a1_1, (.slice A1_2 l1_2.length c1_2)] 37 (0, 0))) ∧ Aside0 (Below w.heap.size w wc))
          case first =>
            have H := HC36.out
            clear HC36
            by_cases c41 : t174 = true
            · subst c41
              have H1 : (labels_Meets.j0 k t173 ((l1_2.length : Int) != 1) a1_0 a1_1 l1_2) = some r := by rw [if_pos rfl] at H; exact H
              clear H
              have H := H1
              clear H1
              have H' := Aside0.mk H
              clear H
              have hcz42_0 : w39.cell? ⟨gb172, 0, none⟩ = some (.string a1_0) := (blk_cell BK172.out 0).trans rfl
              have hcz42_1 : w39.cell? ⟨gb172, 1, none⟩ = some (.int .i64 a1_1) := (blk_cell BK172.out 1).trans rfl
              have hcz42_2 : w39.cell? ⟨gb172, 2, none⟩ = some (.slice A1_2 l1_2.length c1_2) := (blk_cell BK172.out 2).trans rfl
              have hfz42_0 := blk_frozen BK172.out 0
              have hfz42_1 := blk_frozen BK172.out 1
              have hfz42_2 := blk_frozen BK172.out 2
              go_wp2
              go_meet
              case rel => exact ⟨_, (((l1_2.length : Int) != 1)), (by first | rfl | (simp; done) | (simp [*]; done)), H', ⟨by first | omega | exact Nat.le_refl _⟩, ⟨by (with_reducible repeat (first | refine blk_drewN ?_ _ | refine blk_drew ?_ | refine blk_alloc ?_ _)); exact BK172.out⟩, ⟨by repeat (first | (with_reducible first | exact HB.out | apply below_alloc | apply pw_below_drewN | apply below_drew1 | refine below_set ?_ GE172.out) | exact HB.out)⟩⟩
            · replace c41 := Bool.eq_false_iff.mpr c41
              subst c41
              have H1 : (labels_Meets.j0 k t173 true a1_0 a1_1 l1_2) = some r := by rw [if_neg (show ¬ (false = true) by decide)] at H; exact H
              clear H
              have H := H1
              clear H1
              have H' := Aside0.mk H
              clear H
              go_wp2
              go_meet
              case rel => exact ⟨_, (true), (by first | rfl | (simp; done) | (simp [*]; done)), H', ⟨by first | omega | exact Nat.le_refl _⟩, ⟨by (with_reducible repeat (first | refine blk_drewN ?_ _ | refine blk_drew ?_ | refine blk_alloc ?_ _)); exact BK172.out⟩, ⟨by repeat (first | (with_reducible first | exact HB.out | apply below_alloc | apply pw_below_drewN | apply below_drew1 | refine below_set ?_ GE172.out) | exact HB.out)⟩⟩
          case rest =>
            clear HC36
            try clear c1
            try clear c2
            try clear p2
            try clear c3
            try clear c4
            try clear c4b0
            try clear c4b1
            try clear c5
            try clear c8
            try clear c15
            try clear c15b0
            try clear c15b1
            try clear c16
            try clear c17
            try clear c26
            try clear c26b0
            try clear c26b1
            try clear c31
            try clear c31b0
            try clear c31b1
            try clear c41
            try clear hcz10_0
            try clear hcz10_1
            try clear hcz10_2
            try clear hcz12_0
            try clear hcz12_1
            try clear hcz12_2
            try clear hcz14_0
            try clear hcz14_1
            try clear hcz14_2
            try clear hcz19_0
            try clear hcz19_1
            try clear hcz19_2
            try clear hcz21_0
            try clear hcz21_1
            try clear hcz21_2
            try clear hcz23_0
            try clear hcz23_1
            try clear hcz23_2
            try clear hcz25_0
            try clear hcz25_1
            try clear hcz25_2
            try clear hcz28_0
            try clear hcz28_1
            try clear hcz28_2
            try clear hcz30_0
            try clear hcz30_1
            try clear hcz30_2
            try clear hcz33_0
            try clear hcz33_1
            try clear hcz33_2
            try clear hcz35_0
            try clear hcz35_1
            try clear hcz35_2
            try clear hcz38_0
            try clear hcz38_1
            try clear hcz38_2
            try clear hcz40_0
            try clear hcz40_1
            try clear hcz40_2
            try clear hcz42_0
            try clear hcz42_1
            try clear hcz42_2
            try clear hcz8_0
            try clear hcz8_1
            try clear hcz8_2
            try clear hfz10_0
            try clear hfz10_1
            try clear hfz10_2
            try clear hfz12_0
            try clear hfz12_1
            try clear hfz12_2
            try clear hfz14_0
            try clear hfz14_1
            try clear hfz14_2
            try clear hfz19_0
            try clear hfz19_1
            try clear hfz19_2
            try clear hfz21_0
            try clear hfz21_1
            try clear hfz21_2
            try clear hfz23_0
            try clear hfz23_1
            try clear hfz23_2
            try clear hfz25_0
            try clear hfz25_1
            try clear hfz25_2
            try clear hfz28_0
            try clear hfz28_1
            try clear hfz28_2
            try clear hfz30_0
            try clear hfz30_1
            try clear hfz30_2
            try clear hfz33_0
            try clear hfz33_1
            try clear hfz33_2
            try clear hfz35_0
            try clear hfz35_1
            try clear hfz35_2
            try clear hfz38_0
            try clear hfz38_1
            try clear hfz38_2
            try clear hfz40_0
            try clear hfz40_1
            try clear hfz40_2
            try clear hfz42_0
            try clear hfz42_1
            try clear hfz42_2
            try clear hfz8_0
            try clear hfz8_1
            try clear hfz8_2
            obtain ⟨kq, x54_35, rfl, HA, HJ35, BK172, HB⟩ := hcut
            cases kq with
            | zero => exact absurd HA.out (by simp [labels_Meets.j0])
            | succ kj35 =>
              have H := HA.out
              clear HA
              simp only [labels_Meets.j0] at H
              by_cases c43 : x54_35 = true
              · subst c43
                have H1 : (some false) = some r := by rw [if_pos rfl] at H; exact H
                clear H
                have H := H1
                clear H1
                obtain rfl := Option.some.inj H
                go_wp2
                go_ret
                exact ⟨by first | rfl | (simp [errW_none, errW_some] <;> rfl) | (simp [*, errW_none, errW_some] <;> rfl), by repeat (first | (with_reducible first | exact HB.out | apply below_alloc | apply pw_below_drewN | apply below_drew1 | refine below_set ?_ GE172.out) | exact HB.out)⟩
              · replace c43 := Bool.eq_false_iff.mpr c43
                subst c43
                have H1 : ((labels_number.f kj35 t173).bind fun bt177 => (if 0 < (l1_2.length : Int) then ((labels_number.f kj35 (rdOf ByteArray.empty l1_2 0)).bind fun bt180 => (if a1_1 = 6 then (if bt177.2 = true then (some (decide (bt180.1 > bt177.1))) else (some false)) else (if bt177.2 = true then (some (decide (bt177.1 > bt180.1))) else (some false)))) else (none))) = some r := by rw [if_neg (show ¬ (false = true) by decide)] at H; exact H
                clear H
                have H := H1
                clear H1
                replace H := Option.bind_eq_some_iff.mp H
                obtain ⟨⟨t177, t178⟩, A440, H⟩ := H
                replace H : (if 0 < (l1_2.length : Int) then ((labels_number.f kj35 (rdOf ByteArray.empty l1_2 0)).bind fun bt180 => (if a1_1 = 6 then (if t178 = true then (some (decide (bt180.1 > t177))) else (some false)) else (if t178 = true then (some (decide (t177 > bt180.1))) else (some false)))) else (none)) = some r := H
                have A44 := Aside0.mk A440
                clear A440
                by_cases c45 : 0 < (l1_2.length : Int)
                · rw [if_pos c45] at H
                  have c45b0 : decide (0 < (l1_2.length : Int)) = true := decide_eq_true c45
                  have c45b1 : decide (0 < l1_2.length) = true := decide_eq_true (by omega)
                  clear c45
                  replace H := Option.bind_eq_some_iff.mp H
                  obtain ⟨⟨t180, t181⟩, A460, H⟩ := H
                  replace H : (if a1_1 = 6 then (if t178 = true then (some (decide (t180 > t177))) else (some false)) else (if t178 = true then (some (decide (t177 > t180))) else (some false))) = some r := H
                  have A46 := Aside0.mk A460
                  clear A460
                  by_cases c47 : a1_1 = 6
                  · rw [if_pos c47] at H
                    have c47b0 : (a1_1 == 6) = true := beq_iff_eq.mpr c47
                    have c47b1 : (a1_1 != 6) = false := bne_eq_false_iff_eq.mpr c47
                    clear c47
                    by_cases c48 : t178 = true
                    · subst c48
                      have H1 : (some (decide (t180 > t177))) = some r := by rw [if_pos rfl] at H; exact H
                      clear H
                      have H := H1
                      clear H1
                      obtain rfl := Option.some.inj H
                      go_wp2_with (first | ((first | ((with_reducible refine gate_callee (f := 32) rfl ?_); refine goesL_ (some 57) rfl rfl Try.func32 (by kernel_rfl) rfl #[.string t173] rfl (by (try simp only [List.map_toArray, List.map_cons, List.map_nil]); first | done | rfl | (simp only [List.length_drop, List.length_take]; rfl)) ?_; (with_reducible refine (labels_number.calls kj35 t173 t177 true _ A44.out).mono ?_); rintro e w' ⟨rfl, ⟨nd, rfl⟩⟩; refine ⟨_, rfl, ?_⟩) | (go_at_call 32; (with_reducible refine (labels_number.calls kj35 t173 t177 true _ A44.out).mono ?_); rintro e w' ⟨rfl, ⟨nd, rfl⟩⟩)); have hcz49_0 : wc.cell? ⟨gb172, 0, none⟩ = some (.string a1_0) := (blk_cell BK172.out 0).trans rfl; have hcz49_1 : wc.cell? ⟨gb172, 1, none⟩ = some (.int .i64 a1_1) := (blk_cell BK172.out 1).trans rfl; have hcz49_2 : wc.cell? ⟨gb172, 2, none⟩ = some (.slice A1_2 l1_2.length c1_2) := (blk_cell BK172.out 2).trans rfl; have hfz49_0 := blk_frozen BK172.out 0; have hfz49_1 := blk_frozen BK172.out 1; have hfz49_2 := blk_frozen BK172.out 2; have p179 : 0 ≤ (0 : Int) := (by omega); have q179 : 0 < (l1_2.length : Int) := of_decide_eq_true (by first | (with_reducible assumption) | assumption); obtain ⟨ad179, e179, hx179_0⟩ := Kd.at_string HR1_2.out 0 p179 q179; cases e179; have qi179 : (0 < l1_2.length) = True := eq_true (by omega); (try rw [show ((0 : Int)).toNat = 0 from rfl] at hx179_0); (try rw [Addr.add_zero'] at hx179_0); replace hx179_0 := (HB.out.cell (World.block_lt_of_cell? w _ hx179_0)).trans hx179_0; replace p179 := eq_true p179; replace q179 := eq_true q179) | ((first | ((with_reducible refine gate_callee (f := 32) rfl ?_); refine goesL_ (some 65) rfl rfl Try.func32 (by kernel_rfl) rfl #[.string (rdOf ByteArray.empty l1_2 0)] rfl (by (try simp only [List.map_toArray, List.map_cons, List.map_nil]); first | done | rfl | (simp only [List.length_drop, List.length_take]; rfl)) ?_; (with_reducible refine (labels_number.calls kj35 (rdOf ByteArray.empty l1_2 0) t180 t181 _ A46.out).mono ?_); rintro e w' ⟨rfl, ⟨nd, rfl⟩⟩; refine ⟨_, rfl, ?_⟩) | (go_at_call 32; (with_reducible refine (labels_number.calls kj35 (rdOf ByteArray.empty l1_2 0) t180 t181 _ A46.out).mono ?_); rintro e w' ⟨rfl, ⟨nd, rfl⟩⟩))))
                      go_ret
                      exact ⟨by first | rfl | (simp [errW_none, errW_some] <;> rfl) | (simp [*, errW_none, errW_some] <;> rfl), by repeat (first | (with_reducible first | exact HB.out | apply below_alloc | apply pw_below_drewN | apply below_drew1 | refine below_set ?_ GE172.out) | exact HB.out)⟩
                    · replace c48 := Bool.eq_false_iff.mpr c48
                      subst c48
                      have H1 : (some false) = some r := by rw [if_neg (show ¬ (false = true) by decide)] at H; exact H
                      clear H
                      have H := H1
                      clear H1
                      obtain rfl := Option.some.inj H
                      go_wp2_with (first | ((first | ((with_reducible refine gate_callee (f := 32) rfl ?_); refine goesL_ (some 57) rfl rfl Try.func32 (by kernel_rfl) rfl #[.string t173] rfl (by (try simp only [List.map_toArray, List.map_cons, List.map_nil]); first | done | rfl | (simp only [List.length_drop, List.length_take]; rfl)) ?_; (with_reducible refine (labels_number.calls kj35 t173 t177 false _ A44.out).mono ?_); rintro e w' ⟨rfl, ⟨nd, rfl⟩⟩; refine ⟨_, rfl, ?_⟩) | (go_at_call 32; (with_reducible refine (labels_number.calls kj35 t173 t177 false _ A44.out).mono ?_); rintro e w' ⟨rfl, ⟨nd, rfl⟩⟩)); have hcz50_0 : wc.cell? ⟨gb172, 0, none⟩ = some (.string a1_0) := (blk_cell BK172.out 0).trans rfl; have hcz50_1 : wc.cell? ⟨gb172, 1, none⟩ = some (.int .i64 a1_1) := (blk_cell BK172.out 1).trans rfl; have hcz50_2 : wc.cell? ⟨gb172, 2, none⟩ = some (.slice A1_2 l1_2.length c1_2) := (blk_cell BK172.out 2).trans rfl; have hfz50_0 := blk_frozen BK172.out 0; have hfz50_1 := blk_frozen BK172.out 1; have hfz50_2 := blk_frozen BK172.out 2; have p179 : 0 ≤ (0 : Int) := (by omega); have q179 : 0 < (l1_2.length : Int) := of_decide_eq_true (by first | (with_reducible assumption) | assumption); obtain ⟨ad179, e179, hx179_0⟩ := Kd.at_string HR1_2.out 0 p179 q179; cases e179; have qi179 : (0 < l1_2.length) = True := eq_true (by omega); (try rw [show ((0 : Int)).toNat = 0 from rfl] at hx179_0); (try rw [Addr.add_zero'] at hx179_0); replace hx179_0 := (HB.out.cell (World.block_lt_of_cell? w _ hx179_0)).trans hx179_0; replace p179 := eq_true p179; replace q179 := eq_true q179) | ((first | ((with_reducible refine gate_callee (f := 32) rfl ?_); refine goesL_ (some 65) rfl rfl Try.func32 (by kernel_rfl) rfl #[.string (rdOf ByteArray.empty l1_2 0)] rfl (by (try simp only [List.map_toArray, List.map_cons, List.map_nil]); first | done | rfl | (simp only [List.length_drop, List.length_take]; rfl)) ?_; (with_reducible refine (labels_number.calls kj35 (rdOf ByteArray.empty l1_2 0) t180 t181 _ A46.out).mono ?_); rintro e w' ⟨rfl, ⟨nd, rfl⟩⟩; refine ⟨_, rfl, ?_⟩) | (go_at_call 32; (with_reducible refine (labels_number.calls kj35 (rdOf ByteArray.empty l1_2 0) t180 t181 _ A46.out).mono ?_); rintro e w' ⟨rfl, ⟨nd, rfl⟩⟩))))
                      go_ret
                      exact ⟨by first | rfl | (simp [errW_none, errW_some] <;> rfl) | (simp [*, errW_none, errW_some] <;> rfl), by repeat (first | (with_reducible first | exact HB.out | apply below_alloc | apply pw_below_drewN | apply below_drew1 | refine below_set ?_ GE172.out) | exact HB.out)⟩
                  · rw [if_neg c47] at H
                    have c47b0 : (a1_1 == 6) = false := beq_eq_false_iff_ne.mpr c47
                    have c47b1 : (a1_1 != 6) = true := bne_iff_ne.mpr c47
                    by_cases c51 : t178 = true
                    · subst c51
                      have H1 : (some (decide (t177 > t180))) = some r := by rw [if_pos rfl] at H; exact H
                      clear H
                      have H := H1
                      clear H1
                      obtain rfl := Option.some.inj H
                      go_wp2_with (first | ((first | ((with_reducible refine gate_callee (f := 32) rfl ?_); refine goesL_ (some 57) rfl rfl Try.func32 (by kernel_rfl) rfl #[.string t173] rfl (by (try simp only [List.map_toArray, List.map_cons, List.map_nil]); first | done | rfl | (simp only [List.length_drop, List.length_take]; rfl)) ?_; (with_reducible refine (labels_number.calls kj35 t173 t177 true _ A44.out).mono ?_); rintro e w' ⟨rfl, ⟨nd, rfl⟩⟩; refine ⟨_, rfl, ?_⟩) | (go_at_call 32; (with_reducible refine (labels_number.calls kj35 t173 t177 true _ A44.out).mono ?_); rintro e w' ⟨rfl, ⟨nd, rfl⟩⟩)); have hcz52_0 : wc.cell? ⟨gb172, 0, none⟩ = some (.string a1_0) := (blk_cell BK172.out 0).trans rfl; have hcz52_1 : wc.cell? ⟨gb172, 1, none⟩ = some (.int .i64 a1_1) := (blk_cell BK172.out 1).trans rfl; have hcz52_2 : wc.cell? ⟨gb172, 2, none⟩ = some (.slice A1_2 l1_2.length c1_2) := (blk_cell BK172.out 2).trans rfl; have hfz52_0 := blk_frozen BK172.out 0; have hfz52_1 := blk_frozen BK172.out 1; have hfz52_2 := blk_frozen BK172.out 2; have p179 : 0 ≤ (0 : Int) := (by omega); have q179 : 0 < (l1_2.length : Int) := of_decide_eq_true (by first | (with_reducible assumption) | assumption); obtain ⟨ad179, e179, hx179_0⟩ := Kd.at_string HR1_2.out 0 p179 q179; cases e179; have qi179 : (0 < l1_2.length) = True := eq_true (by omega); (try rw [show ((0 : Int)).toNat = 0 from rfl] at hx179_0); (try rw [Addr.add_zero'] at hx179_0); replace hx179_0 := (HB.out.cell (World.block_lt_of_cell? w _ hx179_0)).trans hx179_0; replace p179 := eq_true p179; replace q179 := eq_true q179) | ((first | ((with_reducible refine gate_callee (f := 32) rfl ?_); refine goesL_ (some 65) rfl rfl Try.func32 (by kernel_rfl) rfl #[.string (rdOf ByteArray.empty l1_2 0)] rfl (by (try simp only [List.map_toArray, List.map_cons, List.map_nil]); first | done | rfl | (simp only [List.length_drop, List.length_take]; rfl)) ?_; (with_reducible refine (labels_number.calls kj35 (rdOf ByteArray.empty l1_2 0) t180 t181 _ A46.out).mono ?_); rintro e w' ⟨rfl, ⟨nd, rfl⟩⟩; refine ⟨_, rfl, ?_⟩) | (go_at_call 32; (with_reducible refine (labels_number.calls kj35 (rdOf ByteArray.empty l1_2 0) t180 t181 _ A46.out).mono ?_); rintro e w' ⟨rfl, ⟨nd, rfl⟩⟩))))
                      go_ret
                      exact ⟨by first | rfl | (simp [errW_none, errW_some] <;> rfl) | (simp [*, errW_none, errW_some] <;> rfl), by repeat (first | (with_reducible first | exact HB.out | apply below_alloc | apply pw_below_drewN | apply below_drew1 | refine below_set ?_ GE172.out) | exact HB.out)⟩
                    · replace c51 := Bool.eq_false_iff.mpr c51
                      subst c51
                      have H1 : (some false) = some r := by rw [if_neg (show ¬ (false = true) by decide)] at H; exact H
                      clear H
                      have H := H1
                      clear H1
                      obtain rfl := Option.some.inj H
                      go_wp2_with (first | ((first | ((with_reducible refine gate_callee (f := 32) rfl ?_); refine goesL_ (some 57) rfl rfl Try.func32 (by kernel_rfl) rfl #[.string t173] rfl (by (try simp only [List.map_toArray, List.map_cons, List.map_nil]); first | done | rfl | (simp only [List.length_drop, List.length_take]; rfl)) ?_; (with_reducible refine (labels_number.calls kj35 t173 t177 false _ A44.out).mono ?_); rintro e w' ⟨rfl, ⟨nd, rfl⟩⟩; refine ⟨_, rfl, ?_⟩) | (go_at_call 32; (with_reducible refine (labels_number.calls kj35 t173 t177 false _ A44.out).mono ?_); rintro e w' ⟨rfl, ⟨nd, rfl⟩⟩)); have hcz53_0 : wc.cell? ⟨gb172, 0, none⟩ = some (.string a1_0) := (blk_cell BK172.out 0).trans rfl; have hcz53_1 : wc.cell? ⟨gb172, 1, none⟩ = some (.int .i64 a1_1) := (blk_cell BK172.out 1).trans rfl; have hcz53_2 : wc.cell? ⟨gb172, 2, none⟩ = some (.slice A1_2 l1_2.length c1_2) := (blk_cell BK172.out 2).trans rfl; have hfz53_0 := blk_frozen BK172.out 0; have hfz53_1 := blk_frozen BK172.out 1; have hfz53_2 := blk_frozen BK172.out 2; have p179 : 0 ≤ (0 : Int) := (by omega); have q179 : 0 < (l1_2.length : Int) := of_decide_eq_true (by first | (with_reducible assumption) | assumption); obtain ⟨ad179, e179, hx179_0⟩ := Kd.at_string HR1_2.out 0 p179 q179; cases e179; have qi179 : (0 < l1_2.length) = True := eq_true (by omega); (try rw [show ((0 : Int)).toNat = 0 from rfl] at hx179_0); (try rw [Addr.add_zero'] at hx179_0); replace hx179_0 := (HB.out.cell (World.block_lt_of_cell? w _ hx179_0)).trans hx179_0; replace p179 := eq_true p179; replace q179 := eq_true q179) | ((first | ((with_reducible refine gate_callee (f := 32) rfl ?_); refine goesL_ (some 65) rfl rfl Try.func32 (by kernel_rfl) rfl #[.string (rdOf ByteArray.empty l1_2 0)] rfl (by (try simp only [List.map_toArray, List.map_cons, List.map_nil]); first | done | rfl | (simp only [List.length_drop, List.length_take]; rfl)) ?_; (with_reducible refine (labels_number.calls kj35 (rdOf ByteArray.empty l1_2 0) t180 t181 _ A46.out).mono ?_); rintro e w' ⟨rfl, ⟨nd, rfl⟩⟩; refine ⟨_, rfl, ?_⟩) | (go_at_call 32; (with_reducible refine (labels_number.calls kj35 (rdOf ByteArray.empty l1_2 0) t180 t181 _ A46.out).mono ?_); rintro e w' ⟨rfl, ⟨nd, rfl⟩⟩))))
                      go_ret
                      exact ⟨by first | rfl | (simp [errW_none, errW_some] <;> rfl) | (simp [*, errW_none, errW_some] <;> rfl), by repeat (first | (with_reducible first | exact HB.out | apply below_alloc | apply pw_below_drewN | apply below_drew1 | refine below_set ?_ GE172.out) | exact HB.out)⟩
                · rw [if_neg c45] at H
                  exact absurd H (by simp)
end Go.Proofs.Ytcnaefnlnjfjkaa.H
end
section
namespace Go.Proofs.Ytcnaefnlnjfjkaa.H
open Go.RowKit Go.Proofs.YtcnaefnlnjfjkaaW.PrintWords Go.Proofs.YtcnaefnlnjfjkaaW.PrintLast Go.Proofs.YtcnaefnlnjfjkaaW.PrintMore
attribute [local go_sem] max2_int min2_int max_two min_two max_three min_three max_four min_four   -- for this text's walks alone
set_option linter.unusedVariables false
set_option linter.unusedSimpArgs false
def labels_Has.l0 : Nat → List (S31) → List (S31) → Int → Int → Option (Bool)
  | 0, _, _, _, _ => none
  | k + 1, x0, x9, x10, x11 => if x11 < x10 then (if 0 ≤ x11 then (if x11 < (x9.length : Int) then ((labels_Get.f k x0 ((rd_T31 x9 x11).f0)).bind fun bt184 => (if bt184.2 = true then (if bt184.1.toList = ((rd_T31 x9 x11).f1).toList then (labels_Has.l0 k x0 x9 x10 (wrap64 (x11 + 1))) else (some false)) else (some false))) else (none)) else (none)) else (some true)
def labels_Has.f (k : Nat) (l0 : List (S31)) (l1 : List (S31)) : Option (Bool) := labels_Has.l0 k l0 l1 (l1.length : Int) 0
theorem labels_Has.mono_l : ∀ k, (∀ y0 y1 y2 y3, LeO (labels_Has.l0 k y0 y1 y2 y3) (labels_Has.l0 (k + 1) y0 y1 y2 y3))
  | 0 => fun _ _ _ _ r h => by simp [labels_Has.l0] at h
  | k + 1 => by
    have ih0 := labels_Has.mono_l k
    · intro y0 y1 y2 y3
      unfold labels_Has.l0
      repeat' first
      | (with_reducible exact ih0 _ _ _ _)
      | (with_reducible exact labels_Get.mono _ _ _)
      | (with_reducible exact LeO.refl _)
      | (with_reducible exact LeO.none _)
      | (with_reducible refine LeO.ite ?_ ?_)
      | (with_reducible refine LeO.bind ?_ (fun _ => ?_))
      | exact ih0 _ _ _ _
      | exact labels_Get.mono _ _ _
      | exact LeO.none _
      | refine LeO.ite ?_ ?_
      | refine LeO.bind ?_ (fun _ => ?_)
theorem labels_Has.mono : ∀ a0 a1 k, LeO (labels_Has.f k a0 a1) (labels_Has.f (k + 1) a0 a1) := by
  intro a0 a1 k
  have ih0 := labels_Has.mono_l k
  unfold labels_Has.f
  repeat' first
      | (with_reducible exact ih0 _ _ _ _)
      | (with_reducible exact labels_Get.mono _ _ _)
      | (with_reducible exact LeO.refl _)
      | (with_reducible exact LeO.none _)
      | (with_reducible refine LeO.ite ?_ ?_)
      | (with_reducible refine LeO.bind ?_ (fun _ => ?_))
      | exact ih0 _ _ _ _
      | exact labels_Get.mono _ _ _
      | exact LeO.none _
      | refine LeO.ite ?_ ?_
      | refine LeO.bind ?_ (fun _ => ?_)
set_option maxHeartbeats 8000000 in
set_option maxRecDepth 100000 in
theorem labels_Has.calls (k : Nat) (A0 : Option Addr) (c0 : Nat) (l0 : List (S31)) (A1 : Option Addr) (c1 : Nat) (l1 : List (S31)) (r : Bool) (w : World) (hr0 : Kd.C k31 w A0 l0.length l0) (hc0 : l0.length ≤ c0) (hr1 : Kd.C k31 w A1 l1.length l1) (hc1 : l1.length ≤ c1) (h : labels_Has.f k l0 l1 = some r) :
    Calls Try.prog 19 #[.slice A0 l0.length c0, .slice A1 l1.length c1] w fun e w' => e = .returned (.bool r) ∧ Below w.heap.size w w' := by
  have hu31 := Try.underlying31
  have HR0 := Aside0.mk hr0
  have HC0 := Aside0.mk hc0
  clear hr0 hc0
  have HR1 := Aside0.mk hr1
  have HC1 := Aside0.mk hc1
  clear hr1 hc1
  have HB := Aside0.mk (Below.refl w.heap.size w)
  have H : (labels_Has.l0 k l0 l1 (l1.length : Int) 0) = some r := h
  clear h
  have H' := Aside0.mk H
  clear H
  go_enter Try.func19, Try.ntmps19
  go_wp2
  go_loopg [11] k (fun kq v11 w' => ∃ (x11_1 : Int), v11 = .int .i64 x11_1 ∧ Aside0 (labels_Has.l0 kq l0 l1 (l1.length : Int) x11_1 = some r) ∧ Aside0 (kq ≤ k) ∧ Aside0 (Below w.heap.size w w'))
  case atStart => exact ⟨(0), (by first | rfl | (simp; done) | (simp [*]; done)), H', ⟨Nat.le_refl _⟩, ⟨by repeat (first | (with_reducible first | exact HB.out | apply below_alloc | apply pw_below_drewN | apply below_drew1) | exact HB.out)⟩⟩
  case round =>
    clear H'
    try clear c1
    try clear p2
    obtain ⟨x11_1, rfl, HA, HK1, HB⟩ := hrel
    cases gk with
    | zero => exact absurd HA.out (by simp [labels_Has.l0])
    | succ k1 =>
      have H := HA.out
      clear HA
      simp only [labels_Has.l0] at H
      by_cases c3 : x11_1 < (l1.length : Int)
      · rw [if_pos c3] at H
        have c3b0 : decide (x11_1 < (l1.length : Int)) = true := decide_eq_true c3
        clear c3
        by_cases c4 : 0 ≤ x11_1
        · rw [if_pos c4] at H
          have c4b0 : decide (0 ≤ x11_1) = true := decide_eq_true c4
          clear c4
          by_cases c5 : x11_1 < (l1.length : Int)
          · rw [if_pos c5] at H
            have c5b0 : decide (x11_1 < (l1.length : Int)) = true := decide_eq_true c5
            clear c5
            replace H := Option.bind_eq_some_iff.mp H
            obtain ⟨⟨t184, t185⟩, A60, H⟩ := H
            replace H : (if t185 = true then (if t184.toList = ((rd_T31 l1 x11_1).f1).toList then (labels_Has.l0 k1 l0 l1 (l1.length : Int) (wrap64 (x11_1 + 1))) else (some false)) else (some false)) = some r := H
            have A6 := Aside0.mk A60
            clear A60
            by_cases c7 : t185 = true
            · subst c7
              have H1 : (if t184.toList = ((rd_T31 l1 x11_1).f1).toList then (labels_Has.l0 k1 l0 l1 (l1.length : Int) (wrap64 (x11_1 + 1))) else (some false)) = some r := by rw [if_pos rfl] at H; exact H
              clear H
              have H := H1
              clear H1
              by_cases c8 : t184.toList = ((rd_T31 l1 x11_1).f1).toList
              · rw [if_pos c8] at H
                have c8b0 : (t184.toList == ((rd_T31 l1 x11_1).f1).toList) = true := beq_iff_eq.mpr c8
                have c8b1 : (t184.toList != ((rd_T31 l1 x11_1).f1).toList) = false := bne_eq_false_iff_eq.mpr c8
                clear c8
                have H' := Aside0.mk H
                clear H
                have p182 : 0 ≤ (x11_1 : Int) := of_decide_eq_true (by first | (with_reducible assumption) | assumption)
                have q182 : x11_1 < (l1.length : Int) := of_decide_eq_true (by first | (with_reducible assumption) | assumption)
                obtain ⟨ad182, e182, hx182_0, hx182_1⟩ := at_T31 HR1.out x11_1 p182 q182
                cases e182
                replace hx182_0 := (HB.out.cell (World.block_lt_of_cell? w _ hx182_0)).trans hx182_0
                replace hx182_1 := (HB.out.cell (World.block_lt_of_cell? w _ hx182_1)).trans hx182_1
                replace p182 := eq_true p182
                replace q182 := eq_true q182
                go_wp2_with (first | ((with_reducible refine gate_dst (N := 6) rfl ?_); refine box_event ?hg (N := 6) ?hd (cs := #[.string (⟨#[]⟩ : ByteArray), .string (⟨#[]⟩ : ByteArray)]) (t := 31) ?hr ?_; (case hd => rfl); (case hg => rfl); (case hr => first | (go_simp; done) | (go_simp; rfl)); intro gb183 hg w9 hbox hb; have n0_ := Aside0.mk (below_step (by repeat (first | (with_reducible first | exact HB.out | apply below_alloc | apply pw_below_drewN | apply below_drew1) | exact HB.out)) hb); have n1_ := Aside0.mk (hbox); have n2_ := Aside0.mk ((by rw [hg]; exact (below_size (by repeat (first | (with_reducible first | exact HB.out | apply below_alloc | apply pw_below_drewN | apply below_drew1) | exact HB.out))) : w.heap.size ≤ gb183)); have n3_ := Aside0.mk ((by rw [hg]; exact (below_size (by repeat (first | (with_reducible first | exact HB.out | apply below_alloc | apply pw_below_drewN | apply below_drew1) | exact HB.out))) : w.heap.size ≤ gb183)); clear HB; have HB := n0_; have BK183 := n1_; have GW183 := n2_; have GE183 := n3_; clear n0_ n1_ n2_ n3_; clear hb hbox hg; have hcz10_0 : w9.cell? ⟨gb183, 0, none⟩ = some (.string (⟨#[]⟩ : ByteArray)) := (blk_cell BK183.out 0).trans rfl; have hcz10_1 : w9.cell? ⟨gb183, 1, none⟩ = some (.string (⟨#[]⟩ : ByteArray)) := (blk_cell BK183.out 1).trans rfl; have hfz10_0 := blk_frozen BK183.out 0; have hfz10_1 := blk_frozen BK183.out 1) | ((first | ((with_reducible refine gate_callee (f := 8) rfl ?_); refine goesL_ (some 19) rfl rfl Try.func8 (by kernel_rfl) rfl #[.slice A0 l0.length c0, .string ((rd_T31 l1 x11_1).f0)] rfl (by (try simp only [List.map_toArray, List.map_cons, List.map_nil]); first | done | rfl | (simp only [List.length_drop, List.length_take]; rfl)) ?_; (with_reducible refine (labels_Get.calls k1 _ _ l0 ((rd_T31 l1 x11_1).f0) t184 true _ ?side1 ?side2 A6.out).mono ?_); (case side1 => exact Kd.C_below HR0.out (by repeat (first | (with_reducible first | exact HB.out | apply below_alloc | apply pw_below_drewN | apply below_drew1 | refine below_set ?_ GE183.out) | exact HB.out))); (case side2 => exact HC0.out); rintro e w11 ⟨rfl, hb⟩; refine ⟨_, rfl, ?_⟩) | (go_at_call 8; (with_reducible refine (labels_Get.calls k1 _ _ l0 ((rd_T31 l1 x11_1).f0) t184 true _ ?side1 ?side2 A6.out).mono ?_); (case side1 => exact Kd.C_below HR0.out (by repeat (first | (with_reducible first | exact HB.out | apply below_alloc | apply pw_below_drewN | apply below_drew1 | refine below_set ?_ GE183.out) | exact HB.out))); (case side2 => exact HC0.out); rintro e w11 ⟨rfl, hb⟩)); have n0_ := Aside0.mk (blk_below (g := gb183) (o := .cells #[.string ((rd_T31 l1 x11_1).f0), .string ((rd_T31 l1 x11_1).f1)] 31 (0, 0)) (by (with_reducible repeat (first | refine blk_drewN ?_ _ | refine blk_drew ?_ | refine blk_alloc ?_ _)); refine blk_put (cs := #[.string ((rd_T31 l1 x11_1).f0), .string (⟨#[]⟩ : ByteArray)]) ?_ 1 _ rfl; (with_reducible repeat (first | refine blk_drewN ?_ _ | refine blk_drew ?_ | refine blk_alloc ?_ _)); refine blk_put (cs := #[.string (⟨#[]⟩ : ByteArray), .string (⟨#[]⟩ : ByteArray)]) ?_ 0 _ rfl; (with_reducible repeat (first | refine blk_drewN ?_ _ | refine blk_drew ?_ | refine blk_alloc ?_ _)); exact BK183.out) hb); have n1_ := Aside0.mk (below_step (by repeat (first | (with_reducible first | exact HB.out | apply below_alloc | apply pw_below_drewN | apply below_drew1 | refine below_set ?_ GE183.out) | exact HB.out)) hb); clear BK183; clear HB; have BK183 := n0_; have HB := n1_; clear n0_ n1_; (try clear hb); (try clear hb2); (try clear hk); (try clear hi); have hcz12_0 : w11.cell? ⟨gb183, 0, none⟩ = some (.string ((rd_T31 l1 x11_1).f0)) := (blk_cell BK183.out 0).trans rfl; have hcz12_1 : w11.cell? ⟨gb183, 1, none⟩ = some (.string ((rd_T31 l1 x11_1).f1)) := (blk_cell BK183.out 1).trans rfl; have hfz12_0 := blk_frozen BK183.out 0; have hfz12_1 := blk_frozen BK183.out 1))
                go_roundg k1
                case measure => have := HK1.out; omega
                case rel => exact ⟨(wrap64 (x11_1 + 1)), (by first | rfl | (simp; done) | (simp [*]; done)), H', ⟨by have := HK1.out; omega⟩, ⟨by repeat (first | (with_reducible first | exact HB.out | apply below_alloc | apply pw_below_drewN | apply below_drew1 | refine below_set ?_ GE183.out) | exact HB.out)⟩⟩
              · rw [if_neg c8] at H
                have c8b0 : (t184.toList == ((rd_T31 l1 x11_1).f1).toList) = false := beq_eq_false_iff_ne.mpr c8
                have c8b1 : (t184.toList != ((rd_T31 l1 x11_1).f1).toList) = true := bne_iff_ne.mpr c8
                obtain rfl := Option.some.inj H
                have p182 : 0 ≤ (x11_1 : Int) := of_decide_eq_true (by first | (with_reducible assumption) | assumption)
                have q182 : x11_1 < (l1.length : Int) := of_decide_eq_true (by first | (with_reducible assumption) | assumption)
                obtain ⟨ad182, e182, hx182_0, hx182_1⟩ := at_T31 HR1.out x11_1 p182 q182
                cases e182
                replace hx182_0 := (HB.out.cell (World.block_lt_of_cell? w _ hx182_0)).trans hx182_0
                replace hx182_1 := (HB.out.cell (World.block_lt_of_cell? w _ hx182_1)).trans hx182_1
                replace p182 := eq_true p182
                replace q182 := eq_true q182
                go_wp2_with (first | ((with_reducible refine gate_dst (N := 6) rfl ?_); refine box_event ?hg (N := 6) ?hd (cs := #[.string (⟨#[]⟩ : ByteArray), .string (⟨#[]⟩ : ByteArray)]) (t := 31) ?hr ?_; (case hd => rfl); (case hg => rfl); (case hr => first | (go_simp; done) | (go_simp; rfl)); intro gb183 hg w13 hbox hb; have n0_ := Aside0.mk (below_step (by repeat (first | (with_reducible first | exact HB.out | apply below_alloc | apply pw_below_drewN | apply below_drew1) | exact HB.out)) hb); have n1_ := Aside0.mk (hbox); have n2_ := Aside0.mk ((by rw [hg]; exact (below_size (by repeat (first | (with_reducible first | exact HB.out | apply below_alloc | apply pw_below_drewN | apply below_drew1) | exact HB.out))) : w.heap.size ≤ gb183)); have n3_ := Aside0.mk ((by rw [hg]; exact (below_size (by repeat (first | (with_reducible first | exact HB.out | apply below_alloc | apply pw_below_drewN | apply below_drew1) | exact HB.out))) : w.heap.size ≤ gb183)); clear HB; have HB := n0_; have BK183 := n1_; have GW183 := n2_; have GE183 := n3_; clear n0_ n1_ n2_ n3_; clear hb hbox hg; have hcz14_0 : w13.cell? ⟨gb183, 0, none⟩ = some (.string (⟨#[]⟩ : ByteArray)) := (blk_cell BK183.out 0).trans rfl; have hcz14_1 : w13.cell? ⟨gb183, 1, none⟩ = some (.string (⟨#[]⟩ : ByteArray)) := (blk_cell BK183.out 1).trans rfl; have hfz14_0 := blk_frozen BK183.out 0; have hfz14_1 := blk_frozen BK183.out 1) | ((first | ((with_reducible refine gate_callee (f := 8) rfl ?_); refine goesL_ (some 19) rfl rfl Try.func8 (by kernel_rfl) rfl #[.slice A0 l0.length c0, .string ((rd_T31 l1 x11_1).f0)] rfl (by (try simp only [List.map_toArray, List.map_cons, List.map_nil]); first | done | rfl | (simp only [List.length_drop, List.length_take]; rfl)) ?_; (with_reducible refine (labels_Get.calls k1 _ _ l0 ((rd_T31 l1 x11_1).f0) t184 true _ ?side1 ?side2 A6.out).mono ?_); (case side1 => exact Kd.C_below HR0.out (by repeat (first | (with_reducible first | exact HB.out | apply below_alloc | apply pw_below_drewN | apply below_drew1 | refine below_set ?_ GE183.out) | exact HB.out))); (case side2 => exact HC0.out); rintro e w15 ⟨rfl, hb⟩; refine ⟨_, rfl, ?_⟩) | (go_at_call 8; (with_reducible refine (labels_Get.calls k1 _ _ l0 ((rd_T31 l1 x11_1).f0) t184 true _ ?side1 ?side2 A6.out).mono ?_); (case side1 => exact Kd.C_below HR0.out (by repeat (first | (with_reducible first | exact HB.out | apply below_alloc | apply pw_below_drewN | apply below_drew1 | refine below_set ?_ GE183.out) | exact HB.out))); (case side2 => exact HC0.out); rintro e w15 ⟨rfl, hb⟩)); have n0_ := Aside0.mk (blk_below (g := gb183) (o := .cells #[.string ((rd_T31 l1 x11_1).f0), .string ((rd_T31 l1 x11_1).f1)] 31 (0, 0)) (by (with_reducible repeat (first | refine blk_drewN ?_ _ | refine blk_drew ?_ | refine blk_alloc ?_ _)); refine blk_put (cs := #[.string ((rd_T31 l1 x11_1).f0), .string (⟨#[]⟩ : ByteArray)]) ?_ 1 _ rfl; (with_reducible repeat (first | refine blk_drewN ?_ _ | refine blk_drew ?_ | refine blk_alloc ?_ _)); refine blk_put (cs := #[.string (⟨#[]⟩ : ByteArray), .string (⟨#[]⟩ : ByteArray)]) ?_ 0 _ rfl; (with_reducible repeat (first | refine blk_drewN ?_ _ | refine blk_drew ?_ | refine blk_alloc ?_ _)); exact BK183.out) hb); have n1_ := Aside0.mk (below_step (by repeat (first | (with_reducible first | exact HB.out | apply below_alloc | apply pw_below_drewN | apply below_drew1 | refine below_set ?_ GE183.out) | exact HB.out)) hb); clear BK183; clear HB; have BK183 := n0_; have HB := n1_; clear n0_ n1_; (try clear hb); (try clear hb2); (try clear hk); (try clear hi); have hcz16_0 : w15.cell? ⟨gb183, 0, none⟩ = some (.string ((rd_T31 l1 x11_1).f0)) := (blk_cell BK183.out 0).trans rfl; have hcz16_1 : w15.cell? ⟨gb183, 1, none⟩ = some (.string ((rd_T31 l1 x11_1).f1)) := (blk_cell BK183.out 1).trans rfl; have hfz16_0 := blk_frozen BK183.out 0; have hfz16_1 := blk_frozen BK183.out 1))
                go_ret
                exact ⟨by first | rfl | (simp [errW_none, errW_some] <;> rfl) | (simp [*, errW_none, errW_some] <;> rfl), by repeat (first | (with_reducible first | exact HB.out | apply below_alloc | apply pw_below_drewN | apply below_drew1 | refine below_set ?_ GE183.out) | exact HB.out)⟩
            · replace c7 := Bool.eq_false_iff.mpr c7
              subst c7
              have H1 : (some false) = some r := by rw [if_neg (show ¬ (false = true) by decide)] at H; exact H
              clear H
              have H := H1
              clear H1
              obtain rfl := Option.some.inj H
              have p182 : 0 ≤ (x11_1 : Int) := of_decide_eq_true (by first | (with_reducible assumption) | assumption)
              have q182 : x11_1 < (l1.length : Int) := of_decide_eq_true (by first | (with_reducible assumption) | assumption)
              obtain ⟨ad182, e182, hx182_0, hx182_1⟩ := at_T31 HR1.out x11_1 p182 q182
              cases e182
              replace hx182_0 := (HB.out.cell (World.block_lt_of_cell? w _ hx182_0)).trans hx182_0
              replace hx182_1 := (HB.out.cell (World.block_lt_of_cell? w _ hx182_1)).trans hx182_1
              replace p182 := eq_true p182
              replace q182 := eq_true q182
              go_wp2_with (first | ((with_reducible refine gate_dst (N := 6) rfl ?_); refine box_event ?hg (N := 6) ?hd (cs := #[.string (⟨#[]⟩ : ByteArray), .string (⟨#[]⟩ : ByteArray)]) (t := 31) ?hr ?_; (case hd => rfl); (case hg => rfl); (case hr => first | (go_simp; done) | (go_simp; rfl)); intro gb183 hg w17 hbox hb; have n0_ := Aside0.mk (below_step (by repeat (first | (with_reducible first | exact HB.out | apply below_alloc | apply pw_below_drewN | apply below_drew1) | exact HB.out)) hb); have n1_ := Aside0.mk (hbox); have n2_ := Aside0.mk ((by rw [hg]; exact (below_size (by repeat (first | (with_reducible first | exact HB.out | apply below_alloc | apply pw_below_drewN | apply below_drew1) | exact HB.out))) : w.heap.size ≤ gb183)); have n3_ := Aside0.mk ((by rw [hg]; exact (below_size (by repeat (first | (with_reducible first | exact HB.out | apply below_alloc | apply pw_below_drewN | apply below_drew1) | exact HB.out))) : w.heap.size ≤ gb183)); clear HB; have HB := n0_; have BK183 := n1_; have GW183 := n2_; have GE183 := n3_; clear n0_ n1_ n2_ n3_; clear hb hbox hg; have hcz18_0 : w17.cell? ⟨gb183, 0, none⟩ = some (.string (⟨#[]⟩ : ByteArray)) := (blk_cell BK183.out 0).trans rfl; have hcz18_1 : w17.cell? ⟨gb183, 1, none⟩ = some (.string (⟨#[]⟩ : ByteArray)) := (blk_cell BK183.out 1).trans rfl; have hfz18_0 := blk_frozen BK183.out 0; have hfz18_1 := blk_frozen BK183.out 1) | ((first | ((with_reducible refine gate_callee (f := 8) rfl ?_); refine goesL_ (some 19) rfl rfl Try.func8 (by kernel_rfl) rfl #[.slice A0 l0.length c0, .string ((rd_T31 l1 x11_1).f0)] rfl (by (try simp only [List.map_toArray, List.map_cons, List.map_nil]); first | done | rfl | (simp only [List.length_drop, List.length_take]; rfl)) ?_; (with_reducible refine (labels_Get.calls k1 _ _ l0 ((rd_T31 l1 x11_1).f0) t184 false _ ?side1 ?side2 A6.out).mono ?_); (case side1 => exact Kd.C_below HR0.out (by repeat (first | (with_reducible first | exact HB.out | apply below_alloc | apply pw_below_drewN | apply below_drew1 | refine below_set ?_ GE183.out) | exact HB.out))); (case side2 => exact HC0.out); rintro e w19 ⟨rfl, hb⟩; refine ⟨_, rfl, ?_⟩) | (go_at_call 8; (with_reducible refine (labels_Get.calls k1 _ _ l0 ((rd_T31 l1 x11_1).f0) t184 false _ ?side1 ?side2 A6.out).mono ?_); (case side1 => exact Kd.C_below HR0.out (by repeat (first | (with_reducible first | exact HB.out | apply below_alloc | apply pw_below_drewN | apply below_drew1 | refine below_set ?_ GE183.out) | exact HB.out))); (case side2 => exact HC0.out); rintro e w19 ⟨rfl, hb⟩)); have n0_ := Aside0.mk (blk_below (g := gb183) (o := .cells #[.string ((rd_T31 l1 x11_1).f0), .string ((rd_T31 l1 x11_1).f1)] 31 (0, 0)) (by (with_reducible repeat (first | refine blk_drewN ?_ _ | refine blk_drew ?_ | refine blk_alloc ?_ _)); refine blk_put (cs := #[.string ((rd_T31 l1 x11_1).f0), .string (⟨#[]⟩ : ByteArray)]) ?_ 1 _ rfl; (with_reducible repeat (first | refine blk_drewN ?_ _ | refine blk_drew ?_ | refine blk_alloc ?_ _)); refine blk_put (cs := #[.string (⟨#[]⟩ : ByteArray), .string (⟨#[]⟩ : ByteArray)]) ?_ 0 _ rfl; (with_reducible repeat (first | refine blk_drewN ?_ _ | refine blk_drew ?_ | refine blk_alloc ?_ _)); exact BK183.out) hb); have n1_ := Aside0.mk (below_step (by repeat (first | (with_reducible first | exact HB.out | apply below_alloc | apply pw_below_drewN | apply below_drew1 | refine below_set ?_ GE183.out) | exact HB.out)) hb); clear BK183; clear HB; have BK183 := n0_; have HB := n1_; clear n0_ n1_; (try clear hb); (try clear hb2); (try clear hk); (try clear hi)))
              go_ret
              exact ⟨by first | rfl | (simp [errW_none, errW_some] <;> rfl) | (simp [*, errW_none, errW_some] <;> rfl), by repeat (first | (with_reducible first | exact HB.out | apply below_alloc | apply pw_below_drewN | apply below_drew1 | refine below_set ?_ GE183.out) | exact HB.out)⟩
          · rw [if_neg c5] at H
            exact absurd H (by simp)
        · rw [if_neg c4] at H
          exact absurd H (by simp)
      · rw [if_neg c3] at H
        have c3b0 : decide (x11_1 < (l1.length : Int)) = false := decide_eq_false c3
        clear c3
        obtain rfl := Option.some.inj H
        go_wp2
        go_ret
        exact ⟨by first | rfl | (simp [errW_none, errW_some] <;> rfl) | (simp [*, errW_none, errW_some] <;> rfl), by repeat (first | (with_reducible first | exact HB.out | apply below_alloc | apply pw_below_drewN | apply below_drew1) | exact HB.out)⟩
end Go.Proofs.Ytcnaefnlnjfjkaa.H
end
section
namespace Go.Proofs.Ytcnaefnlnjfjkaa.H
open Go.RowKit Go.Proofs.YtcnaefnlnjfjkaaW.PrintWords Go.Proofs.YtcnaefnlnjfjkaaW.PrintLast Go.Proofs.YtcnaefnlnjfjkaaW.PrintMore
attribute [local go_sem] max2_int min2_int max_two min_two max_three min_three max_four min_four   -- for this text's walks alone
set_option linter.unusedVariables false
set_option linter.unusedSimpArgs false
def labels_All.l0 : Nat → List (S31) → List (S37) → Int → Int → Option (Bool)
  | 0, _, _, _, _ => none
  | k + 1, x0, x7, x8, x9 => if x9 < x8 then (if 0 ≤ x9 then (if x9 < (x7.length : Int) then ((labels_Meets.f k x0 ((rd_T37 x7 x9).f0) ((rd_T37 x7 x9).f1) ((rd_T37 x7 x9).f2)).bind fun t188 => (if t188 = true then (labels_All.l0 k x0 x7 x8 (wrap64 (x9 + 1))) else (some false))) else (none)) else (none)) else (some true)
def labels_All.f (k : Nat) (l0 : List (S31)) (l1 : List (S37)) : Option (Bool) := labels_All.l0 k l0 l1 (l1.length : Int) 0
theorem labels_All.mono_l : ∀ k, (∀ y0 y1 y2 y3, LeO (labels_All.l0 k y0 y1 y2 y3) (labels_All.l0 (k + 1) y0 y1 y2 y3))
  | 0 => fun _ _ _ _ r h => by simp [labels_All.l0] at h
  | k + 1 => by
    have ih0 := labels_All.mono_l k
    · intro y0 y1 y2 y3
      unfold labels_All.l0
      repeat' first
      | (with_reducible exact ih0 _ _ _ _)
      | (with_reducible exact labels_Meets.mono _ _ _ _ _)
      | (with_reducible exact LeO.refl _)
      | (with_reducible exact LeO.none _)
      | (with_reducible refine LeO.ite ?_ ?_)
      | (with_reducible refine LeO.bind ?_ (fun _ => ?_))
      | exact ih0 _ _ _ _
      | exact labels_Meets.mono _ _ _ _ _
      | exact LeO.none _
      | refine LeO.ite ?_ ?_
      | refine LeO.bind ?_ (fun _ => ?_)
theorem labels_All.mono : ∀ a0 a1 k, LeO (labels_All.f k a0 a1) (labels_All.f (k + 1) a0 a1) := by
  intro a0 a1 k
  have ih0 := labels_All.mono_l k
  unfold labels_All.f
  repeat' first
      | (with_reducible exact ih0 _ _ _ _)
      | (with_reducible exact labels_Meets.mono _ _ _ _ _)
      | (with_reducible exact LeO.refl _)
      | (with_reducible exact LeO.none _)
      | (with_reducible refine LeO.ite ?_ ?_)
      | (with_reducible refine LeO.bind ?_ (fun _ => ?_))
      | exact ih0 _ _ _ _
      | exact labels_Meets.mono _ _ _ _ _
      | exact LeO.none _
      | refine LeO.ite ?_ ?_
      | refine LeO.bind ?_ (fun _ => ?_)
set_option maxHeartbeats 8000000 in
set_option maxRecDepth 100000 in
theorem labels_All.calls (k : Nat) (A0 : Option Addr) (c0 : Nat) (l0 : List (S31)) (A1 : Option Addr) (c1 : Nat) (l1 : List (S37)) (r : Bool) (w : World) (hr0 : Kd.C k31 w A0 l0.length l0) (hc0 : l0.length ≤ c0) (hr1 : Kd.C k37 w A1 l1.length l1) (hc1 : l1.length ≤ c1) (h : labels_All.f k l0 l1 = some r) :
    Calls Try.prog 21 #[.slice A0 l0.length c0, .slice A1 l1.length c1] w fun e w' => e = .returned (.bool r) ∧ Below w.heap.size w w' := by
  have hu37 := Try.underlying37
  have HR0 := Aside0.mk hr0
  have HC0 := Aside0.mk hc0
  clear hr0 hc0
  have HR1 := Aside0.mk hr1
  have HC1 := Aside0.mk hc1
  clear hr1 hc1
  have HB := Aside0.mk (Below.refl w.heap.size w)
  have H : (labels_All.l0 k l0 l1 (l1.length : Int) 0) = some r := h
  clear h
  have H' := Aside0.mk H
  clear H
  go_enter Try.func21, Try.ntmps21
  go_wp2
  go_loopg [9] k (fun kq v9 w' => ∃ (x9_1 : Int), v9 = .int .i64 x9_1 ∧ Aside0 (labels_All.l0 kq l0 l1 (l1.length : Int) x9_1 = some r) ∧ Aside0 (kq ≤ k) ∧ Aside0 (Below w.heap.size w w'))
  case atStart => exact ⟨(0), (by first | rfl | (simp; done) | (simp [*]; done)), H', ⟨Nat.le_refl _⟩, ⟨by repeat (first | (with_reducible first | exact HB.out | apply below_alloc | apply pw_below_drewN | apply below_drew1) | exact HB.out)⟩⟩
  case round =>
    clear H'
    try clear c1
    try clear c2
    try clear p2
    obtain ⟨x9_1, rfl, HA, HK1, HB⟩ := hrel
    cases gk with
    | zero => exact absurd HA.out (by simp [labels_All.l0])
    | succ k1 =>
      have H := HA.out
      clear HA
      simp only [labels_All.l0] at H
      by_cases c3 : x9_1 < (l1.length : Int)
      · rw [if_pos c3] at H
        have c3b0 : decide (x9_1 < (l1.length : Int)) = true := decide_eq_true c3
        clear c3
        by_cases c4 : 0 ≤ x9_1
        · rw [if_pos c4] at H
          have c4b0 : decide (0 ≤ x9_1) = true := decide_eq_true c4
          clear c4
          by_cases c5 : x9_1 < (l1.length : Int)
          · rw [if_pos c5] at H
            have c5b0 : decide (x9_1 < (l1.length : Int)) = true := decide_eq_true c5
            clear c5
            replace H := Option.bind_eq_some_iff.mp H
            obtain ⟨t188, A60, H⟩ := H
            replace H : (if t188 = true then (labels_All.l0 k1 l0 l1 (l1.length : Int) (wrap64 (x9_1 + 1))) else (some false)) = some r := H
            have A6 := Aside0.mk A60
            clear A60
            by_cases c7 : t188 = true
            · subst c7
              have H1 : (labels_All.l0 k1 l0 l1 (l1.length : Int) (wrap64 (x9_1 + 1))) = some r := by rw [if_pos rfl] at H; exact H
              clear H
              have H := H1
              clear H1
              have H' := Aside0.mk H
              clear H
              have p186 : 0 ≤ (x9_1 : Int) := of_decide_eq_true (by first | (with_reducible assumption) | assumption)
              have q186 : x9_1 < (l1.length : Int) := of_decide_eq_true (by first | (with_reducible assumption) | assumption)
              obtain ⟨ad186, A186_2, c186_2, e186, hx186_0, hx186_1, hx186_2, hl186_2, hi186_2⟩ := at_T37 HR1.out x9_1 p186 q186
              cases e186
              replace hx186_0 := (HB.out.cell (World.block_lt_of_cell? w _ hx186_0)).trans hx186_0
              replace hx186_1 := (HB.out.cell (World.block_lt_of_cell? w _ hx186_1)).trans hx186_1
              replace hx186_2 := (HB.out.cell (World.block_lt_of_cell? w _ hx186_2)).trans hx186_2
              have HR186_2 := Aside0.mk hi186_2
              have HC186_2 := Aside0.mk hl186_2
              clear hi186_2 hl186_2
              replace p186 := eq_true p186
              replace q186 := eq_true q186
              go_wp2_with (first | ((with_reducible refine gate_dst (N := 6) rfl ?_); refine box_event ?hg (N := 6) ?hd (cs := #[.string (⟨#[]⟩ : ByteArray), .int .i64 0, .slice none 0 0]) (t := 37) ?hr ?_; (case hd => rfl); (case hg => rfl); (case hr => first | (go_simp; done) | (go_simp; rfl)); intro gb187 hg w8 hbox hb; have n0_ := Aside0.mk (below_step (by repeat (first | (with_reducible first | exact HB.out | apply below_alloc | apply pw_below_drewN | apply below_drew1) | exact HB.out)) hb); have n1_ := Aside0.mk (hbox); have n2_ := Aside0.mk ((by rw [hg]; exact (below_size (by repeat (first | (with_reducible first | exact HB.out | apply below_alloc | apply pw_below_drewN | apply below_drew1) | exact HB.out))) : w.heap.size ≤ gb187)); have n3_ := Aside0.mk ((by rw [hg]; exact (below_size (by repeat (first | (with_reducible first | exact HB.out | apply below_alloc | apply pw_below_drewN | apply below_drew1) | exact HB.out))) : w.heap.size ≤ gb187)); clear HB; have HB := n0_; have BK187 := n1_; have GW187 := n2_; have GE187 := n3_; clear n0_ n1_ n2_ n3_; clear hb hbox hg; have hcz9_0 : w8.cell? ⟨gb187, 0, none⟩ = some (.string (⟨#[]⟩ : ByteArray)) := (blk_cell BK187.out 0).trans rfl; have hcz9_1 : w8.cell? ⟨gb187, 1, none⟩ = some (.int .i64 0) := (blk_cell BK187.out 1).trans rfl; have hcz9_2 : w8.cell? ⟨gb187, 2, none⟩ = some (.slice none 0 0) := (blk_cell BK187.out 2).trans rfl; have hfz9_0 := blk_frozen BK187.out 0; have hfz9_1 := blk_frozen BK187.out 1; have hfz9_2 := blk_frozen BK187.out 2) | ((first | ((with_reducible refine gate_callee (f := 17) rfl ?_); refine goesL_ (some 15) rfl rfl Try.func17 (by kernel_rfl) rfl #[.slice A0 l0.length c0, .agg #[.string ((rd_T37 l1 x9_1).f0), .int .i64 ((rd_T37 l1 x9_1).f1), .slice A186_2 ((rd_T37 l1 x9_1).f2).length c186_2]] rfl (by (try simp only [List.map_toArray, List.map_cons, List.map_nil]); first | done | rfl | (simp only [List.length_drop, List.length_take]; rfl)) ?_; (with_reducible refine (labels_Meets.calls k1 _ _ l0 ((rd_T37 l1 x9_1).f0) ((rd_T37 l1 x9_1).f1) _ _ ((rd_T37 l1 x9_1).f2) true _ ?side1 ?side2 ?side3 ?side4 A6.out).mono ?_); (case side1 => exact Kd.C_below HR0.out (by repeat (first | (with_reducible first | exact HB.out | apply below_alloc | apply pw_below_drewN | apply below_drew1 | refine below_set ?_ GE187.out) | exact HB.out))); (case side2 => exact HC0.out); (case side3 => exact Kd.C_below HR186_2.out (by repeat (first | (with_reducible first | exact HB.out | apply below_alloc | apply pw_below_drewN | apply below_drew1 | refine below_set ?_ GE187.out) | exact HB.out))); (case side4 => exact HC186_2.out); rintro e w10 ⟨rfl, hb⟩; refine ⟨_, rfl, ?_⟩) | (go_at_call 17; (with_reducible refine (labels_Meets.calls k1 _ _ l0 ((rd_T37 l1 x9_1).f0) ((rd_T37 l1 x9_1).f1) _ _ ((rd_T37 l1 x9_1).f2) true _ ?side1 ?side2 ?side3 ?side4 A6.out).mono ?_); (case side1 => exact Kd.C_below HR0.out (by repeat (first | (with_reducible first | exact HB.out | apply below_alloc | apply pw_below_drewN | apply below_drew1 | refine below_set ?_ GE187.out) | exact HB.out))); (case side2 => exact HC0.out); (case side3 => exact Kd.C_below HR186_2.out (by repeat (first | (with_reducible first | exact HB.out | apply below_alloc | apply pw_below_drewN | apply below_drew1 | refine below_set ?_ GE187.out) | exact HB.out))); (case side4 => exact HC186_2.out); rintro e w10 ⟨rfl, hb⟩)); have n0_ := Aside0.mk (blk_below (g := gb187) (o := .cells #[.string ((rd_T37 l1 x9_1).f0), .int .i64 ((rd_T37 l1 x9_1).f1), .slice A186_2 ((rd_T37 l1 x9_1).f2).length c186_2] 37 (0, 0)) (by (with_reducible repeat (first | refine blk_drewN ?_ _ | refine blk_drew ?_ | refine blk_alloc ?_ _)); refine blk_put (cs := #[.string ((rd_T37 l1 x9_1).f0), .int .i64 ((rd_T37 l1 x9_1).f1), .slice none 0 0]) ?_ 2 _ rfl; (with_reducible repeat (first | refine blk_drewN ?_ _ | refine blk_drew ?_ | refine blk_alloc ?_ _)); refine blk_put (cs := #[.string ((rd_T37 l1 x9_1).f0), .int .i64 0, .slice none 0 0]) ?_ 1 _ rfl; (with_reducible repeat (first | refine blk_drewN ?_ _ | refine blk_drew ?_ | refine blk_alloc ?_ _)); refine blk_put (cs := #[.string (⟨#[]⟩ : ByteArray), .int .i64 0, .slice none 0 0]) ?_ 0 _ rfl; (with_reducible repeat (first | refine blk_drewN ?_ _ | refine blk_drew ?_ | refine blk_alloc ?_ _)); exact BK187.out) hb); have n1_ := Aside0.mk (below_step (by repeat (first | (with_reducible first | exact HB.out | apply below_alloc | apply pw_below_drewN | apply below_drew1 | refine below_set ?_ GE187.out) | exact HB.out)) hb); clear BK187; clear HB; have BK187 := n0_; have HB := n1_; clear n0_ n1_; (try clear hb); (try clear hb2); (try clear hk); (try clear hi)))
              go_roundg k1
              case measure => have := HK1.out; omega
              case rel => exact ⟨(wrap64 (x9_1 + 1)), (by first | rfl | (simp; done) | (simp [*]; done)), H', ⟨by have := HK1.out; omega⟩, ⟨by repeat (first | (with_reducible first | exact HB.out | apply below_alloc | apply pw_below_drewN | apply below_drew1 | refine below_set ?_ GE187.out) | exact HB.out)⟩⟩
            · replace c7 := Bool.eq_false_iff.mpr c7
              subst c7
              have H1 : (some false) = some r := by rw [if_neg (show ¬ (false = true) by decide)] at H; exact H
              clear H
              have H := H1
              clear H1
              obtain rfl := Option.some.inj H
              have p186 : 0 ≤ (x9_1 : Int) := of_decide_eq_true (by first | (with_reducible assumption) | assumption)
              have q186 : x9_1 < (l1.length : Int) := of_decide_eq_true (by first | (with_reducible assumption) | assumption)
              obtain ⟨ad186, A186_2, c186_2, e186, hx186_0, hx186_1, hx186_2, hl186_2, hi186_2⟩ := at_T37 HR1.out x9_1 p186 q186
              cases e186
              replace hx186_0 := (HB.out.cell (World.block_lt_of_cell? w _ hx186_0)).trans hx186_0
              replace hx186_1 := (HB.out.cell (World.block_lt_of_cell? w _ hx186_1)).trans hx186_1
              replace hx186_2 := (HB.out.cell (World.block_lt_of_cell? w _ hx186_2)).trans hx186_2
              have HR186_2 := Aside0.mk hi186_2
              have HC186_2 := Aside0.mk hl186_2
              clear hi186_2 hl186_2
              replace p186 := eq_true p186
              replace q186 := eq_true q186
              go_wp2_with (first | ((with_reducible refine gate_dst (N := 6) rfl ?_); refine box_event ?hg (N := 6) ?hd (cs := #[.string (⟨#[]⟩ : ByteArray), .int .i64 0, .slice none 0 0]) (t := 37) ?hr ?_; (case hd => rfl); (case hg => rfl); (case hr => first | (go_simp; done) | (go_simp; rfl)); intro gb187 hg w11 hbox hb; have n0_ := Aside0.mk (below_step (by repeat (first | (with_reducible first | exact HB.out | apply below_alloc | apply pw_below_drewN | apply below_drew1) | exact HB.out)) hb); have n1_ := Aside0.mk (hbox); have n2_ := Aside0.mk ((by rw [hg]; exact (below_size (by repeat (first | (with_reducible first | exact HB.out | apply below_alloc | apply pw_below_drewN | apply below_drew1) | exact HB.out))) : w.heap.size ≤ gb187)); have n3_ := Aside0.mk ((by rw [hg]; exact (below_size (by repeat (first | (with_reducible first | exact HB.out | apply below_alloc | apply pw_below_drewN | apply below_drew1) | exact HB.out))) : w.heap.size ≤ gb187)); clear HB; have HB := n0_; have BK187 := n1_; have GW187 := n2_; have GE187 := n3_; clear n0_ n1_ n2_ n3_; clear hb hbox hg; have hcz12_0 : w11.cell? ⟨gb187, 0, none⟩ = some (.string (⟨#[]⟩ : ByteArray)) := (blk_cell BK187.out 0).trans rfl; have hcz12_1 : w11.cell? ⟨gb187, 1, none⟩ = some (.int .i64 0) := (blk_cell BK187.out 1).trans rfl; have hcz12_2 : w11.cell? ⟨gb187, 2, none⟩ = some (.slice none 0 0) := (blk_cell BK187.out 2).trans rfl; have hfz12_0 := blk_frozen BK187.out 0; have hfz12_1 := blk_frozen BK187.out 1; have hfz12_2 := blk_frozen BK187.out 2) | ((first | ((with_reducible refine gate_callee (f := 17) rfl ?_); refine goesL_ (some 15) rfl rfl Try.func17 (by kernel_rfl) rfl #[.slice A0 l0.length c0, .agg #[.string ((rd_T37 l1 x9_1).f0), .int .i64 ((rd_T37 l1 x9_1).f1), .slice A186_2 ((rd_T37 l1 x9_1).f2).length c186_2]] rfl (by (try simp only [List.map_toArray, List.map_cons, List.map_nil]); first | done | rfl | (simp only [List.length_drop, List.length_take]; rfl)) ?_; (with_reducible refine (labels_Meets.calls k1 _ _ l0 ((rd_T37 l1 x9_1).f0) ((rd_T37 l1 x9_1).f1) _ _ ((rd_T37 l1 x9_1).f2) false _ ?side1 ?side2 ?side3 ?side4 A6.out).mono ?_); (case side1 => exact Kd.C_below HR0.out (by repeat (first | (with_reducible first | exact HB.out | apply below_alloc | apply pw_below_drewN | apply below_drew1 | refine below_set ?_ GE187.out) | exact HB.out))); (case side2 => exact HC0.out); (case side3 => exact Kd.C_below HR186_2.out (by repeat (first | (with_reducible first | exact HB.out | apply below_alloc | apply pw_below_drewN | apply below_drew1 | refine below_set ?_ GE187.out) | exact HB.out))); (case side4 => exact HC186_2.out); rintro e w13 ⟨rfl, hb⟩; refine ⟨_, rfl, ?_⟩) | (go_at_call 17; (with_reducible refine (labels_Meets.calls k1 _ _ l0 ((rd_T37 l1 x9_1).f0) ((rd_T37 l1 x9_1).f1) _ _ ((rd_T37 l1 x9_1).f2) false _ ?side1 ?side2 ?side3 ?side4 A6.out).mono ?_); (case side1 => exact Kd.C_below HR0.out (by repeat (first | (with_reducible first | exact HB.out | apply below_alloc | apply pw_below_drewN | apply below_drew1 | refine below_set ?_ GE187.out) | exact HB.out))); (case side2 => exact HC0.out); (case side3 => exact Kd.C_below HR186_2.out (by repeat (first | (with_reducible first | exact HB.out | apply below_alloc | apply pw_below_drewN | apply below_drew1 | refine below_set ?_ GE187.out) | exact HB.out))); (case side4 => exact HC186_2.out); rintro e w13 ⟨rfl, hb⟩)); have n0_ := Aside0.mk (blk_below (g := gb187) (o := .cells #[.string ((rd_T37 l1 x9_1).f0), .int .i64 ((rd_T37 l1 x9_1).f1), .slice A186_2 ((rd_T37 l1 x9_1).f2).length c186_2] 37 (0, 0)) (by (with_reducible repeat (first | refine blk_drewN ?_ _ | refine blk_drew ?_ | refine blk_alloc ?_ _)); refine blk_put (cs := #[.string ((rd_T37 l1 x9_1).f0), .int .i64 ((rd_T37 l1 x9_1).f1), .slice none 0 0]) ?_ 2 _ rfl; (with_reducible repeat (first | refine blk_drewN ?_ _ | refine blk_drew ?_ | refine blk_alloc ?_ _)); refine blk_put (cs := #[.string ((rd_T37 l1 x9_1).f0), .int .i64 0, .slice none 0 0]) ?_ 1 _ rfl; (with_reducible repeat (first | refine blk_drewN ?_ _ | refine blk_drew ?_ | refine blk_alloc ?_ _)); refine blk_put (cs := #[.string (⟨#[]⟩ : ByteArray), .int .i64 0, .slice none 0 0]) ?_ 0 _ rfl; (with_reducible repeat (first | refine blk_drewN ?_ _ | refine blk_drew ?_ | refine blk_alloc ?_ _)); exact BK187.out) hb); have n1_ := Aside0.mk (below_step (by repeat (first | (with_reducible first | exact HB.out | apply below_alloc | apply pw_below_drewN | apply below_drew1 | refine below_set ?_ GE187.out) | exact HB.out)) hb); clear BK187; clear HB; have BK187 := n0_; have HB := n1_; clear n0_ n1_; (try clear hb); (try clear hb2); (try clear hk); (try clear hi)))
              go_ret
              exact ⟨by first | rfl | (simp [errW_none, errW_some] <;> rfl) | (simp [*, errW_none, errW_some] <;> rfl), by repeat (first | (with_reducible first | exact HB.out | apply below_alloc | apply pw_below_drewN | apply below_drew1 | refine below_set ?_ GE187.out) | exact HB.out)⟩
          · rw [if_neg c5] at H
            exact absurd H (by simp)
        · rw [if_neg c4] at H
          exact absurd H (by simp)
      · rw [if_neg c3] at H
        have c3b0 : decide (x9_1 < (l1.length : Int)) = false := decide_eq_false c3
        clear c3
        obtain rfl := Option.some.inj H
        go_wp2
        go_ret
        exact ⟨by first | rfl | (simp [errW_none, errW_some] <;> rfl) | (simp [*, errW_none, errW_some] <;> rfl), by repeat (first | (with_reducible first | exact HB.out | apply below_alloc | apply pw_below_drewN | apply below_drew1) | exact HB.out)⟩
end Go.Proofs.Ytcnaefnlnjfjkaa.H
end
section
namespace Go.Proofs.Ytcnaefnlnjfjkaa.H
open Go.RowKit Go.Proofs.YtcnaefnlnjfjkaaW.PrintWords Go.Proofs.YtcnaefnlnjfjkaaW.PrintLast Go.Proofs.YtcnaefnlnjfjkaaW.PrintMore
attribute [local go_sem] max2_int min2_int max_two min_two max_three min_three max_four min_four   -- for this text's walks alone
set_option linter.unusedVariables false
set_option linter.unusedSimpArgs false
def lex_plain.f (a0 : Int) : Option (Bool) := if a0 = 40 then (some false) else (if a0 = 41 then (some false) else (if a0 = 34 then (some false) else (if a0 = 59 then (some false) else (if a0 = 127 then (some false) else (some (decide (a0 > 32)))))))
set_option maxHeartbeats 8000000 in
set_option maxRecDepth 100000 in
theorem lex_plain.calls (a0 : Int) (r : Bool) (w : World) (h : lex_plain.f a0 = some r) :
    Calls Try.prog 42 #[.int .i32 a0] w fun e w' => e = .returned (.bool r) ∧ Drawn0 w w' := by
  have H : (if a0 = 40 then (some false) else (if a0 = 41 then (some false) else (if a0 = 34 then (some false) else (if a0 = 59 then (some false) else (if a0 = 127 then (some false) else (some (decide (a0 > 32)))))))) = some r := h
  clear h
  by_cases c2 : a0 = 40
  · rw [if_pos c2] at H
    have c2b0 : (a0 == 40) = true := beq_iff_eq.mpr c2
    have c2b1 : (a0 != 40) = false := bne_eq_false_iff_eq.mpr c2
    clear c2
    obtain rfl := Option.some.inj H
    go_enter Try.func42, Try.ntmps42
    go_wp2
    go_ret
    exact ⟨by first | rfl | (simp; done) | (simp [*]; done), by repeat (first | exact Drawn0.refl _ | apply Drawn0.step)⟩
  · rw [if_neg c2] at H
    have c2b0 : (a0 == 40) = false := beq_eq_false_iff_ne.mpr c2
    have c2b1 : (a0 != 40) = true := bne_iff_ne.mpr c2
    by_cases c3 : a0 = 41
    · rw [if_pos c3] at H
      have c3b0 : (a0 == 41) = true := beq_iff_eq.mpr c3
      have c3b1 : (a0 != 41) = false := bne_eq_false_iff_eq.mpr c3
      clear c3
      obtain rfl := Option.some.inj H
      go_enter Try.func42, Try.ntmps42
      go_wp2
      go_ret
      exact ⟨by first | rfl | (simp; done) | (simp [*]; done), by repeat (first | exact Drawn0.refl _ | apply Drawn0.step)⟩
    · rw [if_neg c3] at H
      have c3b0 : (a0 == 41) = false := beq_eq_false_iff_ne.mpr c3
      have c3b1 : (a0 != 41) = true := bne_iff_ne.mpr c3
      by_cases c4 : a0 = 34
      · rw [if_pos c4] at H
        have c4b0 : (a0 == 34) = true := beq_iff_eq.mpr c4
        have c4b1 : (a0 != 34) = false := bne_eq_false_iff_eq.mpr c4
        clear c4
        obtain rfl := Option.some.inj H
        go_enter Try.func42, Try.ntmps42
        go_wp2
        go_ret
        exact ⟨by first | rfl | (simp; done) | (simp [*]; done), by repeat (first | exact Drawn0.refl _ | apply Drawn0.step)⟩
      · rw [if_neg c4] at H
        have c4b0 : (a0 == 34) = false := beq_eq_false_iff_ne.mpr c4
        have c4b1 : (a0 != 34) = true := bne_iff_ne.mpr c4
        by_cases c5 : a0 = 59
        · rw [if_pos c5] at H
          have c5b0 : (a0 == 59) = true := beq_iff_eq.mpr c5
          have c5b1 : (a0 != 59) = false := bne_eq_false_iff_eq.mpr c5
          clear c5
          obtain rfl := Option.some.inj H
          go_enter Try.func42, Try.ntmps42
          go_wp2
          go_ret
          exact ⟨by first | rfl | (simp; done) | (simp [*]; done), by repeat (first | exact Drawn0.refl _ | apply Drawn0.step)⟩
        · rw [if_neg c5] at H
          have c5b0 : (a0 == 59) = false := beq_eq_false_iff_ne.mpr c5
          have c5b1 : (a0 != 59) = true := bne_iff_ne.mpr c5
          by_cases c6 : a0 = 127
          · rw [if_pos c6] at H
            have c6b0 : (a0 == 127) = true := beq_iff_eq.mpr c6
            have c6b1 : (a0 != 127) = false := bne_eq_false_iff_eq.mpr c6
            clear c6
            obtain rfl := Option.some.inj H
            go_enter Try.func42, Try.ntmps42
            go_wp2
            go_ret
            exact ⟨by first | rfl | (simp; done) | (simp [*]; done), by repeat (first | exact Drawn0.refl _ | apply Drawn0.step)⟩
          · rw [if_neg c6] at H
            have c6b0 : (a0 == 127) = false := beq_eq_false_iff_ne.mpr c6
            have c6b1 : (a0 != 127) = true := bne_iff_ne.mpr c6
            obtain rfl := Option.some.inj H
            go_enter Try.func42, Try.ntmps42
            go_wp2
            go_ret
            exact ⟨by first | rfl | (simp; done) | (simp [*]; done), by repeat (first | exact Drawn0.refl _ | apply Drawn0.step)⟩
end Go.Proofs.Ytcnaefnlnjfjkaa.H
end
section
namespace Go.Proofs.Ytcnaefnlnjfjkaa.H
open Go.RowKit Go.Proofs.YtcnaefnlnjfjkaaW.PrintWords Go.Proofs.YtcnaefnlnjfjkaaW.PrintLast Go.Proofs.YtcnaefnlnjfjkaaW.PrintMore
attribute [local go_sem] max2_int min2_int max_two min_two max_three min_three max_four min_four   -- for this text's walks alone
set_option linter.unusedVariables false
set_option linter.unusedSimpArgs false
def lex_right.f (a0 : ByteArray) (a1 : Int) (a2 : Int) : Option (Bool) := if a2 = 65533 then (if (wrap64 (a1 + 2)) < (a0.size : Int) then (if 0 ≤ a1 then (if a1 < (a0.size : Int) then (if (bt a0 a1) = 239 then (if 0 ≤ (wrap64 (a1 + 1)) then (if (wrap64 (a1 + 1)) < (a0.size : Int) then (if (bt a0 (wrap64 (a1 + 1))) = 191 then (if 0 ≤ (wrap64 (a1 + 2)) then (some ((bt a0 (wrap64 (a1 + 2))) == 189)) else (none)) else (some false)) else (none)) else (none)) else (some false)) else (none)) else (none)) else (some false)) else (some true)
set_option maxHeartbeats 8000000 in
set_option maxRecDepth 100000 in
theorem lex_right.calls (a0 : ByteArray) (a1 : Int) (a2 : Int) (r : Bool) (w : World) (h : lex_right.f a0 a1 a2 = some r) :
    Calls Try.prog 47 #[.string a0, .int .i64 a1, .int .i32 a2] w fun e w' => e = .returned (.bool r) ∧ Drawn0 w w' := by
  have H : (if a2 = 65533 then (if (wrap64 (a1 + 2)) < (a0.size : Int) then (if 0 ≤ a1 then (if a1 < (a0.size : Int) then (if (bt a0 a1) = 239 then (if 0 ≤ (wrap64 (a1 + 1)) then (if (wrap64 (a1 + 1)) < (a0.size : Int) then (if (bt a0 (wrap64 (a1 + 1))) = 191 then (if 0 ≤ (wrap64 (a1 + 2)) then (some ((bt a0 (wrap64 (a1 + 2))) == 189)) else (none)) else (some false)) else (none)) else (none)) else (some false)) else (none)) else (none)) else (some false)) else (some true)) = some r := h
  clear h
  by_cases c4 : a2 = 65533
  · rw [if_pos c4] at H
    have c4b0 : (a2 == 65533) = true := beq_iff_eq.mpr c4
    have c4b1 : (a2 != 65533) = false := bne_eq_false_iff_eq.mpr c4
    clear c4
    by_cases c5 : (wrap64 (a1 + 2)) < (a0.size : Int)
    · rw [if_pos c5] at H
      have c5b0 : decide ((wrap64 (a1 + 2)) < (a0.size : Int)) = true := decide_eq_true c5
      clear c5
      by_cases c6 : 0 ≤ a1
      · rw [if_pos c6] at H
        have c6b0 : decide (0 ≤ a1) = true := decide_eq_true c6
        clear c6
        by_cases c7 : a1 < (a0.size : Int)
        · rw [if_pos c7] at H
          have c7b0 : decide (a1 < (a0.size : Int)) = true := decide_eq_true c7
          clear c7
          by_cases c9 : (bt a0 a1) = 239
          · rw [if_pos c9] at H
            have c9b0 : ((bt a0 a1) == 239) = true := beq_iff_eq.mpr c9
            have c9b1 : ((bt a0 a1) != 239) = false := bne_eq_false_iff_eq.mpr c9
            clear c9
            obtain ⟨ji10, hji10⟩ : ∃ j_ : Int, (wrap64 (a1 + 1)) = j_ := ⟨_, rfl⟩
            replace H : (if 0 ≤ (ji10) then (if (ji10) < (a0.size : Int) then (if (bt a0 (ji10)) = 191 then (if 0 ≤ (wrap64 (a1 + 2)) then (some ((bt a0 (wrap64 (a1 + 2))) == 189)) else (none)) else (some false)) else (none)) else (none)) = some r := by first | (rw [hji10] at H; exact H) | (simp only [hji10] at H ⊢; exact H)
            have hji10w : (IntKind.i64.wrap (a1 + 1)) = ji10 := (i64_w _).trans hji10
            by_cases c11 : 0 ≤ (ji10)
            · rw [if_pos c11] at H
              have c11b0 : decide (0 ≤ (ji10)) = true := decide_eq_true c11
              clear c11
              by_cases c12 : (ji10) < (a0.size : Int)
              · rw [if_pos c12] at H
                have c12b0 : decide ((ji10) < (a0.size : Int)) = true := decide_eq_true c12
                clear c12
                by_cases c14 : (bt a0 (ji10)) = 191
                · rw [if_pos c14] at H
                  have c14b0 : ((bt a0 (ji10)) == 191) = true := beq_iff_eq.mpr c14
                  have c14b1 : ((bt a0 (ji10)) != 191) = false := bne_eq_false_iff_eq.mpr c14
                  clear c14
                  obtain ⟨ji15, hji15⟩ : ∃ j_ : Int, (wrap64 (a1 + 2)) = j_ := ⟨_, rfl⟩
                  replace H : (if 0 ≤ (ji15) then (some ((bt a0 (ji15)) == 189)) else (none)) = some r := by first | (rw [hji15] at H; exact H) | (simp only [hji15] at H ⊢; exact H)
                  (try rw [hji15] at c5b0)
                  have hji15w : (IntKind.i64.wrap (a1 + 2)) = ji15 := (i64_w _).trans hji15
                  by_cases c16 : 0 ≤ (ji15)
                  · rw [if_pos c16] at H
                    have c16b0 : decide (0 ≤ (ji15)) = true := decide_eq_true c16
                    clear c16
                    obtain rfl := Option.some.inj H
                    have p8 : 0 ≤ (a1 : Int) := of_decide_eq_true (by first | (with_reducible assumption) | assumption)
                    have q8 : a1 < (a0.size : Int) := of_decide_eq_true (by first | (with_reducible assumption) | assumption)
                    have hx8 := bt_at a0 a1
                    replace p8 := eq_true p8
                    replace q8 := eq_true q8
                    have p13 : 0 ≤ ((ji10) : Int) := of_decide_eq_true (by first | (with_reducible assumption) | assumption)
                    have q13 : (ji10) < (a0.size : Int) := of_decide_eq_true (by first | (with_reducible assumption) | assumption)
                    have hx13 := bt_at a0 (ji10)
                    replace p13 := eq_true p13
                    replace q13 := eq_true q13
                    have p17 : 0 ≤ ((ji15) : Int) := of_decide_eq_true (by first | (with_reducible assumption) | assumption)
                    have q17 : (ji15) < (a0.size : Int) := of_decide_eq_true (by first | (with_reducible assumption) | assumption)
                    have hx17 := bt_at a0 (ji15)
                    replace p17 := eq_true p17
                    replace q17 := eq_true q17
                    go_enter Try.func47, Try.ntmps47
                    go_wp2
                    go_ret
                    exact ⟨by first | rfl | (simp; done) | (simp only [← hji10, ← hji15] <;> (first | rfl | simp)) | (simp [*]; done), by repeat (first | exact Drawn0.refl _ | apply Drawn0.step)⟩
                  · rw [if_neg c16] at H
                    exact absurd H (by simp)
                · rw [if_neg c14] at H
                  have c14b0 : ((bt a0 (ji10)) == 191) = false := beq_eq_false_iff_ne.mpr c14
                  have c14b1 : ((bt a0 (ji10)) != 191) = true := bne_iff_ne.mpr c14
                  obtain rfl := Option.some.inj H
                  have p8 : 0 ≤ (a1 : Int) := of_decide_eq_true (by first | (with_reducible assumption) | assumption)
                  have q8 : a1 < (a0.size : Int) := of_decide_eq_true (by first | (with_reducible assumption) | assumption)
                  have hx8 := bt_at a0 a1
                  replace p8 := eq_true p8
                  replace q8 := eq_true q8
                  have p13 : 0 ≤ ((ji10) : Int) := of_decide_eq_true (by first | (with_reducible assumption) | assumption)
                  have q13 : (ji10) < (a0.size : Int) := of_decide_eq_true (by first | (with_reducible assumption) | assumption)
                  have hx13 := bt_at a0 (ji10)
                  replace p13 := eq_true p13
                  replace q13 := eq_true q13
                  go_enter Try.func47, Try.ntmps47
                  go_wp2
                  go_ret
                  exact ⟨by first | rfl | (simp; done) | (simp only [← hji10] <;> (first | rfl | simp)) | (simp [*]; done), by repeat (first | exact Drawn0.refl _ | apply Drawn0.step)⟩
              · rw [if_neg c12] at H
                exact absurd H (by simp)
            · rw [if_neg c11] at H
              exact absurd H (by simp)
          · rw [if_neg c9] at H
            have c9b0 : ((bt a0 a1) == 239) = false := beq_eq_false_iff_ne.mpr c9
            have c9b1 : ((bt a0 a1) != 239) = true := bne_iff_ne.mpr c9
            obtain rfl := Option.some.inj H
            have p8 : 0 ≤ (a1 : Int) := of_decide_eq_true (by first | (with_reducible assumption) | assumption)
            have q8 : a1 < (a0.size : Int) := of_decide_eq_true (by first | (with_reducible assumption) | assumption)
            have hx8 := bt_at a0 a1
            replace p8 := eq_true p8
            replace q8 := eq_true q8
            go_enter Try.func47, Try.ntmps47
            go_wp2
            go_ret
            exact ⟨by first | rfl | (simp; done) | (simp [*]; done), by repeat (first | exact Drawn0.refl _ | apply Drawn0.step)⟩
        · rw [if_neg c7] at H
          exact absurd H (by simp)
      · rw [if_neg c6] at H
        exact absurd H (by simp)
    · rw [if_neg c5] at H
      have c5b0 : decide ((wrap64 (a1 + 2)) < (a0.size : Int)) = false := decide_eq_false c5
      clear c5
      obtain rfl := Option.some.inj H
      go_enter Try.func47, Try.ntmps47
      go_wp2
      go_ret
      exact ⟨by first | rfl | (simp; done) | (simp [*]; done), by repeat (first | exact Drawn0.refl _ | apply Drawn0.step)⟩
  · rw [if_neg c4] at H
    have c4b0 : (a2 == 65533) = false := beq_eq_false_iff_ne.mpr c4
    have c4b1 : (a2 != 65533) = true := bne_iff_ne.mpr c4
    obtain rfl := Option.some.inj H
    go_enter Try.func47, Try.ntmps47
    go_wp2
    go_ret
    exact ⟨by first | rfl | (simp; done) | (simp [*]; done), by repeat (first | exact Drawn0.refl _ | apply Drawn0.step)⟩
end Go.Proofs.Ytcnaefnlnjfjkaa.H
end
section
namespace Go.Proofs.Ytcnaefnlnjfjkaa.H
open Go.RowKit Go.Proofs.YtcnaefnlnjfjkaaW.PrintWords Go.Proofs.YtcnaefnlnjfjkaaW.PrintLast Go.Proofs.YtcnaefnlnjfjkaaW.PrintMore
attribute [local go_sem] max2_int min2_int max_two min_two max_three min_three max_four min_four   -- for this text's walks alone
set_option linter.unusedVariables false
set_option linter.unusedSimpArgs false
def lexRightB (s : ByteArray) (pos : Nat) : Bool :=
  !(((Utf8.decode s pos).1 : Int) == 65533) || (decide (pos + 2 < s.size) && ((bt s pos == 239) && ((bt s ((pos : Int) + 1) == 191) && (bt s ((pos : Int) + 2) == 189))))
theorem lexRightB_f (s : ByteArray) (pos : Nat) (hp : pos < s.size) (hs : s.size ≤ 140737488351232) : lex_right.f s pos ((Utf8.decode s pos).1 : Int) = some (lexRightB s pos) := by
  have w1 : wrap64 ((pos : Int) + 1) = (pos : Int) + 1 := by unfold wrap64; omega
  have w2 : wrap64 ((pos : Int) + 2) = (pos : Int) + 2 := by unfold wrap64; omega
  unfold lex_right.f lexRightB
  rw [w1, w2]
  by_cases h : ((Utf8.decode s pos).1 : Int) = 65533
  · rw [if_pos h]
    by_cases h2 : (pos : Int) + 2 < s.size
    · rw [if_pos h2, if_pos (by omega), if_pos (by omega), if_pos (show (0:Int) ≤ (pos : Int) + 1 by omega), if_pos (show (pos : Int) + 1 < s.size by omega), if_pos (show (0:Int) ≤ (pos : Int) + 2 by omega)]
      have h3 : pos + 2 < s.size := by omega
      by_cases e1 : bt s pos = 239 <;> by_cases e2 : bt s ((pos : Int) + 1) = 191 <;> simp [h, h3, e1, e2]
    · rw [if_neg h2]
      have h3 : ¬ pos + 2 < s.size := by omega
      simp [h, h3]
  · rw [if_neg h]
    simp [h]
def lexRunes (s : ByteArray) : Nat → Nat → Int → Int
  | 0, _, n => n
  | b + 1, pos, n => if pos < s.size then (if lexRightB s pos = true then lexRunes s b (pos + (Utf8.decode s pos).2) (n + 1) else -1) else n
theorem lex_width (s : ByteArray) (pos : Nat) (h : pos < s.size) : 1 ≤ (Utf8.decode s pos).2 := by
  by_cases ha : (s[pos]'h).toNat < 128
  · rw [decode_ascii s pos h ha]
    exact Nat.le_refl _
  · exact (decode_high s pos h (by omega)).2
theorem lexRunes_end (s : ByteArray) (b pos : Nat) (n : Int) (h : ¬ pos < s.size) : lexRunes s b pos n = n := by
  cases b with
  | zero => rfl
  | succ b => simp [lexRunes, h]
theorem lexRunes_step (s : ByteArray) (b pos : Nat) (n : Int) (h : pos < s.size) (hb : s.size ≤ pos + b) : ∃ b', b = b' + 1 ∧ lexRunes s b pos n = if lexRightB s pos = true then lexRunes s b' (pos + (Utf8.decode s pos).2) (n + 1) else -1 := by
  cases b with
  | zero => omega
  | succ b => exact ⟨b, rfl, by simp [lexRunes, h]⟩
theorem lex_iter_drawn {w w' : World} (h : Drawn0 w w') {k : Nat} {s : ByteArray} {pos : Nat} (hk : w.heap[k]? = some (.stringIter s pos)) : w'.heap[k]? = some (.stringIter s pos) := by
  obtain ⟨n, rfl⟩ := h
  exact hk
theorem lex_iterPos {w : World} {k : Nat} {s : ByteArray} {pos : Nat} (hk : w.heap[k]? = some (.stringIter s pos)) : w.iterPos k = pos := by
  unfold World.iterPos
  rw [hk]
set_option maxHeartbeats 8000000 in
set_option maxRecDepth 100000 in
theorem lex_Runes.calls (s : ByteArray) (w : World) (hs : s.size ≤ 140737488351232) :
    Calls Try.prog 43 #[.string s] w fun e w' => e = .returned (.int .i64 (lexRunes s s.size 0 0)) ∧ Below w.heap.size w w' := by
  go_enter Try.func43, Try.ntmps43
  go_wp2
  go_loopw [3] (fun v w' => ∃ (pos b : Nat) (n : Int), v = .int .i64 n ∧ Aside0 (w'.heap[w.heap.size]? = some (.stringIter s pos)) ∧ Aside0 (Below w.heap.size w w') ∧ Aside0 (lexRunes s b pos n = lexRunes s s.size 0 0) ∧ s.size ≤ pos + b ∧ 0 ≤ n ∧ n ≤ pos) (fun _ w' => s.size - w'.iterPos w.heap.size)
  case atStart =>
    exact ⟨0, s.size, 0, rfl, ⟨World.iter_heap _ _ _⟩, ⟨(Below.refl _ _).alloc (Nat.le_refl _) _⟩, ⟨rfl⟩, by omega, by omega, by omega⟩
  case round =>
    obtain ⟨pos, b, n, rfl, HI, HB, HE, hb, hn0, hn1⟩ := hrel
    by_cases hp : pos < s.size
    · have hnx := fun ty => Lib.run_next_any_at (P := Try.prog) wr w.heap.size s pos ty HI.out hp
      have hlr : ∀ W : World, Calls Try.prog 47 #[.string s, .int .i64 pos, .int .i32 ((Utf8.decode s pos).1 : Int)] W fun e w' => e = .returned (.bool (lexRightB s pos)) ∧ Drawn0 W w' := fun W => lex_right.calls s pos _ _ W (lexRightB_f s pos hp hs)
      have HR := Aside0.mk hlr
      clear hlr
      obtain ⟨b', rfl, hst⟩ := lexRunes_step s b pos n hp hb
      have HS := Aside0.mk (HE.out.symm.trans hst)
      clear hst HE
      have hw := lex_width s pos hp
      cases hx : lexRightB s pos with
      | false =>
        rw [hx] at HR HS
        go_wp2_with (first | (go_at_call 47; refine (HR.out _).mono ?_; rintro e w2 ⟨rfl, hd⟩))
        go_ret
        have h1 := HS.out
        simp at h1
        refine ⟨by rw [h1]; rfl, ?_⟩
        exact below_then (Lib.below_iterAt HB.out (Nat.le_refl _) _ _) (by rw [Lib.iterAt_size]; exact HB.out.size) hd.below
      | true =>
        rw [hx] at HR HS
        go_wp2_with (first | (go_at_call 47; refine (HR.out _).mono ?_; rintro e w2 ⟨rfl, hd⟩))
        go_roundw
        case rel =>
          have h1 := HS.out
          simp only [if_true] at h1
          have hk := lex_iter_drawn hd (Lib.iterAt_heap wr w.heap.size s pos (pos + (Utf8.decode s pos).2) HI.out)
          exact ⟨pos + (Utf8.decode s pos).2, b', n + 1, rfl, ⟨hk⟩, ⟨below_then (Lib.below_iterAt HB.out (Nat.le_refl _) _ _) (by rw [Lib.iterAt_size]; exact HB.out.size) hd.below⟩, ⟨h1.symm⟩, by omega, by omega, by omega⟩
        case measure =>
          have hk := lex_iter_drawn hd (Lib.iterAt_heap wr w.heap.size s pos (pos + (Utf8.decode s pos).2) HI.out)
          have h2 := lex_iterPos hk
          have h3 := lex_iterPos HI.out
          rw [h2, h3]
          omega
    · have hnx := fun ty => Lib.run_next_end_at (P := Try.prog) wr w.heap.size s pos ty HI.out hp
      go_wp2
      go_ret
      have h1 := HE.out
      rw [lexRunes_end s b pos n hp] at h1
      exact ⟨by rw [← h1]; rfl, HB.out⟩
def lexPlainB (c : Int) : Bool := (lex_plain.f c).getD false
theorem lexPlainB_f (c : Int) : lex_plain.f c = some (lexPlainB c) := by
  unfold lexPlainB lex_plain.f
  repeat' split
  all_goals rfl
def lexHead (s : ByteArray) : Nat → Nat → Int × Bool
  | 0, _ => ((s.size : Int), true)
  | b + 1, pos => if pos < s.size then (if lexRightB s pos = true then (if lexPlainB ((Utf8.decode s pos).1 : Int) = true then lexHead s b (pos + (Utf8.decode s pos).2) else ((pos : Int), true)) else ((pos : Int), false)) else ((s.size : Int), true)
theorem lexHead_end (s : ByteArray) (b pos : Nat) (h : ¬ pos < s.size) : lexHead s b pos = ((s.size : Int), true) := by
  cases b with
  | zero => rfl
  | succ b => simp [lexHead, h]
theorem lexHead_step (s : ByteArray) (b pos : Nat) (h : pos < s.size) (hb : s.size ≤ pos + b) : ∃ b', b = b' + 1 ∧ lexHead s b pos = if lexRightB s pos = true then (if lexPlainB ((Utf8.decode s pos).1 : Int) = true then lexHead s b' (pos + (Utf8.decode s pos).2) else ((pos : Int), true)) else ((pos : Int), false) := by
  cases b with
  | zero => omega
  | succ b => exact ⟨b, rfl, by simp [lexHead, h]⟩
set_option maxHeartbeats 8000000 in
set_option maxRecDepth 100000 in
theorem lex_headPlain.calls (s : ByteArray) (w : World) (hs : s.size ≤ 140737488351232) :
    Calls Try.prog 41 #[.string s, .func (.func 42) #[] #[]] w fun e w' => e = .returned (.tuple #[.int .i64 (lexHead s s.size 0).1, .bool (lexHead s s.size 0).2]) ∧ Below w.heap.size w w' := by
  go_enter Try.func41, Try.ntmps41
  go_wp2
  go_loopw [] (fun w' => ∃ (pos b : Nat), Aside0 (w'.heap[w.heap.size]? = some (.stringIter s pos)) ∧ Aside0 (Below w.heap.size w w') ∧ Aside0 (lexHead s b pos = lexHead s s.size 0) ∧ s.size ≤ pos + b) (fun w' => s.size - w'.iterPos w.heap.size)
  case atStart =>
    exact ⟨0, s.size, ⟨World.iter_heap _ _ _⟩, ⟨(Below.refl _ _).alloc (Nat.le_refl _) _⟩, ⟨rfl⟩, by omega⟩
  case round =>
    obtain ⟨pos, b, HI, HB, HE, hb⟩ := hrel
    by_cases hp : pos < s.size
    · have hnx := fun ty => Lib.run_next_any_at (P := Try.prog) wr w.heap.size s pos ty HI.out hp
      have hlr : ∀ W : World, Calls Try.prog 47 #[.string s, .int .i64 pos, .int .i32 ((Utf8.decode s pos).1 : Int)] W fun e w' => e = .returned (.bool (lexRightB s pos)) ∧ Drawn0 W w' := fun W => lex_right.calls s pos _ _ W (lexRightB_f s pos hp hs)
      have HR := Aside0.mk hlr
      clear hlr
      have hlp : ∀ W : World, Calls Try.prog 42 #[.int .i32 ((Utf8.decode s pos).1 : Int)] W fun e w' => e = .returned (.bool (lexPlainB ((Utf8.decode s pos).1 : Int))) ∧ Drawn0 W w' := fun W => lex_plain.calls _ _ W (lexPlainB_f _)
      have HP := Aside0.mk hlp
      clear hlp
      obtain ⟨b', rfl, hst⟩ := lexHead_step s b pos hp hb
      have HS := Aside0.mk (HE.out.symm.trans hst)
      clear hst HE
      have hw := lex_width s pos hp
      cases hx : lexRightB s pos with
      | false =>
        rw [hx] at HR HS
        go_wp2_with (first | (go_at_call 47; refine (HR.out _).mono ?_; rintro e w2 ⟨rfl, hd⟩))
        go_ret2
        have h1 := HS.out
        simp only [Bool.false_eq_true, if_false] at h1
        refine ⟨by rw [h1]; rfl, ?_⟩
        exact below_then (Lib.below_iterAt HB.out (Nat.le_refl _) _ _) (by rw [Lib.iterAt_size]; exact HB.out.size) hd.below
      | true =>
        rw [hx] at HR HS
        cases hy : lexPlainB ((Utf8.decode s pos).1 : Int) with
        | false =>
          rw [hy] at HP HS
          go_wp2_with (first | (go_at_call 47; refine (HR.out _).mono ?_; rintro e w2 ⟨rfl, hd⟩) | (go_at_call 42; refine (HP.out _).mono ?_; rintro e w3 ⟨rfl, hd2⟩))
          go_ret2
          have h1 := HS.out
          simp only [Bool.false_eq_true, if_false, if_true] at h1
          refine ⟨by rw [h1]; rfl, ?_⟩
          exact below_then (below_then (Lib.below_iterAt HB.out (Nat.le_refl _) _ _) (by rw [Lib.iterAt_size]; exact HB.out.size) hd.below) (Nat.le_trans (by rw [Lib.iterAt_size]; exact HB.out.size) hd.below.size) hd2.below
        | true =>
          rw [hy] at HP HS
          go_wp2_with (first | (go_at_call 47; refine (HR.out _).mono ?_; rintro e w2 ⟨rfl, hd⟩) | (go_at_call 42; refine (HP.out _).mono ?_; rintro e w3 ⟨rfl, hd2⟩))
          go_roundw
          case rel =>
            have h1 := HS.out
            simp only [if_true] at h1
            have hk := lex_iter_drawn hd2 (lex_iter_drawn hd (Lib.iterAt_heap wr w.heap.size s pos (pos + (Utf8.decode s pos).2) HI.out))
            exact ⟨pos + (Utf8.decode s pos).2, b', ⟨hk⟩, ⟨below_then (below_then (Lib.below_iterAt HB.out (Nat.le_refl _) _ _) (by rw [Lib.iterAt_size]; exact HB.out.size) hd.below) (Nat.le_trans (by rw [Lib.iterAt_size]; exact HB.out.size) hd.below.size) hd2.below⟩, ⟨h1.symm⟩, by omega⟩
          case measure =>
            have hk := lex_iter_drawn hd2 (lex_iter_drawn hd (Lib.iterAt_heap wr w.heap.size s pos (pos + (Utf8.decode s pos).2) HI.out))
            have h2 := lex_iterPos hk
            have h3 := lex_iterPos HI.out
            rw [h2, h3]
            omega
    · have hnx := fun ty => Lib.run_next_end_at (P := Try.prog) wr w.heap.size s pos ty HI.out hp
      go_wp2
      go_ret2
      have h1 := HE.out
      rw [lexHead_end s b pos hp] at h1
      exact ⟨by rw [← h1]; rfl, HB.out⟩
def lexWordB (s : ByteArray) : Bool := (lexHead s s.size 0).2 && ((lexHead s s.size 0).1 == (s.size : Int) && (decide ((lexHead s s.size 0).1 > 0) && decide (lexRunes s s.size 0 0 ≤ 64)))
def lex_Word.f (a0 : ByteArray) : Option Bool := if a0.size ≤ 140737488351232 then some (lexWordB a0) else none
set_option maxHeartbeats 8000000 in
set_option maxRecDepth 100000 in
theorem lex_Word.calls (a0 : ByteArray) (r : Bool) (w : World) (h : lex_Word.f a0 = some r) :
    Calls Try.prog 35 #[.string a0] w fun e w' => e = .returned (.bool r) ∧ Below w.heap.size w w' := by
  have hs : a0.size ≤ 140737488351232 := by
    unfold lex_Word.f at h
    split at h
    · assumption
    · cases h
  unfold lex_Word.f at h
  rw [if_pos hs] at h
  obtain rfl := Option.some.inj h
  clear h
  have hh := Aside0.mk (fun W : World => lex_headPlain.calls a0 W hs)
  have hr := Aside0.mk (fun W : World => lex_Runes.calls a0 W hs)
  unfold lexWordB
  generalize (lexHead a0 a0.size 0).1 = n at *
  generalize (lexHead a0 a0.size 0).2 = ok at *
  generalize lexRunes a0 a0.size 0 0 = m at *
  go_enter Try.func35, Try.ntmps35
  go_wp2_with (first | (go_at_call 41; refine (hh.out _).mono ?_; rintro e w2 ⟨rfl, hb⟩) | (go_at_call 43; refine (hr.out _).mono ?_; rintro e w3 ⟨rfl, hb2⟩; replace hb := below_then hb hb.size hb2; clear hb2))
  all_goals
    go_ret
    exact ⟨by first | rfl | (simp; done) | (simp [*]; done) | (simp_all; done), hb⟩
end Go.Proofs.Ytcnaefnlnjfjkaa.H
end
section
namespace Go.Proofs.Ytcnaefnlnjfjkaa.H
open Go.RowKit Go.Proofs.YtcnaefnlnjfjkaaW.PrintWords Go.Proofs.YtcnaefnlnjfjkaaW.PrintLast Go.Proofs.YtcnaefnlnjfjkaaW.PrintMore
attribute [local go_sem] max2_int min2_int max_two min_two max_three min_three max_four min_four   -- for this text's walks alone
set_option linter.unusedVariables false
set_option linter.unusedSimpArgs false
def labels_maybe.f (a0 : ByteArray) : Option (Bool) := if a0.toList = ([] : List UInt8) then (some true) else ((lex_Word.f a0).bind fun t189 => (some t189))
set_option maxHeartbeats 8000000 in
set_option maxRecDepth 100000 in
theorem labels_maybe.calls (a0 : ByteArray) (r : Bool) (w : World) (h : labels_maybe.f a0 = some r) :
    Calls Try.prog 36 #[.string a0] w fun e w' => e = .returned (.bool r) ∧ Below w.heap.size w w' := by
  have HB := Aside0.mk (Below.refl w.heap.size w)
  have H : (if a0.toList = ([] : List UInt8) then (some true) else ((lex_Word.f a0).bind fun t189 => (some t189))) = some r := h
  clear h
  by_cases c2 : a0.toList = ([] : List UInt8)
  · rw [if_pos c2] at H
    have c2b0 : (a0.toList == ([] : List UInt8)) = true := beq_iff_eq.mpr c2
    have c2b1 : (a0.toList != ([] : List UInt8)) = false := bne_eq_false_iff_eq.mpr c2
    clear c2
    obtain rfl := Option.some.inj H
    go_enter Try.func36, Try.ntmps36
    go_wp2
    go_ret
    exact ⟨by first | rfl | (simp [errW_none, errW_some] <;> rfl) | (simp [*, errW_none, errW_some] <;> rfl), by repeat (first | (with_reducible first | exact HB.out | apply below_alloc | apply pw_below_drewN | apply below_drew1) | exact HB.out)⟩
  · rw [if_neg c2] at H
    have c2b0 : (a0.toList == ([] : List UInt8)) = false := beq_eq_false_iff_ne.mpr c2
    have c2b1 : (a0.toList != ([] : List UInt8)) = true := bne_iff_ne.mpr c2
    replace H := Option.bind_eq_some_iff.mp H
    obtain ⟨t189, A30, H⟩ := H
    replace H : (some t189) = some r := H
    have A3 := Aside0.mk A30
    clear A30
    obtain rfl := Option.some.inj H
    go_enter Try.func36, Try.ntmps36
    go_wp2_with (first | (go_at_call 35; (with_reducible refine (lex_Word.calls a0 t189 _ A3.out).mono ?_); rintro e w4 ⟨rfl, hb⟩; have n0_ := Aside0.mk (below_step (by repeat (first | (with_reducible first | exact HB.out | apply below_alloc | apply pw_below_drewN | apply below_drew1) | exact HB.out)) hb); clear HB; have HB := n0_; clear n0_; (try clear hb); (try clear hb2); (try clear hk); (try clear hi)))
    go_ret
    exact ⟨by first | rfl | (simp [errW_none, errW_some] <;> rfl) | (simp [*, errW_none, errW_some] <;> rfl), by repeat (first | (with_reducible first | exact HB.out | apply below_alloc | apply pw_below_drewN | apply below_drew1) | exact HB.out)⟩
end Go.Proofs.Ytcnaefnlnjfjkaa.H
end
section
namespace Go.Proofs.Ytcnaefnlnjfjkaa.H
open Go.RowKit Go.Proofs.YtcnaefnlnjfjkaaW.PrintWords Go.Proofs.YtcnaefnlnjfjkaaW.PrintLast Go.Proofs.YtcnaefnlnjfjkaaW.PrintMore
attribute [local go_sem] max2_int min2_int max_two min_two max_three min_three max_four min_four   -- for this text's walks alone
set_option linter.unusedVariables false
set_option linter.unusedSimpArgs false
/-- Block b is a map of at most n entries; it tells f of each key (0 of one that it hasn't). -/
structure MapSI (P : Program) (k e : TypeId) (w : World) (b n : Nat) (f : ByteArray → Int) : Prop where
  mk :: (out : ∃ D : DataW Unit, w.ownsMap P k (plainElem (H := Unit) P e) b n D ∧ Go.Maps.IsMap D ∧ ∀ s : ByteArray, s.size ≤ maxLen → D.atKey (.string s.data.toList) (.lit (.int .i64 0)) = .lit (.int .i64 (f s)))
theorem MapSI.made (P : Program) (k e : TypeId) (w : World) : MapSI P k e (w.alloc (.map #[] 0)) w.heap.size 0 (fun _ => 0) :=
  ⟨⟨.map [], World.ownsMap_made _ _ _ _, Go.Maps.isMap_empty, fun _ _ => rfl⟩⟩
theorem MapSI.kept {P : Program} {k e : TypeId} {w w' : World} {b n : Nat} {f : ByteArray → Int} {row : Option Nat} (h : MapSI P k e w b n f) (hg : w.grownBy w' row) (hne : some b ≠ row) : MapSI P k e w' b n f := by
  obtain ⟨D, h1, h2, h3⟩ := h.out
  exact ⟨⟨D, h1.kept hg hne, h2, h3⟩⟩
theorem MapSI.below {P : Program} {k e : TypeId} {w w' : World} {b n : Nat} {f : ByteArray → Int} (h : MapSI P k e w b n f) (hb : Below w.heap.size w w') : MapSI P k e w' b n f :=
  h.kept (grown_of_below hb none) (by simp)
theorem MapSI.lt {P : Program} {k e : TypeId} {w : World} {b n : Nat} {f : ByteArray → Int} (h : MapSI P k e w b n f) : b < w.heap.size := by
  obtain ⟨D, h1, _⟩ := h.out
  exact h1.lt
theorem MapSI.congr {P : Program} {k e : TypeId} {w : World} {b n : Nat} {f g : ByteArray → Int} (h : MapSI P k e w b n f) (hfg : ∀ s : ByteArray, s.size ≤ maxLen → f s = g s) : MapSI P k e w b n g := by
  obtain ⟨D, h1, h2, h3⟩ := h.out
  exact ⟨⟨D, h1, h2, fun s hs => by rw [← hfg s hs]; exact h3 s hs⟩⟩
theorem bytes_inj {a b : ByteArray} (h : a.data.toList = b.data.toList) : a = b := by
  cases a; cases b; simp at h; simp [h]
theorem lit_ne {a b : ByteArray} (h : a ≠ b) : (Lit.string a.data.toList) ≠ .string b.data.toList := fun e => h (bytes_inj (by injection e))
theorem MapSI.lookup {P : Program} {t k e : TypeId} {w : World} {b n : Nat} {f : ByteArray → Int} (h : MapSI P k e w b n f) (hk : P.underlying k = some .string) (he : P.underlying e = some (.int .i64)) (ht : P.underlying t = some (.map k e))
    (hz : ∀ w, (zeroValue e).run P w = .ok (.int .i64 0) w) {s : ByteArray} (hs : s.size ≤ maxLen) : (Instr.lookup t (.map (some b)) (.string s) false).run P w = .ok (.int .i64 (f s)) w := by
  obtain ⟨D, h1, h2, h3⟩ := h.out
  obtain ⟨c, hrun, hat, _⟩ := h1.lookup_int (Go.Maps.string_keyed hk) ht he (hz w) (Go.WideMaps.keyOf_string_mk hk hs)
  rw [hrun]
  rw [h3 s hs] at hat
  injection hat with hat
  injection hat with _ hat
  rw [hat]
theorem wpList_mapUpdate_si {P : Program} (w : World) {ops : Array Oper} {rest : List Oper} {o : Oper} {a : Act} {Q : Exit → Act → World → Prop}
    (hg : o.guard = none) (m x v : Operand) (t : TypeId) (hop : o.op = Op.mapUpdate t m x v)
    (k e : TypeId) (hk : P.underlying k = some .string) (he : P.underlying e = some (.int .i64)) (ht : P.underlying t = some (.map k e)) (b n : Nat) (f : ByteArray → Int)
    (hm : a.eval m = .map (some b)) (hown : MapSI P k e w b n f) (hn : n < maxLen) (s : ByteArray) (c : Int) (hx : a.eval x = .string s) (hv : a.eval v = .int .i64 c) (hs : s.size ≤ maxLen) (hc : (Lit.int .i64 c).wf = true)
    (hK : ∀ w', MapSI P k e w' b (n + 1) (fun y => if y = s then c else f y) → w.grownBy w' (some b) → wpList P ops Q rest (a.put o.dst undef) w') :
    wpList P ops Q (o :: rest) a w := by
  obtain ⟨D, h1, h2, h3⟩ := hown.out
  refine wpList_mapUpdate_own w hg m x v t hop k e (Go.Maps.string_keyed hk) ht (plainElem (H := Unit) P e) b n D hm h1 hn _ _ _ hx hv (Go.WideMaps.keyOf_string_mk hk hs) _ [] (plainElem_int he hc) ?_
  intro w' r1 r2
  refine hK w' ⟨⟨_, r1, h2.put _ _, fun y hy => ?_⟩⟩ r2
  by_cases hy2 : y = s
  · subst hy2
    rw [Go.Maps.atKey_put_same h2 (by exact trivial)]
    simp
  · rw [Go.Maps.atKey_put_other (lit_ne hy2), h3 y hy, if_neg hy2]
end Go.Proofs.Ytcnaefnlnjfjkaa.H
end
section
namespace Go.Proofs.Ytcnaefnlnjfjkaa.H
open Go.RowKit Go.Proofs.YtcnaefnlnjfjkaaW.PrintWords Go.Proofs.YtcnaefnlnjfjkaaW.PrintLast Go.Proofs.YtcnaefnlnjfjkaaW.PrintMore
attribute [local go_sem] max2_int min2_int max_two min_two max_three min_three max_four min_four   -- for this text's walks alone
set_option linter.unusedVariables false
set_option linter.unusedSimpArgs false
/-- The worlds that stand behind w, what w had being as it was. -/
def BW (w : World) : Type := { W : World // Below w.heap.size w W }
instance bwNonempty (w : World) : Nonempty (BW w) := ⟨⟨w, Below.refl _ _⟩⟩
theorem BW.cell {w : World} (q : BW w) {a : Addr} {v : Value} (h : w.cell? a = some v) : q.1.cell? a = some v := pw_cell_below q.2 h
theorem wp_region_bw {P : Program} {id : Nat} {Q : Exit → Act → World → Prop} {a : Act} {w : World} {l : List Oper} (hm : P.follows .mixedOrders = true) (hB : Region.lexB .any l.toArray = true)
    (h : wpQuiet P l.toArray (fun W => ∃ q : BW w, W = q.1) (fun a' => ∀ q : BW w, Q .normal a' q.1) l a) : (Code.region id l.toArray true).wp P Q a w :=
  wp_region_quiet (C := fun W => ∃ q : BW w, W = q.1) hm hB ⟨⟨_, pw_below_drewN (Below.refl _ _) 1⟩, rfl⟩ (by
    have e : (fun a' : Act => ∀ w', (∃ q : BW w, w' = q.1) → Q .normal a' w') = (fun a' => ∀ q : BW w, Q .normal a' q.1) := by
      funext a'
      exact propext ⟨fun hh q => hh _ ⟨q, rfl⟩, fun hh w' ⟨q, hq⟩ => hq ▸ hh q⟩
    rw [e]
    simpa using h)
theorem Calls.bw {P : Program} {f : FuncId} {args : Array Value} {w : World} {q : BW w} {v : Value}
    (h : Calls P f args q.1 fun e w' => e = .returned v ∧ Below q.1.heap.size q.1 w') : Calls P f args q.1 fun e w'' => e = .returned v ∧ ∃ q' : BW w, w'' = q'.1 :=
  h.mono fun _ w' ⟨he, hb⟩ => ⟨he, ⟨w', below_then q.2 q.2.size hb⟩, rfl⟩
end Go.Proofs.Ytcnaefnlnjfjkaa.H
end
section
namespace Go.Proofs.Ytcnaefnlnjfjkaa.H
open Go.RowKit Go.Proofs.YtcnaefnlnjfjkaaW.PrintWords Go.Proofs.YtcnaefnlnjfjkaaW.PrintLast Go.Proofs.YtcnaefnlnjfjkaaW.PrintMore
attribute [local go_sem] max2_int min2_int max_two min_two max_three min_three max_four min_four   -- for this text's walks alone
set_option linter.unusedVariables false
set_option linter.unusedSimpArgs false
def lrGt (pre : List S31) (x : S31) : Bool := match pre.getLast? with | none => false | some y => !(Op.bytesLess y.f0.toList x.f0.toList || y.f0.toList == x.f0.toList)
def lrHad (pre : List S31) (s : ByteArray) : Bool := pre.any (fun y => decide (y.f0 = s))
def labels_Right.go : List S31 → List S31 → Option Bool
  | pre, [] => some (decide ((pre.length : Int) ≤ 16))
  | pre, x :: xs => if x.f0.size ≤ 140737488351232 then (if lrHad pre x.f0 = true then some false else (lex_Word.f x.f0).bind fun a => if a = false then some false else (labels_maybe.f x.f1).bind fun m => if m = false then some false else if lrGt pre x = true then some false else labels_Right.go (pre ++ [x]) xs) else none
def labels_Right.f (l0 : List S31) : Option Bool := labels_Right.go [] l0
def lrCnt (pre : List S31) (s : ByteArray) : Int := if lrHad pre s = true then 1 else 0
theorem lrCnt_snoc (pre : List S31) (x : S31) (h : lrHad pre x.f0 = false) (s : ByteArray) : (if s = x.f0 then 1 else lrCnt pre s) = lrCnt (pre ++ [x]) s := by
  unfold lrCnt lrHad at *
  rw [List.any_append]
  by_cases hs : s = x.f0
  · subst hs; simp
  · have : ¬ x.f0 = s := fun e => hs e.symm
    simp [hs, this]
theorem rd_at (pre : List S31) (x : S31) (xs : List S31) : rd_T31 (pre ++ x :: xs) (pre.length : Int) = x := by
  unfold rd_T31
  simp [List.getD_eq_getElem?_getD]
theorem lrGt_at (pre : List S31) (x : S31) (xs : List S31) (h : 0 < pre.length) : lrGt pre x = !(Op.bytesLess (rd_T31 (pre ++ x :: xs) ((pre.length : Int) - 1)).f0.toList x.f0.toList || (rd_T31 (pre ++ x :: xs) ((pre.length : Int) - 1)).f0.toList == x.f0.toList) := by
  obtain ⟨y, hy⟩ : ∃ y, pre.getLast? = some y := by
    cases hp : pre.getLast? with
    | none => rw [List.getLast?_eq_none_iff] at hp; simp [hp] at h
    | some y => exact ⟨y, rfl⟩
  have e : rd_T31 (pre ++ x :: xs) ((pre.length : Int) - 1) = y := by
    unfold rd_T31
    have h1 : ((pre.length : Int) - 1).toNat = pre.length - 1 := by omega
    rw [h1, List.getD_eq_getElem?_getD, List.getElem?_append_left (by omega)]
    rw [List.getLast?_eq_getElem?] at hy
    rw [hy]; rfl
  unfold lrGt
  rw [hy, e]
theorem lrZero (w : World) : (zeroValue 3).run Try.prog w = .ok (.int .i64 0) w := by kernel_rfl
set_option maxHeartbeats 8000000 in
set_option maxRecDepth 100000 in
theorem labels_Right.calls (A0 : Option Addr) (c0 : Nat) (l0 : List S31) (r : Bool) (w : World) (hr0 : Kd.C k31 w A0 l0.length l0) (hc0 : l0.length ≤ c0) (h : labels_Right.f l0 = some r) :
    Calls Try.prog 26 #[.slice A0 l0.length c0] w fun e w' => e = .returned (.bool r) ∧ Below w.heap.size w w' := by
  have hmm := @run_makeMap Try.prog
  have hlen := hr0.1
  have hmax : l0.length ≤ 9223372036854775807 := hr0.2.1
  have HR0 := Aside0.mk hr0
  clear hr0
  have H := Aside0.mk h
  clear h
  go_enter Try.func26, Try.ntmps26
  go_wp2
  go_loopw [9] (fun v w' => ∃ (pre suf : List S31) (i : Int), Aside0 (l0 = pre ++ suf) ∧ Aside0 (i = pre.length) ∧ v = .int .i64 i ∧ Aside0 (MapSI Try.prog 9 3 w' w.heap.size pre.length (lrCnt pre)) ∧ Aside0 (Below w.heap.size w w') ∧ Aside0 (labels_Right.go pre suf = some r)) (fun v w' => l0.length - (intOf v).toNat)
  case atStart => exact ⟨[], l0, 0, ⟨rfl⟩, ⟨rfl⟩, rfl, ⟨MapSI.made _ _ _ _⟩, ⟨(Below.refl _ _).alloc (Nat.le_refl _) _⟩, H⟩
  case round =>
    clear H
    obtain ⟨pre, suf, i, HL, HI, rfl, HM, HB, HG⟩ := hrel
    cases suf with
    | nil =>
      have q1 : decide (i < (l0.length : Int)) = false := decide_eq_false (by rw [HL.out, HI.out]; simp)
      go_wp2
      go_ret
      have h1 := HG.out
      simp only [labels_Right.go, Option.some.injEq] at h1
      have h2 : l0 = pre := by have := HL.out; simpa using this
      rw [← h2] at h1
      exact ⟨by rw [← h1]; first | rfl | (simp; done), HB.out⟩
    | cons x xs =>
      have q1 : i < (l0.length : Int) := by rw [HL.out, HI.out]; simp; omega
      have p1 : 0 ≤ i := by rw [HI.out]; omega
      obtain ⟨ad, e1, hx0, hx1⟩ := at_T31 HR0.out i p1 q1
      have hrd : rd_T31 l0 i = x := by rw [HL.out, HI.out]; exact rd_at _ _ _
      rw [hrd] at hx0 hx1
      clear hrd
      subst e1
      replace hx0 := (HB.out.cell (World.block_lt_of_cell? w _ hx0)).trans hx0
      replace hx1 := (HB.out.cell (World.block_lt_of_cell? w _ hx1)).trans hx1
      have hu31 := Try.underlying31
      have hg := HG.out
      simp only [labels_Right.go] at hg
      clear HG
      by_cases hs : x.f0.size ≤ 140737488351232
      · rw [if_pos hs] at hg
        have hs2 : x.f0.size ≤ maxLen := by unfold maxLen; omega
        have HM1 := Aside0.mk (HM.out.below (below_alloc (Below.refl _ _) (.cells #[.string x.f0, .string x.f1] 31)))
        have hn : pre.length < maxLen := by have := HI.out; unfold maxLen; omega
        have HB1 := Aside0.mk (HB.out.alloc HB.out.size (.cells #[.string x.f0, .string x.f1] 31))
        have HC0 : (wr.alloc (.cells #[.string x.f0, .string x.f1] 31)).cell? ⟨wr.heap.size, 0, none⟩ = some (.string x.f0) := by simp
        have HC1 : (wr.alloc (.cells #[.string x.f0, .string x.f1] 31)).cell? ⟨wr.heap.size, 1, none⟩ = some (.string x.f1) := by simp
        have HC := Aside0.mk (And.intro HC0 HC1)
        clear HC0 HC1
        have HBm : w.heap.size < wr.heap.size := HM.out.lt
        cases hd : lrHad pre x.f0 with
        | true =>
          rw [hd] at hg
          simp only [if_true, Option.some.injEq] at hg
          subst hg
          have hlk := HM1.out.lookup Try.underlying9 Try.underlying3 Try.underlying54 lrZero hs2
          rw [show lrCnt pre x.f0 = 1 by unfold lrCnt; rw [hd]; rfl] at hlk
          go_wp2_with (first | (at_mapUpdate; refine wpList_mapUpdate_si _ rfl _ _ _ 54 rfl 9 3 Try.underlying9 Try.underlying3 Try.underlying54 w.heap.size pre.length _ rfl HM1.out hn _ 2 rfl rfl hs2 (by decide) ?_; intro w2 HM2 hgrow))
          clear hlk
          replace HM2 := Aside0.mk HM2
          have hb0 := hgrow.cell HC.out.1 (by simp; omega)
          have hb1 := hgrow.cell HC.out.2 (by simp; omega)
          have hlk : ∀ q : BW w2, (Instr.lookup 54 (.map (some w.heap.size)) (.string x.f0) false).run Try.prog q.1 = .ok (.int .i64 2) q.1 := fun q => by
            have := (HM2.out.below q.2).lookup Try.underlying9 Try.underlying3 Try.underlying54 lrZero hs2
            rwa [if_pos rfl] at this
          have hq0 := fun q : BW w2 => q.cell hb0
          have hq1 := fun q : BW w2 => q.cell hb1
          have HB2 := Aside0.mk (HB1.out.grown hgrow HB1.out.size (fun j hj => by cases hj; exact Nat.le_refl _))
          clear hgrow hb0 hb1
          simp only [Act.put]
          refine wp_region_bw (by kernel_rfl) (by kernel_rfl) ?_
          repeat (go_big_quiet_step (fail))
          refine wpQuiet_nil ?_
          intro q
          go_wp2
          go_ret
          exact ⟨rfl, below_then HB2.out HB2.out.size q.2⟩
        | false =>
          rw [hd] at hg
          simp only [Bool.false_eq_true, if_false] at hg
          have hlk := HM1.out.lookup Try.underlying9 Try.underlying3 Try.underlying54 lrZero hs2
          rw [show lrCnt pre x.f0 = 0 by unfold lrCnt; rw [hd]; rfl] at hlk
          go_wp2_with (first | (at_mapUpdate; refine wpList_mapUpdate_si _ rfl _ _ _ 54 rfl 9 3 Try.underlying9 Try.underlying3 Try.underlying54 w.heap.size pre.length _ rfl HM1.out hn _ 1 rfl rfl hs2 (by decide) ?_; intro w2 HM2 hgrow))
          clear hlk
          replace HM2 := Aside0.mk HM2
          have hb0 := hgrow.cell HC.out.1 (by simp; omega)
          have hb1 := hgrow.cell HC.out.2 (by simp; omega)
          have hlk : ∀ q : BW w2, (Instr.lookup 54 (.map (some w.heap.size)) (.string x.f0) false).run Try.prog q.1 = .ok (.int .i64 1) q.1 := fun q => by
            have := (HM2.out.below q.2).lookup Try.underlying9 Try.underlying3 Try.underlying54 lrZero hs2
            rwa [if_pos rfl] at this
          have hq0 := fun q : BW w2 => q.cell hb0
          have hq1 := fun q : BW w2 => q.cell hb1
          have HB2 := Aside0.mk (HB1.out.grown hgrow HB1.out.size (fun j hj => by cases hj; exact Nat.le_refl _))
          clear hgrow hb0 hb1 hx0 hx1
          obtain ⟨aw, hw, hg⟩ := Option.bind_eq_some_iff.1 hg
          have HW := Aside0.mk (fun W : World => lex_Word.calls x.f0 aw W hw)
          have HV := Aside0.mk True.intro
          clear hw
          cases aw with
          | false =>
            simp only [if_true, Option.some.injEq] at hg
            subst hg
            simp only [Act.put]
            refine wp_region_bw (by kernel_rfl) (by kernel_rfl) ?_
            repeat (go_big_quiet_step (first | (go_at_call 35; exact Calls.bw (HW.out _)) | (go_at_call 36; exact Calls.bw (HV.out _))))
            refine wpQuiet_nil ?_
            intro q
            go_wp2
            go_ret
            exact ⟨rfl, below_then HB2.out HB2.out.size q.2⟩
          | true =>
            simp only [Bool.true_eq_false, if_false] at hg
            obtain ⟨am, hm, hg⟩ := Option.bind_eq_some_iff.1 hg
            replace HV := Aside0.mk (fun W : World => labels_maybe.calls x.f1 am W hm)
            clear hm
            cases am with
            | false =>
              simp only [if_true, Option.some.injEq] at hg
              subst hg
              simp only [Act.put]
              refine wp_region_bw (by kernel_rfl) (by kernel_rfl) ?_
              repeat (go_big_quiet_step (first | (go_at_call 35; exact Calls.bw (HW.out _)) | (go_at_call 36; exact Calls.bw (HV.out _))))
              refine wpQuiet_nil ?_
              intro q
              go_wp2
              go_ret
              exact ⟨rfl, below_then HB2.out HB2.out.size q.2⟩
            | true =>
              simp only [Bool.true_eq_false, if_false] at hg
              by_cases hi : 0 < i
              · have hgt := lrGt_at pre x xs (by have := HI.out; omega)
                rw [← HL.out, ← HI.out] at hgt
                obtain ⟨ad2, e2, hy0, _⟩ := at_T31 HR0.out (i - 1) (by omega) (by omega)
                obtain rfl : ad = ad2 := by injection e2
                rw [show (i - 1).toNat = i.toNat - 1 by omega] at hy0
                replace hy0 := HB2.out.cell (World.block_lt_of_cell? w _ hy0) |>.trans hy0
                have hqy := fun q : BW w2 => q.cell hy0
                clear hy0
                have p2 : 0 ≤ i - 1 := by omega
                have q2 : i - 1 < (l0.length : Int) := by omega
                generalize hgb : lrGt pre x = gb at hg hgt
                cases gb with
                | true =>
                  replace hgt := hgt.symm
                  simp only [if_true, Option.some.injEq] at hg
                  subst hg
                  simp only [Act.put]
                  refine wp_region_bw (by kernel_rfl) (by kernel_rfl) ?_
                  repeat (go_big_quiet_step (first | (go_at_call 35; exact Calls.bw (HW.out _)) | (go_at_call 36; exact Calls.bw (HV.out _))))
                  refine wpQuiet_nil ?_
                  intro q
                  go_wp2
                  go_ret
                  exact ⟨rfl, below_then HB2.out HB2.out.size q.2⟩
                | false =>
                  replace hgt := hgt.symm
                  simp only [Bool.false_eq_true, if_false] at hg
                  simp only [Act.put]
                  refine wp_region_bw (by kernel_rfl) (by kernel_rfl) ?_
                  repeat (go_big_quiet_step (first | (go_at_call 35; exact Calls.bw (HW.out _)) | (go_at_call 36; exact Calls.bw (HV.out _))))
                  refine wpQuiet_nil ?_
                  intro q
                  go_wp2
                  go_roundw
                  case rel => exact ⟨pre ++ [x], xs, i + 1, ⟨by rw [HL.out]; simp⟩, ⟨by rw [HI.out]; simp⟩, rfl, ⟨by
                    have h1 := (HM2.out.below q.2).congr (g := lrCnt (pre ++ [x])) (fun s _ => lrCnt_snoc pre x hd s)
                    rwa [show (pre ++ [x]).length = pre.length + 1 by simp]⟩, ⟨below_then HB2.out HB2.out.size q.2⟩, ⟨hg⟩⟩
                  case measure => simp [intOf]; omega
              · have hi2 : decide (0 < i) = false := decide_eq_false hi
                have hgt : lrGt pre x = false := by
                  have h0 : pre = [] := List.eq_nil_of_length_eq_zero (by have := HI.out; omega)
                  subst h0
                  rfl
                rw [hgt] at hg
                simp only [Bool.false_eq_true, if_false] at hg
                simp only [Act.put]
                refine wp_region_bw (by kernel_rfl) (by kernel_rfl) ?_
                repeat (go_big_quiet_step (first | (go_at_call 35; exact Calls.bw (HW.out _)) | (go_at_call 36; exact Calls.bw (HV.out _))))
                refine wpQuiet_nil ?_
                intro q
                go_wp2
                go_roundw
                case rel => exact ⟨pre ++ [x], xs, i + 1, ⟨by rw [HL.out]; simp⟩, ⟨by rw [HI.out]; simp⟩, rfl, ⟨by
                  have h1 := (HM2.out.below q.2).congr (g := lrCnt (pre ++ [x])) (fun s _ => lrCnt_snoc pre x hd s)
                  rwa [show (pre ++ [x]).length = pre.length + 1 by simp]⟩, ⟨below_then HB2.out HB2.out.size q.2⟩, ⟨hg⟩⟩
                case measure => simp [intOf]; omega
      · rw [if_neg hs] at hg
        cases hg
end Go.Proofs.Ytcnaefnlnjfjkaa.H
end
section
namespace Go.Proofs.Ytcnaefnlnjfjkaa.H
open Go.RowKit Go.Proofs.YtcnaefnlnjfjkaaW.PrintWords Go.Proofs.YtcnaefnlnjfjkaaW.PrintLast Go.Proofs.YtcnaefnlnjfjkaaW.PrintMore
attribute [local go_sem] max2_int min2_int max_two min_two max_three min_three max_four min_four   -- for this text's walks alone
set_option linter.unusedVariables false
set_option linter.unusedSimpArgs false
mutual
def labels_RightTerm.j0 : Nat → ByteArray → Int → List ByteArray → Option (Bool)
  | 0, _, _, _ => none
  | k + 1, x191000, x191001, x191002 => labels_RightTerm.l0 k x191002 (x191002.length : Int) 0 x191000 x191001 x191002
def labels_RightTerm.l0 : Nat → List ByteArray → Int → Int → ByteArray → Int → List ByteArray → Option (Bool)
  | 0, _, _, _, _, _, _ => none
  | k + 1, x25, x26, x27, x191000, x191001, x191002 => if x27 < x26 then (if 0 ≤ x27 then (if x27 < (x25.length : Int) then ((labels_maybe.f (rdOf ByteArray.empty x25 x27)).bind fun t199 => (if t199 = true then (labels_RightTerm.l0 k x25 x26 (wrap64 (x27 + 1)) x191000 x191001 x191002) else (some false))) else (none)) else (none)) else (if (x191002.length : Int) ≥ 1 then (some (decide ((x191002.length : Int) ≤ 16))) else (some false))
end
def labels_RightTerm.f (k : Nat) (a0_0 : ByteArray) (a0_1 : Int) (l0_2 : List ByteArray) : Option (Bool) := (lex_Word.f a0_0).bind fun t191 => (if t191 = true then (if a0_1 = 1 then (labels_RightTerm.j0 k a0_0 a0_1 l0_2) else (if a0_1 = 2 then (labels_RightTerm.j0 k a0_0 a0_1 l0_2) else (if a0_1 = 3 then (some ((l0_2.length : Int) == 0)) else (if a0_1 = 4 then (some ((l0_2.length : Int) == 0)) else (if a0_1 = 5 then (if (l0_2.length : Int) = 1 then (if 0 < (l0_2.length : Int) then ((labels_number.f k (rdOf ByteArray.empty l0_2 0)).bind fun bt193 => (some bt193.2)) else (none)) else (some false)) else (if a0_1 = 6 then (if (l0_2.length : Int) = 1 then (if 0 < (l0_2.length : Int) then ((labels_number.f k (rdOf ByteArray.empty l0_2 0)).bind fun bt196 => (some bt196.2)) else (none)) else (some false)) else (some false))))))) else (some false))
theorem labels_RightTerm.mono_l : ∀ k, (∀ y0 y1 y2, LeO (labels_RightTerm.j0 k y0 y1 y2) (labels_RightTerm.j0 (k + 1) y0 y1 y2)) ∧ (∀ y0 y1 y2 y3 y4 y5, LeO (labels_RightTerm.l0 k y0 y1 y2 y3 y4 y5) (labels_RightTerm.l0 (k + 1) y0 y1 y2 y3 y4 y5))
  | 0 => ⟨fun _ _ _ r h => by simp [labels_RightTerm.j0] at h, fun _ _ _ _ _ _ r h => by simp [labels_RightTerm.l0] at h⟩
  | k + 1 => by
    obtain ⟨ih0, ih1⟩ := labels_RightTerm.mono_l k
    refine ⟨?_, ?_⟩
    · intro y0 y1 y2
      unfold labels_RightTerm.j0
      repeat' first
      | (with_reducible exact ih0 _ _ _)
      | (with_reducible exact ih1 _ _ _ _ _ _)
      | (with_reducible exact labels_number.mono _ _)
      | (with_reducible exact LeO.refl _)
      | (with_reducible exact LeO.none _)
      | (with_reducible refine LeO.ite ?_ ?_)
      | (with_reducible refine LeO.bind ?_ (fun _ => ?_))
      | exact ih0 _ _ _
      | exact ih1 _ _ _ _ _ _
      | exact labels_number.mono _ _
      | exact LeO.none _
      | refine LeO.ite ?_ ?_
      | refine LeO.bind ?_ (fun _ => ?_)
    · intro y0 y1 y2 y3 y4 y5
      unfold labels_RightTerm.l0
      repeat' first
      | (with_reducible exact ih0 _ _ _)
      | (with_reducible exact ih1 _ _ _ _ _ _)
      | (with_reducible exact labels_number.mono _ _)
      | (with_reducible exact LeO.refl _)
      | (with_reducible exact LeO.none _)
      | (with_reducible refine LeO.ite ?_ ?_)
      | (with_reducible refine LeO.bind ?_ (fun _ => ?_))
      | exact ih0 _ _ _
      | exact ih1 _ _ _ _ _ _
      | exact labels_number.mono _ _
      | exact LeO.none _
      | refine LeO.ite ?_ ?_
      | refine LeO.bind ?_ (fun _ => ?_)
theorem labels_RightTerm.mono : ∀ a0 a1 a2 k, LeO (labels_RightTerm.f k a0 a1 a2) (labels_RightTerm.f (k + 1) a0 a1 a2) := by
  intro a0 a1 a2 k
  obtain ⟨ih0, ih1⟩ := labels_RightTerm.mono_l k
  unfold labels_RightTerm.f
  repeat' first
      | (with_reducible exact ih0 _ _ _)
      | (with_reducible exact ih1 _ _ _ _ _ _)
      | (with_reducible exact labels_number.mono _ _)
      | (with_reducible exact LeO.refl _)
      | (with_reducible exact LeO.none _)
      | (with_reducible refine LeO.ite ?_ ?_)
      | (with_reducible refine LeO.bind ?_ (fun _ => ?_))
      | exact ih0 _ _ _
      | exact ih1 _ _ _ _ _ _
      | exact labels_number.mono _ _
      | exact LeO.none _
      | refine LeO.ite ?_ ?_
      | refine LeO.bind ?_ (fun _ => ?_)
set_option maxHeartbeats 8000000 in
set_option maxRecDepth 100000 in
theorem labels_RightTerm.calls (k : Nat) (a0_0 : ByteArray) (a0_1 : Int) (A0_2 : Option Addr) (c0_2 : Nat) (l0_2 : List ByteArray) (r : Bool) (w : World) (hr0_2 : Kd.C Kd.string w A0_2 l0_2.length l0_2) (hc0_2 : l0_2.length ≤ c0_2) (h : labels_RightTerm.f k a0_0 a0_1 l0_2 = some r) :
    Calls Try.prog 27 #[.agg #[.string a0_0, .int .i64 a0_1, .slice A0_2 l0_2.length c0_2]] w fun e w' => e = .returned (.bool r) ∧ Below w.heap.size w w' := by
  have hu37 := Try.underlying37
  have HR0_2 := Aside0.mk hr0_2
  have HC0_2 := Aside0.mk hc0_2
  clear hr0_2 hc0_2
  have HB := Aside0.mk (Below.refl w.heap.size w)
  have H : ((lex_Word.f a0_0).bind fun t191 => (if t191 = true then (if a0_1 = 1 then (labels_RightTerm.j0 k a0_0 a0_1 l0_2) else (if a0_1 = 2 then (labels_RightTerm.j0 k a0_0 a0_1 l0_2) else (if a0_1 = 3 then (some ((l0_2.length : Int) == 0)) else (if a0_1 = 4 then (some ((l0_2.length : Int) == 0)) else (if a0_1 = 5 then (if (l0_2.length : Int) = 1 then (if 0 < (l0_2.length : Int) then ((labels_number.f k (rdOf ByteArray.empty l0_2 0)).bind fun bt193 => (some bt193.2)) else (none)) else (some false)) else (if a0_1 = 6 then (if (l0_2.length : Int) = 1 then (if 0 < (l0_2.length : Int) then ((labels_number.f k (rdOf ByteArray.empty l0_2 0)).bind fun bt196 => (some bt196.2)) else (none)) else (some false)) else (some false))))))) else (some false))) = some r := h
  clear h
  replace H := Option.bind_eq_some_iff.mp H
  obtain ⟨t191, A20, H⟩ := H
  replace H : (if t191 = true then (if a0_1 = 1 then (labels_RightTerm.j0 k a0_0 a0_1 l0_2) else (if a0_1 = 2 then (labels_RightTerm.j0 k a0_0 a0_1 l0_2) else (if a0_1 = 3 then (some ((l0_2.length : Int) == 0)) else (if a0_1 = 4 then (some ((l0_2.length : Int) == 0)) else (if a0_1 = 5 then (if (l0_2.length : Int) = 1 then (if 0 < (l0_2.length : Int) then ((labels_number.f k (rdOf ByteArray.empty l0_2 0)).bind fun bt193 => (some bt193.2)) else (none)) else (some false)) else (if a0_1 = 6 then (if (l0_2.length : Int) = 1 then (if 0 < (l0_2.length : Int) then ((labels_number.f k (rdOf ByteArray.empty l0_2 0)).bind fun bt196 => (some bt196.2)) else (none)) else (some false)) else (some false))))))) else (some false)) = some r := H
  have A2 := Aside0.mk A20
  clear A20
  by_cases c3 : t191 = true
  · subst c3
    have H1 : (if a0_1 = 1 then (labels_RightTerm.j0 k a0_0 a0_1 l0_2) else (if a0_1 = 2 then (labels_RightTerm.j0 k a0_0 a0_1 l0_2) else (if a0_1 = 3 then (some ((l0_2.length : Int) == 0)) else (if a0_1 = 4 then (some ((l0_2.length : Int) == 0)) else (if a0_1 = 5 then (if (l0_2.length : Int) = 1 then (if 0 < (l0_2.length : Int) then ((labels_number.f k (rdOf ByteArray.empty l0_2 0)).bind fun bt193 => (some bt193.2)) else (none)) else (some false)) else (if a0_1 = 6 then (if (l0_2.length : Int) = 1 then (if 0 < (l0_2.length : Int) then ((labels_number.f k (rdOf ByteArray.empty l0_2 0)).bind fun bt196 => (some bt196.2)) else (none)) else (some false)) else (some false))))))) = some r := by rw [if_pos rfl] at H; exact H
    clear H
    have H := H1
    clear H1
    have HC4 := Aside0.mk H
    clear H
    go_enter Try.func27, Try.ntmps27
    go_upto_block 2 with (first | ((with_reducible refine gate_dst (N := 1) rfl ?_); (try (refine gate_guard (by rfl) ?_; dsimp only)); refine box_event ?hg (N := 1) ?hd (cs := #[.string a0_0, .int .i64 a0_1, .slice A0_2 l0_2.length c0_2]) (t := 37) ?hr ?_; (case hd => rfl); (case hg => rfl); (case hr => first | (go_simp; done) | (go_simp; rfl)); intro gb190 hg w5 hbox hb; have n0_ := Aside0.mk (below_step (by repeat (first | (with_reducible first | exact HB.out | apply below_alloc | apply pw_below_drewN | apply below_drew1) | exact HB.out)) hb); have n1_ := Aside0.mk (hbox); have n2_ := Aside0.mk ((by rw [hg]; exact (below_size (by repeat (first | (with_reducible first | exact HB.out | apply below_alloc | apply pw_below_drewN | apply below_drew1) | exact HB.out))) : w.heap.size ≤ gb190)); have n3_ := Aside0.mk ((by rw [hg]; exact (below_size (by repeat (first | (with_reducible first | exact HB.out | apply below_alloc | apply pw_below_drewN | apply below_drew1) | exact HB.out))) : w.heap.size ≤ gb190)); clear HB; have HB := n0_; have BK190 := n1_; have GW190 := n2_; have GE190 := n3_; clear n0_ n1_ n2_ n3_; clear hb hbox hg; have hcz6_0 : w5.cell? ⟨gb190, 0, none⟩ = some (.string a0_0) := (blk_cell BK190.out 0).trans rfl; have hcz6_1 : w5.cell? ⟨gb190, 1, none⟩ = some (.int .i64 a0_1) := (blk_cell BK190.out 1).trans rfl; have hcz6_2 : w5.cell? ⟨gb190, 2, none⟩ = some (.slice A0_2 l0_2.length c0_2) := (blk_cell BK190.out 2).trans rfl; have hfz6_0 := blk_frozen BK190.out 0; have hfz6_1 := blk_frozen BK190.out 1; have hfz6_2 := blk_frozen BK190.out 2) | ((first | ((with_reducible refine gate_callee (f := 35) rfl ?_); refine goesL_ (some 9) rfl rfl Try.func35 (by kernel_rfl) rfl #[.string a0_0] rfl (by (try simp only [List.map_toArray, List.map_cons, List.map_nil]); first | done | rfl | (simp only [List.length_drop, List.length_take]; rfl)) ?_; (with_reducible refine (lex_Word.calls a0_0 true _ A2.out).mono ?_); rintro e w7 ⟨rfl, hb⟩; refine ⟨_, rfl, ?_⟩) | (go_at_call 35; (with_reducible refine (lex_Word.calls a0_0 true _ A2.out).mono ?_); rintro e w7 ⟨rfl, hb⟩)); have n0_ := Aside0.mk (blk_below (g := gb190) (o := .cells #[.string a0_0, .int .i64 a0_1, .slice A0_2 l0_2.length c0_2] 37 (0, 0)) (by (with_reducible repeat (first | refine blk_drewN ?_ _ | refine blk_drew ?_ | refine blk_alloc ?_ _)); exact BK190.out) hb); have n1_ := Aside0.mk (below_step (by repeat (first | (with_reducible first | exact HB.out | apply below_alloc | apply pw_below_drewN | apply below_drew1 | refine below_set ?_ GE190.out) | exact HB.out)) hb); clear BK190; clear HB; have BK190 := n0_; have HB := n1_; clear n0_ n1_; (try clear hb); (try clear hb2); (try clear hk); (try clear hi); have hcz8_0 : w7.cell? ⟨gb190, 0, none⟩ = some (.string a0_0) := (blk_cell BK190.out 0).trans rfl; have hcz8_1 : w7.cell? ⟨gb190, 1, none⟩ = some (.int .i64 a0_1) := (blk_cell BK190.out 1).trans rfl; have hcz8_2 : w7.cell? ⟨gb190, 2, none⟩ = some (.slice A0_2 l0_2.length c0_2) := (blk_cell BK190.out 2).trans rfl; have hfz8_0 := blk_frozen BK190.out 0; have hfz8_1 := blk_frozen BK190.out 1; have hfz8_2 := blk_frozen BK190.out 2))
    (try simp only [Act.put, List.setIfInBounds_toArray, List.set_cons_zero, List.set_cons_succ])
    go_cut [] (fun wc => ∃ (kq : Nat), Aside0 (labels_RightTerm.j0 kq a0_0 a0_1 l0_2 = some r) ∧ Aside0 (kq ≤ k) ∧ Aside0 (wc.heap[gb190]? = some (.cells #[.string a0_0, .int .i64 a0_1, (.slice A0_2 l0_2.length c0_2)] 37 (0, 0))) ∧ Aside0 (Below w.heap.size w wc))
    case first =>
      have H := HC4.out
      clear HC4
      by_cases c9 : a0_1 = 1
      · rw [if_pos c9] at H
        have c9b0 : (a0_1 == 1) = true := beq_iff_eq.mpr c9
        have c9b1 : (a0_1 != 1) = false := bne_eq_false_iff_eq.mpr c9
        clear c9
        (first | rw [c9b0] | (simp only [i64_w, i32_w]; rw [c9b0]) | skip)
        have H' := Aside0.mk H
        clear H
        go_wp2
        go_meet
        case rel => exact ⟨_, H', ⟨by first | omega | exact Nat.le_refl _⟩, ⟨by (with_reducible repeat (first | refine blk_drewN ?_ _ | refine blk_drew ?_ | refine blk_alloc ?_ _)); exact BK190.out⟩, ⟨by repeat (first | (with_reducible first | exact HB.out | apply below_alloc | apply pw_below_drewN | apply below_drew1 | refine below_set ?_ GE190.out) | exact HB.out)⟩⟩
      · rw [if_neg c9] at H
        have c9b0 : (a0_1 == 1) = false := beq_eq_false_iff_ne.mpr c9
        have c9b1 : (a0_1 != 1) = true := bne_iff_ne.mpr c9
        (first | rw [c9b0] | (simp only [i64_w, i32_w]; rw [c9b0]) | skip)
        by_cases c10 : a0_1 = 2
        · rw [if_pos c10] at H
          have c10b0 : (a0_1 == 2) = true := beq_iff_eq.mpr c10
          have c10b1 : (a0_1 != 2) = false := bne_eq_false_iff_eq.mpr c10
          clear c10
          have H' := Aside0.mk H
          clear H
          go_wp2
          go_meet
          case rel => exact ⟨_, H', ⟨by first | omega | exact Nat.le_refl _⟩, ⟨by (with_reducible repeat (first | refine blk_drewN ?_ _ | refine blk_drew ?_ | refine blk_alloc ?_ _)); exact BK190.out⟩, ⟨by repeat (first | (with_reducible first | exact HB.out | apply below_alloc | apply pw_below_drewN | apply below_drew1 | refine below_set ?_ GE190.out) | exact HB.out)⟩⟩
        · rw [if_neg c10] at H
          have c10b0 : (a0_1 == 2) = false := beq_eq_false_iff_ne.mpr c10
          have c10b1 : (a0_1 != 2) = true := bne_iff_ne.mpr c10
          by_cases c11 : a0_1 = 3
          · rw [if_pos c11] at H
            have c11b0 : (a0_1 == 3) = true := beq_iff_eq.mpr c11
            have c11b1 : (a0_1 != 3) = false := bne_eq_false_iff_eq.mpr c11
            clear c11
            obtain rfl := Option.some.inj H
            have hcz12_0 : w7.cell? ⟨gb190, 0, none⟩ = some (.string a0_0) := (blk_cell BK190.out 0).trans rfl
            have hcz12_1 : w7.cell? ⟨gb190, 1, none⟩ = some (.int .i64 a0_1) := (blk_cell BK190.out 1).trans rfl
            have hcz12_2 : w7.cell? ⟨gb190, 2, none⟩ = some (.slice A0_2 l0_2.length c0_2) := (blk_cell BK190.out 2).trans rfl
            have hfz12_0 := blk_frozen BK190.out 0
            have hfz12_1 := blk_frozen BK190.out 1
            have hfz12_2 := blk_frozen BK190.out 2
            go_wp2
            go_ret
            exact ⟨by first | rfl | (simp [errW_none, errW_some] <;> rfl) | (simp [*, errW_none, errW_some] <;> rfl), by repeat (first | (with_reducible first | exact HB.out | apply below_alloc | apply pw_below_drewN | apply below_drew1 | refine below_set ?_ GE190.out) | exact HB.out)⟩
          · rw [if_neg c11] at H
            have c11b0 : (a0_1 == 3) = false := beq_eq_false_iff_ne.mpr c11
            have c11b1 : (a0_1 != 3) = true := bne_iff_ne.mpr c11
            by_cases c13 : a0_1 = 4
            · rw [if_pos c13] at H
              have c13b0 : (a0_1 == 4) = true := beq_iff_eq.mpr c13
              have c13b1 : (a0_1 != 4) = false := bne_eq_false_iff_eq.mpr c13
              clear c13
              obtain rfl := Option.some.inj H
              have hcz14_0 : w7.cell? ⟨gb190, 0, none⟩ = some (.string a0_0) := (blk_cell BK190.out 0).trans rfl
              have hcz14_1 : w7.cell? ⟨gb190, 1, none⟩ = some (.int .i64 a0_1) := (blk_cell BK190.out 1).trans rfl
              have hcz14_2 : w7.cell? ⟨gb190, 2, none⟩ = some (.slice A0_2 l0_2.length c0_2) := (blk_cell BK190.out 2).trans rfl
              have hfz14_0 := blk_frozen BK190.out 0
              have hfz14_1 := blk_frozen BK190.out 1
              have hfz14_2 := blk_frozen BK190.out 2
              go_wp2
              go_ret
              exact ⟨by first | rfl | (simp [errW_none, errW_some] <;> rfl) | (simp [*, errW_none, errW_some] <;> rfl), by repeat (first | (with_reducible first | exact HB.out | apply below_alloc | apply pw_below_drewN | apply below_drew1 | refine below_set ?_ GE190.out) | exact HB.out)⟩
            · rw [if_neg c13] at H
              have c13b0 : (a0_1 == 4) = false := beq_eq_false_iff_ne.mpr c13
              have c13b1 : (a0_1 != 4) = true := bne_iff_ne.mpr c13
              by_cases c15 : a0_1 = 5
              · rw [if_pos c15] at H
                have c15b0 : (a0_1 == 5) = true := beq_iff_eq.mpr c15
                have c15b1 : (a0_1 != 5) = false := bne_eq_false_iff_eq.mpr c15
                clear c15
                by_cases c16 : (l0_2.length : Int) = 1
                · rw [if_pos c16] at H
                  have c16b0 : ((l0_2.length : Int) == 1) = true := beq_iff_eq.mpr c16
                  have c16b1 : ((l0_2.length : Int) != 1) = false := bne_eq_false_iff_eq.mpr c16
                  clear c16
                  by_cases c17 : 0 < (l0_2.length : Int)
                  · rw [if_pos c17] at H
                    have c17b0 : decide (0 < (l0_2.length : Int)) = true := decide_eq_true c17
                    have c17b1 : decide (0 < l0_2.length) = true := decide_eq_true (by omega)
                    clear c17
                    replace H := Option.bind_eq_some_iff.mp H
                    obtain ⟨⟨t193, t194⟩, A180, H⟩ := H
                    replace H : (some t194) = some r := H
                    have A18 := Aside0.mk A180
                    clear A180
                    obtain rfl := Option.some.inj H
                    have hcz19_0 : w7.cell? ⟨gb190, 0, none⟩ = some (.string a0_0) := (blk_cell BK190.out 0).trans rfl
                    have hcz19_1 : w7.cell? ⟨gb190, 1, none⟩ = some (.int .i64 a0_1) := (blk_cell BK190.out 1).trans rfl
                    have hcz19_2 : w7.cell? ⟨gb190, 2, none⟩ = some (.slice A0_2 l0_2.length c0_2) := (blk_cell BK190.out 2).trans rfl
                    have hfz19_0 := blk_frozen BK190.out 0
                    have hfz19_1 := blk_frozen BK190.out 1
                    have hfz19_2 := blk_frozen BK190.out 2
                    have p192 : 0 ≤ (0 : Int) := (by omega)
                    have q192 : 0 < (l0_2.length : Int) := of_decide_eq_true (by first | (with_reducible assumption) | assumption)
                    obtain ⟨ad192, e192, hx192_0⟩ := Kd.at_string HR0_2.out 0 p192 q192
                    cases e192
                    have qi192 : (0 < l0_2.length) = True := eq_true (by omega)
                    (try rw [show ((0 : Int)).toNat = 0 from rfl] at hx192_0)
                    (try rw [Addr.add_zero'] at hx192_0)
                    replace hx192_0 := (HB.out.cell (World.block_lt_of_cell? w _ hx192_0)).trans hx192_0
                    replace p192 := eq_true p192
                    replace q192 := eq_true q192
                    go_wp2_with (first | ((first | ((with_reducible refine gate_callee (f := 32) rfl ?_); refine goesL_ (some 58) rfl rfl Try.func32 (by kernel_rfl) rfl #[.string (rdOf ByteArray.empty l0_2 0)] rfl (by (try simp only [List.map_toArray, List.map_cons, List.map_nil]); first | done | rfl | (simp only [List.length_drop, List.length_take]; rfl)) ?_; (with_reducible refine (labels_number.calls k (rdOf ByteArray.empty l0_2 0) t193 t194 _ A18.out).mono ?_); rintro e w' ⟨rfl, ⟨nd, rfl⟩⟩; refine ⟨_, rfl, ?_⟩) | (go_at_call 32; (with_reducible refine (labels_number.calls k (rdOf ByteArray.empty l0_2 0) t193 t194 _ A18.out).mono ?_); rintro e w' ⟨rfl, ⟨nd, rfl⟩⟩))))
                    go_ret
                    exact ⟨by first | rfl | (simp [errW_none, errW_some] <;> rfl) | (simp [*, errW_none, errW_some] <;> rfl), by repeat (first | (with_reducible first | exact HB.out | apply below_alloc | apply pw_below_drewN | apply below_drew1 | refine below_set ?_ GE190.out) | exact HB.out)⟩
                  · rw [if_neg c17] at H
                    exact absurd H (by simp)
                · rw [if_neg c16] at H
                  have c16b0 : ((l0_2.length : Int) == 1) = false := beq_eq_false_iff_ne.mpr c16
                  have c16b1 : ((l0_2.length : Int) != 1) = true := bne_iff_ne.mpr c16
                  obtain rfl := Option.some.inj H
                  have hcz20_0 : w7.cell? ⟨gb190, 0, none⟩ = some (.string a0_0) := (blk_cell BK190.out 0).trans rfl
                  have hcz20_1 : w7.cell? ⟨gb190, 1, none⟩ = some (.int .i64 a0_1) := (blk_cell BK190.out 1).trans rfl
                  have hcz20_2 : w7.cell? ⟨gb190, 2, none⟩ = some (.slice A0_2 l0_2.length c0_2) := (blk_cell BK190.out 2).trans rfl
                  have hfz20_0 := blk_frozen BK190.out 0
                  have hfz20_1 := blk_frozen BK190.out 1
                  have hfz20_2 := blk_frozen BK190.out 2
                  go_wp2
                  go_ret
                  exact ⟨by first | rfl | (simp [errW_none, errW_some] <;> rfl) | (simp [*, errW_none, errW_some] <;> rfl), by repeat (first | (with_reducible first | exact HB.out | apply below_alloc | apply pw_below_drewN | apply below_drew1 | refine below_set ?_ GE190.out) | exact HB.out)⟩
              · rw [if_neg c15] at H
                have c15b0 : (a0_1 == 5) = false := beq_eq_false_iff_ne.mpr c15
                have c15b1 : (a0_1 != 5) = true := bne_iff_ne.mpr c15
                by_cases c21 : a0_1 = 6
                · rw [if_pos c21] at H
                  have c21b0 : (a0_1 == 6) = true := beq_iff_eq.mpr c21
                  have c21b1 : (a0_1 != 6) = false := bne_eq_false_iff_eq.mpr c21
                  clear c21
                  by_cases c22 : (l0_2.length : Int) = 1
                  · rw [if_pos c22] at H
                    have c22b0 : ((l0_2.length : Int) == 1) = true := beq_iff_eq.mpr c22
                    have c22b1 : ((l0_2.length : Int) != 1) = false := bne_eq_false_iff_eq.mpr c22
                    clear c22
                    by_cases c23 : 0 < (l0_2.length : Int)
                    · rw [if_pos c23] at H
                      have c23b0 : decide (0 < (l0_2.length : Int)) = true := decide_eq_true c23
                      have c23b1 : decide (0 < l0_2.length) = true := decide_eq_true (by omega)
                      clear c23
                      replace H := Option.bind_eq_some_iff.mp H
                      obtain ⟨⟨t196, t197⟩, A240, H⟩ := H
                      replace H : (some t197) = some r := H
                      have A24 := Aside0.mk A240
                      clear A240
                      obtain rfl := Option.some.inj H
                      have hcz25_0 : w7.cell? ⟨gb190, 0, none⟩ = some (.string a0_0) := (blk_cell BK190.out 0).trans rfl
                      have hcz25_1 : w7.cell? ⟨gb190, 1, none⟩ = some (.int .i64 a0_1) := (blk_cell BK190.out 1).trans rfl
                      have hcz25_2 : w7.cell? ⟨gb190, 2, none⟩ = some (.slice A0_2 l0_2.length c0_2) := (blk_cell BK190.out 2).trans rfl
                      have hfz25_0 := blk_frozen BK190.out 0
                      have hfz25_1 := blk_frozen BK190.out 1
                      have hfz25_2 := blk_frozen BK190.out 2
                      have p195 : 0 ≤ (0 : Int) := (by omega)
                      have q195 : 0 < (l0_2.length : Int) := of_decide_eq_true (by first | (with_reducible assumption) | assumption)
                      obtain ⟨ad195, e195, hx195_0⟩ := Kd.at_string HR0_2.out 0 p195 q195
                      cases e195
                      have qi195 : (0 < l0_2.length) = True := eq_true (by omega)
                      (try rw [show ((0 : Int)).toNat = 0 from rfl] at hx195_0)
                      (try rw [Addr.add_zero'] at hx195_0)
                      replace hx195_0 := (HB.out.cell (World.block_lt_of_cell? w _ hx195_0)).trans hx195_0
                      replace p195 := eq_true p195
                      replace q195 := eq_true q195
                      go_wp2_with (first | ((first | ((with_reducible refine gate_callee (f := 32) rfl ?_); refine goesL_ (some 58) rfl rfl Try.func32 (by kernel_rfl) rfl #[.string (rdOf ByteArray.empty l0_2 0)] rfl (by (try simp only [List.map_toArray, List.map_cons, List.map_nil]); first | done | rfl | (simp only [List.length_drop, List.length_take]; rfl)) ?_; (with_reducible refine (labels_number.calls k (rdOf ByteArray.empty l0_2 0) t196 t197 _ A24.out).mono ?_); rintro e w' ⟨rfl, ⟨nd, rfl⟩⟩; refine ⟨_, rfl, ?_⟩) | (go_at_call 32; (with_reducible refine (labels_number.calls k (rdOf ByteArray.empty l0_2 0) t196 t197 _ A24.out).mono ?_); rintro e w' ⟨rfl, ⟨nd, rfl⟩⟩))))
                      go_ret
                      exact ⟨by first | rfl | (simp [errW_none, errW_some] <;> rfl) | (simp [*, errW_none, errW_some] <;> rfl), by repeat (first | (with_reducible first | exact HB.out | apply below_alloc | apply pw_below_drewN | apply below_drew1 | refine below_set ?_ GE190.out) | exact HB.out)⟩
                    · rw [if_neg c23] at H
                      exact absurd H (by simp)
                  · rw [if_neg c22] at H
                    have c22b0 : ((l0_2.length : Int) == 1) = false := beq_eq_false_iff_ne.mpr c22
                    have c22b1 : ((l0_2.length : Int) != 1) = true := bne_iff_ne.mpr c22
                    obtain rfl := Option.some.inj H
                    have hcz26_0 : w7.cell? ⟨gb190, 0, none⟩ = some (.string a0_0) := (blk_cell BK190.out 0).trans rfl
                    have hcz26_1 : w7.cell? ⟨gb190, 1, none⟩ = some (.int .i64 a0_1) := (blk_cell BK190.out 1).trans rfl
                    have hcz26_2 : w7.cell? ⟨gb190, 2, none⟩ = some (.slice A0_2 l0_2.length c0_2) := (blk_cell BK190.out 2).trans rfl
                    have hfz26_0 := blk_frozen BK190.out 0
                    have hfz26_1 := blk_frozen BK190.out 1
                    have hfz26_2 := blk_frozen BK190.out 2
                    go_wp2
                    go_ret
                    exact ⟨by first | rfl | (simp [errW_none, errW_some] <;> rfl) | (simp [*, errW_none, errW_some] <;> rfl), by repeat (first | (with_reducible first | exact HB.out | apply below_alloc | apply pw_below_drewN | apply below_drew1 | refine below_set ?_ GE190.out) | exact HB.out)⟩
                · rw [if_neg c21] at H
                  have c21b0 : (a0_1 == 6) = false := beq_eq_false_iff_ne.mpr c21
                  have c21b1 : (a0_1 != 6) = true := bne_iff_ne.mpr c21
                  obtain rfl := Option.some.inj H
                  go_wp2
                  go_ret
                  exact ⟨by first | rfl | (simp [errW_none, errW_some] <;> rfl) | (simp [*, errW_none, errW_some] <;> rfl), by repeat (first | (with_reducible first | exact HB.out | apply below_alloc | apply pw_below_drewN | apply below_drew1 | refine below_set ?_ GE190.out) | exact HB.out)⟩
    case rest =>
      clear HC4
      try clear c1
      try clear p1
      try clear q1
      try clear hx1
      try clear qi1
      try clear c2
      try clear p2
      try clear c3
      try clear c9
      try clear c9b0
      try clear c9b1
      try clear c10
      try clear c10b0
      try clear c10b1
      try clear c11
      try clear c11b0
      try clear c11b1
      try clear c13
      try clear c13b0
      try clear c13b1
      try clear c15
      try clear c15b0
      try clear c15b1
      try clear c16
      try clear c16b0
      try clear c16b1
      try clear c17
      try clear c17b0
      try clear c17b1
      try clear p19
      try clear q19
      try clear hx19
      try clear qi19
      try clear c21
      try clear c21b0
      try clear c21b1
      try clear c22
      try clear c22b0
      try clear c22b1
      try clear c23
      try clear c23b0
      try clear c23b1
      try clear hcz12_0
      try clear hcz12_1
      try clear hcz12_2
      try clear hcz14_0
      try clear hcz14_1
      try clear hcz14_2
      try clear hcz19_0
      try clear hcz19_1
      try clear hcz19_2
      try clear hcz20_0
      try clear hcz20_1
      try clear hcz20_2
      try clear hcz25_0
      try clear hcz25_1
      try clear hcz25_2
      try clear hcz26_0
      try clear hcz26_1
      try clear hcz26_2
      try clear hcz6_0
      try clear hcz6_1
      try clear hcz6_2
      try clear hcz8_0
      try clear hcz8_1
      try clear hcz8_2
      try clear hfz12_0
      try clear hfz12_1
      try clear hfz12_2
      try clear hfz14_0
      try clear hfz14_1
      try clear hfz14_2
      try clear hfz19_0
      try clear hfz19_1
      try clear hfz19_2
      try clear hfz20_0
      try clear hfz20_1
      try clear hfz20_2
      try clear hfz25_0
      try clear hfz25_1
      try clear hfz25_2
      try clear hfz26_0
      try clear hfz26_1
      try clear hfz26_2
      try clear hfz6_0
      try clear hfz6_1
      try clear hfz6_2
      try clear hfz8_0
      try clear hfz8_1
      try clear hfz8_2
      try clear hx192_0
      try clear hx195_0
      try clear p192
      try clear p195
      try clear q192
      try clear q195
      obtain ⟨kq, HA, HJ3, BK190, HB⟩ := hcut
      cases kq with
      | zero => exact absurd HA.out (by simp [labels_RightTerm.j0])
      | succ kj3 =>
        have H := HA.out
        clear HA
        simp only [labels_RightTerm.j0] at H
        have H' := Aside0.mk H
        clear H
        have hcz27_0 : wc.cell? ⟨gb190, 0, none⟩ = some (.string a0_0) := (blk_cell BK190.out 0).trans rfl
        have hcz27_1 : wc.cell? ⟨gb190, 1, none⟩ = some (.int .i64 a0_1) := (blk_cell BK190.out 1).trans rfl
        have hcz27_2 : wc.cell? ⟨gb190, 2, none⟩ = some (.slice A0_2 l0_2.length c0_2) := (blk_cell BK190.out 2).trans rfl
        have hfz27_0 := blk_frozen BK190.out 0
        have hfz27_1 := blk_frozen BK190.out 1
        have hfz27_2 := blk_frozen BK190.out 2
        go_wp2
        go_loopg [27] kj3 (fun kq v27 w' => ∃ (x27_2 : Int), v27 = .int .i64 x27_2 ∧ Aside0 (labels_RightTerm.l0 kq l0_2 (l0_2.length : Int) x27_2 a0_0 a0_1 l0_2 = some r) ∧ Aside0 (kq ≤ kj3) ∧ Aside0 (w'.heap[gb190]? = some (.cells #[.string a0_0, .int .i64 a0_1, (.slice A0_2 l0_2.length c0_2)] 37 (0, 0))) ∧ Aside0 (Below w.heap.size w w'))
        case atStart => exact ⟨(0), (by first | rfl | (simp; done) | (simp [*]; done)), H', ⟨Nat.le_refl _⟩, ⟨by (with_reducible repeat (first | refine blk_drewN ?_ _ | refine blk_drew ?_ | refine blk_alloc ?_ _)); exact BK190.out⟩, ⟨by repeat (first | (with_reducible first | exact HB.out | apply below_alloc | apply pw_below_drewN | apply below_drew1 | refine below_set ?_ GE190.out) | exact HB.out)⟩⟩
        case round =>
          clear H'
          try clear c1
          try clear p1
          try clear q1
          try clear hx1
          try clear qi1
          try clear c2
          try clear p2
          try clear c3
          try clear c9
          try clear c9b0
          try clear c9b1
          try clear c10
          try clear c10b0
          try clear c10b1
          try clear c11
          try clear c11b0
          try clear c11b1
          try clear c13
          try clear c13b0
          try clear c13b1
          try clear c15
          try clear c15b0
          try clear c15b1
          try clear c16
          try clear c16b0
          try clear c16b1
          try clear c17
          try clear c17b0
          try clear c17b1
          try clear p19
          try clear q19
          try clear hx19
          try clear qi19
          try clear c21
          try clear c21b0
          try clear c21b1
          try clear c22
          try clear c22b0
          try clear c22b1
          try clear c23
          try clear c23b0
          try clear c23b1
          try clear c27
          try clear hcz12_0
          try clear hcz12_1
          try clear hcz12_2
          try clear hcz14_0
          try clear hcz14_1
          try clear hcz14_2
          try clear hcz19_0
          try clear hcz19_1
          try clear hcz19_2
          try clear hcz20_0
          try clear hcz20_1
          try clear hcz20_2
          try clear hcz25_0
          try clear hcz25_1
          try clear hcz25_2
          try clear hcz26_0
          try clear hcz26_1
          try clear hcz26_2
          try clear hcz27_0
          try clear hcz27_1
          try clear hcz27_2
          try clear hcz6_0
          try clear hcz6_1
          try clear hcz6_2
          try clear hcz8_0
          try clear hcz8_1
          try clear hcz8_2
          try clear hfz12_0
          try clear hfz12_1
          try clear hfz12_2
          try clear hfz14_0
          try clear hfz14_1
          try clear hfz14_2
          try clear hfz19_0
          try clear hfz19_1
          try clear hfz19_2
          try clear hfz20_0
          try clear hfz20_1
          try clear hfz20_2
          try clear hfz25_0
          try clear hfz25_1
          try clear hfz25_2
          try clear hfz26_0
          try clear hfz26_1
          try clear hfz26_2
          try clear hfz27_0
          try clear hfz27_1
          try clear hfz27_2
          try clear hfz6_0
          try clear hfz6_1
          try clear hfz6_2
          try clear hfz8_0
          try clear hfz8_1
          try clear hfz8_2
          try clear hx192_0
          try clear hx195_0
          try clear p1
          try clear p19
          try clear p192
          try clear p195
          try clear p2
          try clear q1
          try clear q19
          try clear q192
          try clear q195
          obtain ⟨x27_2, rfl, HA, HK2, BK190, HB⟩ := hrel
          cases gk with
          | zero => exact absurd HA.out (by simp [labels_RightTerm.l0])
          | succ k2 =>
            have H := HA.out
            clear HA
            simp only [labels_RightTerm.l0] at H
            by_cases c28 : x27_2 < (l0_2.length : Int)
            · rw [if_pos c28] at H
              have c28b0 : decide (x27_2 < (l0_2.length : Int)) = true := decide_eq_true c28
              clear c28
              by_cases c29 : 0 ≤ x27_2
              · rw [if_pos c29] at H
                have c29b0 : decide (0 ≤ x27_2) = true := decide_eq_true c29
                clear c29
                by_cases c30 : x27_2 < (l0_2.length : Int)
                · rw [if_pos c30] at H
                  have c30b0 : decide (x27_2 < (l0_2.length : Int)) = true := decide_eq_true c30
                  clear c30
                  replace H := Option.bind_eq_some_iff.mp H
                  obtain ⟨t199, A310, H⟩ := H
                  replace H : (if t199 = true then (labels_RightTerm.l0 k2 l0_2 (l0_2.length : Int) (wrap64 (x27_2 + 1)) a0_0 a0_1 l0_2) else (some false)) = some r := H
                  have A31 := Aside0.mk A310
                  clear A310
                  by_cases c32 : t199 = true
                  · subst c32
                    have H1 : (labels_RightTerm.l0 k2 l0_2 (l0_2.length : Int) (wrap64 (x27_2 + 1)) a0_0 a0_1 l0_2) = some r := by rw [if_pos rfl] at H; exact H
                    clear H
                    have H := H1
                    clear H1
                    have H' := Aside0.mk H
                    clear H
                    have p198 : 0 ≤ (x27_2 : Int) := of_decide_eq_true (by first | (with_reducible assumption) | assumption)
                    have q198 : x27_2 < (l0_2.length : Int) := of_decide_eq_true (by first | (with_reducible assumption) | assumption)
                    obtain ⟨ad198, e198, hx198_0⟩ := Kd.at_string HR0_2.out x27_2 p198 q198
                    cases e198
                    replace hx198_0 := (HB.out.cell (World.block_lt_of_cell? w _ hx198_0)).trans hx198_0
                    replace p198 := eq_true p198
                    replace q198 := eq_true q198
                    go_wp2_with (first | ((first | ((with_reducible refine gate_callee (f := 36) rfl ?_); refine goesL_ (some 32) rfl rfl Try.func36 (by kernel_rfl) rfl #[.string (rdOf ByteArray.empty l0_2 x27_2)] rfl (by (try simp only [List.map_toArray, List.map_cons, List.map_nil]); first | done | rfl | (simp only [List.length_drop, List.length_take]; rfl)) ?_; (with_reducible refine (labels_maybe.calls (rdOf ByteArray.empty l0_2 x27_2) true _ A31.out).mono ?_); rintro e w33 ⟨rfl, hb⟩; refine ⟨_, rfl, ?_⟩) | (go_at_call 36; (with_reducible refine (labels_maybe.calls (rdOf ByteArray.empty l0_2 x27_2) true _ A31.out).mono ?_); rintro e w33 ⟨rfl, hb⟩)); have n0_ := Aside0.mk (blk_below (g := gb190) (o := .cells #[.string a0_0, .int .i64 a0_1, .slice (some ad198) l0_2.length c0_2] 37 (0, 0)) (by (with_reducible repeat (first | refine blk_drewN ?_ _ | refine blk_drew ?_ | refine blk_alloc ?_ _)); exact BK190.out) hb); have n1_ := Aside0.mk (below_step (by repeat (first | (with_reducible first | exact HB.out | apply below_alloc | apply pw_below_drewN | apply below_drew1 | refine below_set ?_ GE190.out) | exact HB.out)) hb); clear BK190; clear HB; have BK190 := n0_; have HB := n1_; clear n0_ n1_; (try clear hb); (try clear hb2); (try clear hk); (try clear hi)))
                    go_roundg k2
                    case measure => have := HJ3.out; have := HK2.out; omega
                    case rel => exact ⟨(wrap64 (x27_2 + 1)), (by first | rfl | (simp; done) | (simp [*]; done)), H', ⟨by have := HJ3.out; have := HK2.out; omega⟩, ⟨by (with_reducible repeat (first | refine blk_drewN ?_ _ | refine blk_drew ?_ | refine blk_alloc ?_ _)); exact BK190.out⟩, ⟨by repeat (first | (with_reducible first | exact HB.out | apply below_alloc | apply pw_below_drewN | apply below_drew1 | refine below_set ?_ GE190.out) | exact HB.out)⟩⟩
                  · replace c32 := Bool.eq_false_iff.mpr c32
                    subst c32
                    have H1 : (some false) = some r := by rw [if_neg (show ¬ (false = true) by decide)] at H; exact H
                    clear H
                    have H := H1
                    clear H1
                    obtain rfl := Option.some.inj H
                    have p198 : 0 ≤ (x27_2 : Int) := of_decide_eq_true (by first | (with_reducible assumption) | assumption)
                    have q198 : x27_2 < (l0_2.length : Int) := of_decide_eq_true (by first | (with_reducible assumption) | assumption)
                    obtain ⟨ad198, e198, hx198_0⟩ := Kd.at_string HR0_2.out x27_2 p198 q198
                    cases e198
                    replace hx198_0 := (HB.out.cell (World.block_lt_of_cell? w _ hx198_0)).trans hx198_0
                    replace p198 := eq_true p198
                    replace q198 := eq_true q198
                    go_wp2_with (first | ((first | ((with_reducible refine gate_callee (f := 36) rfl ?_); refine goesL_ (some 32) rfl rfl Try.func36 (by kernel_rfl) rfl #[.string (rdOf ByteArray.empty l0_2 x27_2)] rfl (by (try simp only [List.map_toArray, List.map_cons, List.map_nil]); first | done | rfl | (simp only [List.length_drop, List.length_take]; rfl)) ?_; (with_reducible refine (labels_maybe.calls (rdOf ByteArray.empty l0_2 x27_2) false _ A31.out).mono ?_); rintro e w34 ⟨rfl, hb⟩; refine ⟨_, rfl, ?_⟩) | (go_at_call 36; (with_reducible refine (labels_maybe.calls (rdOf ByteArray.empty l0_2 x27_2) false _ A31.out).mono ?_); rintro e w34 ⟨rfl, hb⟩)); have n0_ := Aside0.mk (blk_below (g := gb190) (o := .cells #[.string a0_0, .int .i64 a0_1, .slice (some ad198) l0_2.length c0_2] 37 (0, 0)) (by (with_reducible repeat (first | refine blk_drewN ?_ _ | refine blk_drew ?_ | refine blk_alloc ?_ _)); exact BK190.out) hb); have n1_ := Aside0.mk (below_step (by repeat (first | (with_reducible first | exact HB.out | apply below_alloc | apply pw_below_drewN | apply below_drew1 | refine below_set ?_ GE190.out) | exact HB.out)) hb); clear BK190; clear HB; have BK190 := n0_; have HB := n1_; clear n0_ n1_; (try clear hb); (try clear hb2); (try clear hk); (try clear hi)))
                    go_ret
                    exact ⟨by first | rfl | (simp [errW_none, errW_some] <;> rfl) | (simp [*, errW_none, errW_some] <;> rfl), by repeat (first | (with_reducible first | exact HB.out | apply below_alloc | apply pw_below_drewN | apply below_drew1 | refine below_set ?_ GE190.out) | exact HB.out)⟩
                · rw [if_neg c30] at H
                  exact absurd H (by simp)
              · rw [if_neg c29] at H
                exact absurd H (by simp)
            · rw [if_neg c28] at H
              have c28b0 : decide (x27_2 < (l0_2.length : Int)) = false := decide_eq_false c28
              clear c28
              by_cases c35 : (l0_2.length : Int) ≥ 1
              · rw [if_pos c35] at H
                have c35b0 : decide (1 ≤ (l0_2.length : Int)) = true := decide_eq_true c35
                have c35b1 : decide (1 ≤ l0_2.length) = true := decide_eq_true (by omega)
                clear c35
                obtain rfl := Option.some.inj H
                have hcz36_0 : wr.cell? ⟨gb190, 0, none⟩ = some (.string a0_0) := (blk_cell BK190.out 0).trans rfl
                have hcz36_1 : wr.cell? ⟨gb190, 1, none⟩ = some (.int .i64 a0_1) := (blk_cell BK190.out 1).trans rfl
                have hcz36_2 : wr.cell? ⟨gb190, 2, none⟩ = some (.slice A0_2 l0_2.length c0_2) := (blk_cell BK190.out 2).trans rfl
                have hfz36_0 := blk_frozen BK190.out 0
                have hfz36_1 := blk_frozen BK190.out 1
                have hfz36_2 := blk_frozen BK190.out 2
                go_wp2
                go_ret
                exact ⟨by first | rfl | (simp [errW_none, errW_some] <;> rfl) | (simp [*, errW_none, errW_some] <;> rfl), by repeat (first | (with_reducible first | exact HB.out | apply below_alloc | apply pw_below_drewN | apply below_drew1 | refine below_set ?_ GE190.out) | exact HB.out)⟩
              · rw [if_neg c35] at H
                have c35b0 : decide (1 ≤ (l0_2.length : Int)) = false := decide_eq_false c35
                have c35b1 : decide (1 ≤ l0_2.length) = false := decide_eq_false (by omega)
                clear c35
                obtain rfl := Option.some.inj H
                have hcz37_0 : wr.cell? ⟨gb190, 0, none⟩ = some (.string a0_0) := (blk_cell BK190.out 0).trans rfl
                have hcz37_1 : wr.cell? ⟨gb190, 1, none⟩ = some (.int .i64 a0_1) := (blk_cell BK190.out 1).trans rfl
                have hcz37_2 : wr.cell? ⟨gb190, 2, none⟩ = some (.slice A0_2 l0_2.length c0_2) := (blk_cell BK190.out 2).trans rfl
                have hfz37_0 := blk_frozen BK190.out 0
                have hfz37_1 := blk_frozen BK190.out 1
                have hfz37_2 := blk_frozen BK190.out 2
                go_wp2
                go_ret
                exact ⟨by first | rfl | (simp [errW_none, errW_some] <;> rfl) | (simp [*, errW_none, errW_some] <;> rfl), by repeat (first | (with_reducible first | exact HB.out | apply below_alloc | apply pw_below_drewN | apply below_drew1 | refine below_set ?_ GE190.out) | exact HB.out)⟩
  · replace c3 := Bool.eq_false_iff.mpr c3
    subst c3
    have H1 : (some false) = some r := by rw [if_neg (show ¬ (false = true) by decide)] at H; exact H
    clear H
    have H := H1
    clear H1
    obtain rfl := Option.some.inj H
    go_enter Try.func27, Try.ntmps27
    go_wp2_with (first | ((with_reducible refine gate_dst (N := 1) rfl ?_); (try (refine gate_guard (by rfl) ?_; dsimp only)); refine box_event ?hg (N := 1) ?hd (cs := #[.string a0_0, .int .i64 a0_1, .slice A0_2 l0_2.length c0_2]) (t := 37) ?hr ?_; (case hd => rfl); (case hg => rfl); (case hr => first | (go_simp; done) | (go_simp; rfl)); intro gb190 hg w38 hbox hb; have n0_ := Aside0.mk (below_step (by repeat (first | (with_reducible first | exact HB.out | apply below_alloc | apply pw_below_drewN | apply below_drew1) | exact HB.out)) hb); have n1_ := Aside0.mk (hbox); have n2_ := Aside0.mk ((by rw [hg]; exact (below_size (by repeat (first | (with_reducible first | exact HB.out | apply below_alloc | apply pw_below_drewN | apply below_drew1) | exact HB.out))) : w.heap.size ≤ gb190)); have n3_ := Aside0.mk ((by rw [hg]; exact (below_size (by repeat (first | (with_reducible first | exact HB.out | apply below_alloc | apply pw_below_drewN | apply below_drew1) | exact HB.out))) : w.heap.size ≤ gb190)); clear HB; have HB := n0_; have BK190 := n1_; have GW190 := n2_; have GE190 := n3_; clear n0_ n1_ n2_ n3_; clear hb hbox hg; have hcz39_0 : w38.cell? ⟨gb190, 0, none⟩ = some (.string a0_0) := (blk_cell BK190.out 0).trans rfl; have hcz39_1 : w38.cell? ⟨gb190, 1, none⟩ = some (.int .i64 a0_1) := (blk_cell BK190.out 1).trans rfl; have hcz39_2 : w38.cell? ⟨gb190, 2, none⟩ = some (.slice A0_2 l0_2.length c0_2) := (blk_cell BK190.out 2).trans rfl; have hfz39_0 := blk_frozen BK190.out 0; have hfz39_1 := blk_frozen BK190.out 1; have hfz39_2 := blk_frozen BK190.out 2) | ((first | ((with_reducible refine gate_callee (f := 35) rfl ?_); refine goesL_ (some 9) rfl rfl Try.func35 (by kernel_rfl) rfl #[.string a0_0] rfl (by (try simp only [List.map_toArray, List.map_cons, List.map_nil]); first | done | rfl | (simp only [List.length_drop, List.length_take]; rfl)) ?_; (with_reducible refine (lex_Word.calls a0_0 false _ A2.out).mono ?_); rintro e w40 ⟨rfl, hb⟩; refine ⟨_, rfl, ?_⟩) | (go_at_call 35; (with_reducible refine (lex_Word.calls a0_0 false _ A2.out).mono ?_); rintro e w40 ⟨rfl, hb⟩)); have n0_ := Aside0.mk (blk_below (g := gb190) (o := .cells #[.string a0_0, .int .i64 a0_1, .slice A0_2 l0_2.length c0_2] 37 (0, 0)) (by (with_reducible repeat (first | refine blk_drewN ?_ _ | refine blk_drew ?_ | refine blk_alloc ?_ _)); exact BK190.out) hb); have n1_ := Aside0.mk (below_step (by repeat (first | (with_reducible first | exact HB.out | apply below_alloc | apply pw_below_drewN | apply below_drew1 | refine below_set ?_ GE190.out) | exact HB.out)) hb); clear BK190; clear HB; have BK190 := n0_; have HB := n1_; clear n0_ n1_; (try clear hb); (try clear hb2); (try clear hk); (try clear hi)))
    go_ret
    exact ⟨by first | rfl | (simp [errW_none, errW_some] <;> rfl) | (simp [*, errW_none, errW_some] <;> rfl), by repeat (first | (with_reducible first | exact HB.out | apply below_alloc | apply pw_below_drewN | apply below_drew1 | refine below_set ?_ GE190.out) | exact HB.out)⟩
end Go.Proofs.Ytcnaefnlnjfjkaa.H
end
section
namespace Go.Proofs.Ytcnaefnlnjfjkaa.H
open Go.RowKit Go.Proofs.YtcnaefnlnjfjkaaW.PrintWords Go.Proofs.YtcnaefnlnjfjkaaW.PrintLast Go.Proofs.YtcnaefnlnjfjkaaW.PrintMore
attribute [local go_sem] max2_int min2_int max_two min_two max_three min_three max_four min_four   -- for this text's walks alone
set_option linter.unusedVariables false
set_option linter.unusedSimpArgs false
theorem alloc_cell_at (W : World) (cs : List Value) (e : Nat) (i : Nat) (u : Value) (h : cs[i]? = some u) : (W.alloc (.cells cs.toArray e)).cell? ⟨W.heap.size, i, none⟩ = some u := by
  have hb : (W.alloc (.cells cs.toArray e)).heap[W.heap.size]? = some (.cells cs.toArray e (0, 0)) := heap_alloc_new W _
  unfold World.cell?
  simp only []
  rw [hb]
  simp [h]
theorem C_lit {α : Type} (d : Kd α) (W : World) {xs : List α} {inner : List Value} (e : Nat) (n : Nat) (hn : xs.length = n) (hm : n ≤ 9223372036854775807) (hrep : Reps (d.K W) d.sz xs inner) :
    d.C (W.alloc (.cells inner.toArray e)) (some ⟨W.heap.size, 0, none⟩) n xs := by
  refine ⟨hn, hm, fun _ => ⟨_, rfl, fun j p hj => ?_⟩⟩
  have hp := hrep.2 j p hj
  refine ⟨_, d.K_len hp, d.K_below (below_alloc (Below.refl _ _) _) hp, fun i u hu => ?_⟩
  rw [add_plain]
  refine alloc_cell_at W inner e _ u ?_
  rw [List.getElem?_take] at hu
  split at hu
  · rw [List.getElem?_drop] at hu
    exact hu
  · cases hu
end Go.Proofs.Ytcnaefnlnjfjkaa.H
end
section
namespace Go.Proofs.Ytcnaefnlnjfjkaa.H
open Go.RowKit Go.Proofs.YtcnaefnlnjfjkaaW.PrintWords Go.Proofs.YtcnaefnlnjfjkaaW.PrintLast Go.Proofs.YtcnaefnlnjfjkaaW.PrintMore
attribute [local go_sem] max2_int min2_int max_two min_two max_three min_three max_four min_four   -- for this text's walks alone
set_option linter.unusedVariables false
set_option linter.unusedSimpArgs false
def kLab : List S31 := [⟨⟨#[110]⟩, ⟨#[55]⟩⟩, ⟨⟨#[122, 111, 110, 101]⟩, ⟨#[97]⟩⟩]
def kLab2 : List S31 := [⟨⟨#[110]⟩, ⟨#[55]⟩⟩, ⟨⟨#[112]⟩, ⟨#[113]⟩⟩, ⟨⟨#[122, 111, 110, 101]⟩, ⟨#[97]⟩⟩]
def triremelaw05_known.f : Option Bool := some true
theorem kLab_reps (W : World) : Reps (k31.K W) 2 kLab [.string ⟨#[110]⟩, .string ⟨#[55]⟩, .string ⟨#[122, 111, 110, 101]⟩, .string ⟨#[97]⟩] :=
  ((Reps.none _ 2).snoc (k31_mk W ⟨⟨#[110]⟩, ⟨#[55]⟩⟩) rfl).snoc (k31_mk W ⟨⟨#[122, 111, 110, 101]⟩, ⟨#[97]⟩⟩) rfl
theorem kLab2_reps (W : World) : Reps (k31.K W) 2 kLab2 [.string ⟨#[110]⟩, .string ⟨#[55]⟩, .string ⟨#[112]⟩, .string ⟨#[113]⟩, .string ⟨#[122, 111, 110, 101]⟩, .string ⟨#[97]⟩] :=
  (((Reps.none _ 2).snoc (k31_mk W ⟨⟨#[110]⟩, ⟨#[55]⟩⟩) rfl).snoc (k31_mk W ⟨⟨#[112]⟩, ⟨#[113]⟩⟩) rfl).snoc (k31_mk W ⟨⟨#[122, 111, 110, 101]⟩, ⟨#[97]⟩⟩) rfl
theorem kStr_reps (W : World) (a b : ByteArray) : Reps (Kd.string.K W) 1 [a, b] [.string a, .string b] := ((Reps.none _ 1).snoc (show Kd.string.K W a [.string a] from rfl) rfl).snoc (show Kd.string.K W b [.string b] from rfl) rfl
theorem kStr1_reps (W : World) (a : ByteArray) : Reps (Kd.string.K W) 1 [a] [.string a] := (Reps.none _ 1).snoc (show Kd.string.K W a [.string a] from rfl) rfl
theorem kGet : labels_Get.f 40 kLab ⟨#[122, 111, 110, 101]⟩ = some (⟨#[97]⟩, true) := by kernel_rfl
theorem kRight : labels_Right.f kLab = some true := by kernel_rfl
theorem kMeets1 : labels_Meets.f 40 kLab ⟨#[122, 111, 110, 101]⟩ 1 [⟨#[97]⟩, ⟨#[98]⟩] = some true := by kernel_rfl
theorem kMeets2 : labels_Meets.f 40 kLab ⟨#[122, 111, 110, 101]⟩ 4 [] = some false := by kernel_rfl
theorem kMeets3 : labels_Meets.f 40 kLab ⟨#[110]⟩ 5 [⟨#[53]⟩] = some true := by kernel_rfl
theorem kSet : labels_Set.f 40 kLab ⟨#[112]⟩ ⟨#[113]⟩ = some kLab2 := by kernel_rfl
theorem kSame : triremeref05_Same.f 40 kLab2 kLab2 = some true := by kernel_rfl
theorem kHas1 : labels_Has.f 40 kLab (kLab.drop 1) = some true := by kernel_rfl
theorem kHas2 : labels_Has.f 40 (kLab.drop 1) kLab = some false := by kernel_rfl
theorem kTerm1 : labels_RightTerm.f 40 ⟨#[97]⟩ 3 [] = some true := by kernel_rfl
theorem kTerm2 : labels_RightTerm.f 40 ⟨#[97]⟩ 1 [] = some false := by kernel_rfl
theorem kDrop : labels_Drop.f 40 kLab ⟨#[110]⟩ = some (kLab.drop 1) := by kernel_rfl
theorem kAll : labels_All.f 40 kLab [] = some true := by kernel_rfl
set_option maxHeartbeats 8000000 in
set_option maxRecDepth 100000 in
theorem triremelaw05_known.calls (r : Bool) (w : World) (h : triremelaw05_known.f = some r) :
    Calls Try.prog 7 #[] w fun e w' => e = .returned (.bool r) ∧ Below w.heap.size w w' := by
  obtain rfl := Option.some.inj h
  clear h
  have hu1 := Try.underlying31
  have hu2 := Try.underlying37
  have HL := Aside0.mk (fun (W : World) (hb : Below (w.alloc (.cells #[.string ⟨#[110]⟩, .string ⟨#[55]⟩, .string ⟨#[122, 111, 110, 101]⟩, .string ⟨#[97]⟩] 31)).heap.size (w.alloc (.cells #[.string ⟨#[110]⟩, .string ⟨#[55]⟩, .string ⟨#[122, 111, 110, 101]⟩, .string ⟨#[97]⟩] 31)) W) =>
    Kd.C_below (C_lit k31 w (xs := kLab) (inner := [.string ⟨#[110]⟩, .string ⟨#[55]⟩, .string ⟨#[122, 111, 110, 101]⟩, .string ⟨#[97]⟩]) 31 2 rfl (by decide) (kLab_reps w)) hb)
  have HB0 := Aside0.mk (below_alloc (Below.refl w.heap.size w) (.cells #[.string ⟨#[110]⟩, .string ⟨#[55]⟩, .string ⟨#[122, 111, 110, 101]⟩, .string ⟨#[97]⟩] 31))
  go_enter Try.func7, Try.ntmps7
  go_wp2_with fail
  go_at_call 8
  refine (labels_Get.calls 40 (some ⟨w.heap.size, 0, none⟩) 2 kLab ⟨#[122, 111, 110, 101]⟩ ⟨#[97]⟩ true _ (HL.out _ (Below.refl _ _)) (Nat.le_refl _) kGet).mono ?_
  rintro e w1 ⟨rfl, hb⟩
  replace HB := Aside0.mk hb
  clear hb
  go_wp2_with fail
  go_at_call 26
  refine (labels_Right.calls (some ⟨w.heap.size, 0, none⟩) 2 kLab true _ (HL.out _ HB.out) (Nat.le_refl _) kRight).mono ?_
  rintro e w2 ⟨rfl, hb⟩
  replace HB := Aside0.mk (below_then HB.out HB.out.size hb)
  clear hb
  go_wp2_with fail
  go_at_call 17
  refine (labels_Meets.calls 40 (some ⟨w.heap.size, 0, none⟩) 2 kLab ⟨#[122, 111, 110, 101]⟩ 1 (some ⟨w2.heap.size, 0, none⟩) 2 [⟨#[97]⟩, ⟨#[98]⟩] true _ (HL.out _ (HB.out.alloc HB.out.size _)) (Nat.le_refl _) (C_lit Kd.string w2 (inner := [.string ⟨#[97]⟩, .string ⟨#[98]⟩]) 9 2 rfl (by decide) (kStr_reps w2 _ _)) (Nat.le_refl _) kMeets1).mono ?_
  rintro e w3 ⟨rfl, hb⟩
  replace HB := Aside0.mk (below_then (HB.out.alloc HB.out.size _) (HB.out.alloc HB.out.size _).size hb)
  clear hb
  go_wp2_with fail
  go_at_call 17
  refine (labels_Meets.calls 40 (some ⟨w.heap.size, 0, none⟩) 2 kLab ⟨#[122, 111, 110, 101]⟩ 4 none 0 [] false _ (HL.out _ HB.out) (Nat.le_refl _) (Kd.C_nil _ _) (Nat.le_refl _) kMeets2).mono ?_
  rintro e w4 ⟨rfl, hb⟩
  replace HB := Aside0.mk (below_then (HB.out) (HB.out).size hb)
  clear hb
  go_wp2_with fail
  go_at_call 17
  refine (labels_Meets.calls 40 (some ⟨w.heap.size, 0, none⟩) 2 kLab ⟨#[110]⟩ 5 (some ⟨w4.heap.size, 0, none⟩) 1 [⟨#[53]⟩] true _ (HL.out _ (HB.out.alloc HB.out.size _)) (Nat.le_refl _) (C_lit Kd.string w4 (inner := [.string ⟨#[53]⟩]) 9 1 rfl (by decide) (kStr1_reps w4 _)) (Nat.le_refl _) kMeets3).mono ?_
  rintro e w5 ⟨rfl, hb⟩
  replace HB := Aside0.mk (below_then (HB.out.alloc HB.out.size _) (HB.out.alloc HB.out.size _).size hb)
  clear hb
  go_wp2_with fail
  go_at_call 10
  refine (labels_Set.calls 40 (some ⟨w.heap.size, 0, none⟩) 2 kLab ⟨#[112]⟩ ⟨#[113]⟩ kLab2 _ (HL.out _ HB.out) (Nat.le_refl _) kSet).mono ?_
  rintro e w6 ⟨v, rfl, hv, hb⟩
  replace HB := Aside0.mk (below_then (HB.out) (HB.out).size hb)
  clear hb
  obtain ⟨A6, c6, rfl⟩ := Kd.R_slice hv
  have HV := Aside0.mk (Kd.R_reads' hv).2
  clear hv
  go_wp2_with fail
  go_at_call 12
  refine (triremeref05_Same.calls 40 A6 c6 kLab2 (some ⟨w6.heap.size, 0, none⟩) 3 kLab2 true _ (Kd.C_alloc HV.out.2 _) HV.out.1 (C_lit k31 w6 (xs := kLab2) (inner := [.string ⟨#[110]⟩, .string ⟨#[55]⟩, .string ⟨#[112]⟩, .string ⟨#[113]⟩, .string ⟨#[122, 111, 110, 101]⟩, .string ⟨#[97]⟩]) 31 3 rfl (by decide) (kLab2_reps w6)) (Nat.le_refl _) kSame).mono ?_
  rintro e w7 ⟨rfl, hd⟩
  replace HB := Aside0.mk (below_then (HB.out.alloc HB.out.size _) (HB.out.alloc HB.out.size _).size hd.below)
  clear hd
  have HD := Aside0.mk (fun (W : World) hb => (show k31.C W (some ⟨w.heap.size, 2, none⟩) (kLab.drop 1).length (kLab.drop 1) from Kd.C_drop (m := 1) (c := 2) (HL.out W hb) (by decide) (by decide)))
  go_wp2_with fail
  go_at_call 19
  refine (labels_Has.calls 40 (some ⟨w.heap.size, 0, none⟩) 2 kLab (some ⟨w.heap.size, 2, none⟩) 1 (kLab.drop 1) true _ (HL.out _ HB.out) (Nat.le_refl _) (HD.out _ HB.out) (Nat.le_refl _) kHas1).mono ?_
  rintro e w8 ⟨rfl, hb⟩
  replace HB := Aside0.mk (below_then (HB.out) (HB.out).size hb)
  clear hb
  go_wp2_with fail
  go_at_call 19
  refine (labels_Has.calls 40 (some ⟨w.heap.size, 2, none⟩) 1 (kLab.drop 1) (some ⟨w.heap.size, 0, none⟩) 2 kLab false _ (HD.out _ HB.out) (Nat.le_refl _) (HL.out _ HB.out) (Nat.le_refl _) kHas2).mono ?_
  rintro e w9 ⟨rfl, hb⟩
  replace HB := Aside0.mk (below_then (HB.out) (HB.out).size hb)
  clear hb
  go_wp2_with fail
  go_at_call 27
  refine (labels_RightTerm.calls 40 ⟨#[97]⟩ 3 none 0 [] true _ (Kd.C_nil _ _) (Nat.le_refl _) kTerm1).mono ?_
  rintro e w10 ⟨rfl, hb⟩
  replace HB := Aside0.mk (below_then (HB.out) (HB.out).size hb)
  clear hb
  go_wp2_with fail
  go_at_call 27
  refine (labels_RightTerm.calls 40 ⟨#[97]⟩ 1 none 0 [] false _ (Kd.C_nil _ _) (Nat.le_refl _) kTerm2).mono ?_
  rintro e w11 ⟨rfl, hb⟩
  replace HB := Aside0.mk (below_then (HB.out) (HB.out).size hb)
  clear hb
  go_wp2_with fail
  go_at_call 11
  refine (labels_Drop.calls 40 (some ⟨w.heap.size, 0, none⟩) 2 kLab ⟨#[110]⟩ (kLab.drop 1) _ (HL.out _ HB.out) (Nat.le_refl _) kDrop).mono ?_
  rintro e w12 ⟨v, rfl, hv, hb⟩
  replace HB := Aside0.mk (below_then (HB.out) (HB.out).size hb)
  clear hb
  obtain ⟨A12, c12, rfl⟩ := Kd.R_slice hv
  clear hv
  have hl1 : (kLab.drop 1).length = 1 := rfl
  rw [hl1]
  go_wp2_with fail
  go_at_call 21
  refine (labels_All.calls 40 (some ⟨w.heap.size, 0, none⟩) 2 kLab none 0 [] true _ (HL.out _ HB.out) (Nat.le_refl _) (Kd.C_nil _ _) (Nat.le_refl _) kAll).mono ?_
  rintro e w13 ⟨rfl, hb⟩
  replace HB := Aside0.mk (below_then (HB.out) (HB.out).size hb)
  clear hb
  go_wp2
  go_ret
  exact ⟨by first | rfl | (simp; done) | (simp [*]; done), below_then HB0.out HB0.out.size HB.out⟩
end Go.Proofs.Ytcnaefnlnjfjkaa.H
end
section
namespace Go.Proofs.Ytcnaefnlnjfjkaa.H
open Go.RowKit Go.Proofs.YtcnaefnlnjfjkaaW.PrintWords Go.Proofs.YtcnaefnlnjfjkaaW.PrintLast Go.Proofs.YtcnaefnlnjfjkaaW.PrintMore
attribute [local go_sem] max2_int min2_int max_two min_two max_three min_three max_four min_four   -- for this text's walks alone
set_option linter.unusedVariables false
set_option linter.unusedSimpArgs false
def triremeref05_Get.l0 : Nat → List (S31) → ByteArray → Int → Option (ByteArray × Bool)
  | 0, _, _, _ => none
  | k + 1, x0, x1, x6 => if x6 < (x0.length : Int) then (if 0 ≤ x6 then (if ((rd_T31 x0 x6).f0).toList = x1.toList then (some ((rd_T31 x0 x6).f1, true)) else (triremeref05_Get.l0 k x0 x1 (wrap64 (x6 + 1)))) else (none)) else (some ((⟨#[]⟩ : ByteArray), false))
def triremeref05_Get.f (k : Nat) (l0 : List (S31)) (a1 : ByteArray) : Option (ByteArray × Bool) := triremeref05_Get.l0 k l0 a1 0
theorem triremeref05_Get.mono_l : ∀ k, (∀ y0 y1 y2, LeO (triremeref05_Get.l0 k y0 y1 y2) (triremeref05_Get.l0 (k + 1) y0 y1 y2))
  | 0 => fun _ _ _ r h => by simp [triremeref05_Get.l0] at h
  | k + 1 => by
    have ih0 := triremeref05_Get.mono_l k
    · intro y0 y1 y2
      unfold triremeref05_Get.l0
      repeat' first
      | (with_reducible exact ih0 _ _ _)
      | (with_reducible exact LeO.refl _)
      | (with_reducible exact LeO.none _)
      | (with_reducible refine LeO.ite ?_ ?_)
      | (with_reducible refine LeO.bind ?_ (fun _ => ?_))
      | exact ih0 _ _ _
      | exact LeO.none _
      | refine LeO.ite ?_ ?_
      | refine LeO.bind ?_ (fun _ => ?_)
theorem triremeref05_Get.mono : ∀ a0 a1 k, LeO (triremeref05_Get.f k a0 a1) (triremeref05_Get.f (k + 1) a0 a1) := by
  intro a0 a1 k
  have ih0 := triremeref05_Get.mono_l k
  unfold triremeref05_Get.f
  repeat' first
      | (with_reducible exact ih0 _ _ _)
      | (with_reducible exact LeO.refl _)
      | (with_reducible exact LeO.none _)
      | (with_reducible refine LeO.ite ?_ ?_)
      | (with_reducible refine LeO.bind ?_ (fun _ => ?_))
      | exact ih0 _ _ _
      | exact LeO.none _
      | refine LeO.ite ?_ ?_
      | refine LeO.bind ?_ (fun _ => ?_)
set_option maxHeartbeats 8000000 in
set_option maxRecDepth 100000 in
theorem triremeref05_Get.calls (k : Nat) (A0 : Option Addr) (c0 : Nat) (l0 : List (S31)) (a1 : ByteArray) (r1 : ByteArray) (r2 : Bool) (w : World) (hr0 : Kd.C k31 w A0 l0.length l0) (hc0 : l0.length ≤ c0) (h : triremeref05_Get.f k l0 a1 = some (r1, r2)) :
    Calls Try.prog 9 #[.slice A0 l0.length c0, .string a1] w fun e w' => e = .returned (.tuple #[.string r1, .bool r2]) ∧ Drawn0 w w' := by
  have HR0 := Aside0.mk hr0
  have HC0 := Aside0.mk hc0
  clear hr0 hc0
  have H : (triremeref05_Get.l0 k l0 a1 0) = some (r1, r2) := h
  clear h
  have H' := Aside0.mk H
  clear H
  go_enter Try.func9, Try.ntmps9
  go_wp2
  go_loopg [6] k (fun kq v6 w' => ∃ (x6_1 : Int), v6 = .int .i64 x6_1 ∧ Aside0 (triremeref05_Get.l0 kq l0 a1 x6_1 = some (r1, r2)) ∧ Aside0 (kq ≤ k) ∧ Drawn0 w w')
  case atStart => exact ⟨(0), (by first | rfl | (simp; done) | (simp [*]; done)), H', ⟨Nat.le_refl _⟩, by repeat (first | exact Drawn0.refl _ | apply Drawn0.step)⟩
  case round =>
    clear H'
    try clear p2
    obtain ⟨x6_1, rfl, HA, HK1, ⟨m1, rfl⟩⟩ := hrel
    cases gk with
    | zero => exact absurd HA.out (by simp [triremeref05_Get.l0])
    | succ k1 =>
      have H := HA.out
      clear HA
      simp only [triremeref05_Get.l0] at H
      by_cases c3 : x6_1 < (l0.length : Int)
      · rw [if_pos c3] at H
        have c3b0 : decide (x6_1 < (l0.length : Int)) = true := decide_eq_true c3
        clear c3
        by_cases c4 : 0 ≤ x6_1
        · rw [if_pos c4] at H
          have c4b0 : decide (0 ≤ x6_1) = true := decide_eq_true c4
          clear c4
          by_cases c5 : ((rd_T31 l0 x6_1).f0).toList = a1.toList
          · rw [if_pos c5] at H
            have c5b0 : (((rd_T31 l0 x6_1).f0).toList == a1.toList) = true := beq_iff_eq.mpr c5
            have c5b1 : (((rd_T31 l0 x6_1).f0).toList != a1.toList) = false := bne_eq_false_iff_eq.mpr c5
            clear c5
            simp only [Option.some.injEq, Prod.mk.injEq] at H
            obtain ⟨rfl, rfl⟩ := H
            have p200 : 0 ≤ (x6_1 : Int) := of_decide_eq_true (by first | (with_reducible assumption) | assumption)
            have q200 : x6_1 < (l0.length : Int) := of_decide_eq_true (by first | (with_reducible assumption) | assumption)
            obtain ⟨ad200, e200, hx200_0, hx200_1⟩ := at_T31 HR0.out x6_1 p200 q200
            cases e200
            replace p200 := eq_true p200
            replace q200 := eq_true q200
            have p201 : 0 ≤ (x6_1 : Int) := of_decide_eq_true (by first | (with_reducible assumption) | assumption)
            have q201 : x6_1 < (l0.length : Int) := of_decide_eq_true (by first | (with_reducible assumption) | assumption)
            obtain ⟨ad201, e201, hx201_0, hx201_1⟩ := at_T31 HR0.out x6_1 p201 q201
            obtain rfl : ad200 = ad201 := (by injection e201)
            replace p201 := eq_true p201
            replace q201 := eq_true q201
            go_wp2
            go_ret2
            exact ⟨by first | rfl | (simp; done) | (simp [*]; done), by repeat (first | exact Drawn0.refl _ | apply Drawn0.step)⟩
          · rw [if_neg c5] at H
            have c5b0 : (((rd_T31 l0 x6_1).f0).toList == a1.toList) = false := beq_eq_false_iff_ne.mpr c5
            have c5b1 : (((rd_T31 l0 x6_1).f0).toList != a1.toList) = true := bne_iff_ne.mpr c5
            have H' := Aside0.mk H
            clear H
            have p200 : 0 ≤ (x6_1 : Int) := of_decide_eq_true (by first | (with_reducible assumption) | assumption)
            have q200 : x6_1 < (l0.length : Int) := of_decide_eq_true (by first | (with_reducible assumption) | assumption)
            obtain ⟨ad200, e200, hx200_0, hx200_1⟩ := at_T31 HR0.out x6_1 p200 q200
            cases e200
            replace p200 := eq_true p200
            replace q200 := eq_true q200
            go_wp2
            go_roundg k1
            case measure => have := HK1.out; omega
            case rel => exact ⟨(wrap64 (x6_1 + 1)), (by first | rfl | (simp; done) | (simp [*]; done)), H', ⟨by have := HK1.out; omega⟩, by repeat (first | exact Drawn0.refl _ | apply Drawn0.step)⟩
        · rw [if_neg c4] at H
          exact absurd H (by simp)
      · rw [if_neg c3] at H
        have c3b0 : decide (x6_1 < (l0.length : Int)) = false := decide_eq_false c3
        clear c3
        simp only [Option.some.injEq, Prod.mk.injEq] at H
        obtain ⟨rfl, rfl⟩ := H
        go_wp2
        go_ret2
        exact ⟨by first | rfl | (simp; done) | (simp [*]; done), by repeat (first | exact Drawn0.refl _ | apply Drawn0.step)⟩
end Go.Proofs.Ytcnaefnlnjfjkaa.H
end
section
namespace Go.Proofs.Ytcnaefnlnjfjkaa.H
open Go.RowKit Go.Proofs.YtcnaefnlnjfjkaaW.PrintWords Go.Proofs.YtcnaefnlnjfjkaaW.PrintLast Go.Proofs.YtcnaefnlnjfjkaaW.PrintMore
attribute [local go_sem] max2_int min2_int max_two min_two max_three min_three max_four min_four   -- for this text's walks alone
set_option linter.unusedVariables false
set_option linter.unusedSimpArgs false
def triremeref05_Drop.l0 : Nat → List (S31) → ByteArray → List (S31) → Int → Option ((List (S31)))
  | 0, _, _, _, _ => none
  | k + 1, x0, x1, x5, x6 => if x6 < (x0.length : Int) then (if 0 ≤ x6 then (if ((rd_T31 x0 x6).f0).toList = x1.toList then (triremeref05_Drop.l0 k x0 x1 x5 (wrap64 (x6 + 1))) else (if x5.length < 4398046511104 then (triremeref05_Drop.l0 k x0 x1 (x5 ++ [(⟨(rd_T31 x0 x6).f0, (rd_T31 x0 x6).f1⟩ : S31)]) (wrap64 (x6 + 1))) else (none))) else (none)) else (some x5)
def triremeref05_Drop.f (k : Nat) (l0 : List (S31)) (a1 : ByteArray) : Option ((List (S31))) := triremeref05_Drop.l0 k l0 a1 ([] : List (S31)) 0
theorem triremeref05_Drop.mono_l : ∀ k, (∀ y0 y1 y2 y3, LeO (triremeref05_Drop.l0 k y0 y1 y2 y3) (triremeref05_Drop.l0 (k + 1) y0 y1 y2 y3))
  | 0 => fun _ _ _ _ r h => by simp [triremeref05_Drop.l0] at h
  | k + 1 => by
    have ih0 := triremeref05_Drop.mono_l k
    · intro y0 y1 y2 y3
      unfold triremeref05_Drop.l0
      repeat' first
      | (with_reducible exact ih0 _ _ _ _)
      | (with_reducible exact LeO.refl _)
      | (with_reducible exact LeO.none _)
      | (with_reducible refine LeO.ite ?_ ?_)
      | (with_reducible refine LeO.bind ?_ (fun _ => ?_))
      | exact ih0 _ _ _ _
      | exact LeO.none _
      | refine LeO.ite ?_ ?_
      | refine LeO.bind ?_ (fun _ => ?_)
theorem triremeref05_Drop.mono : ∀ a0 a1 k, LeO (triremeref05_Drop.f k a0 a1) (triremeref05_Drop.f (k + 1) a0 a1) := by
  intro a0 a1 k
  have ih0 := triremeref05_Drop.mono_l k
  unfold triremeref05_Drop.f
  repeat' first
      | (with_reducible exact ih0 _ _ _ _)
      | (with_reducible exact LeO.refl _)
      | (with_reducible exact LeO.none _)
      | (with_reducible refine LeO.ite ?_ ?_)
      | (with_reducible refine LeO.bind ?_ (fun _ => ?_))
      | exact ih0 _ _ _ _
      | exact LeO.none _
      | refine LeO.ite ?_ ?_
      | refine LeO.bind ?_ (fun _ => ?_)
set_option maxHeartbeats 8000000 in
set_option maxRecDepth 100000 in
theorem triremeref05_Drop.calls (k : Nat) (A0 : Option Addr) (c0 : Nat) (l0 : List (S31)) (a1 : ByteArray) (r : List (S31)) (w : World) (hr0 : Kd.C k31 w A0 l0.length l0) (hc0 : l0.length ≤ c0) (h : triremeref05_Drop.f k l0 a1 = some r) :
    Calls Try.prog 14 #[.slice A0 l0.length c0, .string a1] w fun e w' => ∃ v0_ : Value, e = .returned (v0_) ∧ Kd.R k31 31 w' w.heap.size (fun _ => True) v0_ r ∧ Below w.heap.size w w' := by
  have hu31 := Try.underlying31
  have HR0 := Aside0.mk hr0
  have HC0 := Aside0.mk hc0
  clear hr0 hc0
  have HB := Aside0.mk (Below.refl w.heap.size w)
  have H : (triremeref05_Drop.l0 k l0 a1 ([] : List (S31)) 0) = some r := h
  clear h
  have H' := Aside0.mk H
  clear H
  go_enter Try.func14, Try.ntmps14
  go_wp2
  go_loopg [5, 6] k (fun kq v5 v6 w' => ∃ (x5_1 : List (S31)) (x6_1 : Int), v6 = .int .i64 x6_1 ∧ Aside0 (triremeref05_Drop.l0 kq l0 a1 x5_1 x6_1 = some r) ∧ Aside0 (kq ≤ k) ∧ Aside0 (Kd.R k31 31 w' w.heap.size (fun _ => True) v5 x5_1) ∧ Aside0 (Below w.heap.size w w'))
  case atStart => exact ⟨(([] : List (S31))), (0), (by first | rfl | (simp; done) | (simp [*]; done)), H', ⟨Nat.le_refl _⟩, ⟨by first | exact Kd.R_nil _ _ _ _ _ | exact Kd.N_nil _ _ _ _ _ | exact Kd.V_nil _ _ _ _ _ | exact Kd.Q_nil _ _ _ _ _ | exact Kd.S_nil _ _ _ _ _⟩, ⟨by repeat (first | (with_reducible first | exact HB.out | apply below_alloc | apply pw_below_drewN | apply below_drew1) | exact HB.out)⟩⟩
  case round =>
    clear H'
    try clear c1
    try clear p2
    obtain ⟨x5_1, x6_1, rfl, HA, HK1, HO_5, HB⟩ := hrel
    cases gk with
    | zero => exact absurd HA.out (by simp [triremeref05_Drop.l0])
    | succ k1 =>
      have H := HA.out
      clear HA
      simp only [triremeref05_Drop.l0] at H
      by_cases c3 : x6_1 < (l0.length : Int)
      · rw [if_pos c3] at H
        have c3b0 : decide (x6_1 < (l0.length : Int)) = true := decide_eq_true c3
        clear c3
        by_cases c4 : 0 ≤ x6_1
        · rw [if_pos c4] at H
          have c4b0 : decide (0 ≤ x6_1) = true := decide_eq_true c4
          clear c4
          by_cases c5 : ((rd_T31 l0 x6_1).f0).toList = a1.toList
          · rw [if_pos c5] at H
            have c5b0 : (((rd_T31 l0 x6_1).f0).toList == a1.toList) = true := beq_iff_eq.mpr c5
            have c5b1 : (((rd_T31 l0 x6_1).f0).toList != a1.toList) = false := bne_eq_false_iff_eq.mpr c5
            clear c5
            have H' := Aside0.mk H
            clear H
            have p202 : 0 ≤ (x6_1 : Int) := of_decide_eq_true (by first | (with_reducible assumption) | assumption)
            have q202 : x6_1 < (l0.length : Int) := of_decide_eq_true (by first | (with_reducible assumption) | assumption)
            obtain ⟨ad202, e202, hx202_0, hx202_1⟩ := at_T31 HR0.out x6_1 p202 q202
            cases e202
            replace hx202_0 := (HB.out.cell (World.block_lt_of_cell? w _ hx202_0)).trans hx202_0
            replace hx202_1 := (HB.out.cell (World.block_lt_of_cell? w _ hx202_1)).trans hx202_1
            replace p202 := eq_true p202
            replace q202 := eq_true q202
            go_wp2
            go_roundg k1
            case measure => have := HK1.out; omega
            case rel => exact ⟨(x5_1), (wrap64 (x6_1 + 1)), (by first | rfl | (simp; done) | (simp [*]; done)), H', ⟨by have := HK1.out; omega⟩, ⟨by (with_reducible repeat (first | apply Kd.R_alloc | apply Kd.R_drewN | apply Kd.R_drew)); exact HO_5.out⟩, ⟨by repeat (first | (with_reducible first | exact HB.out | apply below_alloc | apply pw_below_drewN | apply below_drew1) | exact HB.out)⟩⟩
          · rw [if_neg c5] at H
            have c5b0 : (((rd_T31 l0 x6_1).f0).toList == a1.toList) = false := beq_eq_false_iff_ne.mpr c5
            have c5b1 : (((rd_T31 l0 x6_1).f0).toList != a1.toList) = true := bne_iff_ne.mpr c5
            by_cases c6 : x5_1.length < 4398046511104
            · rw [if_pos c6] at H
              have LMc6 := Aside0.mk c6
              clear c6
              obtain ⟨y204, hy204⟩ : ∃ y_ : List (S31), y_ = (x5_1 ++ [(⟨(rd_T31 l0 x6_1).f0, (rd_T31 l0 x6_1).f1⟩ : S31)]) := ⟨_, rfl⟩
              replace H : (triremeref05_Drop.l0 k1 l0 a1 y204 (wrap64 (x6_1 + 1))) = some r := by first | (rw [hy204]; with_reducible exact H) | (have H2_ := (Option.bind_some _ _).symm.trans H; rw [hy204]; with_reducible exact H2_) | (have H2_ := (Option.bind_some _ _).symm.trans H; with_reducible exact H2_) | with_reducible exact H | (rw [hy204]; exact H) | exact H
              have Ny204 := Aside0.mk hy204
              clear hy204
              have H' := Aside0.mk H
              clear H
              have p202 : 0 ≤ (x6_1 : Int) := of_decide_eq_true (by first | (with_reducible assumption) | assumption)
              have q202 : x6_1 < (l0.length : Int) := of_decide_eq_true (by first | (with_reducible assumption) | assumption)
              obtain ⟨ad202, e202, hx202_0, hx202_1⟩ := at_T31 HR0.out x6_1 p202 q202
              cases e202
              replace hx202_0 := (HB.out.cell (World.block_lt_of_cell? w _ hx202_0)).trans hx202_0
              replace hx202_1 := (HB.out.cell (World.block_lt_of_cell? w _ hx202_1)).trans hx202_1
              replace p202 := eq_true p202
              replace q202 := eq_true q202
              have p203 : 0 ≤ (x6_1 : Int) := of_decide_eq_true (by first | (with_reducible assumption) | assumption)
              have q203 : x6_1 < (l0.length : Int) := of_decide_eq_true (by first | (with_reducible assumption) | assumption)
              obtain ⟨ad203, e203, hx203_0, hx203_1⟩ := at_T31 HR0.out x6_1 p203 q203
              obtain rfl : ad202 = ad203 := (by injection e203)
              replace hx203_0 := (HB.out.cell (World.block_lt_of_cell? w _ hx203_0)).trans hx203_0
              replace hx203_1 := (HB.out.cell (World.block_lt_of_cell? w _ hx203_1)).trans hx203_1
              replace p203 := eq_true p203
              replace q203 := eq_true q203
              go_wp2_with (first | ((with_reducible refine gate_builtin (b := .append) (xs := #[.tmp 20, .tmp 25]) rfl ?_); at_builtin; refine Kd.R_append k31 (w0 := w) w.heap.size rfl (.tmp 20) (.tmp 25) 22 31 (.agg #[(.string ⟨#[]⟩), (.string ⟨#[]⟩)]) 32 rfl Try.underlying22 info31 rfl (by decide) (by omega) u5 x5_1 (⟨(rd_T31 l0 x6_1).f0, (rd_T31 l0 x6_1).f1⟩ : S31) [.string ((rd_T31 l0 x6_1).f0), .string ((rd_T31 l0 x6_1).f1)] (fun _ => True) (fun _ => False) rfl rfl ?aP (fun _ hk => hk.elim) ?aF ?aO ?aB ?aS ?aL ?_; (case aP => exact k31_mkM _ _ _ (⟨(rd_T31 l0 x6_1).f0, (rd_T31 l0 x6_1).f1⟩ : S31)); (case aB => exact (by repeat (first | (with_reducible first | exact HB.out | apply below_alloc | apply pw_below_drewN | apply below_drew1) | exact HB.out))); (case aF => exact (fun _ _ => trivial)); (case aO => exact (by (with_reducible repeat (first | apply Kd.R_alloc | apply Kd.R_drewN | apply Kd.R_drew)); exact HO_5.out)); (case aS => exact (below_size (by repeat (first | (with_reducible first | exact HB.out | apply below_alloc | apply pw_below_drewN | apply below_drew1) | exact HB.out)))); (case aL => have := LMc6.out; omega); intro v205 w7 ho hb hg hat; rw [← Ny204.out] at ho; have n0_ := Aside0.mk (hb); have n1_ := Aside0.mk (ho); clear HB; clear HO_5; have HB := n0_; have HO206 := n1_; clear n0_ n1_; clear ho hb hg hat))
              go_roundg k1
              case measure => have := HK1.out; omega
              case rel => exact ⟨(y204), (wrap64 (x6_1 + 1)), (by first | rfl | (simp; done) | (simp [*]; done)), H', ⟨by have := HK1.out; omega⟩, ⟨by (with_reducible repeat (first | apply Kd.R_alloc | apply Kd.R_drewN | apply Kd.R_drew)); exact HO206.out⟩, ⟨by repeat (first | (with_reducible first | exact HB.out | apply below_alloc | apply pw_below_drewN | apply below_drew1) | exact HB.out)⟩⟩
            · rw [if_neg c6] at H
              exact absurd H (by simp)
        · rw [if_neg c4] at H
          exact absurd H (by simp)
      · rw [if_neg c3] at H
        have c3b0 : decide (x6_1 < (l0.length : Int)) = false := decide_eq_false c3
        clear c3
        obtain rfl := Option.some.inj H
        go_wp2
        go_ret
        exact ⟨_, by first | rfl | (simp [errW_none, errW_some] <;> rfl) | (simp [*, errW_none, errW_some] <;> rfl), by (with_reducible repeat (first | apply Kd.R_alloc | apply Kd.R_drewN | apply Kd.R_drew)); exact HO_5.out, by repeat (first | (with_reducible first | exact HB.out | apply below_alloc | apply pw_below_drewN | apply below_drew1) | exact HB.out)⟩
end Go.Proofs.Ytcnaefnlnjfjkaa.H
end
section
namespace Go.Proofs.Ytcnaefnlnjfjkaa.H
open Go.RowKit Go.Proofs.YtcnaefnlnjfjkaaW.PrintWords Go.Proofs.YtcnaefnlnjfjkaaW.PrintLast Go.Proofs.YtcnaefnlnjfjkaaW.PrintMore
attribute [local go_sem] max2_int min2_int max_two min_two max_three min_three max_four min_four   -- for this text's walks alone
set_option linter.unusedVariables false
set_option linter.unusedSimpArgs false
def triremeref05_Set.l0 : Nat → List (S31) → ByteArray → ByteArray → List (S31) → Int → Option ((List (S31)))
  | 0, _, _, _, _, _ => none
  | k + 1, x0, x1, x2, x7, x8 => if x8 < (x0.length : Int) then (if 0 ≤ x8 then ((triremeref05_Less.f k ((rd_T31 x0 x8).f0) x1).bind fun t211 => (if t211 = true then (if x7.length < 4398046511104 then (triremeref05_Set.l0 k x0 x1 x2 (x7 ++ [(⟨(rd_T31 x0 x8).f0, (rd_T31 x0 x8).f1⟩ : S31)]) (wrap64 (x8 + 1))) else (none)) else (if x7.length < 4398046511104 then ((some (x7 ++ [(⟨x1, x2⟩ : S31)] : List (S31))).bind fun y216 => (if x8 ≤ (x0.length : Int) then ((some (x0.drop (x8 : Int).toNat : List (S31))).bind fun y219 => (if y216.length + y219.length < 4398046511104 then (some (y216 ++ y219)) else (none))) else (none))) else (none)))) else (none)) else (if x7.length < 4398046511104 then ((some (x7 ++ [(⟨x1, x2⟩ : S31)] : List (S31))).bind fun y226 => (if 0 ≤ x8 then (if x8 ≤ (x0.length : Int) then ((some (x0.drop (x8 : Int).toNat : List (S31))).bind fun y229 => (if y226.length + y229.length < 4398046511104 then (some (y226 ++ y229)) else (none))) else (none)) else (none))) else (none))
def triremeref05_Set.f (k : Nat) (l0 : List (S31)) (a1 : ByteArray) (a2 : ByteArray) : Option ((List (S31))) := (triremeref05_Drop.f k l0 a1).bind fun t207 => (triremeref05_Set.l0 k t207 a1 a2 ([] : List (S31)) 0)
theorem triremeref05_Set.mono_l : ∀ k, (∀ y0 y1 y2 y3 y4, LeO (triremeref05_Set.l0 k y0 y1 y2 y3 y4) (triremeref05_Set.l0 (k + 1) y0 y1 y2 y3 y4))
  | 0 => fun _ _ _ _ _ r h => by simp [triremeref05_Set.l0] at h
  | k + 1 => by
    have ih0 := triremeref05_Set.mono_l k
    · intro y0 y1 y2 y3 y4
      unfold triremeref05_Set.l0
      repeat' first
      | (with_reducible exact ih0 _ _ _ _ _)
      | (with_reducible exact triremeref05_Drop.mono _ _ _)
      | (with_reducible exact triremeref05_Less.mono _ _ _)
      | (with_reducible exact LeO.refl _)
      | (with_reducible exact LeO.none _)
      | (with_reducible refine LeO.ite ?_ ?_)
      | (with_reducible refine LeO.bind ?_ (fun _ => ?_))
      | exact ih0 _ _ _ _ _
      | exact triremeref05_Drop.mono _ _ _
      | exact triremeref05_Less.mono _ _ _
      | exact LeO.none _
      | refine LeO.ite ?_ ?_
      | refine LeO.bind ?_ (fun _ => ?_)
theorem triremeref05_Set.mono : ∀ a0 a1 a2 k, LeO (triremeref05_Set.f k a0 a1 a2) (triremeref05_Set.f (k + 1) a0 a1 a2) := by
  intro a0 a1 a2 k
  have ih0 := triremeref05_Set.mono_l k
  unfold triremeref05_Set.f
  repeat' first
      | (with_reducible exact ih0 _ _ _ _ _)
      | (with_reducible exact triremeref05_Drop.mono _ _ _)
      | (with_reducible exact triremeref05_Less.mono _ _ _)
      | (with_reducible exact LeO.refl _)
      | (with_reducible exact LeO.none _)
      | (with_reducible refine LeO.ite ?_ ?_)
      | (with_reducible refine LeO.bind ?_ (fun _ => ?_))
      | exact ih0 _ _ _ _ _
      | exact triremeref05_Drop.mono _ _ _
      | exact triremeref05_Less.mono _ _ _
      | exact LeO.none _
      | refine LeO.ite ?_ ?_
      | refine LeO.bind ?_ (fun _ => ?_)
set_option maxHeartbeats 8000000 in
set_option maxRecDepth 100000 in
theorem triremeref05_Set.calls (k : Nat) (A0 : Option Addr) (c0 : Nat) (l0 : List (S31)) (a1 : ByteArray) (a2 : ByteArray) (r : List (S31)) (w : World) (hr0 : Kd.C k31 w A0 l0.length l0) (hc0 : l0.length ≤ c0) (h : triremeref05_Set.f k l0 a1 a2 = some r) :
    Calls Try.prog 13 #[.slice A0 l0.length c0, .string a1, .string a2] w fun e w' => ∃ v0_ : Value, e = .returned (v0_) ∧ Kd.R k31 31 w' w.heap.size (fun _ => True) v0_ r ∧ Below w.heap.size w w' := by
  have hu31 := Try.underlying31
  have HR0 := Aside0.mk hr0
  have HC0 := Aside0.mk hc0
  clear hr0 hc0
  have HB := Aside0.mk (Below.refl w.heap.size w)
  have H : ((triremeref05_Drop.f k l0 a1).bind fun t207 => (triremeref05_Set.l0 k t207 a1 a2 ([] : List (S31)) 0)) = some r := h
  clear h
  replace H := Option.bind_eq_some_iff.mp H
  obtain ⟨t207, A40, H⟩ := H
  replace H : (triremeref05_Set.l0 k t207 a1 a2 ([] : List (S31)) 0) = some r := H
  have A4 := Aside0.mk A40
  clear A40
  have H' := Aside0.mk H
  clear H
  go_enter Try.func13, Try.ntmps13
  go_wp2_with (first | ((first | ((with_reducible refine gate_callee (f := 14) rfl ?_); refine goesL_ (some 11) rfl rfl Try.func14 (by kernel_rfl) rfl #[.slice A0 l0.length c0, .string a1] rfl (by (try simp only [List.map_toArray, List.map_cons, List.map_nil]); first | done | rfl | (simp only [List.length_drop, List.length_take]; rfl)) ?_; (with_reducible refine (triremeref05_Drop.calls k _ _ l0 a1 t207 _ ?side1 ?side2 A4.out).mono ?_); (case side1 => repeat (first | exact HR0.out | (with_reducible refine Kd.C_alloc ?_ _) | (with_reducible refine Kd.C_drewN ?_ _) | (with_reducible refine Kd.C_drew ?_))); (case side2 => exact HC0.out); rintro e w5 ⟨v208, rfl, ho0, hb⟩; refine ⟨_, rfl, ?_⟩) | (go_at_call 14; (with_reducible refine (triremeref05_Drop.calls k _ _ l0 a1 t207 _ ?side1 ?side2 A4.out).mono ?_); (case side1 => repeat (first | exact HR0.out | (with_reducible refine Kd.C_alloc ?_ _) | (with_reducible refine Kd.C_drewN ?_ _) | (with_reducible refine Kd.C_drew ?_))); (case side2 => exact HC0.out); rintro e w5 ⟨v208, rfl, ho0, hb⟩)); have n0_ := Aside0.mk (Kd.R_lower ho0 (below_size (by repeat (first | (with_reducible first | exact HB.out | apply below_alloc | apply pw_below_drewN | apply below_drew1) | exact HB.out)))); have n1_ := Aside0.mk (below_step (by repeat (first | (with_reducible first | exact HB.out | apply below_alloc | apply pw_below_drewN | apply below_drew1) | exact HB.out)) hb); clear HB; have HO209 := n0_; have HB := n1_; clear n0_ n1_; (try clear hb); (try clear hb2); (try clear hk); (try clear hi); (try clear ho0)))
  go_loopg [7, 8] k (fun kq v7 v8 w' => ∃ (x7_1 : List (S31)) (x8_1 : Int), v8 = .int .i64 x8_1 ∧ Aside0 (triremeref05_Set.l0 kq t207 a1 a2 x7_1 x8_1 = some r) ∧ Aside0 (kq ≤ k) ∧ Aside0 (Kd.R k31 31 w' w.heap.size (fun k_ => some k_ ≠ (v7 : Value).ownBlock) v208 t207) ∧ Aside0 (Kd.R k31 31 w' w.heap.size (fun k_ => some k_ ≠ (v208 : Value).ownBlock) v7 x7_1) ∧ Aside0 (Below w.heap.size w w'))
  case atStart => exact ⟨(([] : List (S31))), (0), (by first | rfl | (simp; done) | (simp [*]; done)), H', ⟨Nat.le_refl _⟩, ⟨by (with_reducible repeat (first | apply Kd.R_alloc | apply Kd.R_drewN | apply Kd.R_drew)); exact Kd.R_mono HO209.out (fun _ hk => (by simp [Value.ownBlock]))⟩, ⟨by first | exact Kd.R_nil _ _ _ _ _ | exact Kd.N_nil _ _ _ _ _ | exact Kd.V_nil _ _ _ _ _ | exact Kd.Q_nil _ _ _ _ _ | exact Kd.S_nil _ _ _ _ _⟩, ⟨by repeat (first | (with_reducible first | exact HB.out | apply below_alloc | apply pw_below_drewN | apply below_drew1) | exact HB.out)⟩⟩
  case round =>
    clear H'
    try clear c1
    try clear p2
    obtain ⟨x7_1, x8_1, rfl, HA, HK1, HO_0, HO_7, HB⟩ := hrel
    cases gk with
    | zero => exact absurd HA.out (by simp [triremeref05_Set.l0])
    | succ k1 =>
      have H := HA.out
      clear HA
      simp only [triremeref05_Set.l0] at H
      by_cases c6 : x8_1 < (t207.length : Int)
      · rw [if_pos c6] at H
        have c6b0 : decide (x8_1 < (t207.length : Int)) = true := decide_eq_true c6
        clear c6
        by_cases c7 : 0 ≤ x8_1
        · rw [if_pos c7] at H
          have c7b0 : decide (0 ≤ x8_1) = true := decide_eq_true c7
          clear c7
          replace H := Option.bind_eq_some_iff.mp H
          obtain ⟨t211, A80, H⟩ := H
          replace H : (if t211 = true then (if x7_1.length < 4398046511104 then (triremeref05_Set.l0 k1 t207 a1 a2 (x7_1 ++ [(⟨(rd_T31 t207 x8_1).f0, (rd_T31 t207 x8_1).f1⟩ : S31)]) (wrap64 (x8_1 + 1))) else (none)) else (if x7_1.length < 4398046511104 then ((some (x7_1 ++ [(⟨a1, a2⟩ : S31)] : List (S31))).bind fun y216 => (if x8_1 ≤ (t207.length : Int) then ((some (t207.drop (x8_1 : Int).toNat : List (S31))).bind fun y219 => (if y216.length + y219.length < 4398046511104 then (some (y216 ++ y219)) else (none))) else (none))) else (none))) = some r := H
          have A8 := Aside0.mk A80
          clear A80
          by_cases c9 : t211 = true
          · subst c9
            have H1 : (if x7_1.length < 4398046511104 then (triremeref05_Set.l0 k1 t207 a1 a2 (x7_1 ++ [(⟨(rd_T31 t207 x8_1).f0, (rd_T31 t207 x8_1).f1⟩ : S31)]) (wrap64 (x8_1 + 1))) else (none)) = some r := by rw [if_pos rfl] at H; exact H
            clear H
            have H := H1
            clear H1
            by_cases c10 : x7_1.length < 4398046511104
            · rw [if_pos c10] at H
              have LMc10 := Aside0.mk c10
              clear c10
              obtain ⟨y213, hy213⟩ : ∃ y_ : List (S31), y_ = (x7_1 ++ [(⟨(rd_T31 t207 x8_1).f0, (rd_T31 t207 x8_1).f1⟩ : S31)]) := ⟨_, rfl⟩
              replace H : (triremeref05_Set.l0 k1 t207 a1 a2 y213 (wrap64 (x8_1 + 1))) = some r := by first | (rw [hy213]; with_reducible exact H) | (have H2_ := (Option.bind_some _ _).symm.trans H; rw [hy213]; with_reducible exact H2_) | (have H2_ := (Option.bind_some _ _).symm.trans H; with_reducible exact H2_) | with_reducible exact H | (rw [hy213]; exact H) | exact H
              have Ny213 := Aside0.mk hy213
              clear hy213
              have H' := Aside0.mk H
              clear H
              obtain ⟨Ao11, co11, eo11⟩ := Kd.R_slice HO_0.out
              subst eo11
              have p210 : 0 ≤ (x8_1 : Int) := of_decide_eq_true (by first | (with_reducible assumption) | assumption)
              have q210 : x8_1 < (t207.length : Int) := of_decide_eq_true (by first | (with_reducible assumption) | assumption)
              obtain ⟨ad210, e210, hx210_0, hx210_1⟩ := at_T31 (Kd.R_reads' HO_0.out).2.2 x8_1 p210 q210
              cases e210
              replace p210 := eq_true p210
              replace q210 := eq_true q210
              go_wp2_with (first | (go_at_call 25; (with_reducible refine (triremeref05_Less.calls k1 ((rd_T31 t207 x8_1).f0) a1 true _ A8.out).mono ?_); rintro e w' ⟨rfl, ⟨nd, rfl⟩⟩; have p212 : 0 ≤ (x8_1 : Int) := of_decide_eq_true (by first | (with_reducible assumption) | assumption); have q212 : x8_1 < (t207.length : Int) := of_decide_eq_true (by first | (with_reducible assumption) | assumption); obtain ⟨ad212, e212, hx212_0, hx212_1⟩ := at_T31 (Kd.R_reads' HO_0.out).2.2 x8_1 p212 q212; obtain rfl : ad210 = ad212 := (by injection e212); replace p212 := eq_true p212; replace q212 := eq_true q212) | ((with_reducible refine gate_builtin (b := .append) (xs := #[.tmp 25, .tmp 30]) rfl ?_); at_builtin; refine Kd.R_append k31 (w0 := w) w.heap.size rfl (.tmp 25) (.tmp 30) 22 31 (.agg #[(.string ⟨#[]⟩), (.string ⟨#[]⟩)]) 32 rfl Try.underlying22 info31 rfl (by decide) (by omega) u7 x7_1 (⟨(rd_T31 t207 x8_1).f0, (rd_T31 t207 x8_1).f1⟩ : S31) [.string ((rd_T31 t207 x8_1).f0), .string ((rd_T31 t207 x8_1).f1)] (fun k_ => some k_ ≠ (.slice (some ad210) t207.length co11 : Value).ownBlock) (fun _ => False) rfl rfl ?aP (fun _ hk => hk.elim) ?aF ?aO ?aB ?aS ?aL ?_; (case aP => exact k31_mkM _ _ _ (⟨(rd_T31 t207 x8_1).f0, (rd_T31 t207 x8_1).f1⟩ : S31)); (case aB => exact (by repeat (first | (with_reducible first | exact HB.out | apply below_alloc | apply pw_below_drewN | apply below_drew1) | exact HB.out))); (case aF => exact (fun k_ hk => Kd.fresh' (Kd.R_lt (by (with_reducible repeat (first | apply Kd.R_alloc | apply Kd.R_drewN | apply Kd.R_drew)); exact HO_0.out)) k_ hk)); (case aO => exact (by (with_reducible repeat (first | apply Kd.R_alloc | apply Kd.R_drewN | apply Kd.R_drew)); exact HO_7.out)); (case aS => exact (below_size (by repeat (first | (with_reducible first | exact HB.out | apply below_alloc | apply pw_below_drewN | apply below_drew1) | exact HB.out)))); (case aL => have := LMc10.out; omega); intro v214 w12 ho hb hg hat; rw [← Ny213.out] at ho; have n0_ := Aside0.mk (Kd.R_after (ok := (fun _ => True)) (by (with_reducible repeat (first | apply Kd.R_alloc | apply Kd.R_drewN | apply Kd.R_drew)); exact Kd.R_mono HO_0.out (fun _ hk => ⟨trivial, hk⟩)) hg hat); have n1_ := Aside0.mk (hb); have n2_ := Aside0.mk (ho); clear HO_0; clear HB; clear HO_7; have HO_0 := n0_; have HB := n1_; have HO215 := n2_; clear n0_ n1_ n2_; clear ho hb hg hat))
              go_roundg k1
              case measure => have := HK1.out; omega
              case rel => exact ⟨(y213), (wrap64 (x8_1 + 1)), (by first | rfl | (simp; done) | (simp [*]; done)), H', ⟨by have := HK1.out; omega⟩, ⟨by (with_reducible repeat (first | apply Kd.R_alloc | apply Kd.R_drewN | apply Kd.R_drew)); exact Kd.R_mono HO_0.out (fun _ hk => hk.2)⟩, ⟨by (with_reducible repeat (first | apply Kd.R_alloc | apply Kd.R_drewN | apply Kd.R_drew)); exact HO215.out⟩, ⟨by repeat (first | (with_reducible first | exact HB.out | apply below_alloc | apply pw_below_drewN | apply below_drew1) | exact HB.out)⟩⟩
            · rw [if_neg c10] at H
              exact absurd H (by simp)
          · replace c9 := Bool.eq_false_iff.mpr c9
            subst c9
            have H1 : (if x7_1.length < 4398046511104 then ((some (x7_1 ++ [(⟨a1, a2⟩ : S31)] : List (S31))).bind fun y216 => (if x8_1 ≤ (t207.length : Int) then ((some (t207.drop (x8_1 : Int).toNat : List (S31))).bind fun y219 => (if y216.length + y219.length < 4398046511104 then (some (y216 ++ y219)) else (none))) else (none))) else (none)) = some r := by rw [if_neg (show ¬ (false = true) by decide)] at H; exact H
            clear H
            have H := H1
            clear H1
            by_cases c13 : x7_1.length < 4398046511104
            · rw [if_pos c13] at H
              have LMc13 := Aside0.mk c13
              clear c13
              obtain ⟨y216, hy216⟩ : ∃ y_ : List (S31), y_ = (x7_1 ++ [(⟨a1, a2⟩ : S31)]) := ⟨_, rfl⟩
              replace H : (if x8_1 ≤ (t207.length : Int) then ((some (t207.drop (x8_1 : Int).toNat : List (S31))).bind fun y219 => (if y216.length + y219.length < 4398046511104 then (some (y216 ++ y219)) else (none))) else (none)) = some r := by first | (rw [hy216]; with_reducible exact H) | (have H2_ := (Option.bind_some _ _).symm.trans H; rw [hy216]; with_reducible exact H2_) | (have H2_ := (Option.bind_some _ _).symm.trans H; with_reducible exact H2_) | with_reducible exact H | (rw [hy216]; exact H) | exact H
              have Ny216 := Aside0.mk hy216
              clear hy216
              have c14b0 := eq_true (of_decide_eq_true (by first | (with_reducible assumption) | assumption) : 0 ≤ x8_1)
              by_cases c15 : x8_1 ≤ (t207.length : Int)
              · rw [if_pos c15] at H
                have c15b0 := eq_true c15
                have c15b1 : decide (x8_1 ≤ (t207.length : Int)) = true := decide_eq_true c15
                clear c15
                obtain ⟨y219, hy219⟩ : ∃ y_ : List (S31), y_ = (t207.drop (x8_1 : Int).toNat) := ⟨_, rfl⟩
                replace H : (if y216.length + y219.length < 4398046511104 then (some (y216 ++ y219)) else (none)) = some r := by first | (rw [hy219]; with_reducible exact H) | (have H2_ := (Option.bind_some _ _).symm.trans H; rw [hy219]; with_reducible exact H2_) | (have H2_ := (Option.bind_some _ _).symm.trans H; with_reducible exact H2_) | with_reducible exact H | (rw [hy219]; exact H) | exact H
                have Ny219 := Aside0.mk hy219
                clear hy219
                by_cases c16 : y216.length + y219.length < 4398046511104
                · rw [if_pos c16] at H
                  have LMc16 := Aside0.mk c16
                  clear c16
                  obtain ⟨y223, hy223⟩ : ∃ y_ : List (S31), y_ = (y216 ++ y219) := ⟨_, rfl⟩
                  replace H : (some y223) = some r := by first | (rw [hy223]; with_reducible exact H) | (have H2_ := (Option.bind_some _ _).symm.trans H; rw [hy223]; with_reducible exact H2_) | (have H2_ := (Option.bind_some _ _).symm.trans H; with_reducible exact H2_) | with_reducible exact H | (rw [hy223]; exact H) | exact H
                  have Ny223 := Aside0.mk hy223
                  clear hy223
                  obtain rfl := Option.some.inj H
                  obtain ⟨Ao17, co17, eo17⟩ := Kd.R_slice HO_0.out
                  subst eo17
                  have p210 : 0 ≤ (x8_1 : Int) := of_decide_eq_true (by first | (with_reducible assumption) | assumption)
                  have q210 : x8_1 < (t207.length : Int) := of_decide_eq_true (by first | (with_reducible assumption) | assumption)
                  obtain ⟨ad210, e210, hx210_0, hx210_1⟩ := at_T31 (Kd.R_reads' HO_0.out).2.2 x8_1 p210 q210
                  cases e210
                  replace p210 := eq_true p210
                  replace q210 := eq_true q210
                  go_wp2_with (first | (go_at_call 25; (with_reducible refine (triremeref05_Less.calls k1 ((rd_T31 t207 x8_1).f0) a1 false _ A8.out).mono ?_); rintro e w' ⟨rfl, ⟨nd, rfl⟩⟩) | ((with_reducible refine gate_builtin (b := .append) (xs := #[.tmp 34, .tmp 38]) rfl ?_); at_builtin; refine Kd.R_append k31 (w0 := w) w.heap.size rfl (.tmp 34) (.tmp 38) 22 31 (.agg #[(.string ⟨#[]⟩), (.string ⟨#[]⟩)]) 32 rfl Try.underlying22 info31 rfl (by decide) (by omega) u7 x7_1 (⟨a1, a2⟩ : S31) [.string a1, .string a2] (fun k_ => some k_ ≠ (.slice (some ad210) t207.length co17 : Value).ownBlock) (fun _ => False) rfl rfl ?aP (fun _ hk => hk.elim) ?aF ?aO ?aB ?aS ?aL ?_; (case aP => exact k31_mkM _ _ _ (⟨a1, a2⟩ : S31)); (case aB => exact (by repeat (first | (with_reducible first | exact HB.out | apply below_alloc | apply pw_below_drewN | apply below_drew1) | exact HB.out))); (case aF => exact (fun k_ hk => Kd.fresh' (Kd.R_lt (by (with_reducible repeat (first | apply Kd.R_alloc | apply Kd.R_drewN | apply Kd.R_drew)); exact HO_0.out)) k_ hk)); (case aO => exact (by (with_reducible repeat (first | apply Kd.R_alloc | apply Kd.R_drewN | apply Kd.R_drew)); exact HO_7.out)); (case aS => exact (below_size (by repeat (first | (with_reducible first | exact HB.out | apply below_alloc | apply pw_below_drewN | apply below_drew1) | exact HB.out)))); (case aL => have := LMc13.out; omega); intro v217 w18 ho hb hg hat; rw [← Ny216.out] at ho; have n0_ := Aside0.mk (Kd.R_after (ok := (fun _ => True)) (by (with_reducible repeat (first | apply Kd.R_alloc | apply Kd.R_drewN | apply Kd.R_drew)); exact Kd.R_mono HO_0.out (fun _ hk => ⟨trivial, hk⟩)) hg hat); have n1_ := Aside0.mk (hb); have n2_ := Aside0.mk (ho); clear HO_0; clear HB; clear HO_7; have HO_0 := n0_; have HB := n1_; have HO218 := n2_; clear n0_ n1_ n2_; clear ho hb hg hat; have q19 : (x8_1 : Int) ≤ ((t207.length : Int) : Int) := of_decide_eq_true (by first | (with_reducible assumption) | assumption); obtain ⟨i019, hi019, _, hsz19, _⟩ := info_parts info31; have hroom19 : t207.length ≤ co17 := (Kd.R_reads' HO_0.out).2.1; have hC19 : Kd.C k31 _ (some ad210) t207.length t207 := (Kd.R_reads' HO_0.out).2.2; have q019 : (0 : Int) ≤ (x8_1 : Int) := of_decide_eq_true (by first | (with_reducible assumption) | assumption); have hcut19 := cut_from (P := Try.prog) 22 31 .i64 Try.underlying22 hi019 2 hsz19 (some ad210) t207.length co17 x8_1 q019 q19; have hr19 := Kd.C_drop (m := (x8_1 : Int).toNat) (c := co17) hC19 (by omega) hroom19; obtain ⟨A19, hA19⟩ : ∃ A1, A1 = (if co17 = (x8_1 : Int).toNat then (some ad210) else ((some ad210) : Option Addr).map (·.add ((x8_1 : Int).toNat * 2))) := ⟨_, rfl⟩; obtain ⟨c19, hc19⟩ : ∃ c1, c1 = co17 - (x8_1 : Int).toNat := ⟨_, rfl⟩; have hy19 : y219.length = t207.length - (x8_1 : Int).toNat := (by rw [Ny219.out, List.length_drop] <;> omega); rw [show (t207).drop (x8_1 : Int).toNat = y219 from Ny219.out.symm] at hr19; replace hr19 : Kd.C k31 _ A19 y219.length y219 := (by rw [hA19]; exact hr19); rw [← hy19, ← hA19, ← hc19] at hcut19; have HR222 := Aside0.mk hr19; have HC222 := Aside0.mk (show y219.length ≤ c19 from by rw [hy19, hc19]; exact Nat.sub_le_sub_right hroom19 _); clear hr19 hC19 hroom19 hi019 hsz19 hc19; have KY19 := Aside0.mk hy19; have KA19 := Aside0.mk hA19; clear hy19 hA19; have KL19 := Aside0.mk (show (x8_1 : Int).toNat ≤ t207.length from by omega); replace q19 := eq_true q19) | ((with_reducible refine gate_builtin (b := .append) (xs := #[.tmp 40, .tmp 43]) rfl ?_); at_builtin; refine Kd.R_append_rows k31 (w0 := w) w.heap.size rfl (.tmp 40) (.tmp 43) 22 31 (.agg #[(.string ⟨#[]⟩), (.string ⟨#[]⟩)]) 32 rfl Try.underlying22 info31 rfl (by decide) (by omega) v217 y216 y219 _ _ _ (fun k_ => some k_ ≠ (.slice (some ad210) t207.length co17 : Value).ownBlock) (fun _ => False) rfl rfl ?aO ?aR (fun _ _ h => h) (fun _ h => h.elim) ?aF ?aB ?aS ?aL ?_; (case aR => repeat (first | exact (by repeat (first | (with_reducible exact HR222.out) | (with_reducible refine Kd.C_alloc ?_ _) | (with_reducible refine Kd.C_drewN ?_ _) | (with_reducible refine Kd.C_drew ?_) | exact HR222.out)) | (with_reducible refine Kd.C_alloc ?_ _) | (with_reducible refine Kd.C_drewN ?_ _) | (with_reducible refine Kd.C_drew ?_))); (case aB => exact (by repeat (first | (with_reducible first | exact HB.out | apply below_alloc | apply pw_below_drewN | apply below_drew1) | exact HB.out))); (case aF => exact (fun k_ hk => Kd.fresh' (Kd.R_lt (by (with_reducible repeat (first | apply Kd.R_alloc | apply Kd.R_drewN | apply Kd.R_drew)); exact HO_0.out)) k_ hk)); (case aO => exact (by (with_reducible repeat (first | apply Kd.R_alloc | apply Kd.R_drewN | apply Kd.R_drew)); exact HO218.out)); (case aS => exact (below_size (by repeat (first | (with_reducible first | exact HB.out | apply below_alloc | apply pw_below_drewN | apply below_drew1) | exact HB.out)))); (case aL => have := LMc16.out; omega); intro v224 w20 ho hb hg hat; rw [← Ny223.out] at ho; have n0_ := Aside0.mk (Kd.R_after (ok := (fun _ => True)) (by (with_reducible repeat (first | apply Kd.R_alloc | apply Kd.R_drewN | apply Kd.R_drew)); exact HO_0.out) hg hat); have n1_ := Aside0.mk (hb); have n2_ := Aside0.mk ((show Kd.C k31 w20 A19 y219.length y219 from by rw [Ny219.out, KA19.out]; exact Kd.C_drop (m := (x8_1 : Int).toNat) (c := co17) ((Kd.R_reads' (Kd.R_after (ok := (fun _ => True)) (by (with_reducible repeat (first | apply Kd.R_alloc | apply Kd.R_drewN | apply Kd.R_drew)); exact HO_0.out) hg hat)).2.2) KL19.out ((Kd.R_reads' (Kd.R_after (ok := (fun _ => True)) (by (with_reducible repeat (first | apply Kd.R_alloc | apply Kd.R_drewN | apply Kd.R_drew)); exact HO_0.out) hg hat)).2.1))); have n3_ := Aside0.mk (ho); clear HO_0; clear HB; clear HR222; clear HO218; have HO_0 := n0_; have HB := n1_; have HR222 := n2_; have HO225 := n3_; clear n0_ n1_ n2_ n3_; clear ho hb hg hat))
                  go_ret
                  exact ⟨_, by first | rfl | (simp [errW_none, errW_some] <;> rfl) | (simp [*, errW_none, errW_some] <;> rfl), by (with_reducible repeat (first | apply Kd.R_alloc | apply Kd.R_drewN | apply Kd.R_drew)); exact Kd.R_mono HO225.out (fun _ hk => trivial), by repeat (first | (with_reducible first | exact HB.out | apply below_alloc | apply pw_below_drewN | apply below_drew1) | exact HB.out)⟩
                · rw [if_neg c16] at H
                  exact absurd H (by simp)
              · rw [if_neg c15] at H
                exact absurd H (by simp)
            · rw [if_neg c13] at H
              exact absurd H (by simp)
        · rw [if_neg c7] at H
          exact absurd H (by simp)
      · rw [if_neg c6] at H
        have c6b0 : decide (x8_1 < (t207.length : Int)) = false := decide_eq_false c6
        clear c6
        by_cases c21 : x7_1.length < 4398046511104
        · rw [if_pos c21] at H
          have LMc21 := Aside0.mk c21
          clear c21
          obtain ⟨y226, hy226⟩ : ∃ y_ : List (S31), y_ = (x7_1 ++ [(⟨a1, a2⟩ : S31)]) := ⟨_, rfl⟩
          replace H : (if 0 ≤ x8_1 then (if x8_1 ≤ (t207.length : Int) then ((some (t207.drop (x8_1 : Int).toNat : List (S31))).bind fun y229 => (if y226.length + y229.length < 4398046511104 then (some (y226 ++ y229)) else (none))) else (none)) else (none)) = some r := by first | (rw [hy226]; with_reducible exact H) | (have H2_ := (Option.bind_some _ _).symm.trans H; rw [hy226]; with_reducible exact H2_) | (have H2_ := (Option.bind_some _ _).symm.trans H; with_reducible exact H2_) | with_reducible exact H | (rw [hy226]; exact H) | exact H
          have Ny226 := Aside0.mk hy226
          clear hy226
          by_cases c22 : 0 ≤ x8_1
          · rw [if_pos c22] at H
            have c22b0 := eq_true c22
            have c22b1 : decide (0 ≤ x8_1) = true := decide_eq_true c22
            clear c22
            by_cases c23 : x8_1 ≤ (t207.length : Int)
            · rw [if_pos c23] at H
              have c23b0 := eq_true c23
              have c23b1 : decide (x8_1 ≤ (t207.length : Int)) = true := decide_eq_true c23
              clear c23
              obtain ⟨y229, hy229⟩ : ∃ y_ : List (S31), y_ = (t207.drop (x8_1 : Int).toNat) := ⟨_, rfl⟩
              replace H : (if y226.length + y229.length < 4398046511104 then (some (y226 ++ y229)) else (none)) = some r := by first | (rw [hy229]; with_reducible exact H) | (have H2_ := (Option.bind_some _ _).symm.trans H; rw [hy229]; with_reducible exact H2_) | (have H2_ := (Option.bind_some _ _).symm.trans H; with_reducible exact H2_) | with_reducible exact H | (rw [hy229]; exact H) | exact H
              have Ny229 := Aside0.mk hy229
              clear hy229
              by_cases c24 : y226.length + y229.length < 4398046511104
              · rw [if_pos c24] at H
                have LMc24 := Aside0.mk c24
                clear c24
                obtain ⟨y233, hy233⟩ : ∃ y_ : List (S31), y_ = (y226 ++ y229) := ⟨_, rfl⟩
                replace H : (some y233) = some r := by first | (rw [hy233]; with_reducible exact H) | (have H2_ := (Option.bind_some _ _).symm.trans H; rw [hy233]; with_reducible exact H2_) | (have H2_ := (Option.bind_some _ _).symm.trans H; with_reducible exact H2_) | with_reducible exact H | (rw [hy233]; exact H) | exact H
                have Ny233 := Aside0.mk hy233
                clear hy233
                obtain rfl := Option.some.inj H
                obtain ⟨Ao25, co25, eo25⟩ := Kd.R_slice HO_0.out
                subst eo25
                go_wp2_with (first | ((with_reducible refine gate_builtin (b := .append) (xs := #[.tmp 34, .tmp 38]) rfl ?_); at_builtin; refine Kd.R_append k31 (w0 := w) w.heap.size rfl (.tmp 34) (.tmp 38) 22 31 (.agg #[(.string ⟨#[]⟩), (.string ⟨#[]⟩)]) 32 rfl Try.underlying22 info31 rfl (by decide) (by omega) u7 x7_1 (⟨a1, a2⟩ : S31) [.string a1, .string a2] (fun k_ => some k_ ≠ (.slice Ao25 t207.length co25 : Value).ownBlock) (fun _ => False) rfl rfl ?aP (fun _ hk => hk.elim) ?aF ?aO ?aB ?aS ?aL ?_; (case aP => exact k31_mkM _ _ _ (⟨a1, a2⟩ : S31)); (case aB => exact (by repeat (first | (with_reducible first | exact HB.out | apply below_alloc | apply pw_below_drewN | apply below_drew1) | exact HB.out))); (case aF => exact (fun k_ hk => Kd.fresh' (Kd.R_lt (by (with_reducible repeat (first | apply Kd.R_alloc | apply Kd.R_drewN | apply Kd.R_drew)); exact HO_0.out)) k_ hk)); (case aO => exact (by (with_reducible repeat (first | apply Kd.R_alloc | apply Kd.R_drewN | apply Kd.R_drew)); exact HO_7.out)); (case aS => exact (below_size (by repeat (first | (with_reducible first | exact HB.out | apply below_alloc | apply pw_below_drewN | apply below_drew1) | exact HB.out)))); (case aL => have := LMc21.out; omega); intro v227 w26 ho hb hg hat; rw [← Ny226.out] at ho; have n0_ := Aside0.mk (Kd.R_after (ok := (fun _ => True)) (by (with_reducible repeat (first | apply Kd.R_alloc | apply Kd.R_drewN | apply Kd.R_drew)); exact Kd.R_mono HO_0.out (fun _ hk => ⟨trivial, hk⟩)) hg hat); have n1_ := Aside0.mk (hb); have n2_ := Aside0.mk (ho); clear HO_0; clear HB; clear HO_7; have HO_0 := n0_; have HB := n1_; have HO228 := n2_; clear n0_ n1_ n2_; clear ho hb hg hat; have q27 : (x8_1 : Int) ≤ ((t207.length : Int) : Int) := of_decide_eq_true (by first | (with_reducible assumption) | assumption); obtain ⟨i027, hi027, _, hsz27, _⟩ := info_parts info31; have hroom27 : t207.length ≤ co25 := (Kd.R_reads' HO_0.out).2.1; have hC27 : Kd.C k31 _ Ao25 t207.length t207 := (Kd.R_reads' HO_0.out).2.2; have q027 : (0 : Int) ≤ (x8_1 : Int) := of_decide_eq_true (by first | (with_reducible assumption) | assumption); have hcut27 := cut_from (P := Try.prog) 22 31 .i64 Try.underlying22 hi027 2 hsz27 Ao25 t207.length co25 x8_1 q027 q27; have hr27 := Kd.C_drop (m := (x8_1 : Int).toNat) (c := co25) hC27 (by omega) hroom27; obtain ⟨A27, hA27⟩ : ∃ A1, A1 = (if co25 = (x8_1 : Int).toNat then Ao25 else (Ao25 : Option Addr).map (·.add ((x8_1 : Int).toNat * 2))) := ⟨_, rfl⟩; obtain ⟨c27, hc27⟩ : ∃ c1, c1 = co25 - (x8_1 : Int).toNat := ⟨_, rfl⟩; have hy27 : y229.length = t207.length - (x8_1 : Int).toNat := (by rw [Ny229.out, List.length_drop] <;> omega); rw [show (t207).drop (x8_1 : Int).toNat = y229 from Ny229.out.symm] at hr27; replace hr27 : Kd.C k31 _ A27 y229.length y229 := (by rw [hA27]; exact hr27); rw [← hy27, ← hA27, ← hc27] at hcut27; have HR232 := Aside0.mk hr27; have HC232 := Aside0.mk (show y229.length ≤ c27 from by rw [hy27, hc27]; exact Nat.sub_le_sub_right hroom27 _); clear hr27 hC27 hroom27 hi027 hsz27 hc27; have KY27 := Aside0.mk hy27; have KA27 := Aside0.mk hA27; clear hy27 hA27; have KL27 := Aside0.mk (show (x8_1 : Int).toNat ≤ t207.length from by omega); replace q27 := eq_true q27) | ((with_reducible refine gate_builtin (b := .append) (xs := #[.tmp 40, .tmp 43]) rfl ?_); at_builtin; refine Kd.R_append_rows k31 (w0 := w) w.heap.size rfl (.tmp 40) (.tmp 43) 22 31 (.agg #[(.string ⟨#[]⟩), (.string ⟨#[]⟩)]) 32 rfl Try.underlying22 info31 rfl (by decide) (by omega) v227 y226 y229 _ _ _ (fun k_ => some k_ ≠ (.slice Ao25 t207.length co25 : Value).ownBlock) (fun _ => False) rfl rfl ?aO ?aR (fun _ _ h => h) (fun _ h => h.elim) ?aF ?aB ?aS ?aL ?_; (case aR => repeat (first | exact (by repeat (first | (with_reducible exact HR232.out) | (with_reducible refine Kd.C_alloc ?_ _) | (with_reducible refine Kd.C_drewN ?_ _) | (with_reducible refine Kd.C_drew ?_) | exact HR232.out)) | (with_reducible refine Kd.C_alloc ?_ _) | (with_reducible refine Kd.C_drewN ?_ _) | (with_reducible refine Kd.C_drew ?_))); (case aB => exact (by repeat (first | (with_reducible first | exact HB.out | apply below_alloc | apply pw_below_drewN | apply below_drew1) | exact HB.out))); (case aF => exact (fun k_ hk => Kd.fresh' (Kd.R_lt (by (with_reducible repeat (first | apply Kd.R_alloc | apply Kd.R_drewN | apply Kd.R_drew)); exact HO_0.out)) k_ hk)); (case aO => exact (by (with_reducible repeat (first | apply Kd.R_alloc | apply Kd.R_drewN | apply Kd.R_drew)); exact HO228.out)); (case aS => exact (below_size (by repeat (first | (with_reducible first | exact HB.out | apply below_alloc | apply pw_below_drewN | apply below_drew1) | exact HB.out)))); (case aL => have := LMc24.out; omega); intro v234 w28 ho hb hg hat; rw [← Ny233.out] at ho; have n0_ := Aside0.mk (Kd.R_after (ok := (fun _ => True)) (by (with_reducible repeat (first | apply Kd.R_alloc | apply Kd.R_drewN | apply Kd.R_drew)); exact HO_0.out) hg hat); have n1_ := Aside0.mk (hb); have n2_ := Aside0.mk ((show Kd.C k31 w28 A27 y229.length y229 from by rw [Ny229.out, KA27.out]; exact Kd.C_drop (m := (x8_1 : Int).toNat) (c := co25) ((Kd.R_reads' (Kd.R_after (ok := (fun _ => True)) (by (with_reducible repeat (first | apply Kd.R_alloc | apply Kd.R_drewN | apply Kd.R_drew)); exact HO_0.out) hg hat)).2.2) KL27.out ((Kd.R_reads' (Kd.R_after (ok := (fun _ => True)) (by (with_reducible repeat (first | apply Kd.R_alloc | apply Kd.R_drewN | apply Kd.R_drew)); exact HO_0.out) hg hat)).2.1))); have n3_ := Aside0.mk (ho); clear HO_0; clear HB; clear HR232; clear HO228; have HO_0 := n0_; have HB := n1_; have HR232 := n2_; have HO235 := n3_; clear n0_ n1_ n2_ n3_; clear ho hb hg hat))
                go_ret
                exact ⟨_, by first | rfl | (simp [errW_none, errW_some] <;> rfl) | (simp [*, errW_none, errW_some] <;> rfl), by (with_reducible repeat (first | apply Kd.R_alloc | apply Kd.R_drewN | apply Kd.R_drew)); exact Kd.R_mono HO235.out (fun _ hk => trivial), by repeat (first | (with_reducible first | exact HB.out | apply below_alloc | apply pw_below_drewN | apply below_drew1) | exact HB.out)⟩
              · rw [if_neg c24] at H
                exact absurd H (by simp)
            · rw [if_neg c23] at H
              exact absurd H (by simp)
          · rw [if_neg c22] at H
            exact absurd H (by simp)
        · rw [if_neg c21] at H
          exact absurd H (by simp)
end Go.Proofs.Ytcnaefnlnjfjkaa.H
end
