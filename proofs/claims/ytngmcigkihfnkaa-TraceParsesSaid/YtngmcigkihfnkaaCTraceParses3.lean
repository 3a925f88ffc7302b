/- The events of any lines of at most 2000 bytes are as the reference reads them; or the same line is told as none. -/
import Derived.Test.YtngmcigkihfnkaaRows
import Derived.WalkKit
import Derived.ProofKit
import Derived.OpenShut
import Derived.ShutString
import Derived.ChangeOld
import Derived.Below
import Derived.SizedLaws
import Derived.Lib.OthersKept
import Derived.Maps.Own
import Derived.Maps.OwnOps
import Derived.Maps.OwnSet
import Derived.Test.YtngmcigkihfnkaaCTraceBase0
import Derived.Test.YtngmcigkihfnkaaCTraceBase1
import Derived.Test.YtngmcigkihfnkaaCTraceBase2
import Derived.Test.YtngmcigkihfnkaaCTraceBase3
import Derived.Test.YtngmcigkihfnkaaCTraceParses0
import Derived.Test.YtngmcigkihfnkaaCTraceParses1
import Derived.Test.YtngmcigkihfnkaaCTraceParses2
section
namespace Go.Proofs.Ytngmcigkihfnkaa.H
open Go.RowKit Go.Proofs.YtngmcigkihfnkaaW.PrintWords Go.Proofs.YtngmcigkihfnkaaW.PrintLast Go.Proofs.YtngmcigkihfnkaaW.PrintMore
attribute [local go_sem] max2_int min2_int max_two min_two max_three min_three max_four min_four   -- for this text's walks alone
set_option linter.unusedVariables false
set_option linter.unusedSimpArgs false
mutual
def triremeref32_Parse.l0 : Nat → ByteArray → List (S39) → Int → Int → Option ((List (S39)) × Int × Int)
  | 0, _, _, _, _ => none
  | k + 1, x0, x5, x6, x7 => if x7 < (x0.size : Int) then (triremeref32_Parse.l1 k x0 x5 x6 x7 x7) else (some (x5, 0, 0))
def triremeref32_Parse.l1 : Nat → ByteArray → List (S39) → Int → Int → Int → Option ((List (S39)) × Int × Int)
  | 0, _, _, _, _, _ => none
  | k + 1, x0, x5, x6, x7, x8 => if x8 < (x0.size : Int) then (if 0 ≤ x8 then (if (bt x0 x8) = 10 then (if 0 ≤ x7 then (if x7 ≤ x8 then (if x8 ≤ (x0.size : Int) then ((triremeref32_read.f k (x0.extract (x7 : Int).toNat (x8 : Int).toNat)).bind fun bt266 => (if bt266.2.2.2.2 = true then (if x5.length < 2932031007402 then (triremeref32_Parse.l0 k x0 (x5 ++ [(⟨bt266.1, bt266.2.1, bt266.2.2.1, bt266.2.2.2.1⟩ : S39)]) (wrap64 (x6 + 1)) (wrap64 (x8 + 1))) else (none)) else (some (([] : List (S39)), 12, wrap64 (x6 + 1))))) else (none)) else (none)) else (none)) else (triremeref32_Parse.l1 k x0 x5 x6 x7 (wrap64 (x8 + 1)))) else (none)) else (if 0 ≤ x7 then (if x7 ≤ x8 then (if x8 ≤ (x0.size : Int) then ((triremeref32_read.f k (x0.extract (x7 : Int).toNat (x8 : Int).toNat)).bind fun bt275 => (if bt275.2.2.2.2 = true then (if x5.length < 2932031007402 then (triremeref32_Parse.l0 k x0 (x5 ++ [(⟨bt275.1, bt275.2.1, bt275.2.2.1, bt275.2.2.2.1⟩ : S39)]) (wrap64 (x6 + 1)) (wrap64 (x8 + 1))) else (none)) else (some (([] : List (S39)), 12, wrap64 (x6 + 1))))) else (none)) else (none)) else (none))
end
def triremeref32_Parse.f (k : Nat) (a0 : ByteArray) : Option ((List (S39)) × Int × Int) := triremeref32_Parse.l0 k a0 ([] : List (S39)) 0 0
set_option maxHeartbeats 8000000 in
set_option maxRecDepth 100000 in
theorem triremeref32_Parse.calls (k : Nat) (a0 : ByteArray) (r1 : List (S39)) (r2 : Int) (r3 : Int) (w : World) (h : triremeref32_Parse.f k a0 = some (r1, r2, r3)) :
    Calls Try.prog 9 #[.string a0] w fun e w' => ∃ v0_ : Value, e = .returned (.tuple #[v0_, .int .i64 r2, .int .i64 r3]) ∧ Kd.R k39 39 w' w.heap.size (fun _ => True) v0_ r1 ∧ Below w.heap.size w w' := by
  have hu39 := Try.underlying39
  have HB := Aside0.mk (Below.refl w.heap.size w)
  have H : (triremeref32_Parse.l0 k a0 ([] : List (S39)) 0 0) = some (r1, r2, r3) := h
  clear h
  have H' := Aside0.mk H
  clear H
  go_enter Try.func9, Try.ntmps9
  go_wp2
  go_loopg [5, 6, 7] k (fun kq v5 v6 v7 w' => ∃ (x5_1 : List (S39)) (x6_1 : Int) (x7_1 : Int), v6 = .int .i64 x6_1 ∧ v7 = .int .i64 x7_1 ∧ Aside0 (triremeref32_Parse.l0 kq a0 x5_1 x6_1 x7_1 = some (r1, r2, r3)) ∧ Aside0 (kq ≤ k) ∧ Aside0 (Kd.R k39 39 w' w.heap.size (fun _ => True) v5 x5_1) ∧ Aside0 (Below w.heap.size w w'))
  case atStart => exact ⟨(([] : List (S39))), (0), (0), (by first | rfl | (simp; done) | (simp [*]; done)), (by first | rfl | (simp; done) | (simp [*]; done)), H', ⟨Nat.le_refl _⟩, ⟨by first | exact Kd.R_nil _ _ _ _ _ | exact Kd.N_nil _ _ _ _ _ | exact Kd.V_nil _ _ _ _ _ | exact Kd.Q_nil _ _ _ _ _ | exact Kd.S_nil _ _ _ _ _⟩, ⟨by repeat (first | (with_reducible first | exact HB.out | apply below_alloc | apply pw_below_drewN | apply below_drew1) | exact HB.out)⟩⟩
  case round =>
    clear H'
    obtain ⟨x5_1, x6_1, x7_1, rfl, rfl, HA, HK1, HO_5, HB⟩ := hrel
    cases gk with
    | zero => exact absurd HA.out (by simp [triremeref32_Parse.l0])
    | succ k1 =>
      have H := HA.out
      clear HA
      simp only [triremeref32_Parse.l0] at H
      by_cases c2 : x7_1 < (a0.size : Int)
      · rw [if_pos c2] at H
        have c2b0 : decide (x7_1 < (a0.size : Int)) = true := decide_eq_true c2
        clear c2
        have H' := Aside0.mk H
        clear H
        go_wp2
        go_loopg [8] k1 (fun kq v8 w' => ∃ (x8_2 : Int), v8 = .int .i64 x8_2 ∧ Aside0 (triremeref32_Parse.l1 kq a0 x5_1 x6_1 x7_1 x8_2 = some (r1, r2, r3)) ∧ Aside0 (kq ≤ k1) ∧ Aside0 (Kd.R k39 39 w' w.heap.size (fun _ => True) u5 x5_1) ∧ Aside0 (Below w.heap.size w w'))
        case atStart => exact ⟨(x7_1), (by first | rfl | (simp; done) | (simp [*]; done)), H', ⟨Nat.le_refl _⟩, ⟨by (with_reducible repeat (first | apply Kd.R_alloc | apply Kd.R_drewN | apply Kd.R_drew)); exact HO_5.out⟩, ⟨by repeat (first | (with_reducible first | exact HB.out | apply below_alloc | apply pw_below_drewN | apply below_drew1) | exact HB.out)⟩⟩
        case round =>
          clear H'
          try clear c2
          try clear c2b0
          try clear p2
          obtain ⟨x8_2, rfl, HA, HK2, HO_5, HB⟩ := hrel
          cases gk with
          | zero => exact absurd HA.out (by simp [triremeref32_Parse.l1])
          | succ k2 =>
            have H := HA.out
            clear HA
            simp only [triremeref32_Parse.l1] at H
            by_cases c3 : x8_2 < (a0.size : Int)
            · rw [if_pos c3] at H
              have c3b0 : decide (x8_2 < (a0.size : Int)) = true := decide_eq_true c3
              clear c3
              by_cases c4 : 0 ≤ x8_2
              · rw [if_pos c4] at H
                have c4b0 : decide (0 ≤ x8_2) = true := decide_eq_true c4
                clear c4
                by_cases c6 : (bt a0 x8_2) = 10
                · rw [if_pos c6] at H
                  have c6b0 : ((bt a0 x8_2) == 10) = true := beq_iff_eq.mpr c6
                  have c6b1 : ((bt a0 x8_2) != 10) = false := bne_eq_false_iff_eq.mpr c6
                  clear c6
                  by_cases c7 : 0 ≤ x7_1
                  · rw [if_pos c7] at H
                    have c7b0 := eq_true c7
                    (try (have c7z := c7b0; rw [ByteArray.size_extract, Nat.min_self] at c7z))
                    have c7b1 : decide (0 ≤ x7_1) = true := decide_eq_true c7
                    clear c7
                    by_cases c8 : x7_1 ≤ x8_2
                    · rw [if_pos c8] at H
                      have c8b0 := eq_true c8
                      (try (have c8z := c8b0; rw [ByteArray.size_extract, Nat.min_self] at c8z))
                      have c8b1 : decide (x7_1 ≤ x8_2) = true := decide_eq_true c8
                      clear c8
                      by_cases c9 : x8_2 ≤ (a0.size : Int)
                      · rw [if_pos c9] at H
                        have c9b0 := eq_true c9
                        (try (have c9z := c9b0; rw [ByteArray.size_extract, Nat.min_self] at c9z))
                        have c9b1 : decide (x8_2 ≤ (a0.size : Int)) = true := decide_eq_true c9
                        clear c9
                        replace H := Option.bind_eq_some_iff.mp H
                        obtain ⟨⟨t266, t267, t268, t269, t270⟩, A100, H⟩ := H
                        replace H : (if t270 = true then (if x5_1.length < 2932031007402 then (triremeref32_Parse.l0 k2 a0 (x5_1 ++ [(⟨t266, t267, t268, t269⟩ : S39)]) (wrap64 (x6_1 + 1)) (wrap64 (x8_2 + 1))) else (none)) else (some (([] : List (S39)), 12, wrap64 (x6_1 + 1)))) = some (r1, r2, r3) := H
                        have A10 := Aside0.mk A100
                        clear A100
                        by_cases c11 : t270 = true
                        · subst c11
                          have H1 : (if x5_1.length < 2932031007402 then (triremeref32_Parse.l0 k2 a0 (x5_1 ++ [(⟨t266, t267, t268, t269⟩ : S39)]) (wrap64 (x6_1 + 1)) (wrap64 (x8_2 + 1))) else (none)) = some (r1, r2, r3) := by rw [if_pos rfl] at H; exact H
                          clear H
                          have H := H1
                          clear H1
                          by_cases c12 : x5_1.length < 2932031007402
                          · rw [if_pos c12] at H
                            have LMc12 := Aside0.mk c12
                            clear c12
                            obtain ⟨y272, hy272⟩ : ∃ y_ : List (S39), y_ = (x5_1 ++ [(⟨t266, t267, t268, t269⟩ : S39)]) := ⟨_, rfl⟩
                            replace H : (triremeref32_Parse.l0 k2 a0 y272 (wrap64 (x6_1 + 1)) (wrap64 (x8_2 + 1))) = some (r1, r2, r3) := by first | (rw [hy272]; with_reducible exact H) | (have H2_ := (Option.bind_some _ _).symm.trans H; rw [hy272]; with_reducible exact H2_) | (have H2_ := (Option.bind_some _ _).symm.trans H; with_reducible exact H2_) | with_reducible exact H | (rw [hy272]; exact H) | exact H
                            have Ny272 := Aside0.mk hy272
                            clear hy272
                            have H' := Aside0.mk H
                            clear H
                            have p5 : 0 ≤ (x8_2 : Int) := of_decide_eq_true (by first | (with_reducible assumption) | assumption)
                            have q5 : x8_2 < (a0.size : Int) := of_decide_eq_true (by first | (with_reducible assumption) | assumption)
                            have hx5 := bt_at a0 x8_2
                            replace p5 := eq_true p5
                            replace q5 := eq_true q5
                            (try (have qz5 := q5; rw [ByteArray.size_extract, Nat.min_self] at qz5))
                            go_wp2_with (first | ((first | ((with_reducible refine gate_callee (f := 26) rfl ?_); refine goesL_ (some 35) rfl rfl Try.func26 (by kernel_rfl) rfl #[.string (a0.extract (x7_1 : Int).toNat (x8_2 : Int).toNat)] rfl (by (try simp only [List.map_toArray, List.map_cons, List.map_nil]); first | done | rfl | (simp only [List.length_drop, List.length_take]; rfl)) ?_; (with_reducible refine (triremeref32_read.calls k2 (a0.extract (x7_1 : Int).toNat (x8_2 : Int).toNat) t266 t267 t268 t269 true _ A10.out).mono ?_); rintro e w13 ⟨rfl, hb⟩; refine ⟨_, rfl, ?_⟩) | (go_at_call 26; (with_reducible refine (triremeref32_read.calls k2 (a0.extract (x7_1 : Int).toNat (x8_2 : Int).toNat) t266 t267 t268 t269 true _ A10.out).mono ?_); rintro e w13 ⟨rfl, hb⟩)); have n0_ := Aside0.mk (Kd.R_below (by (with_reducible repeat (first | apply Kd.R_alloc | apply Kd.R_drewN | apply Kd.R_drew)); exact HO_5.out) hb); have n1_ := Aside0.mk (below_step (by repeat (first | (with_reducible first | exact HB.out | apply below_alloc | apply pw_below_drewN | apply below_drew1) | exact HB.out)) hb); clear HO_5; clear HB; have HO_5 := n0_; have HB := n1_; clear n0_ n1_; (try clear hb); (try clear hb2); (try clear hk); (try clear hi)) | ((with_reducible refine gate_dst (N := 9) rfl ?_); refine box_event ?hg (N := 9) ?hd (cs := #[.int .i64 0, .string (⟨#[]⟩ : ByteArray), .string (⟨#[]⟩ : ByteArray), .int .i64 0]) (t := 39) ?hr ?_; (case hd => rfl); (case hg => rfl); (case hr => first | (go_simp; done) | (go_simp; rfl)); intro gb271 hg w14 hbox hb; have n0_ := Aside0.mk (Kd.R_below (Kd.R_elderB (by (with_reducible repeat (first | apply Kd.R_alloc | apply Kd.R_drewN | apply Kd.R_drew)); exact HO_5.out) gb271 (Nat.le_of_eq hg.symm)) hb); have n1_ := Aside0.mk (below_step (by repeat (first | (with_reducible first | exact HB.out | apply below_alloc | apply pw_below_drewN | apply below_drew1) | exact HB.out)) hb); have n2_ := Aside0.mk (hbox); have n3_ := Aside0.mk ((by rw [hg]; exact (below_size (by repeat (first | (with_reducible first | exact HB.out | apply below_alloc | apply pw_below_drewN | apply below_drew1) | exact HB.out))) : w.heap.size ≤ gb271)); have n4_ := Aside0.mk ((by rw [hg]; exact (below_size (by repeat (first | (with_reducible first | exact HB.out | apply below_alloc | apply pw_below_drewN | apply below_drew1) | exact HB.out))) : w.heap.size ≤ gb271)); clear HO_5; clear HB; have HO_5 := n0_; have HB := n1_; have BK271 := n2_; have GW271 := n3_; have GE271 := n4_; clear n0_ n1_ n2_ n3_ n4_; clear hb hbox hg; have hcz15_0 : w14.cell? ⟨gb271, 0, none⟩ = some (.int .i64 0) := (blk_cell BK271.out 0).trans rfl; have hcz15_1 : w14.cell? ⟨gb271, 1, none⟩ = some (.string (⟨#[]⟩ : ByteArray)) := (blk_cell BK271.out 1).trans rfl; have hcz15_2 : w14.cell? ⟨gb271, 2, none⟩ = some (.string (⟨#[]⟩ : ByteArray)) := (blk_cell BK271.out 2).trans rfl; have hcz15_3 : w14.cell? ⟨gb271, 3, none⟩ = some (.int .i64 0) := (blk_cell BK271.out 3).trans rfl; have hfz15_0 := blk_frozen BK271.out 0; have hfz15_1 := blk_frozen BK271.out 1; have hfz15_2 := blk_frozen BK271.out 2; have hfz15_3 := blk_frozen BK271.out 3) | ((with_reducible refine gate_builtin (b := .append) (xs := #[.tmp 41, .tmp 43]) rfl ?_); at_builtin; refine Kd.R_append k39 (w0 := w) w.heap.size rfl (.tmp 41) (.tmp 43) 27 39 (.agg #[(.int .i64 0), (.string ⟨#[]⟩), (.string ⟨#[]⟩), (.int .i64 0)]) 48 rfl Try.underlying27 info39 rfl (by decide) (by omega) u5 x5_1 (⟨t266, t267, t268, t269⟩ : S39) [.int .i64 t266, .string t267, .string t268, .int .i64 t269] (fun k_ => k_ ≠ gb271) (fun _ => False) rfl (by first | (go_simp; done) | (go_simp; rfl)) ?aP (fun _ hk => hk.elim) ?aF ?aO ?aB ?aS ?aL ?_; (case aP => exact k39_mkM _ _ _ (⟨t266, t267, t268, t269⟩ : S39)); (case aB => exact (by repeat (first | (with_reducible first | exact HB.out | apply below_alloc | apply pw_below_drewN | apply below_drew1 | refine below_set ?_ GE271.out) | exact HB.out))); (case aF => exact (fun k_ hk => Kd.freshB (g := gb271) (o := .cells #[.int .i64 t266, .string t267, .string t268, .int .i64 t269] 39 (0, 0)) (by (with_reducible repeat (first | refine blk_drewN ?_ _ | refine blk_drew ?_ | refine blk_alloc ?_ _)); refine blk_put (cs := #[.int .i64 t266, .string t267, .string t268, .int .i64 0]) ?_ 3 _ rfl; (with_reducible repeat (first | refine blk_drewN ?_ _ | refine blk_drew ?_ | refine blk_alloc ?_ _)); refine blk_put (cs := #[.int .i64 t266, .string t267, .string (⟨#[]⟩ : ByteArray), .int .i64 0]) ?_ 2 _ rfl; (with_reducible repeat (first | refine blk_drewN ?_ _ | refine blk_drew ?_ | refine blk_alloc ?_ _)); refine blk_put (cs := #[.int .i64 t266, .string (⟨#[]⟩ : ByteArray), .string (⟨#[]⟩ : ByteArray), .int .i64 0]) ?_ 1 _ rfl; (with_reducible repeat (first | refine blk_drewN ?_ _ | refine blk_drew ?_ | refine blk_alloc ?_ _)); refine blk_put (cs := #[.int .i64 0, .string (⟨#[]⟩ : ByteArray), .string (⟨#[]⟩ : ByteArray), .int .i64 0]) ?_ 0 _ rfl; (with_reducible repeat (first | refine blk_drewN ?_ _ | refine blk_drew ?_ | refine blk_alloc ?_ _)); exact BK271.out) k_ hk)); (case aO => exact (by (with_reducible repeat (first | apply Kd.R_alloc | apply Kd.R_drewN | apply Kd.R_drew)); exact Kd.R_mono (Kd.R_far (p := ⟨gb271, 3, none⟩) (Kd.R_far (p := ⟨gb271, 2, none⟩) (Kd.R_far (p := ⟨gb271, 1, none⟩) (Kd.R_far (p := ⟨gb271, 0, none⟩) (Kd.R_mono HO_5.out (fun k_ hk => (⟨hk, hk.2⟩ : _ ∧ k_ ≠ gb271))) (fun _ hk => hk.2) (.int .i64 t266)) (fun _ hk => hk.2) (.string t267)) (fun _ hk => hk.2) (.string t268)) (fun _ hk => hk.2) (.int .i64 t269)) (fun _ hk => hk.1.2))); (case aS => exact (below_size (by repeat (first | (with_reducible first | exact HB.out | apply below_alloc | apply pw_below_drewN | apply below_drew1 | refine below_set ?_ GE271.out) | exact HB.out)))); (case aL => have := LMc12.out; omega); intro v273 w16 ho hb hg hat; rw [← Ny272.out] at ho; have n0_ := Aside0.mk (blk_grown (g := gb271) (o := .cells #[.int .i64 t266, .string t267, .string t268, .int .i64 t269] 39 (0, 0)) (by (with_reducible repeat (first | refine blk_drewN ?_ _ | refine blk_drew ?_ | refine blk_alloc ?_ _)); refine blk_put (cs := #[.int .i64 t266, .string t267, .string t268, .int .i64 0]) ?_ 3 _ rfl; (with_reducible repeat (first | refine blk_drewN ?_ _ | refine blk_drew ?_ | refine blk_alloc ?_ _)); refine blk_put (cs := #[.int .i64 t266, .string t267, .string (⟨#[]⟩ : ByteArray), .int .i64 0]) ?_ 2 _ rfl; (with_reducible repeat (first | refine blk_drewN ?_ _ | refine blk_drew ?_ | refine blk_alloc ?_ _)); refine blk_put (cs := #[.int .i64 t266, .string (⟨#[]⟩ : ByteArray), .string (⟨#[]⟩ : ByteArray), .int .i64 0]) ?_ 1 _ rfl; (with_reducible repeat (first | refine blk_drewN ?_ _ | refine blk_drew ?_ | refine blk_alloc ?_ _)); refine blk_put (cs := #[.int .i64 0, .string (⟨#[]⟩ : ByteArray), .string (⟨#[]⟩ : ByteArray), .int .i64 0]) ?_ 0 _ rfl; (with_reducible repeat (first | refine blk_drewN ?_ _ | refine blk_drew ?_ | refine blk_alloc ?_ _)); exact BK271.out) hg (Kd.R_away HO_5.out (fun _ hk => hk.2))); have n1_ := Aside0.mk (hb); have n2_ := Aside0.mk (ho); clear BK271; clear HB; clear HO_5; have BK271 := n0_; have HB := n1_; have HO274 := n2_; clear n0_ n1_ n2_; clear ho hb hg hat))
                            go_roundg k2
                            case measure => have := HK1.out; have := HK2.out; omega
                            case rel => exact ⟨(y272), (wrap64 (x6_1 + 1)), (wrap64 (x8_2 + 1)), (by first | rfl | (simp; done) | (simp [*]; done)), (by first | rfl | (simp; done) | (simp [*]; done)), H', ⟨by have := HK1.out; have := HK2.out; omega⟩, ⟨by (with_reducible repeat (first | apply Kd.R_alloc | apply Kd.R_drewN | apply Kd.R_drew)); exact Kd.R_mono HO274.out (fun _ hk => trivial)⟩, ⟨by repeat (first | (with_reducible first | exact HB.out | apply below_alloc | apply pw_below_drewN | apply below_drew1 | refine below_set ?_ GE271.out) | exact HB.out)⟩⟩
                          · rw [if_neg c12] at H
                            exact absurd H (by simp)
                        · replace c11 := Bool.eq_false_iff.mpr c11
                          subst c11
                          have H1 : (some (([] : List (S39)), 12, wrap64 (x6_1 + 1))) = some (r1, r2, r3) := by rw [if_neg (show ¬ (false = true) by decide)] at H; exact H
                          clear H
                          have H := H1
                          clear H1
                          simp only [Option.some.injEq, Prod.mk.injEq] at H
                          obtain ⟨rfl, rfl, rfl⟩ := H
                          have p5 : 0 ≤ (x8_2 : Int) := of_decide_eq_true (by first | (with_reducible assumption) | assumption)
                          have q5 : x8_2 < (a0.size : Int) := of_decide_eq_true (by first | (with_reducible assumption) | assumption)
                          have hx5 := bt_at a0 x8_2
                          replace p5 := eq_true p5
                          replace q5 := eq_true q5
                          (try (have qz5 := q5; rw [ByteArray.size_extract, Nat.min_self] at qz5))
                          go_wp2_with (first | ((first | ((with_reducible refine gate_callee (f := 26) rfl ?_); refine goesL_ (some 35) rfl rfl Try.func26 (by kernel_rfl) rfl #[.string (a0.extract (x7_1 : Int).toNat (x8_2 : Int).toNat)] rfl (by (try simp only [List.map_toArray, List.map_cons, List.map_nil]); first | done | rfl | (simp only [List.length_drop, List.length_take]; rfl)) ?_; (with_reducible refine (triremeref32_read.calls k2 (a0.extract (x7_1 : Int).toNat (x8_2 : Int).toNat) t266 t267 t268 t269 false _ A10.out).mono ?_); rintro e w17 ⟨rfl, hb⟩; refine ⟨_, rfl, ?_⟩) | (go_at_call 26; (with_reducible refine (triremeref32_read.calls k2 (a0.extract (x7_1 : Int).toNat (x8_2 : Int).toNat) t266 t267 t268 t269 false _ A10.out).mono ?_); rintro e w17 ⟨rfl, hb⟩)); have n0_ := Aside0.mk (Kd.R_below (by (with_reducible repeat (first | apply Kd.R_alloc | apply Kd.R_drewN | apply Kd.R_drew)); exact HO_5.out) hb); have n1_ := Aside0.mk (below_step (by repeat (first | (with_reducible first | exact HB.out | apply below_alloc | apply pw_below_drewN | apply below_drew1) | exact HB.out)) hb); clear HO_5; clear HB; have HO_5 := n0_; have HB := n1_; clear n0_ n1_; (try clear hb); (try clear hb2); (try clear hk); (try clear hi)) | ((with_reducible refine gate_dst (N := 9) rfl ?_); refine box_event ?hg (N := 9) ?hd (cs := #[.int .i64 0, .string (⟨#[]⟩ : ByteArray), .string (⟨#[]⟩ : ByteArray), .int .i64 0]) (t := 39) ?hr ?_; (case hd => rfl); (case hg => rfl); (case hr => first | (go_simp; done) | (go_simp; rfl)); intro gb271 hg w18 hbox hb; have n0_ := Aside0.mk (Kd.R_below (Kd.R_elderB (by (with_reducible repeat (first | apply Kd.R_alloc | apply Kd.R_drewN | apply Kd.R_drew)); exact HO_5.out) gb271 (Nat.le_of_eq hg.symm)) hb); have n1_ := Aside0.mk (below_step (by repeat (first | (with_reducible first | exact HB.out | apply below_alloc | apply pw_below_drewN | apply below_drew1) | exact HB.out)) hb); have n2_ := Aside0.mk (hbox); have n3_ := Aside0.mk ((by rw [hg]; exact (below_size (by repeat (first | (with_reducible first | exact HB.out | apply below_alloc | apply pw_below_drewN | apply below_drew1) | exact HB.out))) : w.heap.size ≤ gb271)); have n4_ := Aside0.mk ((by rw [hg]; exact (below_size (by repeat (first | (with_reducible first | exact HB.out | apply below_alloc | apply pw_below_drewN | apply below_drew1) | exact HB.out))) : w.heap.size ≤ gb271)); clear HO_5; clear HB; have HO_5 := n0_; have HB := n1_; have BK271 := n2_; have GW271 := n3_; have GE271 := n4_; clear n0_ n1_ n2_ n3_ n4_; clear hb hbox hg; have hcz19_0 : w18.cell? ⟨gb271, 0, none⟩ = some (.int .i64 0) := (blk_cell BK271.out 0).trans rfl; have hcz19_1 : w18.cell? ⟨gb271, 1, none⟩ = some (.string (⟨#[]⟩ : ByteArray)) := (blk_cell BK271.out 1).trans rfl; have hcz19_2 : w18.cell? ⟨gb271, 2, none⟩ = some (.string (⟨#[]⟩ : ByteArray)) := (blk_cell BK271.out 2).trans rfl; have hcz19_3 : w18.cell? ⟨gb271, 3, none⟩ = some (.int .i64 0) := (blk_cell BK271.out 3).trans rfl; have hfz19_0 := blk_frozen BK271.out 0; have hfz19_1 := blk_frozen BK271.out 1; have hfz19_2 := blk_frozen BK271.out 2; have hfz19_3 := blk_frozen BK271.out 3))
                          go_ret3
                          exact ⟨_, by first | rfl | (simp [errW_none, errW_some] <;> rfl) | (simp [*, errW_none, errW_some] <;> rfl), by first | exact Kd.R_nil _ _ _ _ _ | exact Kd.N_nil _ _ _ _ _ | exact Kd.V_nil _ _ _ _ _ | exact Kd.Q_nil _ _ _ _ _ | exact Kd.S_nil _ _ _ _ _, by repeat (first | (with_reducible first | exact HB.out | apply below_alloc | apply pw_below_drewN | apply below_drew1 | refine below_set ?_ GE271.out) | exact HB.out)⟩
                      · rw [if_neg c9] at H
                        exact absurd H (by simp)
                    · rw [if_neg c8] at H
                      exact absurd H (by simp)
                  · rw [if_neg c7] at H
                    exact absurd H (by simp)
                · rw [if_neg c6] at H
                  have c6b0 : ((bt a0 x8_2) == 10) = false := beq_eq_false_iff_ne.mpr c6
                  have c6b1 : ((bt a0 x8_2) != 10) = true := bne_iff_ne.mpr c6
                  have H' := Aside0.mk H
                  clear H
                  have p5 : 0 ≤ (x8_2 : Int) := of_decide_eq_true (by first | (with_reducible assumption) | assumption)
                  have q5 : x8_2 < (a0.size : Int) := of_decide_eq_true (by first | (with_reducible assumption) | assumption)
                  have hx5 := bt_at a0 x8_2
                  replace p5 := eq_true p5
                  replace q5 := eq_true q5
                  (try (have qz5 := q5; rw [ByteArray.size_extract, Nat.min_self] at qz5))
                  go_wp2
                  go_roundg k2
                  case measure => have := HK1.out; have := HK2.out; omega
                  case rel => exact ⟨(wrap64 (x8_2 + 1)), (by first | rfl | (simp; done) | (simp [*]; done)), H', ⟨by have := HK1.out; have := HK2.out; omega⟩, ⟨by (with_reducible repeat (first | apply Kd.R_alloc | apply Kd.R_drewN | apply Kd.R_drew)); exact HO_5.out⟩, ⟨by repeat (first | (with_reducible first | exact HB.out | apply below_alloc | apply pw_below_drewN | apply below_drew1) | exact HB.out)⟩⟩
              · rw [if_neg c4] at H
                exact absurd H (by simp)
            · rw [if_neg c3] at H
              have c3b0 : decide (x8_2 < (a0.size : Int)) = false := decide_eq_false c3
              clear c3
              by_cases c20 : 0 ≤ x7_1
              · rw [if_pos c20] at H
                have c20b0 := eq_true c20
                (try (have c20z := c20b0; rw [ByteArray.size_extract, Nat.min_self] at c20z))
                have c20b1 : decide (0 ≤ x7_1) = true := decide_eq_true c20
                clear c20
                by_cases c21 : x7_1 ≤ x8_2
                · rw [if_pos c21] at H
                  have c21b0 := eq_true c21
                  (try (have c21z := c21b0; rw [ByteArray.size_extract, Nat.min_self] at c21z))
                  have c21b1 : decide (x7_1 ≤ x8_2) = true := decide_eq_true c21
                  clear c21
                  by_cases c22 : x8_2 ≤ (a0.size : Int)
                  · rw [if_pos c22] at H
                    have c22b0 := eq_true c22
                    (try (have c22z := c22b0; rw [ByteArray.size_extract, Nat.min_self] at c22z))
                    have c22b1 : decide (x8_2 ≤ (a0.size : Int)) = true := decide_eq_true c22
                    clear c22
                    replace H := Option.bind_eq_some_iff.mp H
                    obtain ⟨⟨t275, t276, t277, t278, t279⟩, A230, H⟩ := H
                    replace H : (if t279 = true then (if x5_1.length < 2932031007402 then (triremeref32_Parse.l0 k2 a0 (x5_1 ++ [(⟨t275, t276, t277, t278⟩ : S39)]) (wrap64 (x6_1 + 1)) (wrap64 (x8_2 + 1))) else (none)) else (some (([] : List (S39)), 12, wrap64 (x6_1 + 1)))) = some (r1, r2, r3) := H
                    have A23 := Aside0.mk A230
                    clear A230
                    by_cases c24 : t279 = true
                    · subst c24
                      have H1 : (if x5_1.length < 2932031007402 then (triremeref32_Parse.l0 k2 a0 (x5_1 ++ [(⟨t275, t276, t277, t278⟩ : S39)]) (wrap64 (x6_1 + 1)) (wrap64 (x8_2 + 1))) else (none)) = some (r1, r2, r3) := by rw [if_pos rfl] at H; exact H
                      clear H
                      have H := H1
                      clear H1
                      by_cases c25 : x5_1.length < 2932031007402
                      · rw [if_pos c25] at H
                        have LMc25 := Aside0.mk c25
                        clear c25
                        obtain ⟨y281, hy281⟩ : ∃ y_ : List (S39), y_ = (x5_1 ++ [(⟨t275, t276, t277, t278⟩ : S39)]) := ⟨_, rfl⟩
                        replace H : (triremeref32_Parse.l0 k2 a0 y281 (wrap64 (x6_1 + 1)) (wrap64 (x8_2 + 1))) = some (r1, r2, r3) := by first | (rw [hy281]; with_reducible exact H) | (have H2_ := (Option.bind_some _ _).symm.trans H; rw [hy281]; with_reducible exact H2_) | (have H2_ := (Option.bind_some _ _).symm.trans H; with_reducible exact H2_) | with_reducible exact H | (rw [hy281]; exact H) | exact H
                        have Ny281 := Aside0.mk hy281
                        clear hy281
                        have H' := Aside0.mk H
                        clear H
                        go_wp2_with (first | ((first | ((with_reducible refine gate_callee (f := 26) rfl ?_); refine goesL_ (some 35) rfl rfl Try.func26 (by kernel_rfl) rfl #[.string (a0.extract (x7_1 : Int).toNat (x8_2 : Int).toNat)] rfl (by (try simp only [List.map_toArray, List.map_cons, List.map_nil]); first | done | rfl | (simp only [List.length_drop, List.length_take]; rfl)) ?_; (with_reducible refine (triremeref32_read.calls k2 (a0.extract (x7_1 : Int).toNat (x8_2 : Int).toNat) t275 t276 t277 t278 true _ A23.out).mono ?_); rintro e w26 ⟨rfl, hb⟩; refine ⟨_, rfl, ?_⟩) | (go_at_call 26; (with_reducible refine (triremeref32_read.calls k2 (a0.extract (x7_1 : Int).toNat (x8_2 : Int).toNat) t275 t276 t277 t278 true _ A23.out).mono ?_); rintro e w26 ⟨rfl, hb⟩)); have n0_ := Aside0.mk (Kd.R_below (by (with_reducible repeat (first | apply Kd.R_alloc | apply Kd.R_drewN | apply Kd.R_drew)); exact HO_5.out) hb); have n1_ := Aside0.mk (below_step (by repeat (first | (with_reducible first | exact HB.out | apply below_alloc | apply pw_below_drewN | apply below_drew1) | exact HB.out)) hb); clear HO_5; clear HB; have HO_5 := n0_; have HB := n1_; clear n0_ n1_; (try clear hb); (try clear hb2); (try clear hk); (try clear hi)) | ((with_reducible refine gate_dst (N := 9) rfl ?_); refine box_event ?hg (N := 9) ?hd (cs := #[.int .i64 0, .string (⟨#[]⟩ : ByteArray), .string (⟨#[]⟩ : ByteArray), .int .i64 0]) (t := 39) ?hr ?_; (case hd => rfl); (case hg => rfl); (case hr => first | (go_simp; done) | (go_simp; rfl)); intro gb280 hg w27 hbox hb; have n0_ := Aside0.mk (Kd.R_below (Kd.R_elderB (by (with_reducible repeat (first | apply Kd.R_alloc | apply Kd.R_drewN | apply Kd.R_drew)); exact HO_5.out) gb280 (Nat.le_of_eq hg.symm)) hb); have n1_ := Aside0.mk (below_step (by repeat (first | (with_reducible first | exact HB.out | apply below_alloc | apply pw_below_drewN | apply below_drew1) | exact HB.out)) hb); have n2_ := Aside0.mk (hbox); have n3_ := Aside0.mk ((by rw [hg]; exact (below_size (by repeat (first | (with_reducible first | exact HB.out | apply below_alloc | apply pw_below_drewN | apply below_drew1) | exact HB.out))) : w.heap.size ≤ gb280)); have n4_ := Aside0.mk ((by rw [hg]; exact (below_size (by repeat (first | (with_reducible first | exact HB.out | apply below_alloc | apply pw_below_drewN | apply below_drew1) | exact HB.out))) : w.heap.size ≤ gb280)); clear HO_5; clear HB; have HO_5 := n0_; have HB := n1_; have BK280 := n2_; have GW280 := n3_; have GE280 := n4_; clear n0_ n1_ n2_ n3_ n4_; clear hb hbox hg; have hcz28_0 : w27.cell? ⟨gb280, 0, none⟩ = some (.int .i64 0) := (blk_cell BK280.out 0).trans rfl; have hcz28_1 : w27.cell? ⟨gb280, 1, none⟩ = some (.string (⟨#[]⟩ : ByteArray)) := (blk_cell BK280.out 1).trans rfl; have hcz28_2 : w27.cell? ⟨gb280, 2, none⟩ = some (.string (⟨#[]⟩ : ByteArray)) := (blk_cell BK280.out 2).trans rfl; have hcz28_3 : w27.cell? ⟨gb280, 3, none⟩ = some (.int .i64 0) := (blk_cell BK280.out 3).trans rfl; have hfz28_0 := blk_frozen BK280.out 0; have hfz28_1 := blk_frozen BK280.out 1; have hfz28_2 := blk_frozen BK280.out 2; have hfz28_3 := blk_frozen BK280.out 3) | ((with_reducible refine gate_builtin (b := .append) (xs := #[.tmp 41, .tmp 43]) rfl ?_); at_builtin; refine Kd.R_append k39 (w0 := w) w.heap.size rfl (.tmp 41) (.tmp 43) 27 39 (.agg #[(.int .i64 0), (.string ⟨#[]⟩), (.string ⟨#[]⟩), (.int .i64 0)]) 48 rfl Try.underlying27 info39 rfl (by decide) (by omega) u5 x5_1 (⟨t275, t276, t277, t278⟩ : S39) [.int .i64 t275, .string t276, .string t277, .int .i64 t278] (fun k_ => k_ ≠ gb280) (fun _ => False) rfl (by first | (go_simp; done) | (go_simp; rfl)) ?aP (fun _ hk => hk.elim) ?aF ?aO ?aB ?aS ?aL ?_; (case aP => exact k39_mkM _ _ _ (⟨t275, t276, t277, t278⟩ : S39)); (case aB => exact (by repeat (first | (with_reducible first | exact HB.out | apply below_alloc | apply pw_below_drewN | apply below_drew1 | refine below_set ?_ GE280.out) | exact HB.out))); (case aF => exact (fun k_ hk => Kd.freshB (g := gb280) (o := .cells #[.int .i64 t275, .string t276, .string t277, .int .i64 t278] 39 (0, 0)) (by (with_reducible repeat (first | refine blk_drewN ?_ _ | refine blk_drew ?_ | refine blk_alloc ?_ _)); refine blk_put (cs := #[.int .i64 t275, .string t276, .string t277, .int .i64 0]) ?_ 3 _ rfl; (with_reducible repeat (first | refine blk_drewN ?_ _ | refine blk_drew ?_ | refine blk_alloc ?_ _)); refine blk_put (cs := #[.int .i64 t275, .string t276, .string (⟨#[]⟩ : ByteArray), .int .i64 0]) ?_ 2 _ rfl; (with_reducible repeat (first | refine blk_drewN ?_ _ | refine blk_drew ?_ | refine blk_alloc ?_ _)); refine blk_put (cs := #[.int .i64 t275, .string (⟨#[]⟩ : ByteArray), .string (⟨#[]⟩ : ByteArray), .int .i64 0]) ?_ 1 _ rfl; (with_reducible repeat (first | refine blk_drewN ?_ _ | refine blk_drew ?_ | refine blk_alloc ?_ _)); refine blk_put (cs := #[.int .i64 0, .string (⟨#[]⟩ : ByteArray), .string (⟨#[]⟩ : ByteArray), .int .i64 0]) ?_ 0 _ rfl; (with_reducible repeat (first | refine blk_drewN ?_ _ | refine blk_drew ?_ | refine blk_alloc ?_ _)); exact BK280.out) k_ hk)); (case aO => exact (by (with_reducible repeat (first | apply Kd.R_alloc | apply Kd.R_drewN | apply Kd.R_drew)); exact Kd.R_mono (Kd.R_far (p := ⟨gb280, 3, none⟩) (Kd.R_far (p := ⟨gb280, 2, none⟩) (Kd.R_far (p := ⟨gb280, 1, none⟩) (Kd.R_far (p := ⟨gb280, 0, none⟩) (Kd.R_mono HO_5.out (fun k_ hk => (⟨hk, hk.2⟩ : _ ∧ k_ ≠ gb280))) (fun _ hk => hk.2) (.int .i64 t275)) (fun _ hk => hk.2) (.string t276)) (fun _ hk => hk.2) (.string t277)) (fun _ hk => hk.2) (.int .i64 t278)) (fun _ hk => hk.1.2))); (case aS => exact (below_size (by repeat (first | (with_reducible first | exact HB.out | apply below_alloc | apply pw_below_drewN | apply below_drew1 | refine below_set ?_ GE280.out) | exact HB.out)))); (case aL => have := LMc25.out; omega); intro v282 w29 ho hb hg hat; rw [← Ny281.out] at ho; have n0_ := Aside0.mk (blk_grown (g := gb280) (o := .cells #[.int .i64 t275, .string t276, .string t277, .int .i64 t278] 39 (0, 0)) (by (with_reducible repeat (first | refine blk_drewN ?_ _ | refine blk_drew ?_ | refine blk_alloc ?_ _)); refine blk_put (cs := #[.int .i64 t275, .string t276, .string t277, .int .i64 0]) ?_ 3 _ rfl; (with_reducible repeat (first | refine blk_drewN ?_ _ | refine blk_drew ?_ | refine blk_alloc ?_ _)); refine blk_put (cs := #[.int .i64 t275, .string t276, .string (⟨#[]⟩ : ByteArray), .int .i64 0]) ?_ 2 _ rfl; (with_reducible repeat (first | refine blk_drewN ?_ _ | refine blk_drew ?_ | refine blk_alloc ?_ _)); refine blk_put (cs := #[.int .i64 t275, .string (⟨#[]⟩ : ByteArray), .string (⟨#[]⟩ : ByteArray), .int .i64 0]) ?_ 1 _ rfl; (with_reducible repeat (first | refine blk_drewN ?_ _ | refine blk_drew ?_ | refine blk_alloc ?_ _)); refine blk_put (cs := #[.int .i64 0, .string (⟨#[]⟩ : ByteArray), .string (⟨#[]⟩ : ByteArray), .int .i64 0]) ?_ 0 _ rfl; (with_reducible repeat (first | refine blk_drewN ?_ _ | refine blk_drew ?_ | refine blk_alloc ?_ _)); exact BK280.out) hg (Kd.R_away HO_5.out (fun _ hk => hk.2))); have n1_ := Aside0.mk (hb); have n2_ := Aside0.mk (ho); clear BK280; clear HB; clear HO_5; have BK280 := n0_; have HB := n1_; have HO283 := n2_; clear n0_ n1_ n2_; clear ho hb hg hat))
                        go_roundg k2
                        case measure => have := HK1.out; have := HK2.out; omega
                        case rel => exact ⟨(y281), (wrap64 (x6_1 + 1)), (wrap64 (x8_2 + 1)), (by first | rfl | (simp; done) | (simp [*]; done)), (by first | rfl | (simp; done) | (simp [*]; done)), H', ⟨by have := HK1.out; have := HK2.out; omega⟩, ⟨by (with_reducible repeat (first | apply Kd.R_alloc | apply Kd.R_drewN | apply Kd.R_drew)); exact Kd.R_mono HO283.out (fun _ hk => trivial)⟩, ⟨by repeat (first | (with_reducible first | exact HB.out | apply below_alloc | apply pw_below_drewN | apply below_drew1 | refine below_set ?_ GE280.out) | exact HB.out)⟩⟩
                      · rw [if_neg c25] at H
                        exact absurd H (by simp)
                    · replace c24 := Bool.eq_false_iff.mpr c24
                      subst c24
                      have H1 : (some (([] : List (S39)), 12, wrap64 (x6_1 + 1))) = some (r1, r2, r3) := by rw [if_neg (show ¬ (false = true) by decide)] at H; exact H
                      clear H
                      have H := H1
                      clear H1
                      simp only [Option.some.injEq, Prod.mk.injEq] at H
                      obtain ⟨rfl, rfl, rfl⟩ := H
                      go_wp2_with (first | ((first | ((with_reducible refine gate_callee (f := 26) rfl ?_); refine goesL_ (some 35) rfl rfl Try.func26 (by kernel_rfl) rfl #[.string (a0.extract (x7_1 : Int).toNat (x8_2 : Int).toNat)] rfl (by (try simp only [List.map_toArray, List.map_cons, List.map_nil]); first | done | rfl | (simp only [List.length_drop, List.length_take]; rfl)) ?_; (with_reducible refine (triremeref32_read.calls k2 (a0.extract (x7_1 : Int).toNat (x8_2 : Int).toNat) t275 t276 t277 t278 false _ A23.out).mono ?_); rintro e w30 ⟨rfl, hb⟩; refine ⟨_, rfl, ?_⟩) | (go_at_call 26; (with_reducible refine (triremeref32_read.calls k2 (a0.extract (x7_1 : Int).toNat (x8_2 : Int).toNat) t275 t276 t277 t278 false _ A23.out).mono ?_); rintro e w30 ⟨rfl, hb⟩)); have n0_ := Aside0.mk (Kd.R_below (by (with_reducible repeat (first | apply Kd.R_alloc | apply Kd.R_drewN | apply Kd.R_drew)); exact HO_5.out) hb); have n1_ := Aside0.mk (below_step (by repeat (first | (with_reducible first | exact HB.out | apply below_alloc | apply pw_below_drewN | apply below_drew1) | exact HB.out)) hb); clear HO_5; clear HB; have HO_5 := n0_; have HB := n1_; clear n0_ n1_; (try clear hb); (try clear hb2); (try clear hk); (try clear hi)) | ((with_reducible refine gate_dst (N := 9) rfl ?_); refine box_event ?hg (N := 9) ?hd (cs := #[.int .i64 0, .string (⟨#[]⟩ : ByteArray), .string (⟨#[]⟩ : ByteArray), .int .i64 0]) (t := 39) ?hr ?_; (case hd => rfl); (case hg => rfl); (case hr => first | (go_simp; done) | (go_simp; rfl)); intro gb280 hg w31 hbox hb; have n0_ := Aside0.mk (Kd.R_below (Kd.R_elderB (by (with_reducible repeat (first | apply Kd.R_alloc | apply Kd.R_drewN | apply Kd.R_drew)); exact HO_5.out) gb280 (Nat.le_of_eq hg.symm)) hb); have n1_ := Aside0.mk (below_step (by repeat (first | (with_reducible first | exact HB.out | apply below_alloc | apply pw_below_drewN | apply below_drew1) | exact HB.out)) hb); have n2_ := Aside0.mk (hbox); have n3_ := Aside0.mk ((by rw [hg]; exact (below_size (by repeat (first | (with_reducible first | exact HB.out | apply below_alloc | apply pw_below_drewN | apply below_drew1) | exact HB.out))) : w.heap.size ≤ gb280)); have n4_ := Aside0.mk ((by rw [hg]; exact (below_size (by repeat (first | (with_reducible first | exact HB.out | apply below_alloc | apply pw_below_drewN | apply below_drew1) | exact HB.out))) : w.heap.size ≤ gb280)); clear HO_5; clear HB; have HO_5 := n0_; have HB := n1_; have BK280 := n2_; have GW280 := n3_; have GE280 := n4_; clear n0_ n1_ n2_ n3_ n4_; clear hb hbox hg; have hcz32_0 : w31.cell? ⟨gb280, 0, none⟩ = some (.int .i64 0) := (blk_cell BK280.out 0).trans rfl; have hcz32_1 : w31.cell? ⟨gb280, 1, none⟩ = some (.string (⟨#[]⟩ : ByteArray)) := (blk_cell BK280.out 1).trans rfl; have hcz32_2 : w31.cell? ⟨gb280, 2, none⟩ = some (.string (⟨#[]⟩ : ByteArray)) := (blk_cell BK280.out 2).trans rfl; have hcz32_3 : w31.cell? ⟨gb280, 3, none⟩ = some (.int .i64 0) := (blk_cell BK280.out 3).trans rfl; have hfz32_0 := blk_frozen BK280.out 0; have hfz32_1 := blk_frozen BK280.out 1; have hfz32_2 := blk_frozen BK280.out 2; have hfz32_3 := blk_frozen BK280.out 3))
                      go_ret3
                      exact ⟨_, by first | rfl | (simp [errW_none, errW_some] <;> rfl) | (simp [*, errW_none, errW_some] <;> rfl), by first | exact Kd.R_nil _ _ _ _ _ | exact Kd.N_nil _ _ _ _ _ | exact Kd.V_nil _ _ _ _ _ | exact Kd.Q_nil _ _ _ _ _ | exact Kd.S_nil _ _ _ _ _, by repeat (first | (with_reducible first | exact HB.out | apply below_alloc | apply pw_below_drewN | apply below_drew1 | refine below_set ?_ GE280.out) | exact HB.out)⟩
                  · rw [if_neg c22] at H
                    exact absurd H (by simp)
                · rw [if_neg c21] at H
                  exact absurd H (by simp)
              · rw [if_neg c20] at H
                exact absurd H (by simp)
      · rw [if_neg c2] at H
        have c2b0 : decide (x7_1 < (a0.size : Int)) = false := decide_eq_false c2
        clear c2
        simp only [Option.some.injEq, Prod.mk.injEq] at H
        obtain ⟨rfl, rfl, rfl⟩ := H
        go_wp2
        go_ret3
        exact ⟨_, by first | rfl | (simp [errW_none, errW_some] <;> rfl) | (simp [*, errW_none, errW_some] <;> rfl), by (with_reducible repeat (first | apply Kd.R_alloc | apply Kd.R_drewN | apply Kd.R_drew)); exact HO_5.out, by repeat (first | (with_reducible first | exact HB.out | apply below_alloc | apply pw_below_drewN | apply below_drew1) | exact HB.out)⟩
end Go.Proofs.Ytngmcigkihfnkaa.H
end
section
namespace Go.Proofs.Ytngmcigkihfnkaa.H
open Go.RowKit Go.Proofs.YtngmcigkihfnkaaW.PrintWords Go.Proofs.YtngmcigkihfnkaaW.PrintLast Go.Proofs.YtngmcigkihfnkaaW.PrintMore
set_option linter.unusedVariables false
set_option linter.unusedSimpArgs false
theorem refRead_ev (s : ByteArray) (hs : s.size ≤ 1000000) : Ev (fun k => triremeref32_read.f k s) (flat (refReadR s)) := by
  unfold triremeref32_read.f
  refine Ev.bind (cut_ev s hs) ?_
  have hno : ∀ L : List ByteArray, Ev (fun k => triremeref32_read.j0 k s L true) (flat noE) := by
    intro L
    refine Ev.step (fun k => by rw [triremeref32_read.j0]) ?_
    simp only [if_true]; exact Ev.now _
  have hend : ∀ (now : Int) (what name : ByteArray) (n : Int), what.size ≤ 1000000 → name.size ≤ 1000000 →
      Ev (fun k => (triremeref32_Right.f k now what name n).bind fun t => if t = true then (triremeref32_line.f k now what name n).bind fun u => some (now, what, name, n, (u.toList == s.toList)) else some (now, what, name, n, false))
        (flat (⟨now, what, name, n⟩, rightR ⟨now, what, name, n⟩ && decide (lineR ⟨now, what, name, n⟩ = s))) := by
    intro now what name n hw hn
    refine Ev.bind (refRight_ev now what name n (by omega)) ?_
    rcases Bool.eq_false_or_eq_true (rightR ⟨now, what, name, n⟩) with hr | hr
    · obtain ⟨⟨a1, a2⟩, _, a3⟩ := right_parts _ hr
      have hn2 : n ≤ 1099511627776 := by simp only at a3; omega
      rw [hr]
      simp only [if_true, Bool.true_and]
      refine Ev.bind (refLine_ev ⟨now, what, name, n⟩ a1 a2 hn2 (by simp only; omega) (by simp only; omega)) ?_
      have e : ((lineR ⟨now, what, name, n⟩).toList == s.toList) = decide (lineR ⟨now, what, name, n⟩ = s) := by
        by_cases h2 : lineR ⟨now, what, name, n⟩ = s
        · rw [decide_eq_true h2, h2]; exact beq_self_eq_true _
        · rw [decide_eq_false h2]; exact beq_eq_false_iff_ne.2 (fun e => h2 (toList_inj e))
      rw [e]
      exact Ev.now _
    · rw [hr]
      simp only [Bool.false_eq_true, if_false, Bool.false_and]
      exact Ev.now _
  have hlen := split_len 32 s.toList []
  rw [toList_len, List.length_nil, Nat.zero_add] at hlen
  unfold refReadR
  generalize splitF 32 [] s.toList = ps at *
  match ps, hlen with
  | [], _ => simp only [List.map_nil, show (([] : List ByteArray).length : Int) < 2 by simp, if_true]; exact hno _
  | [p0], _ => simp only [List.map_cons, List.map_nil, show ∀ a : ByteArray, (([a] : List ByteArray).length : Int) < 2 from fun a => by simp, if_true]; exact hno _
  | p0 :: p1 :: p2 :: p3 :: p4 :: r, _ =>
    simp only [List.map_cons]
    have h2 : ¬ ((mkB p0 :: mkB p1 :: mkB p2 :: mkB p3 :: mkB p4 :: r.map mkB).length : Int) < 2 := by simp; omega
    have h4 : ((mkB p0 :: mkB p1 :: mkB p2 :: mkB p3 :: mkB p4 :: r.map mkB).length : Int) > 4 := by simp; omega
    simp only [h2, h4, if_true, if_false]
    exact hno _
  | [p0, p1], hlen =>
    have l0 := hlen p0 (by simp)
    have l1 := hlen p1 (by simp)
    simp only [List.map_cons, List.map_nil, show ¬ (([mkB p0, mkB p1] : List ByteArray).length : Int) < 2 by simp, show ¬ (([mkB p0, mkB p1] : List ByteArray).length : Int) > 4 by simp, show (0 : Int) < (([mkB p0, mkB p1] : List ByteArray).length : Int) by simp, show rdOf ByteArray.empty [mkB p0, mkB p1] 0 = mkB p0 from rfl, mk_size, if_true, if_false]
    by_cases hl : p0.length < 2
    · rw [if_pos hl, decide_eq_true (by omega)]; exact hno _
    · rw [if_neg hl, decide_eq_false (by omega)]
      have hne : p0 ≠ [] := by rintro rfl; simp at hl
      refine Ev.step (fun k => by rw [triremeref32_read.j0]) ?_
      simp only [Bool.false_eq_true, if_false, show (0 : Int) < (([mkB p0, mkB p1] : List ByteArray).length : Int) by simp, show rdOf ByteArray.empty [mkB p0, mkB p1] 0 = mkB p0 from rfl, show rdOf ByteArray.empty [mkB p0, mkB p1] 1 = mkB p1 from rfl, mk_size, if_true]
      rw [wrap_small (i := (p0.length : Int) - 1) (by omega) (by omega), show ((p0.length : Int) - 1).toNat = p0.length - 1 by omega, mk_dropLast p0 hne]
      simp only [show (0 : Int) ≤ (p0.length : Int) - 1 by omega, show (p0.length : Int) - 1 ≤ (p0.length : Int) by omega, if_true]
      have hnum := refNumber_ev' (mkB p0.dropLast) (by rw [mk_size]; simp; omega)
      rw [mkB_toList] at hnum
      refine Ev.bind hnum ?_
      simp only [show (1 : Int) < (([mkB p0, mkB p1] : List ByteArray).length : Int) by simp, show ¬ (([mkB p0, mkB p1] : List ByteArray).length : Int) > 2 by simp, if_true, if_false]
      refine Ev.step (fun k => by rw [triremeref32_read.j1]) ?_
      simp only [show ¬ (([mkB p0, mkB p1] : List ByteArray).length : Int) > 3 by simp, if_false]
      exact hend _ _ _ _ (by rw [mk_size]; omega) (by decide)
  | [p0, p1, p2], hlen =>
    have l0 := hlen p0 (by simp)
    have l1 := hlen p1 (by simp)
    have l2 := hlen p2 (by simp)
    simp only [List.map_cons, List.map_nil, show ¬ (([mkB p0, mkB p1, mkB p2] : List ByteArray).length : Int) < 2 by simp, show ¬ (([mkB p0, mkB p1, mkB p2] : List ByteArray).length : Int) > 4 by simp, show (0 : Int) < (([mkB p0, mkB p1, mkB p2] : List ByteArray).length : Int) by simp, show rdOf ByteArray.empty [mkB p0, mkB p1, mkB p2] 0 = mkB p0 from rfl, mk_size, if_true, if_false]
    by_cases hl : p0.length < 2
    · rw [if_pos hl, decide_eq_true (by omega)]; exact hno _
    · rw [if_neg hl, decide_eq_false (by omega)]
      have hne : p0 ≠ [] := by rintro rfl; simp at hl
      refine Ev.step (fun k => by rw [triremeref32_read.j0]) ?_
      simp only [Bool.false_eq_true, if_false, show (0 : Int) < (([mkB p0, mkB p1, mkB p2] : List ByteArray).length : Int) by simp, show rdOf ByteArray.empty [mkB p0, mkB p1, mkB p2] 0 = mkB p0 from rfl, show rdOf ByteArray.empty [mkB p0, mkB p1, mkB p2] 1 = mkB p1 from rfl, show rdOf ByteArray.empty [mkB p0, mkB p1, mkB p2] 2 = mkB p2 from rfl, mk_size, if_true]
      rw [wrap_small (i := (p0.length : Int) - 1) (by omega) (by omega), show ((p0.length : Int) - 1).toNat = p0.length - 1 by omega, mk_dropLast p0 hne]
      simp only [show (0 : Int) ≤ (p0.length : Int) - 1 by omega, show (p0.length : Int) - 1 ≤ (p0.length : Int) by omega, if_true]
      have hnum := refNumber_ev' (mkB p0.dropLast) (by rw [mk_size]; simp; omega)
      rw [mkB_toList] at hnum
      refine Ev.bind hnum ?_
      simp only [show (1 : Int) < (([mkB p0, mkB p1, mkB p2] : List ByteArray).length : Int) by simp, show (([mkB p0, mkB p1, mkB p2] : List ByteArray).length : Int) > 2 by simp, show (2 : Int) < (([mkB p0, mkB p1, mkB p2] : List ByteArray).length : Int) by simp, if_true]
      refine Ev.step (fun k => by rw [triremeref32_read.j1]) ?_
      simp only [show ¬ (([mkB p0, mkB p1, mkB p2] : List ByteArray).length : Int) > 3 by simp, if_false]
      exact hend _ _ _ _ (by rw [mk_size]; omega) (by rw [mk_size]; omega)
  | [p0, p1, p2, p3], hlen =>
    have l0 := hlen p0 (by simp)
    have l1 := hlen p1 (by simp)
    have l2 := hlen p2 (by simp)
    have l3 := hlen p3 (by simp)
    simp only [List.map_cons, List.map_nil, show ¬ (([mkB p0, mkB p1, mkB p2, mkB p3] : List ByteArray).length : Int) < 2 by simp, show ¬ (([mkB p0, mkB p1, mkB p2, mkB p3] : List ByteArray).length : Int) > 4 by simp, show (0 : Int) < (([mkB p0, mkB p1, mkB p2, mkB p3] : List ByteArray).length : Int) by simp, show rdOf ByteArray.empty [mkB p0, mkB p1, mkB p2, mkB p3] 0 = mkB p0 from rfl, mk_size, if_true, if_false]
    by_cases hl : p0.length < 2
    · rw [if_pos hl, decide_eq_true (by omega)]; exact hno _
    · rw [if_neg hl, decide_eq_false (by omega)]
      have hne : p0 ≠ [] := by rintro rfl; simp at hl
      refine Ev.step (fun k => by rw [triremeref32_read.j0]) ?_
      simp only [Bool.false_eq_true, if_false, show (0 : Int) < (([mkB p0, mkB p1, mkB p2, mkB p3] : List ByteArray).length : Int) by simp, show rdOf ByteArray.empty [mkB p0, mkB p1, mkB p2, mkB p3] 0 = mkB p0 from rfl, show rdOf ByteArray.empty [mkB p0, mkB p1, mkB p2, mkB p3] 1 = mkB p1 from rfl, show rdOf ByteArray.empty [mkB p0, mkB p1, mkB p2, mkB p3] 2 = mkB p2 from rfl, mk_size, if_true]
      rw [wrap_small (i := (p0.length : Int) - 1) (by omega) (by omega), show ((p0.length : Int) - 1).toNat = p0.length - 1 by omega, mk_dropLast p0 hne]
      simp only [show (0 : Int) ≤ (p0.length : Int) - 1 by omega, show (p0.length : Int) - 1 ≤ (p0.length : Int) by omega, if_true]
      have hnum := refNumber_ev' (mkB p0.dropLast) (by rw [mk_size]; simp; omega)
      rw [mkB_toList] at hnum
      refine Ev.bind hnum ?_
      simp only [show (1 : Int) < (([mkB p0, mkB p1, mkB p2, mkB p3] : List ByteArray).length : Int) by simp, show (([mkB p0, mkB p1, mkB p2, mkB p3] : List ByteArray).length : Int) > 2 by simp, show (2 : Int) < (([mkB p0, mkB p1, mkB p2, mkB p3] : List ByteArray).length : Int) by simp, if_true]
      refine Ev.step (fun k => by rw [triremeref32_read.j1]) ?_
      simp only [show (([mkB p0, mkB p1, mkB p2, mkB p3] : List ByteArray).length : Int) > 3 by simp, show (3 : Int) < (([mkB p0, mkB p1, mkB p2, mkB p3] : List ByteArray).length : Int) by simp, show rdOf ByteArray.empty [mkB p0, mkB p1, mkB p2, mkB p3] 3 = mkB p3 from rfl, if_true]
      have hnum3 := refNumber_ev' (mkB p3) (by rw [mk_size]; omega)
      rw [mkB_toList] at hnum3
      refine Ev.bind hnum3 ?_
      exact hend _ _ _ _ (by rw [mk_size]; omega) (by rw [mk_size]; omega)
def parseR : List ByteArray → List EvT → Int → (List EvT × Int × Int)
  | [], acc, _ => (acc, 0, 0)
  | x :: xs, acc, i => if (readR x).2 = true then parseR xs (acc ++ [(readR x).1]) (i + 1) else ([], 12, i + 1)
def lay37 (p : List EvT × Int × Int) : List S37 × Int × Int := (p.1.map s37, p.2.1, p.2.2)
def lay39 (p : List EvT × Int × Int) : List S39 × Int × Int := (p.1.map s39, p.2.1, p.2.2)
theorem parse_l0 (L : List ByteArray) (hL : L.length ≤ 1000001) (hz : ∀ x ∈ L, x.size ≤ 1000000) : ∀ (d i : Nat) (acc : List EvT), i + d = L.length → acc.length ≤ i →
    Ev (fun k => trace_Parse.l0 k (acc.map s37) L (L.length : Int) (i : Int)) (lay37 (parseR (L.drop i) acc (i : Int))) := by
  intro d
  induction d with
  | zero =>
    intro i acc h ha
    refine Ev.step (fun k => by rw [trace_Parse.l0]) ?_
    rw [List.drop_eq_nil_of_le (by omega)]
    simp only [show ¬ ((i : Int) < (L.length : Int)) by omega, if_false]
    exact Ev.now _
  | succ d ih =>
    intro i acc h ha
    have h5 : i < L.length := by omega
    refine Ev.step (fun k => by rw [trace_Parse.l0]) ?_
    rw [List.drop_eq_getElem_cons h5, rdOf_at i h5, wrap_small (i := (i : Int) + 1) (by omega) (by omega)]
    simp only [show (i : Int) < (L.length : Int) by omega, show (0 : Int) ≤ (i : Int) by omega, if_true, List.length_map, show acc.length < 2932031007402 by omega, parseR]
    refine Ev.bind (read_ev L[i] (hz _ (List.getElem_mem h5))) ?_
    show Ev (fun k => if (readR L[i]).2 = true then trace_Parse.l0 k (acc.map s37 ++ [s37 (readR L[i]).1]) L (L.length : Int) ((i : Int) + 1) else some (([] : List S37), 12, (i : Int) + 1)) _
    refine ev_if (fun hb => ?_) (fun hb => ?_)
    · rw [if_pos hb]
      have := ih (i + 1) (acc ++ [(readR L[i]).1]) (by omega) (by simp; omega)
      rw [List.map_append] at this
      exact this
    · rw [if_neg hb]; exact Ev.now _
theorem dropLE_eq : ∀ l : List (List UInt8), dropLE l = if l.getLast? = some [] then l.dropLast else l
  | [] => rfl
  | [x] => by by_cases h : x = [] <;> simp [dropLE, h]
  | x :: y :: r => by
    simp only [dropLE]
    rw [dropLE_eq (y :: r), List.getLast?_cons_cons]
    by_cases h : (y :: r).getLast? = some []
    · rw [if_pos h, if_pos h]; rfl
    · rw [if_neg h, if_neg h]
theorem split_count (b : UInt8) : ∀ (l cur : List UInt8), (splitF b cur l).length ≤ l.length + 1
  | [], cur => by simp [splitF]
  | c :: l, cur => by
    unfold splitF
    by_cases hc : c = b
    · rw [if_pos hc]; have := split_count b l []; simp; omega
    · rw [if_neg hc]; have := split_count b l (cur ++ [c]); simp; omega
theorem parse_ev (s : ByteArray) (hs : s.size ≤ 1000000) : Ev (fun k => trace_Parse.f k s) (lay37 (parseR ((linesR s.toList).map mkB) [] 0)) := by
  unfold trace_Parse.f
  refine Ev.bind (parts_ev s hs 10 (by decide)) ?_
  have hne := splitF_ne 10 s.toList []
  have hcnt := split_count 10 s.toList []
  have hlen := split_len 10 s.toList []
  rw [toList_len] at hcnt
  rw [toList_len, List.length_nil, Nat.zero_add] at hlen
  unfold linesR
  rw [show UInt8.ofNat 10 = 10 from rfl, dropLE_eq]
  generalize splitF 10 [] s.toList = ps at *
  have hp : 0 < ps.length := List.length_pos_iff.2 hne
  have hj : ∀ L : List (List UInt8), L.length ≤ 1000001 → (∀ x ∈ L, x.length ≤ 1000000) → Ev (fun k => trace_Parse.j0 k (L.map mkB)) (lay37 (parseR (L.map mkB) [] 0)) := by
    intro L hL hx
    refine Ev.step (fun k => by rw [trace_Parse.j0]) ?_
    have := parse_l0 (L.map mkB) (by simpa using hL) (by intro x hxm; obtain ⟨y, hy, rfl⟩ := List.mem_map.1 hxm; rw [mk_size]; exact hx y hy) (L.map mkB).length 0 [] (by omega) (by simp)
    rw [List.drop_zero] at this
    exact this
  rw [List.length_map, wrap_small (i := (ps.length : Int) - 1) (by omega) (by omega), show (ps.length : Int) - 1 = ((ps.length - 1 : Nat) : Int) by omega]
  have h6 : ps.length - 1 < (ps.map mkB).length := by simp; omega
  rw [rdOf_at (ps.length - 1) h6, List.getElem_map, mkB_toList]
  simp only [show (0 : Int) ≤ ((ps.length - 1 : Nat) : Int) by omega, show ((ps.length - 1 : Nat) : Int) < (ps.length : Int) by omega, show ((ps.length - 1 : Nat) : Int) ≤ (ps.length : Int) by omega, if_true, Int.toNat_natCast]
  have hlast : ps.getLast? = some (ps[ps.length - 1]'(by omega)) := by
    rw [List.getLast?_eq_getElem?, List.getElem?_eq_getElem]
  refine ev_if (fun h => ?_) (fun h => ?_)
  · rw [if_pos (by rw [hlast, h]), ← List.map_take, ← List.dropLast_eq_take]
    exact hj _ (by simp; omega) (fun x hx => Nat.le_trans (hlen x (List.dropLast_subset _ hx)) hs)
  · rw [if_neg (by rw [hlast]; intro e; exact h (Option.some.inj e))]
    exact hj _ (by omega) (fun x hx => Nat.le_trans (hlen x hx) hs)
end Go.Proofs.Ytngmcigkihfnkaa.H
end
section
namespace Go.Proofs.Ytngmcigkihfnkaa.H
open Go.RowKit Go.Proofs.YtngmcigkihfnkaaW.PrintWords Go.Proofs.YtngmcigkihfnkaaW.PrintLast Go.Proofs.YtngmcigkihfnkaaW.PrintMore
attribute [local go_sem] max2_int min2_int max_two min_two max_three min_three max_four min_four   -- for this text's walks alone
set_option linter.unusedVariables false
set_option linter.unusedSimpArgs false
def triremelaw32_TraceParses.f (k : Nat) (a0 : ByteArray) : Option (Bool) := if (a0.size : Int) > 2000 then ((triremelaw32_known.f k).bind fun t293 => (some t293)) else ((trace_Parse.f k a0).bind fun bt294 => ((triremeref32_Parse.f k a0).bind fun bt299 => ((triremelaw32_taken.f k bt294.1).bind fun t304 => ((triremeref32_Same.f k t304 bt299.1).bind fun t307 => (if t307 = true then (if bt294.2.1 = bt299.2.1 then (if bt294.2.2 = bt299.2.2 then ((triremelaw32_known.f k).bind fun t308 => (some t308)) else (some false)) else (some false)) else (some false))))))
set_option maxHeartbeats 8000000 in
set_option maxRecDepth 100000 in
theorem triremelaw32_TraceParses.calls (k : Nat) (a0 : ByteArray) (r : Bool) (w : World) (h : triremelaw32_TraceParses.f k a0 = some r) :
    Calls Try.prog 3 #[.string a0] w fun e w' => e = .returned (.bool r) ∧ Below w.heap.size w w' := by
  have HB := Aside0.mk (Below.refl w.heap.size w)
  have H : (if (a0.size : Int) > 2000 then ((triremelaw32_known.f k).bind fun t293 => (some t293)) else ((trace_Parse.f k a0).bind fun bt294 => ((triremeref32_Parse.f k a0).bind fun bt299 => ((triremelaw32_taken.f k bt294.1).bind fun t304 => ((triremeref32_Same.f k t304 bt299.1).bind fun t307 => (if t307 = true then (if bt294.2.1 = bt299.2.1 then (if bt294.2.2 = bt299.2.2 then ((triremelaw32_known.f k).bind fun t308 => (some t308)) else (some false)) else (some false)) else (some false))))))) = some r := h
  clear h
  by_cases c2 : (a0.size : Int) > 2000
  · rw [if_pos c2] at H
    have c2b0 : decide (2000 < (a0.size : Int)) = true := decide_eq_true c2
    have c2b1 : decide (2000 < a0.size) = true := decide_eq_true (by omega)
    clear c2
    replace H := Option.bind_eq_some_iff.mp H
    obtain ⟨t293, A30, H⟩ := H
    replace H : (some t293) = some r := H
    have A3 := Aside0.mk A30
    clear A30
    obtain rfl := Option.some.inj H
    go_enter Try.func3, Try.ntmps3
    go_wp2_with (first | ((first | ((with_reducible refine gate_callee (f := 7) rfl ?_); refine goesL_ (some 12) rfl rfl Try.func7 (by kernel_rfl) rfl #[] rfl (by (try simp only [List.map_toArray, List.map_cons, List.map_nil]); first | done | rfl | (simp only [List.length_drop, List.length_take]; rfl)) ?_; (with_reducible refine (triremelaw32_known.calls k  t293 _ A3.out).mono ?_); rintro e w4 ⟨rfl, hb⟩; refine ⟨_, rfl, ?_⟩) | (go_at_call 7; (with_reducible refine (triremelaw32_known.calls k  t293 _ A3.out).mono ?_); rintro e w4 ⟨rfl, hb⟩)); have n0_ := Aside0.mk (below_step (by repeat (first | (with_reducible first | exact HB.out | apply below_alloc | apply pw_below_drewN | apply below_drew1) | exact HB.out)) hb); clear HB; have HB := n0_; clear n0_; (try clear hb); (try clear hb2); (try clear hk); (try clear hi)))
    go_ret
    exact ⟨by first | rfl | (simp [errW_none, errW_some] <;> rfl) | (simp [*, errW_none, errW_some] <;> rfl), by repeat (first | (with_reducible first | exact HB.out | apply below_alloc | apply pw_below_drewN | apply below_drew1) | exact HB.out)⟩
  · rw [if_neg c2] at H
    have c2b0 : decide (2000 < (a0.size : Int)) = false := decide_eq_false c2
    have c2b1 : decide (2000 < a0.size) = false := decide_eq_false (by omega)
    clear c2
    replace H := Option.bind_eq_some_iff.mp H
    obtain ⟨⟨t294, t295, t296⟩, A50, H⟩ := H
    replace H : ((triremeref32_Parse.f k a0).bind fun bt299 => ((triremelaw32_taken.f k t294).bind fun t304 => ((triremeref32_Same.f k t304 bt299.1).bind fun t307 => (if t307 = true then (if t295 = bt299.2.1 then (if t296 = bt299.2.2 then ((triremelaw32_known.f k).bind fun t308 => (some t308)) else (some false)) else (some false)) else (some false))))) = some r := H
    have A5 := Aside0.mk A50
    clear A50
    replace H := Option.bind_eq_some_iff.mp H
    obtain ⟨⟨t299, t300, t301⟩, A60, H⟩ := H
    replace H : ((triremelaw32_taken.f k t294).bind fun t304 => ((triremeref32_Same.f k t304 t299).bind fun t307 => (if t307 = true then (if t295 = t300 then (if t296 = t301 then ((triremelaw32_known.f k).bind fun t308 => (some t308)) else (some false)) else (some false)) else (some false)))) = some r := H
    have A6 := Aside0.mk A60
    clear A60
    replace H := Option.bind_eq_some_iff.mp H
    obtain ⟨t304, A70, H⟩ := H
    replace H : ((triremeref32_Same.f k t304 t299).bind fun t307 => (if t307 = true then (if t295 = t300 then (if t296 = t301 then ((triremelaw32_known.f k).bind fun t308 => (some t308)) else (some false)) else (some false)) else (some false))) = some r := H
    have A7 := Aside0.mk A70
    clear A70
    replace H := Option.bind_eq_some_iff.mp H
    obtain ⟨t307, A80, H⟩ := H
    replace H : (if t307 = true then (if t295 = t300 then (if t296 = t301 then ((triremelaw32_known.f k).bind fun t308 => (some t308)) else (some false)) else (some false)) else (some false)) = some r := H
    have A8 := Aside0.mk A80
    clear A80
    by_cases c9 : t307 = true
    · subst c9
      have H1 : (if t295 = t300 then (if t296 = t301 then ((triremelaw32_known.f k).bind fun t308 => (some t308)) else (some false)) else (some false)) = some r := by rw [if_pos rfl] at H; exact H
      clear H
      have H := H1
      clear H1
      by_cases c10 : t295 = t300
      · rw [if_pos c10] at H
        have c10b0 : (t295 == t300) = true := beq_iff_eq.mpr c10
        have c10b1 : (t295 != t300) = false := bne_eq_false_iff_eq.mpr c10
        clear c10
        by_cases c11 : t296 = t301
        · rw [if_pos c11] at H
          have c11b0 : (t296 == t301) = true := beq_iff_eq.mpr c11
          have c11b1 : (t296 != t301) = false := bne_eq_false_iff_eq.mpr c11
          clear c11
          replace H := Option.bind_eq_some_iff.mp H
          obtain ⟨t308, A120, H⟩ := H
          replace H : (some t308) = some r := H
          have A12 := Aside0.mk A120
          clear A120
          obtain rfl := Option.some.inj H
          go_enter Try.func3, Try.ntmps3
          go_wp2_with (first | ((first | ((with_reducible refine gate_callee (f := 8) rfl ?_); refine goesL_ (some 15) rfl rfl Try.func8 (by kernel_rfl) rfl #[.string a0] rfl (by (try simp only [List.map_toArray, List.map_cons, List.map_nil]); first | done | rfl | (simp only [List.length_drop, List.length_take]; rfl)) ?_; (with_reducible refine (trace_Parse.calls k a0 t294 t295 t296 _ A5.out).mono ?_); rintro e w13 ⟨v297, rfl, ho0, hb⟩; refine ⟨_, rfl, ?_⟩) | (go_at_call 8; (with_reducible refine (trace_Parse.calls k a0 t294 t295 t296 _ A5.out).mono ?_); rintro e w13 ⟨v297, rfl, ho0, hb⟩)); have n0_ := Aside0.mk (Kd.R_lower ho0 (below_size (by repeat (first | (with_reducible first | exact HB.out | apply below_alloc | apply pw_below_drewN | apply below_drew1) | exact HB.out)))); have n1_ := Aside0.mk (below_step (by repeat (first | (with_reducible first | exact HB.out | apply below_alloc | apply pw_below_drewN | apply below_drew1) | exact HB.out)) hb); clear HB; have HO298 := n0_; have HB := n1_; clear n0_ n1_; (try clear hb); (try clear hb2); (try clear hk); (try clear hi); (try clear ho0)) | ((first | ((with_reducible refine gate_callee (f := 9) rfl ?_); refine goesL_ (some 21) rfl rfl Try.func9 (by kernel_rfl) rfl #[.string a0] rfl (by (try simp only [List.map_toArray, List.map_cons, List.map_nil]); first | done | rfl | (simp only [List.length_drop, List.length_take]; rfl)) ?_; (with_reducible refine (triremeref32_Parse.calls k a0 t299 t300 t301 _ A6.out).mono ?_); rintro e w14 ⟨v302, rfl, ho0, hb⟩; refine ⟨_, rfl, ?_⟩) | (go_at_call 9; (with_reducible refine (triremeref32_Parse.calls k a0 t299 t300 t301 _ A6.out).mono ?_); rintro e w14 ⟨v302, rfl, ho0, hb⟩)); have n0_ := Aside0.mk (Kd.R_below (by (with_reducible repeat (first | apply Kd.R_alloc | apply Kd.R_drewN | apply Kd.R_drew)); exact HO298.out) hb); have n1_ := Aside0.mk (Kd.R_lower ho0 (below_size (by repeat (first | (with_reducible first | exact HB.out | apply below_alloc | apply pw_below_drewN | apply below_drew1) | exact HB.out)))); have n2_ := Aside0.mk (below_step (by repeat (first | (with_reducible first | exact HB.out | apply below_alloc | apply pw_below_drewN | apply below_drew1) | exact HB.out)) hb); clear HO298; clear HB; have HO298 := n0_; have HO303 := n1_; have HB := n2_; clear n0_ n1_ n2_; (try clear hb); (try clear hb2); (try clear hk); (try clear hi); (try clear ho0); obtain ⟨Ao15, co15, eo15⟩ := Kd.R_slice HO298.out; subst eo15) | ((first | ((with_reducible refine gate_callee (f := 11) rfl ?_); refine goesL_ (some 26) rfl rfl Try.func11 (by kernel_rfl) rfl #[.slice Ao15 t294.length co15] rfl (by (try simp only [List.map_toArray, List.map_cons, List.map_nil]); first | done | rfl | (simp only [List.length_drop, List.length_take]; rfl)) ?_; (with_reducible refine (triremelaw32_taken.calls k _ _ t294 t304 _ ?side1 ?side2 A7.out).mono ?_); (case side1 => repeat (first | exact (Kd.R_reads' HO298.out).2.2 | (with_reducible refine Kd.C_alloc ?_ _) | (with_reducible refine Kd.C_drewN ?_ _) | (with_reducible refine Kd.C_drew ?_))); (case side2 => exact (Kd.R_reads' HO298.out).2.1); rintro e w16 ⟨v305, rfl, ho0, hb⟩; refine ⟨_, rfl, ?_⟩) | (go_at_call 11; (with_reducible refine (triremelaw32_taken.calls k _ _ t294 t304 _ ?side1 ?side2 A7.out).mono ?_); (case side1 => repeat (first | exact (Kd.R_reads' HO298.out).2.2 | (with_reducible refine Kd.C_alloc ?_ _) | (with_reducible refine Kd.C_drewN ?_ _) | (with_reducible refine Kd.C_drew ?_))); (case side2 => exact (Kd.R_reads' HO298.out).2.1); rintro e w16 ⟨v305, rfl, ho0, hb⟩)); have n0_ := Aside0.mk (Kd.R_below (by (with_reducible repeat (first | apply Kd.R_alloc | apply Kd.R_drewN | apply Kd.R_drew)); exact HO298.out) hb); have n1_ := Aside0.mk (Kd.R_elder' (by (with_reducible repeat (first | apply Kd.R_alloc | apply Kd.R_drewN | apply Kd.R_drew)); exact HO303.out) (Kd.R_base ho0) hb); have n2_ := Aside0.mk (Kd.R_lower (Kd.R_new' ho0 (Kd.R_lt (by (with_reducible repeat (first | apply Kd.R_alloc | apply Kd.R_drewN | apply Kd.R_drew)); exact HO303.out))) (below_size (by repeat (first | (with_reducible first | exact HB.out | apply below_alloc | apply pw_below_drewN | apply below_drew1) | exact HB.out)))); have n3_ := Aside0.mk (below_step (by repeat (first | (with_reducible first | exact HB.out | apply below_alloc | apply pw_below_drewN | apply below_drew1) | exact HB.out)) hb); clear HO298; clear HO303; clear HB; have HO298 := n0_; have HO303 := n1_; have HO306 := n2_; have HB := n3_; clear n0_ n1_ n2_ n3_; (try clear hb); (try clear hb2); (try clear hk); (try clear hi); (try clear ho0); obtain ⟨Ao17, co17, eo17⟩ := Kd.R_slice HO306.out; subst eo17; obtain ⟨Ao18, co18, eo18⟩ := Kd.R_slice HO303.out; subst eo18) | ((first | ((with_reducible refine gate_callee (f := 10) rfl ?_); refine goesL_ (some 28) rfl rfl Try.func10 (by kernel_rfl) rfl #[.slice Ao17 t304.length co17, .slice Ao18 t299.length co18] rfl (by (try simp only [List.map_toArray, List.map_cons, List.map_nil]); first | done | rfl | (simp only [List.length_drop, List.length_take]; rfl)) ?_; (with_reducible refine (triremeref32_Same.calls k _ _ t304 _ _ t299 true _ ?side1 ?side2 ?side3 ?side4 A8.out).mono ?_); (case side1 => repeat (first | exact (Kd.R_reads' HO306.out).2.2 | (with_reducible refine Kd.C_alloc ?_ _) | (with_reducible refine Kd.C_drewN ?_ _) | (with_reducible refine Kd.C_drew ?_))); (case side2 => exact (Kd.R_reads' HO306.out).2.1); (case side3 => repeat (first | exact (Kd.R_reads' HO303.out).2.2 | (with_reducible refine Kd.C_alloc ?_ _) | (with_reducible refine Kd.C_drewN ?_ _) | (with_reducible refine Kd.C_drew ?_))); (case side4 => exact (Kd.R_reads' HO303.out).2.1); rintro e w' ⟨rfl, ⟨nd, rfl⟩⟩; refine ⟨_, rfl, ?_⟩) | (go_at_call 10; (with_reducible refine (triremeref32_Same.calls k _ _ t304 _ _ t299 true _ ?side1 ?side2 ?side3 ?side4 A8.out).mono ?_); (case side1 => repeat (first | exact (Kd.R_reads' HO306.out).2.2 | (with_reducible refine Kd.C_alloc ?_ _) | (with_reducible refine Kd.C_drewN ?_ _) | (with_reducible refine Kd.C_drew ?_))); (case side2 => exact (Kd.R_reads' HO306.out).2.1); (case side3 => repeat (first | exact (Kd.R_reads' HO303.out).2.2 | (with_reducible refine Kd.C_alloc ?_ _) | (with_reducible refine Kd.C_drewN ?_ _) | (with_reducible refine Kd.C_drew ?_))); (case side4 => exact (Kd.R_reads' HO303.out).2.1); rintro e w' ⟨rfl, ⟨nd, rfl⟩⟩))) | (go_at_call 7; (with_reducible refine (triremelaw32_known.calls k  t308 _ A12.out).mono ?_); rintro e w19 ⟨rfl, hb⟩; have n0_ := Aside0.mk (Kd.R_below (by (with_reducible repeat (first | apply Kd.R_alloc | apply Kd.R_drewN | apply Kd.R_drew)); exact HO298.out) hb); have n1_ := Aside0.mk (Kd.R_below (by (with_reducible repeat (first | apply Kd.R_alloc | apply Kd.R_drewN | apply Kd.R_drew)); exact HO303.out) hb); have n2_ := Aside0.mk (Kd.R_below (by (with_reducible repeat (first | apply Kd.R_alloc | apply Kd.R_drewN | apply Kd.R_drew)); exact HO306.out) hb); have n3_ := Aside0.mk (below_step (by repeat (first | (with_reducible first | exact HB.out | apply below_alloc | apply pw_below_drewN | apply below_drew1) | exact HB.out)) hb); clear HO298; clear HO303; clear HO306; clear HB; have HO298 := n0_; have HO303 := n1_; have HO306 := n2_; have HB := n3_; clear n0_ n1_ n2_ n3_; (try clear hb); (try clear hb2); (try clear hk); (try clear hi)))
          go_ret
          exact ⟨by first | rfl | (simp [errW_none, errW_some] <;> rfl) | (simp [*, errW_none, errW_some] <;> rfl), by repeat (first | (with_reducible first | exact HB.out | apply below_alloc | apply pw_below_drewN | apply below_drew1) | exact HB.out)⟩
        · rw [if_neg c11] at H
          have c11b0 : (t296 == t301) = false := beq_eq_false_iff_ne.mpr c11
          have c11b1 : (t296 != t301) = true := bne_iff_ne.mpr c11
          obtain rfl := Option.some.inj H
          go_enter Try.func3, Try.ntmps3
          go_wp2_with (first | ((first | ((with_reducible refine gate_callee (f := 8) rfl ?_); refine goesL_ (some 15) rfl rfl Try.func8 (by kernel_rfl) rfl #[.string a0] rfl (by (try simp only [List.map_toArray, List.map_cons, List.map_nil]); first | done | rfl | (simp only [List.length_drop, List.length_take]; rfl)) ?_; (with_reducible refine (trace_Parse.calls k a0 t294 t295 t296 _ A5.out).mono ?_); rintro e w20 ⟨v297, rfl, ho0, hb⟩; refine ⟨_, rfl, ?_⟩) | (go_at_call 8; (with_reducible refine (trace_Parse.calls k a0 t294 t295 t296 _ A5.out).mono ?_); rintro e w20 ⟨v297, rfl, ho0, hb⟩)); have n0_ := Aside0.mk (Kd.R_lower ho0 (below_size (by repeat (first | (with_reducible first | exact HB.out | apply below_alloc | apply pw_below_drewN | apply below_drew1) | exact HB.out)))); have n1_ := Aside0.mk (below_step (by repeat (first | (with_reducible first | exact HB.out | apply below_alloc | apply pw_below_drewN | apply below_drew1) | exact HB.out)) hb); clear HB; have HO298 := n0_; have HB := n1_; clear n0_ n1_; (try clear hb); (try clear hb2); (try clear hk); (try clear hi); (try clear ho0)) | ((first | ((with_reducible refine gate_callee (f := 9) rfl ?_); refine goesL_ (some 21) rfl rfl Try.func9 (by kernel_rfl) rfl #[.string a0] rfl (by (try simp only [List.map_toArray, List.map_cons, List.map_nil]); first | done | rfl | (simp only [List.length_drop, List.length_take]; rfl)) ?_; (with_reducible refine (triremeref32_Parse.calls k a0 t299 t300 t301 _ A6.out).mono ?_); rintro e w21 ⟨v302, rfl, ho0, hb⟩; refine ⟨_, rfl, ?_⟩) | (go_at_call 9; (with_reducible refine (triremeref32_Parse.calls k a0 t299 t300 t301 _ A6.out).mono ?_); rintro e w21 ⟨v302, rfl, ho0, hb⟩)); have n0_ := Aside0.mk (Kd.R_below (by (with_reducible repeat (first | apply Kd.R_alloc | apply Kd.R_drewN | apply Kd.R_drew)); exact HO298.out) hb); have n1_ := Aside0.mk (Kd.R_lower ho0 (below_size (by repeat (first | (with_reducible first | exact HB.out | apply below_alloc | apply pw_below_drewN | apply below_drew1) | exact HB.out)))); have n2_ := Aside0.mk (below_step (by repeat (first | (with_reducible first | exact HB.out | apply below_alloc | apply pw_below_drewN | apply below_drew1) | exact HB.out)) hb); clear HO298; clear HB; have HO298 := n0_; have HO303 := n1_; have HB := n2_; clear n0_ n1_ n2_; (try clear hb); (try clear hb2); (try clear hk); (try clear hi); (try clear ho0); obtain ⟨Ao22, co22, eo22⟩ := Kd.R_slice HO298.out; subst eo22) | ((first | ((with_reducible refine gate_callee (f := 11) rfl ?_); refine goesL_ (some 26) rfl rfl Try.func11 (by kernel_rfl) rfl #[.slice Ao22 t294.length co22] rfl (by (try simp only [List.map_toArray, List.map_cons, List.map_nil]); first | done | rfl | (simp only [List.length_drop, List.length_take]; rfl)) ?_; (with_reducible refine (triremelaw32_taken.calls k _ _ t294 t304 _ ?side1 ?side2 A7.out).mono ?_); (case side1 => repeat (first | exact (Kd.R_reads' HO298.out).2.2 | (with_reducible refine Kd.C_alloc ?_ _) | (with_reducible refine Kd.C_drewN ?_ _) | (with_reducible refine Kd.C_drew ?_))); (case side2 => exact (Kd.R_reads' HO298.out).2.1); rintro e w23 ⟨v305, rfl, ho0, hb⟩; refine ⟨_, rfl, ?_⟩) | (go_at_call 11; (with_reducible refine (triremelaw32_taken.calls k _ _ t294 t304 _ ?side1 ?side2 A7.out).mono ?_); (case side1 => repeat (first | exact (Kd.R_reads' HO298.out).2.2 | (with_reducible refine Kd.C_alloc ?_ _) | (with_reducible refine Kd.C_drewN ?_ _) | (with_reducible refine Kd.C_drew ?_))); (case side2 => exact (Kd.R_reads' HO298.out).2.1); rintro e w23 ⟨v305, rfl, ho0, hb⟩)); have n0_ := Aside0.mk (Kd.R_below (by (with_reducible repeat (first | apply Kd.R_alloc | apply Kd.R_drewN | apply Kd.R_drew)); exact HO298.out) hb); have n1_ := Aside0.mk (Kd.R_elder' (by (with_reducible repeat (first | apply Kd.R_alloc | apply Kd.R_drewN | apply Kd.R_drew)); exact HO303.out) (Kd.R_base ho0) hb); have n2_ := Aside0.mk (Kd.R_lower (Kd.R_new' ho0 (Kd.R_lt (by (with_reducible repeat (first | apply Kd.R_alloc | apply Kd.R_drewN | apply Kd.R_drew)); exact HO303.out))) (below_size (by repeat (first | (with_reducible first | exact HB.out | apply below_alloc | apply pw_below_drewN | apply below_drew1) | exact HB.out)))); have n3_ := Aside0.mk (below_step (by repeat (first | (with_reducible first | exact HB.out | apply below_alloc | apply pw_below_drewN | apply below_drew1) | exact HB.out)) hb); clear HO298; clear HO303; clear HB; have HO298 := n0_; have HO303 := n1_; have HO306 := n2_; have HB := n3_; clear n0_ n1_ n2_ n3_; (try clear hb); (try clear hb2); (try clear hk); (try clear hi); (try clear ho0); obtain ⟨Ao24, co24, eo24⟩ := Kd.R_slice HO306.out; subst eo24; obtain ⟨Ao25, co25, eo25⟩ := Kd.R_slice HO303.out; subst eo25) | ((first | ((with_reducible refine gate_callee (f := 10) rfl ?_); refine goesL_ (some 28) rfl rfl Try.func10 (by kernel_rfl) rfl #[.slice Ao24 t304.length co24, .slice Ao25 t299.length co25] rfl (by (try simp only [List.map_toArray, List.map_cons, List.map_nil]); first | done | rfl | (simp only [List.length_drop, List.length_take]; rfl)) ?_; (with_reducible refine (triremeref32_Same.calls k _ _ t304 _ _ t299 true _ ?side1 ?side2 ?side3 ?side4 A8.out).mono ?_); (case side1 => repeat (first | exact (Kd.R_reads' HO306.out).2.2 | (with_reducible refine Kd.C_alloc ?_ _) | (with_reducible refine Kd.C_drewN ?_ _) | (with_reducible refine Kd.C_drew ?_))); (case side2 => exact (Kd.R_reads' HO306.out).2.1); (case side3 => repeat (first | exact (Kd.R_reads' HO303.out).2.2 | (with_reducible refine Kd.C_alloc ?_ _) | (with_reducible refine Kd.C_drewN ?_ _) | (with_reducible refine Kd.C_drew ?_))); (case side4 => exact (Kd.R_reads' HO303.out).2.1); rintro e w' ⟨rfl, ⟨nd, rfl⟩⟩; refine ⟨_, rfl, ?_⟩) | (go_at_call 10; (with_reducible refine (triremeref32_Same.calls k _ _ t304 _ _ t299 true _ ?side1 ?side2 ?side3 ?side4 A8.out).mono ?_); (case side1 => repeat (first | exact (Kd.R_reads' HO306.out).2.2 | (with_reducible refine Kd.C_alloc ?_ _) | (with_reducible refine Kd.C_drewN ?_ _) | (with_reducible refine Kd.C_drew ?_))); (case side2 => exact (Kd.R_reads' HO306.out).2.1); (case side3 => repeat (first | exact (Kd.R_reads' HO303.out).2.2 | (with_reducible refine Kd.C_alloc ?_ _) | (with_reducible refine Kd.C_drewN ?_ _) | (with_reducible refine Kd.C_drew ?_))); (case side4 => exact (Kd.R_reads' HO303.out).2.1); rintro e w' ⟨rfl, ⟨nd, rfl⟩⟩))))
          go_ret
          exact ⟨by first | rfl | (simp [errW_none, errW_some] <;> rfl) | (simp [*, errW_none, errW_some] <;> rfl), by repeat (first | (with_reducible first | exact HB.out | apply below_alloc | apply pw_below_drewN | apply below_drew1) | exact HB.out)⟩
      · rw [if_neg c10] at H
        have c10b0 : (t295 == t300) = false := beq_eq_false_iff_ne.mpr c10
        have c10b1 : (t295 != t300) = true := bne_iff_ne.mpr c10
        obtain rfl := Option.some.inj H
        go_enter Try.func3, Try.ntmps3
        go_wp2_with (first | ((first | ((with_reducible refine gate_callee (f := 8) rfl ?_); refine goesL_ (some 15) rfl rfl Try.func8 (by kernel_rfl) rfl #[.string a0] rfl (by (try simp only [List.map_toArray, List.map_cons, List.map_nil]); first | done | rfl | (simp only [List.length_drop, List.length_take]; rfl)) ?_; (with_reducible refine (trace_Parse.calls k a0 t294 t295 t296 _ A5.out).mono ?_); rintro e w26 ⟨v297, rfl, ho0, hb⟩; refine ⟨_, rfl, ?_⟩) | (go_at_call 8; (with_reducible refine (trace_Parse.calls k a0 t294 t295 t296 _ A5.out).mono ?_); rintro e w26 ⟨v297, rfl, ho0, hb⟩)); have n0_ := Aside0.mk (Kd.R_lower ho0 (below_size (by repeat (first | (with_reducible first | exact HB.out | apply below_alloc | apply pw_below_drewN | apply below_drew1) | exact HB.out)))); have n1_ := Aside0.mk (below_step (by repeat (first | (with_reducible first | exact HB.out | apply below_alloc | apply pw_below_drewN | apply below_drew1) | exact HB.out)) hb); clear HB; have HO298 := n0_; have HB := n1_; clear n0_ n1_; (try clear hb); (try clear hb2); (try clear hk); (try clear hi); (try clear ho0)) | ((first | ((with_reducible refine gate_callee (f := 9) rfl ?_); refine goesL_ (some 21) rfl rfl Try.func9 (by kernel_rfl) rfl #[.string a0] rfl (by (try simp only [List.map_toArray, List.map_cons, List.map_nil]); first | done | rfl | (simp only [List.length_drop, List.length_take]; rfl)) ?_; (with_reducible refine (triremeref32_Parse.calls k a0 t299 t300 t301 _ A6.out).mono ?_); rintro e w27 ⟨v302, rfl, ho0, hb⟩; refine ⟨_, rfl, ?_⟩) | (go_at_call 9; (with_reducible refine (triremeref32_Parse.calls k a0 t299 t300 t301 _ A6.out).mono ?_); rintro e w27 ⟨v302, rfl, ho0, hb⟩)); have n0_ := Aside0.mk (Kd.R_below (by (with_reducible repeat (first | apply Kd.R_alloc | apply Kd.R_drewN | apply Kd.R_drew)); exact HO298.out) hb); have n1_ := Aside0.mk (Kd.R_lower ho0 (below_size (by repeat (first | (with_reducible first | exact HB.out | apply below_alloc | apply pw_below_drewN | apply below_drew1) | exact HB.out)))); have n2_ := Aside0.mk (below_step (by repeat (first | (with_reducible first | exact HB.out | apply below_alloc | apply pw_below_drewN | apply below_drew1) | exact HB.out)) hb); clear HO298; clear HB; have HO298 := n0_; have HO303 := n1_; have HB := n2_; clear n0_ n1_ n2_; (try clear hb); (try clear hb2); (try clear hk); (try clear hi); (try clear ho0); obtain ⟨Ao28, co28, eo28⟩ := Kd.R_slice HO298.out; subst eo28) | ((first | ((with_reducible refine gate_callee (f := 11) rfl ?_); refine goesL_ (some 26) rfl rfl Try.func11 (by kernel_rfl) rfl #[.slice Ao28 t294.length co28] rfl (by (try simp only [List.map_toArray, List.map_cons, List.map_nil]); first | done | rfl | (simp only [List.length_drop, List.length_take]; rfl)) ?_; (with_reducible refine (triremelaw32_taken.calls k _ _ t294 t304 _ ?side1 ?side2 A7.out).mono ?_); (case side1 => repeat (first | exact (Kd.R_reads' HO298.out).2.2 | (with_reducible refine Kd.C_alloc ?_ _) | (with_reducible refine Kd.C_drewN ?_ _) | (with_reducible refine Kd.C_drew ?_))); (case side2 => exact (Kd.R_reads' HO298.out).2.1); rintro e w29 ⟨v305, rfl, ho0, hb⟩; refine ⟨_, rfl, ?_⟩) | (go_at_call 11; (with_reducible refine (triremelaw32_taken.calls k _ _ t294 t304 _ ?side1 ?side2 A7.out).mono ?_); (case side1 => repeat (first | exact (Kd.R_reads' HO298.out).2.2 | (with_reducible refine Kd.C_alloc ?_ _) | (with_reducible refine Kd.C_drewN ?_ _) | (with_reducible refine Kd.C_drew ?_))); (case side2 => exact (Kd.R_reads' HO298.out).2.1); rintro e w29 ⟨v305, rfl, ho0, hb⟩)); have n0_ := Aside0.mk (Kd.R_below (by (with_reducible repeat (first | apply Kd.R_alloc | apply Kd.R_drewN | apply Kd.R_drew)); exact HO298.out) hb); have n1_ := Aside0.mk (Kd.R_elder' (by (with_reducible repeat (first | apply Kd.R_alloc | apply Kd.R_drewN | apply Kd.R_drew)); exact HO303.out) (Kd.R_base ho0) hb); have n2_ := Aside0.mk (Kd.R_lower (Kd.R_new' ho0 (Kd.R_lt (by (with_reducible repeat (first | apply Kd.R_alloc | apply Kd.R_drewN | apply Kd.R_drew)); exact HO303.out))) (below_size (by repeat (first | (with_reducible first | exact HB.out | apply below_alloc | apply pw_below_drewN | apply below_drew1) | exact HB.out)))); have n3_ := Aside0.mk (below_step (by repeat (first | (with_reducible first | exact HB.out | apply below_alloc | apply pw_below_drewN | apply below_drew1) | exact HB.out)) hb); clear HO298; clear HO303; clear HB; have HO298 := n0_; have HO303 := n1_; have HO306 := n2_; have HB := n3_; clear n0_ n1_ n2_ n3_; (try clear hb); (try clear hb2); (try clear hk); (try clear hi); (try clear ho0); obtain ⟨Ao30, co30, eo30⟩ := Kd.R_slice HO306.out; subst eo30; obtain ⟨Ao31, co31, eo31⟩ := Kd.R_slice HO303.out; subst eo31) | ((first | ((with_reducible refine gate_callee (f := 10) rfl ?_); refine goesL_ (some 28) rfl rfl Try.func10 (by kernel_rfl) rfl #[.slice Ao30 t304.length co30, .slice Ao31 t299.length co31] rfl (by (try simp only [List.map_toArray, List.map_cons, List.map_nil]); first | done | rfl | (simp only [List.length_drop, List.length_take]; rfl)) ?_; (with_reducible refine (triremeref32_Same.calls k _ _ t304 _ _ t299 true _ ?side1 ?side2 ?side3 ?side4 A8.out).mono ?_); (case side1 => repeat (first | exact (Kd.R_reads' HO306.out).2.2 | (with_reducible refine Kd.C_alloc ?_ _) | (with_reducible refine Kd.C_drewN ?_ _) | (with_reducible refine Kd.C_drew ?_))); (case side2 => exact (Kd.R_reads' HO306.out).2.1); (case side3 => repeat (first | exact (Kd.R_reads' HO303.out).2.2 | (with_reducible refine Kd.C_alloc ?_ _) | (with_reducible refine Kd.C_drewN ?_ _) | (with_reducible refine Kd.C_drew ?_))); (case side4 => exact (Kd.R_reads' HO303.out).2.1); rintro e w' ⟨rfl, ⟨nd, rfl⟩⟩; refine ⟨_, rfl, ?_⟩) | (go_at_call 10; (with_reducible refine (triremeref32_Same.calls k _ _ t304 _ _ t299 true _ ?side1 ?side2 ?side3 ?side4 A8.out).mono ?_); (case side1 => repeat (first | exact (Kd.R_reads' HO306.out).2.2 | (with_reducible refine Kd.C_alloc ?_ _) | (with_reducible refine Kd.C_drewN ?_ _) | (with_reducible refine Kd.C_drew ?_))); (case side2 => exact (Kd.R_reads' HO306.out).2.1); (case side3 => repeat (first | exact (Kd.R_reads' HO303.out).2.2 | (with_reducible refine Kd.C_alloc ?_ _) | (with_reducible refine Kd.C_drewN ?_ _) | (with_reducible refine Kd.C_drew ?_))); (case side4 => exact (Kd.R_reads' HO303.out).2.1); rintro e w' ⟨rfl, ⟨nd, rfl⟩⟩))))
        go_ret
        exact ⟨by first | rfl | (simp [errW_none, errW_some] <;> rfl) | (simp [*, errW_none, errW_some] <;> rfl), by repeat (first | (with_reducible first | exact HB.out | apply below_alloc | apply pw_below_drewN | apply below_drew1) | exact HB.out)⟩
    · replace c9 := Bool.eq_false_iff.mpr c9
      subst c9
      have H1 : (some false) = some r := by rw [if_neg (show ¬ (false = true) by decide)] at H; exact H
      clear H
      have H := H1
      clear H1
      obtain rfl := Option.some.inj H
      go_enter Try.func3, Try.ntmps3
      go_wp2_with (first | ((first | ((with_reducible refine gate_callee (f := 8) rfl ?_); refine goesL_ (some 15) rfl rfl Try.func8 (by kernel_rfl) rfl #[.string a0] rfl (by (try simp only [List.map_toArray, List.map_cons, List.map_nil]); first | done | rfl | (simp only [List.length_drop, List.length_take]; rfl)) ?_; (with_reducible refine (trace_Parse.calls k a0 t294 t295 t296 _ A5.out).mono ?_); rintro e w32 ⟨v297, rfl, ho0, hb⟩; refine ⟨_, rfl, ?_⟩) | (go_at_call 8; (with_reducible refine (trace_Parse.calls k a0 t294 t295 t296 _ A5.out).mono ?_); rintro e w32 ⟨v297, rfl, ho0, hb⟩)); have n0_ := Aside0.mk (Kd.R_lower ho0 (below_size (by repeat (first | (with_reducible first | exact HB.out | apply below_alloc | apply pw_below_drewN | apply below_drew1) | exact HB.out)))); have n1_ := Aside0.mk (below_step (by repeat (first | (with_reducible first | exact HB.out | apply below_alloc | apply pw_below_drewN | apply below_drew1) | exact HB.out)) hb); clear HB; have HO298 := n0_; have HB := n1_; clear n0_ n1_; (try clear hb); (try clear hb2); (try clear hk); (try clear hi); (try clear ho0)) | ((first | ((with_reducible refine gate_callee (f := 9) rfl ?_); refine goesL_ (some 21) rfl rfl Try.func9 (by kernel_rfl) rfl #[.string a0] rfl (by (try simp only [List.map_toArray, List.map_cons, List.map_nil]); first | done | rfl | (simp only [List.length_drop, List.length_take]; rfl)) ?_; (with_reducible refine (triremeref32_Parse.calls k a0 t299 t300 t301 _ A6.out).mono ?_); rintro e w33 ⟨v302, rfl, ho0, hb⟩; refine ⟨_, rfl, ?_⟩) | (go_at_call 9; (with_reducible refine (triremeref32_Parse.calls k a0 t299 t300 t301 _ A6.out).mono ?_); rintro e w33 ⟨v302, rfl, ho0, hb⟩)); have n0_ := Aside0.mk (Kd.R_below (by (with_reducible repeat (first | apply Kd.R_alloc | apply Kd.R_drewN | apply Kd.R_drew)); exact HO298.out) hb); have n1_ := Aside0.mk (Kd.R_lower ho0 (below_size (by repeat (first | (with_reducible first | exact HB.out | apply below_alloc | apply pw_below_drewN | apply below_drew1) | exact HB.out)))); have n2_ := Aside0.mk (below_step (by repeat (first | (with_reducible first | exact HB.out | apply below_alloc | apply pw_below_drewN | apply below_drew1) | exact HB.out)) hb); clear HO298; clear HB; have HO298 := n0_; have HO303 := n1_; have HB := n2_; clear n0_ n1_ n2_; (try clear hb); (try clear hb2); (try clear hk); (try clear hi); (try clear ho0); obtain ⟨Ao34, co34, eo34⟩ := Kd.R_slice HO298.out; subst eo34) | ((first | ((with_reducible refine gate_callee (f := 11) rfl ?_); refine goesL_ (some 26) rfl rfl Try.func11 (by kernel_rfl) rfl #[.slice Ao34 t294.length co34] rfl (by (try simp only [List.map_toArray, List.map_cons, List.map_nil]); first | done | rfl | (simp only [List.length_drop, List.length_take]; rfl)) ?_; (with_reducible refine (triremelaw32_taken.calls k _ _ t294 t304 _ ?side1 ?side2 A7.out).mono ?_); (case side1 => repeat (first | exact (Kd.R_reads' HO298.out).2.2 | (with_reducible refine Kd.C_alloc ?_ _) | (with_reducible refine Kd.C_drewN ?_ _) | (with_reducible refine Kd.C_drew ?_))); (case side2 => exact (Kd.R_reads' HO298.out).2.1); rintro e w35 ⟨v305, rfl, ho0, hb⟩; refine ⟨_, rfl, ?_⟩) | (go_at_call 11; (with_reducible refine (triremelaw32_taken.calls k _ _ t294 t304 _ ?side1 ?side2 A7.out).mono ?_); (case side1 => repeat (first | exact (Kd.R_reads' HO298.out).2.2 | (with_reducible refine Kd.C_alloc ?_ _) | (with_reducible refine Kd.C_drewN ?_ _) | (with_reducible refine Kd.C_drew ?_))); (case side2 => exact (Kd.R_reads' HO298.out).2.1); rintro e w35 ⟨v305, rfl, ho0, hb⟩)); have n0_ := Aside0.mk (Kd.R_below (by (with_reducible repeat (first | apply Kd.R_alloc | apply Kd.R_drewN | apply Kd.R_drew)); exact HO298.out) hb); have n1_ := Aside0.mk (Kd.R_elder' (by (with_reducible repeat (first | apply Kd.R_alloc | apply Kd.R_drewN | apply Kd.R_drew)); exact HO303.out) (Kd.R_base ho0) hb); have n2_ := Aside0.mk (Kd.R_lower (Kd.R_new' ho0 (Kd.R_lt (by (with_reducible repeat (first | apply Kd.R_alloc | apply Kd.R_drewN | apply Kd.R_drew)); exact HO303.out))) (below_size (by repeat (first | (with_reducible first | exact HB.out | apply below_alloc | apply pw_below_drewN | apply below_drew1) | exact HB.out)))); have n3_ := Aside0.mk (below_step (by repeat (first | (with_reducible first | exact HB.out | apply below_alloc | apply pw_below_drewN | apply below_drew1) | exact HB.out)) hb); clear HO298; clear HO303; clear HB; have HO298 := n0_; have HO303 := n1_; have HO306 := n2_; have HB := n3_; clear n0_ n1_ n2_ n3_; (try clear hb); (try clear hb2); (try clear hk); (try clear hi); (try clear ho0); obtain ⟨Ao36, co36, eo36⟩ := Kd.R_slice HO306.out; subst eo36; obtain ⟨Ao37, co37, eo37⟩ := Kd.R_slice HO303.out; subst eo37) | ((first | ((with_reducible refine gate_callee (f := 10) rfl ?_); refine goesL_ (some 28) rfl rfl Try.func10 (by kernel_rfl) rfl #[.slice Ao36 t304.length co36, .slice Ao37 t299.length co37] rfl (by (try simp only [List.map_toArray, List.map_cons, List.map_nil]); first | done | rfl | (simp only [List.length_drop, List.length_take]; rfl)) ?_; (with_reducible refine (triremeref32_Same.calls k _ _ t304 _ _ t299 false _ ?side1 ?side2 ?side3 ?side4 A8.out).mono ?_); (case side1 => repeat (first | exact (Kd.R_reads' HO306.out).2.2 | (with_reducible refine Kd.C_alloc ?_ _) | (with_reducible refine Kd.C_drewN ?_ _) | (with_reducible refine Kd.C_drew ?_))); (case side2 => exact (Kd.R_reads' HO306.out).2.1); (case side3 => repeat (first | exact (Kd.R_reads' HO303.out).2.2 | (with_reducible refine Kd.C_alloc ?_ _) | (with_reducible refine Kd.C_drewN ?_ _) | (with_reducible refine Kd.C_drew ?_))); (case side4 => exact (Kd.R_reads' HO303.out).2.1); rintro e w' ⟨rfl, ⟨nd, rfl⟩⟩; refine ⟨_, rfl, ?_⟩) | (go_at_call 10; (with_reducible refine (triremeref32_Same.calls k _ _ t304 _ _ t299 false _ ?side1 ?side2 ?side3 ?side4 A8.out).mono ?_); (case side1 => repeat (first | exact (Kd.R_reads' HO306.out).2.2 | (with_reducible refine Kd.C_alloc ?_ _) | (with_reducible refine Kd.C_drewN ?_ _) | (with_reducible refine Kd.C_drew ?_))); (case side2 => exact (Kd.R_reads' HO306.out).2.1); (case side3 => repeat (first | exact (Kd.R_reads' HO303.out).2.2 | (with_reducible refine Kd.C_alloc ?_ _) | (with_reducible refine Kd.C_drewN ?_ _) | (with_reducible refine Kd.C_drew ?_))); (case side4 => exact (Kd.R_reads' HO303.out).2.1); rintro e w' ⟨rfl, ⟨nd, rfl⟩⟩))))
      go_ret
      exact ⟨by first | rfl | (simp [errW_none, errW_some] <;> rfl) | (simp [*, errW_none, errW_some] <;> rfl), by repeat (first | (with_reducible first | exact HB.out | apply below_alloc | apply pw_below_drewN | apply below_drew1) | exact HB.out)⟩
/-- THE ONE PURE STATEMENT of triremelaw32_TraceParses: yours. -/
def triremelaw32_TraceParses.Pure : Prop := ∀ (a0 : ByteArray), a0.size ≤ 140737488351232 → ∃ k, triremelaw32_TraceParses.f k a0 = some true
theorem triremelaw32_TraceParses.walk (P : triremelaw32_TraceParses.Pure) (a0 : ByteArray) (w : World) (w0 : a0.size ≤ 140737488351232) :
    Calls Try.prog 3 #[.string a0] w fun e w' => e = .returned (.bool true) ∧ Below w.heap.size w w' := by
  obtain ⟨k, h⟩ := P a0 w0
  refine (triremelaw32_TraceParses.calls k a0 true w h).mono ?_
  rintro e w' ⟨rfl, hd⟩
  exact ⟨rfl, hd⟩
end Go.Proofs.Ytngmcigkihfnkaa.H
end
section
namespace Go.Proofs.Ytngmcigkihfnkaa.H
open Go.RowKit Go.Proofs.YtngmcigkihfnkaaW.PrintWords Go.Proofs.YtngmcigkihfnkaaW.PrintLast Go.Proofs.YtngmcigkihfnkaaW.PrintMore
set_option linter.unusedVariables false
set_option linter.unusedSimpArgs false
theorem take_dropE (s : ByteArray) (a e : Nat) : s.toList.drop a = (s.toList.take e).drop a ++ s.toList.drop (max a e) := by
  rcases Nat.le_total a e with h | h
  · rw [Nat.max_eq_right h]
    have h1 : s.toList = s.toList.take e ++ s.toList.drop e := (List.take_append_drop e s.toList).symm
    rcases Nat.le_total e s.toList.length with h2 | h2
    · conv => lhs; rw [h1]
      rw [List.drop_append_of_le_length (by rw [List.length_take]; omega)]
    · rw [List.take_of_length_le h2, List.drop_eq_nil_of_le h2, List.append_nil]
  · rw [Nat.max_eq_left h, show (s.toList.take e).drop a = [] from List.drop_eq_nil_of_le (by rw [List.length_take]; omega), List.nil_append]
theorem refParse_l0 (s : ByteArray) (hs : s.size ≤ 1000000) : ∀ (m a : Nat) (acc : List EvT) (n : Nat), s.size + 1 ≤ a + m → a ≤ s.size + 1 → acc.length ≤ a → n ≤ a →
    Ev (fun k => triremeref32_Parse.l0 k s (acc.map s39) (n : Int) (a : Int)) (lay39 (parseR ((linesR (s.toList.drop a)).map mkB) acc (n : Int))) := by
  intro m
  induction m with
  | zero =>
    intro a acc n hm ha hacc hn
    refine Ev.step (fun k => by rw [triremeref32_Parse.l0]) ?_
    rw [show s.toList.drop a = [] from List.drop_eq_nil_of_le (by rw [toList_len]; omega), linesR_nil]
    simp only [show ¬ ((a : Int) < (s.size : Int)) by omega, if_false]
    exact Ev.now _
  | succ m ih =>
    intro a acc n hm ha hacc hn
    refine Ev.step (fun k => by rw [triremeref32_Parse.l0]) ?_
    by_cases h0 : a < s.size
    case neg =>
      rw [show s.toList.drop a = [] from List.drop_eq_nil_of_le (by rw [toList_len]; omega), linesR_nil]
      simp only [show ¬ ((a : Int) < (s.size : Int)) by omega, if_false]
      exact Ev.now _
    simp only [show (a : Int) < (s.size : Int) by omega, if_true]
    have hline : ∀ (e : Nat), a ≤ e → e ≤ s.size → linesR (s.toList.drop a) = (s.toList.take e).drop a :: linesR (s.toList.drop (e + 1)) →
        Ev (fun k => (triremeref32_read.f k (s.extract a e)).bind fun bt => if bt.2.2.2.2 = true then (if (acc.map s39).length < 2932031007402 then triremeref32_Parse.l0 k s (acc.map s39 ++ [(⟨bt.1, bt.2.1, bt.2.2.1, bt.2.2.2.1⟩ : S39)]) (wrap64 ((n : Int) + 1)) (wrap64 ((e : Int) + 1)) else none) else some (([] : List S39), 12, wrap64 ((n : Int) + 1)))
          (lay39 (parseR ((linesR (s.toList.drop a)).map mkB) acc (n : Int))) := by
      intro e hae hes hl
      rw [hl, List.map_cons, ← mk_sub]
      simp only [parseR]
      have hz : (s.extract a e).size ≤ 1000000 := by rw [ByteArray.size_extract]; omega
      refine Ev.bind (refRead_ev _ hz) ?_
      obtain ⟨q1, q2⟩ := ref_read_eq (s.extract a e)
      rw [wrap_small (i := (n : Int) + 1) (by omega) (by omega), wrap_small (i := (e : Int) + 1) (by omega) (by omega)]
      show Ev (fun k => if (refReadR (s.extract a e)).2 = true then (if (acc.map s39).length < 2932031007402 then triremeref32_Parse.l0 k s (acc.map s39 ++ [s39 (refReadR (s.extract a e)).1]) ((n : Int) + 1) ((e : Int) + 1) else none) else some (([] : List S39), 12, (n : Int) + 1)) _
      rw [q1]
      refine ev_if (fun hb => ?_) (fun hb => ?_)
      · rw [if_pos hb, q2 hb]
        refine ev_if (fun _ => ?_) (fun h => absurd (by rw [List.length_map]; omega) h)
        have := ih (e + 1) (acc ++ [(readR (s.extract a e)).1]) (n + 1) (by omega) (by omega) (by simp; omega) (by omega)
        rw [List.map_append] at this
        exact this
      · rw [if_neg hb]; exact Ev.now _
    have hscan : ∀ (d e : Nat), e + d = s.size → a ≤ e → (∀ c ∈ (s.toList.take e).drop a, c ≠ 10) →
        Ev (fun k => triremeref32_Parse.l1 k s (acc.map s39) (n : Int) (a : Int) (e : Int)) (lay39 (parseR ((linesR (s.toList.drop a)).map mkB) acc (n : Int))) := by
      intro d
      induction d with
      | zero =>
        intro e he hae hx
        refine Ev.step (fun k => by rw [triremeref32_Parse.l1]) ?_
        simp only [show ¬ ((e : Int) < (s.size : Int)) by omega, if_false, show (0 : Int) ≤ (a : Int) by omega, show (a : Int) ≤ (e : Int) by omega, show (e : Int) ≤ (s.size : Int) by omega, if_true, Int.toNat_natCast]
        refine hline e hae (by omega) ?_
        have h1 := take_dropE s a e
        rw [Nat.max_eq_right hae, show s.toList.drop e = [] from List.drop_eq_nil_of_le (by rw [toList_len]; omega), List.append_nil] at h1
        rw [h1, linesR_last _ hx, show s.toList.drop (e + 1) = [] from List.drop_eq_nil_of_le (by rw [toList_len]; omega), linesR_nil]
        intro h2
        have h3 := congrArg List.length h1
        rw [h2, List.length_drop, toList_len] at h3
        simp at h3
        omega
      | succ d ihd =>
        intro e he hae hx
        have h5 : e < s.size := by omega
        have h10 : (((s[e]'h5).toNat : Int) = 10) ↔ (s[e]'h5) = 10 := byte_eq (s[e]'h5) 10 (by decide)
        refine Ev.step (fun k => by rw [triremeref32_Parse.l1]) ?_
        rw [bt_nat s e h5]
        simp only [show ((e : Int) < (s.size : Int)) by omega, show (0 : Int) ≤ (e : Int) by omega, show (0 : Int) ≤ (a : Int) by omega, show (a : Int) ≤ (e : Int) by omega, show (e : Int) ≤ (s.size : Int) by omega, if_true, Int.toNat_natCast]
        refine ev_if (fun h6 => ?_) (fun h6 => ?_)
        · refine hline e hae (by omega) ?_
          have h1 := take_dropE s a e
          rw [Nat.max_eq_right hae, drop_bt s e h5, h10.1 h6] at h1
          rw [h1, linesR_app _ _ hx]
        · rw [wrap_small (i := (e : Int) + 1) (by omega) (by omega)]
          refine ihd (e + 1) (by omega) (by omega) ?_
          intro c hc
          rw [sub_snoc s a e hae h5] at hc
          rcases List.mem_append.1 hc with hc | hc
          · exact hx c hc
          · rcases List.mem_singleton.1 hc with rfl
            exact fun h => h6 (h10.2 h)
    refine hscan (s.size - a) a (by omega) (Nat.le_refl _) ?_
    rw [show (s.toList.take a).drop a = [] from List.drop_eq_nil_of_le (by rw [List.length_take]; omega)]
    intro c hc; cases hc
theorem refParse_ev (s : ByteArray) (hs : s.size ≤ 1000000) : Ev (fun k => triremeref32_Parse.f k s) (lay39 (parseR ((linesR s.toList).map mkB) [] 0)) := by
  have := refParse_l0 s hs (s.size + 1) 0 [] 0 (by omega) (by omega) (by simp) (by omega)
  rw [List.drop_zero] at this
  exact this
theorem parseR_len : ∀ (L : List ByteArray) (acc : List EvT) (i : Int), (parseR L acc i).1.length ≤ acc.length + L.length
  | [], acc, i => by simp [parseR]
  | x :: L, acc, i => by
    simp only [parseR]
    by_cases h : (readR x).2 = true
    · rw [if_pos h]; have := parseR_len L (acc ++ [(readR x).1]) (i + 1); simp at this ⊢; omega
    · rw [if_neg h]; simp
theorem dropLE_len (l : List (List UInt8)) : (dropLE l).length ≤ l.length := by
  rw [dropLE_eq]
  split
  · simp
  · exact Nat.le_refl _
theorem lines_len (l : List UInt8) : (linesR l).length ≤ l.length + 1 := Nat.le_trans (dropLE_len _) (split_count 10 l [])
theorem parses_pure : triremelaw32_TraceParses.Pure := by
  intro a0 h0
  apply Ev.rounds
  unfold triremelaw32_TraceParses.f
  refine ev_if (fun h => Ev.bind known_ev (Ev.now _)) (fun h => ?_)
  refine Ev.bind (parse_ev a0 (by omega)) ?_
  refine Ev.bind (refParse_ev a0 (by omega)) ?_
  have hl := parseR_len ((linesR a0.toList).map mkB) [] 0
  have hl2 := lines_len a0.toList
  rw [toList_len] at hl2
  rw [List.length_map, List.length_nil] at hl
  generalize parseR ((linesR a0.toList).map mkB) [] 0 = P at *
  simp only [lay37, lay39]
  refine Ev.bind (taken_ev P.1 (by omega)) ?_
  refine Ev.bind (same_ev _ (by rw [List.length_map]; omega)) ?_
  simp only [if_true]
  exact Ev.bind known_ev (Ev.now _)
end Go.Proofs.Ytngmcigkihfnkaa.H
end
section
namespace Go.Proofs.Ytngmcigkihfnkaa.Pure
open Go.RowKit Go.Proofs.Ytngmcigkihfnkaa.H Go.Proofs.YtngmcigkihfnkaaW.PrintWords Go.Proofs.YtngmcigkihfnkaaW.PrintLast
theorem TraceParses : triremelaw32_TraceParses.Pure -- proved in PuJ
  := H.parses_pure
end Go.Proofs.Ytngmcigkihfnkaa.Pure
end
section
namespace Go.Proofs.Ytngmcigkihfnkaa.traceParses
open Go.ChangeShapes Go.WideShapes Go.ChangeAt Go.RowKit
open Go.ChangeMaps (open_string shut_string)
set_option linter.unusedVariables false
theorem own : ownKnob Try.prog.godebug = none := by kernel_rfl
set_option maxRecDepth 100000 in
theorem lifted (os : Os) (started : os.Started) (H : Type) (enc : TypeId × Value → H) :
    ReturnsInHanded {} Try.checked os 3 .any (Rows.traceParsesSpec.pre6 enc Try.prog Try.f3 Rows.traceParsesRow.domain false) (Rows.traceParsesSpec.post enc Try.prog Try.f3 false true false false) := by
  refine returnsInHanded_of_change_sized (C := Try.checked) own started (by kernel_rfl) Try.func3
    (ChangeSpec.witness6 (enc := enc) (C := Try.checked) false ⟨#[], #[.string ByteArray.empty], []⟩ 8 (by kernel_rfl) (by kernel_rfl) (by kernel_rfl) (by kernel_rfl)) ?_
  intro W base args ds gs before hval0 hW hcnd hsz0 _
  have hsz : (DataW.weightsEach Try.prog (Try.f3.params.toList ++ Rows.traceParsesSpec.plain.varTypes Try.prog) (ds ++ gs)).all (· ≤ reachBytes) = true := hsz0
  have hval : ∀ (j : Nat) t v, Try.f3.params[j]? = some t → args[j]? = some v → Value.okWide Try.prog W .any base t v := hval0
  have hW' := hW
  obtain ⟨p, q, hA0, hV, rfl, hfz, hnd⟩ := hW
  have hA : DataW.TrodAll enc Try.prog W 0 (fun _ => true) true Try.f3.params.toList args.toList ds p := hA0
  rw [Try.params3] at hA hval hsz
  obtain ⟨v0, vs0, d0, ds0, p0, q0, hargs, rfl, rfl, h0, r0⟩ := trodAll_cons hA
  obtain ⟨rfl, rfl, rfl⟩ := trodAll_nil r0
  obtain rfl : args = #[v0] := by cases args; simp_all
  obtain ⟨rfl, rfl⟩ := trodVars_none hV
  obtain ⟨a0, rfl, rfl, rfl, y0⟩ := open_string Try.underlying9 (hval 0 9 v0 rfl rfl) h0
  have w0 : a0.size ≤ 140737488351232 := by
    have z := sized_string hsz (j := 0) (t := 9) rfl rfl
    rw [Array.length_toList] at z
    exact z
  clear hA0 hval0 hsz0 hsz
  refine (_root_.Go.Proofs.Ytngmcigkihfnkaa.H.triremelaw32_TraceParses.walk Pure.TraceParses a0 W w0).mono fun e W' ⟨he, bel⟩ => ?_
  subst he
  exact ⟨_, rfl, _, _, _, [], _, [], hW', trodAll_mk1 (shut_bool Try.underlying4 _), (trodAll_cons_mk (shut_string Try.underlying9 y0) trodAll_mk0), rfl, bel.frame _, fun h => by cases h⟩
theorem over : Rows.traceParsesRow.holds Try.pinned (OpenSpec.ofChange Rows.traceParsesSpec) :=
  OpenClaim.holds_of_wide 3 Try.f3 rfl rfl rfl rfl rfl rfl rfl ⟨rfl, rfl, rfl, rfl, rfl⟩ rfl rfl rfl rfl rfl (by kernel_rfl) Try.func3 (by kernel_rfl)
    (of_decide_eq_true (by kernel_rfl)) (by unfold Func.isWrapper; first | (rw [if_pos (by decide +kernel)]; kernel_rfl) | (rw [if_neg (by decide +kernel)]; exact ⟨rfl, rfl⟩))
    (fun os started H enc _ => lifted os started H enc)
theorem proved : Rows.TraceParsesSaid := over
end Go.Proofs.Ytngmcigkihfnkaa.traceParses
namespace Go.Proofs.Ytngmcigkihfnkaa
/-- The row, under a short name, for the claim. -/
theorem traceParses_holds : Rows.TraceParsesSaid := traceParses.proved
end Go.Proofs.Ytngmcigkihfnkaa
end
