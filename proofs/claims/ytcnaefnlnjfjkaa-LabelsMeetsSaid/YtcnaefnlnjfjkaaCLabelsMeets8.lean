import Derived.Test.YtcnaefnlnjfjkaaCLabelsMeets0
import Derived.Test.YtcnaefnlnjfjkaaCLabelsMeets1
import Derived.Test.YtcnaefnlnjfjkaaCLabelsMeets2
import Derived.Test.YtcnaefnlnjfjkaaCLabelsMeets3
import Derived.Test.YtcnaefnlnjfjkaaCLabelsMeets4
import Derived.Test.YtcnaefnlnjfjkaaCLabelsMeets5
import Derived.Test.YtcnaefnlnjfjkaaCLabelsMeets6
import Derived.Test.YtcnaefnlnjfjkaaCLabelsMeets7
section
namespace Go.Proofs.Ytcnaefnlnjfjkaa.H
open Go.RowKit Go.Proofs.YtcnaefnlnjfjkaaW.PrintWords Go.Proofs.YtcnaefnlnjfjkaaW.PrintLast Go.Proofs.YtcnaefnlnjfjkaaW.PrintMore
attribute [local go_sem] max2_int min2_int max_two min_two max_three min_three max_four min_four   -- for this text's walks alone
set_option linter.unusedVariables false
set_option linter.unusedSimpArgs false
def triremeref05_Drop.l0 : Nat → List (S31) → ByteArray → List (S31) → Int → Option ((List (S31)))
  | 0, _, _, _, _ => none
  | k + 1, x0, x1, x5, x6 => if x6 < (x0.length : Int) then (if 0 ≤ x6 then (if ((rd_T31 x0 x6).f0).toList = x1.toList then (triremeref05_Drop.l0 k x0 x1 x5 (wrap64 (x6 + 1))) else (if x5.length < 4398046511104 then (triremeref05_Drop.l0 k x0 x1 (x5 ++ [(⟨(rd_T31 x0 x6).f0, (rd_T31 x0 x6).f1⟩ : S31)]) (wrap64 (x6 + 1))) else (none))) else (none)) else (some x5)
def triremeref05_Drop.f (k : Nat) (l0 : List (S31)) (a1 : ByteArray) : Option ((List (S31))) := triremeref05_Drop.l0 k l0 a1 ([] : List (S31)) 0
theorem triremeref05_Drop.mono_l : ∀ k, (∀ y0 y1 y2 y3, LeO (triremeref05_Drop.l0 k y0 y1 y2 y3) (triremeref05_Drop.l0 (k + 1) y0 y1 y2 y3))
  | 0 => fun _ _ _ _ r h => by simp [triremeref05_Drop.l0] at h
  | k + 1 => by
    have ih0 := triremeref05_Drop.mono_l k
    · intro y0 y1 y2 y3
      unfold triremeref05_Drop.l0
      repeat' first
      | (with_reducible exact ih0 _ _ _ _)
      | (with_reducible exact LeO.refl _)
      | (with_reducible exact LeO.none _)
      | (with_reducible refine LeO.ite ?_ ?_)
      | (with_reducible refine LeO.bind ?_ (fun _ => ?_))
      | exact ih0 _ _ _ _
      | exact LeO.none _
      | refine LeO.ite ?_ ?_
      | refine LeO.bind ?_ (fun _ => ?_)
theorem triremeref05_Drop.mono : ∀ a0 a1 k, LeO (triremeref05_Drop.f k a0 a1) (triremeref05_Drop.f (k + 1) a0 a1) := by
  intro a0 a1 k
  have ih0 := triremeref05_Drop.mono_l k
  unfold triremeref05_Drop.f
  repeat' first
      | (with_reducible exact ih0 _ _ _ _)
      | (with_reducible exact LeO.refl _)
      | (with_reducible exact LeO.none _)
      | (with_reducible refine LeO.ite ?_ ?_)
      | (with_reducible refine LeO.bind ?_ (fun _ => ?_))
      | exact ih0 _ _ _ _
      | exact LeO.none _
      | refine LeO.ite ?_ ?_
      | refine LeO.bind ?_ (fun _ => ?_)
set_option maxHeartbeats 8000000 in
set_option maxRecDepth 100000 in
theorem triremeref05_Drop.calls (k : Nat) (A0 : Option Addr) (c0 : Nat) (l0 : List (S31)) (a1 : ByteArray) (r : List (S31)) (w : World) (hr0 : Kd.C k31 w A0 l0.length l0) (hc0 : l0.length ≤ c0) (h : triremeref05_Drop.f k l0 a1 = some r) :
    Calls Try.prog 14 #[.slice A0 l0.length c0, .string a1] w fun e w' => ∃ v0_ : Value, e = .returned (v0_) ∧ Kd.R k31 31 w' w.heap.size (fun _ => True) v0_ r ∧ Below w.heap.size w w' := by
  have hu31 := Try.underlying31
  have HR0 := Aside0.mk hr0
  have HC0 := Aside0.mk hc0
  clear hr0 hc0
  have HB := Aside0.mk (Below.refl w.heap.size w)
  have H : (triremeref05_Drop.l0 k l0 a1 ([] : List (S31)) 0) = some r := h
  clear h
  have H' := Aside0.mk H
  clear H
  go_enter Try.func14, Try.ntmps14
  go_wp2
  go_loopg [5, 6] k (fun kq v5 v6 w' => ∃ (x5_1 : List (S31)) (x6_1 : Int), v6 = .int .i64 x6_1 ∧ Aside0 (triremeref05_Drop.l0 kq l0 a1 x5_1 x6_1 = some r) ∧ Aside0 (kq ≤ k) ∧ Aside0 (Kd.R k31 31 w' w.heap.size (fun _ => True) v5 x5_1) ∧ Aside0 (Below w.heap.size w w'))
  case atStart => exact ⟨(([] : List (S31))), (0), (by first | rfl | (simp; done) | (simp [*]; done)), H', ⟨Nat.le_refl _⟩, ⟨by first | exact Kd.R_nil _ _ _ _ _ | exact Kd.N_nil _ _ _ _ _ | exact Kd.V_nil _ _ _ _ _ | exact Kd.Q_nil _ _ _ _ _ | exact Kd.S_nil _ _ _ _ _⟩, ⟨by repeat (first | (with_reducible first | exact HB.out | apply below_alloc | apply pw_below_drewN | apply below_drew1) | exact HB.out)⟩⟩
  case round =>
    clear H'
    try clear c1
    try clear p2
    obtain ⟨x5_1, x6_1, rfl, HA, HK1, HO_5, HB⟩ := hrel
    cases gk with
    | zero => exact absurd HA.out (by simp [triremeref05_Drop.l0])
    | succ k1 =>
      have H := HA.out
      clear HA
      simp only [triremeref05_Drop.l0] at H
      by_cases c3 : x6_1 < (l0.length : Int)
      · rw [if_pos c3] at H
        have c3b0 : decide (x6_1 < (l0.length : Int)) = true := decide_eq_true c3
        clear c3
        by_cases c4 : 0 ≤ x6_1
        · rw [if_pos c4] at H
          have c4b0 : decide (0 ≤ x6_1) = true := decide_eq_true c4
          clear c4
          by_cases c5 : ((rd_T31 l0 x6_1).f0).toList = a1.toList
          · rw [if_pos c5] at H
            have c5b0 : (((rd_T31 l0 x6_1).f0).toList == a1.toList) = true := beq_iff_eq.mpr c5
            have c5b1 : (((rd_T31 l0 x6_1).f0).toList != a1.toList) = false := bne_eq_false_iff_eq.mpr c5
            clear c5
            have H' := Aside0.mk H
            clear H
            have p202 : 0 ≤ (x6_1 : Int) := of_decide_eq_true (by first | (with_reducible assumption) | assumption)
            have q202 : x6_1 < (l0.length : Int) := of_decide_eq_true (by first | (with_reducible assumption) | assumption)
            obtain ⟨ad202, e202, hx202_0, hx202_1⟩ := at_T31 HR0.out x6_1 p202 q202
            cases e202
            replace hx202_0 := (HB.out.cell (World.block_lt_of_cell? w _ hx202_0)).trans hx202_0
            replace hx202_1 := (HB.out.cell (World.block_lt_of_cell? w _ hx202_1)).trans hx202_1
            replace p202 := eq_true p202
            replace q202 := eq_true q202
            go_wp2
            go_roundg k1
            case measure => have := HK1.out; omega
            case rel => exact ⟨(x5_1), (wrap64 (x6_1 + 1)), (by first | rfl | (simp; done) | (simp [*]; done)), H', ⟨by have := HK1.out; omega⟩, ⟨by (with_reducible repeat (first | apply Kd.R_alloc | apply Kd.R_drewN | apply Kd.R_drew)); exact HO_5.out⟩, ⟨by repeat (first | (with_reducible first | exact HB.out | apply below_alloc | apply pw_below_drewN | apply below_drew1) | exact HB.out)⟩⟩
          · rw [if_neg c5] at H
            have c5b0 : (((rd_T31 l0 x6_1).f0).toList == a1.toList) = false := beq_eq_false_iff_ne.mpr c5
            have c5b1 : (((rd_T31 l0 x6_1).f0).toList != a1.toList) = true := bne_iff_ne.mpr c5
            by_cases c6 : x5_1.length < 4398046511104
            · rw [if_pos c6] at H
              have LMc6 := Aside0.mk c6
              clear c6
              obtain ⟨y204, hy204⟩ : ∃ y_ : List (S31), y_ = (x5_1 ++ [(⟨(rd_T31 l0 x6_1).f0, (rd_T31 l0 x6_1).f1⟩ : S31)]) := ⟨_, rfl⟩
              replace H : (triremeref05_Drop.l0 k1 l0 a1 y204 (wrap64 (x6_1 + 1))) = some r := by first | (rw [hy204]; with_reducible exact H) | (have H2_ := (Option.bind_some _ _).symm.trans H; rw [hy204]; with_reducible exact H2_) | (have H2_ := (Option.bind_some _ _).symm.trans H; with_reducible exact H2_) | with_reducible exact H | (rw [hy204]; exact H) | exact H
              have Ny204 := Aside0.mk hy204
              clear hy204
              have H' := Aside0.mk H
              clear H
              have p202 : 0 ≤ (x6_1 : Int) := of_decide_eq_true (by first | (with_reducible assumption) | assumption)
              have q202 : x6_1 < (l0.length : Int) := of_decide_eq_true (by first | (with_reducible assumption) | assumption)
              obtain ⟨ad202, e202, hx202_0, hx202_1⟩ := at_T31 HR0.out x6_1 p202 q202
              cases e202
              replace hx202_0 := (HB.out.cell (World.block_lt_of_cell? w _ hx202_0)).trans hx202_0
              replace hx202_1 := (HB.out.cell (World.block_lt_of_cell? w _ hx202_1)).trans hx202_1
              replace p202 := eq_true p202
              replace q202 := eq_true q202
              have p203 : 0 ≤ (x6_1 : Int) := of_decide_eq_true (by first | (with_reducible assumption) | assumption)
              have q203 : x6_1 < (l0.length : Int) := of_decide_eq_true (by first | (with_reducible assumption) | assumption)
              obtain ⟨ad203, e203, hx203_0, hx203_1⟩ := at_T31 HR0.out x6_1 p203 q203
              obtain rfl : ad202 = ad203 := (by injection e203)
              replace hx203_0 := (HB.out.cell (World.block_lt_of_cell? w _ hx203_0)).trans hx203_0
              replace hx203_1 := (HB.out.cell (World.block_lt_of_cell? w _ hx203_1)).trans hx203_1
              replace p203 := eq_true p203
              replace q203 := eq_true q203
              go_wp2_with (first | ((with_reducible refine gate_builtin (b := .append) (xs := #[.tmp 20, .tmp 25]) rfl ?_); at_builtin; refine Kd.R_append k31 (w0 := w) w.heap.size rfl (.tmp 20) (.tmp 25) 22 31 (.agg #[(.string ⟨#[]⟩), (.string ⟨#[]⟩)]) 32 rfl Try.underlying22 info31 rfl (by decide) (by omega) u5 x5_1 (⟨(rd_T31 l0 x6_1).f0, (rd_T31 l0 x6_1).f1⟩ : S31) [.string ((rd_T31 l0 x6_1).f0), .string ((rd_T31 l0 x6_1).f1)] (fun _ => True) (fun _ => False) rfl rfl ?aP (fun _ hk => hk.elim) ?aF ?aO ?aB ?aS ?aL ?_; (case aP => exact k31_mkM _ _ _ (⟨(rd_T31 l0 x6_1).f0, (rd_T31 l0 x6_1).f1⟩ : S31)); (case aB => exact (by repeat (first | (with_reducible first | exact HB.out | apply below_alloc | apply pw_below_drewN | apply below_drew1) | exact HB.out))); (case aF => exact (fun _ _ => trivial)); (case aO => exact (by (with_reducible repeat (first | apply Kd.R_alloc | apply Kd.R_drewN | apply Kd.R_drew)); exact HO_5.out)); (case aS => exact (below_size (by repeat (first | (with_reducible first | exact HB.out | apply below_alloc | apply pw_below_drewN | apply below_drew1) | exact HB.out)))); (case aL => have := LMc6.out; omega); intro v205 w7 ho hb hg hat; rw [← Ny204.out] at ho; have n0_ := Aside0.mk (hb); have n1_ := Aside0.mk (ho); clear HB; clear HO_5; have HB := n0_; have HO206 := n1_; clear n0_ n1_; clear ho hb hg hat))
              go_roundg k1
              case measure => have := HK1.out; omega
              case rel => exact ⟨(y204), (wrap64 (x6_1 + 1)), (by first | rfl | (simp; done) | (simp [*]; done)), H', ⟨by have := HK1.out; omega⟩, ⟨by (with_reducible repeat (first | apply Kd.R_alloc | apply Kd.R_drewN | apply Kd.R_drew)); exact HO206.out⟩, ⟨by repeat (first | (with_reducible first | exact HB.out | apply below_alloc | apply pw_below_drewN | apply below_drew1) | exact HB.out)⟩⟩
            · rw [if_neg c6] at H
              exact absurd H (by simp)
        · rw [if_neg c4] at H
          exact absurd H (by simp)
      · rw [if_neg c3] at H
        have c3b0 : decide (x6_1 < (l0.length : Int)) = false := decide_eq_false c3
        clear c3
        obtain rfl := Option.some.inj H
        go_wp2
        go_ret
        exact ⟨_, by first | rfl | (simp [errW_none, errW_some] <;> rfl) | (simp [*, errW_none, errW_some] <;> rfl), by (with_reducible repeat (first | apply Kd.R_alloc | apply Kd.R_drewN | apply Kd.R_drew)); exact HO_5.out, by repeat (first | (with_reducible first | exact HB.out | apply below_alloc | apply pw_below_drewN | apply below_drew1) | exact HB.out)⟩
end Go.Proofs.Ytcnaefnlnjfjkaa.H
end
section
namespace Go.Proofs.Ytcnaefnlnjfjkaa.H
open Go.RowKit Go.Proofs.YtcnaefnlnjfjkaaW.PrintWords Go.Proofs.YtcnaefnlnjfjkaaW.PrintLast Go.Proofs.YtcnaefnlnjfjkaaW.PrintMore
attribute [local go_sem] max2_int min2_int max_two min_two max_three min_three max_four min_four   -- for this text's walks alone
set_option linter.unusedVariables false
set_option linter.unusedSimpArgs false
def triremeref05_Set.l0 : Nat → List (S31) → ByteArray → ByteArray → List (S31) → Int → Option ((List (S31)))
  | 0, _, _, _, _, _ => none
  | k + 1, x0, x1, x2, x7, x8 => if x8 < (x0.length : Int) then (if 0 ≤ x8 then ((triremeref05_Less.f k ((rd_T31 x0 x8).f0) x1).bind fun t211 => (if t211 = true then (if x7.length < 4398046511104 then (triremeref05_Set.l0 k x0 x1 x2 (x7 ++ [(⟨(rd_T31 x0 x8).f0, (rd_T31 x0 x8).f1⟩ : S31)]) (wrap64 (x8 + 1))) else (none)) else (if x7.length < 4398046511104 then ((some (x7 ++ [(⟨x1, x2⟩ : S31)] : List (S31))).bind fun y216 => (if x8 ≤ (x0.length : Int) then ((some (x0.drop (x8 : Int).toNat : List (S31))).bind fun y219 => (if y216.length + y219.length < 4398046511104 then (some (y216 ++ y219)) else (none))) else (none))) else (none)))) else (none)) else (if x7.length < 4398046511104 then ((some (x7 ++ [(⟨x1, x2⟩ : S31)] : List (S31))).bind fun y226 => (if 0 ≤ x8 then (if x8 ≤ (x0.length : Int) then ((some (x0.drop (x8 : Int).toNat : List (S31))).bind fun y229 => (if y226.length + y229.length < 4398046511104 then (some (y226 ++ y229)) else (none))) else (none)) else (none))) else (none))
def triremeref05_Set.f (k : Nat) (l0 : List (S31)) (a1 : ByteArray) (a2 : ByteArray) : Option ((List (S31))) := (triremeref05_Drop.f k l0 a1).bind fun t207 => (triremeref05_Set.l0 k t207 a1 a2 ([] : List (S31)) 0)
theorem triremeref05_Set.mono_l : ∀ k, (∀ y0 y1 y2 y3 y4, LeO (triremeref05_Set.l0 k y0 y1 y2 y3 y4) (triremeref05_Set.l0 (k + 1) y0 y1 y2 y3 y4))
  | 0 => fun _ _ _ _ _ r h => by simp [triremeref05_Set.l0] at h
  | k + 1 => by
    have ih0 := triremeref05_Set.mono_l k
    · intro y0 y1 y2 y3 y4
      unfold triremeref05_Set.l0
      repeat' first
      | (with_reducible exact ih0 _ _ _ _ _)
      | (with_reducible exact triremeref05_Drop.mono _ _ _)
      | (with_reducible exact triremeref05_Less.mono _ _ _)
      | (with_reducible exact LeO.refl _)
      | (with_reducible exact LeO.none _)
      | (with_reducible refine LeO.ite ?_ ?_)
      | (with_reducible refine LeO.bind ?_ (fun _ => ?_))
      | exact ih0 _ _ _ _ _
      | exact triremeref05_Drop.mono _ _ _
      | exact triremeref05_Less.mono _ _ _
      | exact LeO.none _
      | refine LeO.ite ?_ ?_
      | refine LeO.bind ?_ (fun _ => ?_)
theorem triremeref05_Set.mono : ∀ a0 a1 a2 k, LeO (triremeref05_Set.f k a0 a1 a2) (triremeref05_Set.f (k + 1) a0 a1 a2) := by
  intro a0 a1 a2 k
  have ih0 := triremeref05_Set.mono_l k
  unfold triremeref05_Set.f
  repeat' first
      | (with_reducible exact ih0 _ _ _ _ _)
      | (with_reducible exact triremeref05_Drop.mono _ _ _)
      | (with_reducible exact triremeref05_Less.mono _ _ _)
      | (with_reducible exact LeO.refl _)
      | (with_reducible exact LeO.none _)
      | (with_reducible refine LeO.ite ?_ ?_)
      | (with_reducible refine LeO.bind ?_ (fun _ => ?_))
      | exact ih0 _ _ _ _ _
      | exact triremeref05_Drop.mono _ _ _
      | exact triremeref05_Less.mono _ _ _
      | exact LeO.none _
      | refine LeO.ite ?_ ?_
      | refine LeO.bind ?_ (fun _ => ?_)
set_option maxHeartbeats 8000000 in
set_option maxRecDepth 100000 in
theorem triremeref05_Set.calls (k : Nat) (A0 : Option Addr) (c0 : Nat) (l0 : List (S31)) (a1 : ByteArray) (a2 : ByteArray) (r : List (S31)) (w : World) (hr0 : Kd.C k31 w A0 l0.length l0) (hc0 : l0.length ≤ c0) (h : triremeref05_Set.f k l0 a1 a2 = some r) :
    Calls Try.prog 13 #[.slice A0 l0.length c0, .string a1, .string a2] w fun e w' => ∃ v0_ : Value, e = .returned (v0_) ∧ Kd.R k31 31 w' w.heap.size (fun _ => True) v0_ r ∧ Below w.heap.size w w' := by
  have hu31 := Try.underlying31
  have HR0 := Aside0.mk hr0
  have HC0 := Aside0.mk hc0
  clear hr0 hc0
  have HB := Aside0.mk (Below.refl w.heap.size w)
  have H : ((triremeref05_Drop.f k l0 a1).bind fun t207 => (triremeref05_Set.l0 k t207 a1 a2 ([] : List (S31)) 0)) = some r := h
  clear h
  replace H := Option.bind_eq_some_iff.mp H
  obtain ⟨t207, A40, H⟩ := H
  replace H : (triremeref05_Set.l0 k t207 a1 a2 ([] : List (S31)) 0) = some r := H
  have A4 := Aside0.mk A40
  clear A40
  have H' := Aside0.mk H
  clear H
  go_enter Try.func13, Try.ntmps13
  go_wp2_with (first | ((first | ((with_reducible refine gate_callee (f := 14) rfl ?_); refine goesL_ (some 11) rfl rfl Try.func14 (by kernel_rfl) rfl #[.slice A0 l0.length c0, .string a1] rfl (by (try simp only [List.map_toArray, List.map_cons, List.map_nil]); first | done | rfl | (simp only [List.length_drop, List.length_take]; rfl)) ?_; (with_reducible refine (triremeref05_Drop.calls k _ _ l0 a1 t207 _ ?side1 ?side2 A4.out).mono ?_); (case side1 => repeat (first | exact HR0.out | (with_reducible refine Kd.C_alloc ?_ _) | (with_reducible refine Kd.C_drewN ?_ _) | (with_reducible refine Kd.C_drew ?_))); (case side2 => exact HC0.out); rintro e w5 ⟨v208, rfl, ho0, hb⟩; refine ⟨_, rfl, ?_⟩) | (go_at_call 14; (with_reducible refine (triremeref05_Drop.calls k _ _ l0 a1 t207 _ ?side1 ?side2 A4.out).mono ?_); (case side1 => repeat (first | exact HR0.out | (with_reducible refine Kd.C_alloc ?_ _) | (with_reducible refine Kd.C_drewN ?_ _) | (with_reducible refine Kd.C_drew ?_))); (case side2 => exact HC0.out); rintro e w5 ⟨v208, rfl, ho0, hb⟩)); have n0_ := Aside0.mk (Kd.R_lower ho0 (below_size (by repeat (first | (with_reducible first | exact HB.out | apply below_alloc | apply pw_below_drewN | apply below_drew1) | exact HB.out)))); have n1_ := Aside0.mk (below_step (by repeat (first | (with_reducible first | exact HB.out | apply below_alloc | apply pw_below_drewN | apply below_drew1) | exact HB.out)) hb); clear HB; have HO209 := n0_; have HB := n1_; clear n0_ n1_; (try clear hb); (try clear hb2); (try clear hk); (try clear hi); (try clear ho0)))
  go_loopg [7, 8] k (fun kq v7 v8 w' => ∃ (x7_1 : List (S31)) (x8_1 : Int), v8 = .int .i64 x8_1 ∧ Aside0 (triremeref05_Set.l0 kq t207 a1 a2 x7_1 x8_1 = some r) ∧ Aside0 (kq ≤ k) ∧ Aside0 (Kd.R k31 31 w' w.heap.size (fun k_ => some k_ ≠ (v7 : Value).ownBlock) v208 t207) ∧ Aside0 (Kd.R k31 31 w' w.heap.size (fun k_ => some k_ ≠ (v208 : Value).ownBlock) v7 x7_1) ∧ Aside0 (Below w.heap.size w w'))
  case atStart => exact ⟨(([] : List (S31))), (0), (by first | rfl | (simp; done) | (simp [*]; done)), H', ⟨Nat.le_refl _⟩, ⟨by (with_reducible repeat (first | apply Kd.R_alloc | apply Kd.R_drewN | apply Kd.R_drew)); exact Kd.R_mono HO209.out (fun _ hk => (by simp [Value.ownBlock]))⟩, ⟨by first | exact Kd.R_nil _ _ _ _ _ | exact Kd.N_nil _ _ _ _ _ | exact Kd.V_nil _ _ _ _ _ | exact Kd.Q_nil _ _ _ _ _ | exact Kd.S_nil _ _ _ _ _⟩, ⟨by repeat (first | (with_reducible first | exact HB.out | apply below_alloc | apply pw_below_drewN | apply below_drew1) | exact HB.out)⟩⟩
  case round =>
    clear H'
    try clear c1
    try clear p2
    obtain ⟨x7_1, x8_1, rfl, HA, HK1, HO_0, HO_7, HB⟩ := hrel
    cases gk with
    | zero => exact absurd HA.out (by simp [triremeref05_Set.l0])
    | succ k1 =>
      have H := HA.out
      clear HA
      simp only [triremeref05_Set.l0] at H
      by_cases c6 : x8_1 < (t207.length : Int)
      · rw [if_pos c6] at H
        have c6b0 : decide (x8_1 < (t207.length : Int)) = true := decide_eq_true c6
        clear c6
        by_cases c7 : 0 ≤ x8_1
        · rw [if_pos c7] at H
          have c7b0 : decide (0 ≤ x8_1) = true := decide_eq_true c7
          clear c7
          replace H := Option.bind_eq_some_iff.mp H
          obtain ⟨t211, A80, H⟩ := H
          replace H : (if t211 = true then (if x7_1.length < 4398046511104 then (triremeref05_Set.l0 k1 t207 a1 a2 (x7_1 ++ [(⟨(rd_T31 t207 x8_1).f0, (rd_T31 t207 x8_1).f1⟩ : S31)]) (wrap64 (x8_1 + 1))) else (none)) else (if x7_1.length < 4398046511104 then ((some (x7_1 ++ [(⟨a1, a2⟩ : S31)] : List (S31))).bind fun y216 => (if x8_1 ≤ (t207.length : Int) then ((some (t207.drop (x8_1 : Int).toNat : List (S31))).bind fun y219 => (if y216.length + y219.length < 4398046511104 then (some (y216 ++ y219)) else (none))) else (none))) else (none))) = some r := H
          have A8 := Aside0.mk A80
          clear A80
          by_cases c9 : t211 = true
          · subst c9
            have H1 : (if x7_1.length < 4398046511104 then (triremeref05_Set.l0 k1 t207 a1 a2 (x7_1 ++ [(⟨(rd_T31 t207 x8_1).f0, (rd_T31 t207 x8_1).f1⟩ : S31)]) (wrap64 (x8_1 + 1))) else (none)) = some r := by rw [if_pos rfl] at H; exact H
            clear H
            have H := H1
            clear H1
            by_cases c10 : x7_1.length < 4398046511104
            · rw [if_pos c10] at H
              have LMc10 := Aside0.mk c10
              clear c10
              obtain ⟨y213, hy213⟩ : ∃ y_ : List (S31), y_ = (x7_1 ++ [(⟨(rd_T31 t207 x8_1).f0, (rd_T31 t207 x8_1).f1⟩ : S31)]) := ⟨_, rfl⟩
              replace H : (triremeref05_Set.l0 k1 t207 a1 a2 y213 (wrap64 (x8_1 + 1))) = some r := by first | (rw [hy213]; with_reducible exact H) | (have H2_ := (Option.bind_some _ _).symm.trans H; rw [hy213]; with_reducible exact H2_) | (have H2_ := (Option.bind_some _ _).symm.trans H; with_reducible exact H2_) | with_reducible exact H | (rw [hy213]; exact H) | exact H
              have Ny213 := Aside0.mk hy213
              clear hy213
              have H' := Aside0.mk H
              clear H
              obtain ⟨Ao11, co11, eo11⟩ := Kd.R_slice HO_0.out
              subst eo11
              have p210 : 0 ≤ (x8_1 : Int) := of_decide_eq_true (by first | (with_reducible assumption) | assumption)
              have q210 : x8_1 < (t207.length : Int) := of_decide_eq_true (by first | (with_reducible assumption) | assumption)
              obtain ⟨ad210, e210, hx210_0, hx210_1⟩ := at_T31 (Kd.R_reads' HO_0.out).2.2 x8_1 p210 q210
              cases e210
              replace p210 := eq_true p210
              replace q210 := eq_true q210
              go_wp2_with (first | (go_at_call 25; (with_reducible refine (triremeref05_Less.calls k1 ((rd_T31 t207 x8_1).f0) a1 true _ A8.out).mono ?_); rintro e w' ⟨rfl, ⟨nd, rfl⟩⟩; have p212 : 0 ≤ (x8_1 : Int) := of_decide_eq_true (by first | (with_reducible assumption) | assumption); have q212 : x8_1 < (t207.length : Int) := of_decide_eq_true (by first | (with_reducible assumption) | assumption); obtain ⟨ad212, e212, hx212_0, hx212_1⟩ := at_T31 (Kd.R_reads' HO_0.out).2.2 x8_1 p212 q212; obtain rfl : ad210 = ad212 := (by injection e212); replace p212 := eq_true p212; replace q212 := eq_true q212) | ((with_reducible refine gate_builtin (b := .append) (xs := #[.tmp 25, .tmp 30]) rfl ?_); at_builtin; refine Kd.R_append k31 (w0 := w) w.heap.size rfl (.tmp 25) (.tmp 30) 22 31 (.agg #[(.string ⟨#[]⟩), (.string ⟨#[]⟩)]) 32 rfl Try.underlying22 info31 rfl (by decide) (by omega) u7 x7_1 (⟨(rd_T31 t207 x8_1).f0, (rd_T31 t207 x8_1).f1⟩ : S31) [.string ((rd_T31 t207 x8_1).f0), .string ((rd_T31 t207 x8_1).f1)] (fun k_ => some k_ ≠ (.slice (some ad210) t207.length co11 : Value).ownBlock) (fun _ => False) rfl rfl ?aP (fun _ hk => hk.elim) ?aF ?aO ?aB ?aS ?aL ?_; (case aP => exact k31_mkM _ _ _ (⟨(rd_T31 t207 x8_1).f0, (rd_T31 t207 x8_1).f1⟩ : S31)); (case aB => exact (by repeat (first | (with_reducible first | exact HB.out | apply below_alloc | apply pw_below_drewN | apply below_drew1) | exact HB.out))); (case aF => exact (fun k_ hk => Kd.fresh' (Kd.R_lt (by (with_reducible repeat (first | apply Kd.R_alloc | apply Kd.R_drewN | apply Kd.R_drew)); exact HO_0.out)) k_ hk)); (case aO => exact (by (with_reducible repeat (first | apply Kd.R_alloc | apply Kd.R_drewN | apply Kd.R_drew)); exact HO_7.out)); (case aS => exact (below_size (by repeat (first | (with_reducible first | exact HB.out | apply below_alloc | apply pw_below_drewN | apply below_drew1) | exact HB.out)))); (case aL => have := LMc10.out; omega); intro v214 w12 ho hb hg hat; rw [← Ny213.out] at ho; have n0_ := Aside0.mk (Kd.R_after (ok := (fun _ => True)) (by (with_reducible repeat (first | apply Kd.R_alloc | apply Kd.R_drewN | apply Kd.R_drew)); exact Kd.R_mono HO_0.out (fun _ hk => ⟨trivial, hk⟩)) hg hat); have n1_ := Aside0.mk (hb); have n2_ := Aside0.mk (ho); clear HO_0; clear HB; clear HO_7; have HO_0 := n0_; have HB := n1_; have HO215 := n2_; clear n0_ n1_ n2_; clear ho hb hg hat))
              go_roundg k1
              case measure => have := HK1.out; omega
              case rel => exact ⟨(y213), (wrap64 (x8_1 + 1)), (by first | rfl | (simp; done) | (simp [*]; done)), H', ⟨by have := HK1.out; omega⟩, ⟨by (with_reducible repeat (first | apply Kd.R_alloc | apply Kd.R_drewN | apply Kd.R_drew)); exact Kd.R_mono HO_0.out (fun _ hk => hk.2)⟩, ⟨by (with_reducible repeat (first | apply Kd.R_alloc | apply Kd.R_drewN | apply Kd.R_drew)); exact HO215.out⟩, ⟨by repeat (first | (with_reducible first | exact HB.out | apply below_alloc | apply pw_below_drewN | apply below_drew1) | exact HB.out)⟩⟩
            · rw [if_neg c10] at H
              exact absurd H (by simp)
          · replace c9 := Bool.eq_false_iff.mpr c9
            subst c9
            have H1 : (if x7_1.length < 4398046511104 then ((some (x7_1 ++ [(⟨a1, a2⟩ : S31)] : List (S31))).bind fun y216 => (if x8_1 ≤ (t207.length : Int) then ((some (t207.drop (x8_1 : Int).toNat : List (S31))).bind fun y219 => (if y216.length + y219.length < 4398046511104 then (some (y216 ++ y219)) else (none))) else (none))) else (none)) = some r := by rw [if_neg (show ¬ (false = true) by decide)] at H; exact H
            clear H
            have H := H1
            clear H1
            by_cases c13 : x7_1.length < 4398046511104
            · rw [if_pos c13] at H
              have LMc13 := Aside0.mk c13
              clear c13
              obtain ⟨y216, hy216⟩ : ∃ y_ : List (S31), y_ = (x7_1 ++ [(⟨a1, a2⟩ : S31)]) := ⟨_, rfl⟩
              replace H : (if x8_1 ≤ (t207.length : Int) then ((some (t207.drop (x8_1 : Int).toNat : List (S31))).bind fun y219 => (if y216.length + y219.length < 4398046511104 then (some (y216 ++ y219)) else (none))) else (none)) = some r := by first | (rw [hy216]; with_reducible exact H) | (have H2_ := (Option.bind_some _ _).symm.trans H; rw [hy216]; with_reducible exact H2_) | (have H2_ := (Option.bind_some _ _).symm.trans H; with_reducible exact H2_) | with_reducible exact H | (rw [hy216]; exact H) | exact H
              have Ny216 := Aside0.mk hy216
              clear hy216
              have c14b0 := eq_true (of_decide_eq_true (by first | (with_reducible assumption) | assumption) : 0 ≤ x8_1)
              by_cases c15 : x8_1 ≤ (t207.length : Int)
              · rw [if_pos c15] at H
                have c15b0 := eq_true c15
                have c15b1 : decide (x8_1 ≤ (t207.length : Int)) = true := decide_eq_true c15
                clear c15
                obtain ⟨y219, hy219⟩ : ∃ y_ : List (S31), y_ = (t207.drop (x8_1 : Int).toNat) := ⟨_, rfl⟩
                replace H : (if y216.length + y219.length < 4398046511104 then (some (y216 ++ y219)) else (none)) = some r := by first | (rw [hy219]; with_reducible exact H) | (have H2_ := (Option.bind_some _ _).symm.trans H; rw [hy219]; with_reducible exact H2_) | (have H2_ := (Option.bind_some _ _).symm.trans H; with_reducible exact H2_) | with_reducible exact H | (rw [hy219]; exact H) | exact H
                have Ny219 := Aside0.mk hy219
                clear hy219
                by_cases c16 : y216.length + y219.length < 4398046511104
                · rw [if_pos c16] at H
                  have LMc16 := Aside0.mk c16
                  clear c16
                  obtain ⟨y223, hy223⟩ : ∃ y_ : List (S31), y_ = (y216 ++ y219) := ⟨_, rfl⟩
                  replace H : (some y223) = some r := by first | (rw [hy223]; with_reducible exact H) | (have H2_ := (Option.bind_some _ _).symm.trans H; rw [hy223]; with_reducible exact H2_) | (have H2_ := (Option.bind_some _ _).symm.trans H; with_reducible exact H2_) | with_reducible exact H | (rw [hy223]; exact H) | exact H
                  have Ny223 := Aside0.mk hy223
                  clear hy223
                  obtain rfl := Option.some.inj H
                  obtain ⟨Ao17, co17, eo17⟩ := Kd.R_slice HO_0.out
                  subst eo17
                  have p210 : 0 ≤ (x8_1 : Int) := of_decide_eq_true (by first | (with_reducible assumption) | assumption)
                  have q210 : x8_1 < (t207.length : Int) := of_decide_eq_true (by first | (with_reducible assumption) | assumption)
                  obtain ⟨ad210, e210, hx210_0, hx210_1⟩ := at_T31 (Kd.R_reads' HO_0.out).2.2 x8_1 p210 q210
                  cases e210
                  replace p210 := eq_true p210
                  replace q210 := eq_true q210
                  go_wp2_with (first | (go_at_call 25; (with_reducible refine (triremeref05_Less.calls k1 ((rd_T31 t207 x8_1).f0) a1 false _ A8.out).mono ?_); rintro e w' ⟨rfl, ⟨nd, rfl⟩⟩) | ((with_reducible refine gate_builtin (b := .append) (xs := #[.tmp 34, .tmp 38]) rfl ?_); at_builtin; refine Kd.R_append k31 (w0 := w) w.heap.size rfl (.tmp 34) (.tmp 38) 22 31 (.agg #[(.string ⟨#[]⟩), (.string ⟨#[]⟩)]) 32 rfl Try.underlying22 info31 rfl (by decide) (by omega) u7 x7_1 (⟨a1, a2⟩ : S31) [.string a1, .string a2] (fun k_ => some k_ ≠ (.slice (some ad210) t207.length co17 : Value).ownBlock) (fun _ => False) rfl rfl ?aP (fun _ hk => hk.elim) ?aF ?aO ?aB ?aS ?aL ?_; (case aP => exact k31_mkM _ _ _ (⟨a1, a2⟩ : S31)); (case aB => exact (by repeat (first | (with_reducible first | exact HB.out | apply below_alloc | apply pw_below_drewN | apply below_drew1) | exact HB.out))); (case aF => exact (fun k_ hk => Kd.fresh' (Kd.R_lt (by (with_reducible repeat (first | apply Kd.R_alloc | apply Kd.R_drewN | apply Kd.R_drew)); exact HO_0.out)) k_ hk)); (case aO => exact (by (with_reducible repeat (first | apply Kd.R_alloc | apply Kd.R_drewN | apply Kd.R_drew)); exact HO_7.out)); (case aS => exact (below_size (by repeat (first | (with_reducible first | exact HB.out | apply below_alloc | apply pw_below_drewN | apply below_drew1) | exact HB.out)))); (case aL => have := LMc13.out; omega); intro v217 w18 ho hb hg hat; rw [← Ny216.out] at ho; have n0_ := Aside0.mk (Kd.R_after (ok := (fun _ => True)) (by (with_reducible repeat (first | apply Kd.R_alloc | apply Kd.R_drewN | apply Kd.R_drew)); exact Kd.R_mono HO_0.out (fun _ hk => ⟨trivial, hk⟩)) hg hat); have n1_ := Aside0.mk (hb); have n2_ := Aside0.mk (ho); clear HO_0; clear HB; clear HO_7; have HO_0 := n0_; have HB := n1_; have HO218 := n2_; clear n0_ n1_ n2_; clear ho hb hg hat; have q19 : (x8_1 : Int) ≤ ((t207.length : Int) : Int) := of_decide_eq_true (by first | (with_reducible assumption) | assumption); obtain ⟨i019, hi019, _, hsz19, _⟩ := info_parts info31; have hroom19 : t207.length ≤ co17 := (Kd.R_reads' HO_0.out).2.1; have hC19 : Kd.C k31 _ (some ad210) t207.length t207 := (Kd.R_reads' HO_0.out).2.2; have q019 : (0 : Int) ≤ (x8_1 : Int) := of_decide_eq_true (by first | (with_reducible assumption) | assumption); have hcut19 := cut_from (P := Try.prog) 22 31 .i64 Try.underlying22 hi019 2 hsz19 (some ad210) t207.length co17 x8_1 q019 q19; have hr19 := Kd.C_drop (m := (x8_1 : Int).toNat) (c := co17) hC19 (by omega) hroom19; obtain ⟨A19, hA19⟩ : ∃ A1, A1 = (if co17 = (x8_1 : Int).toNat then (some ad210) else ((some ad210) : Option Addr).map (·.add ((x8_1 : Int).toNat * 2))) := ⟨_, rfl⟩; obtain ⟨c19, hc19⟩ : ∃ c1, c1 = co17 - (x8_1 : Int).toNat := ⟨_, rfl⟩; have hy19 : y219.length = t207.length - (x8_1 : Int).toNat := (by rw [Ny219.out, List.length_drop] <;> omega); rw [show (t207).drop (x8_1 : Int).toNat = y219 from Ny219.out.symm] at hr19; replace hr19 : Kd.C k31 _ A19 y219.length y219 := (by rw [hA19]; exact hr19); rw [← hy19, ← hA19, ← hc19] at hcut19; have HR222 := Aside0.mk hr19; have HC222 := Aside0.mk (show y219.length ≤ c19 from by rw [hy19, hc19]; exact Nat.sub_le_sub_right hroom19 _); clear hr19 hC19 hroom19 hi019 hsz19 hc19; have KY19 := Aside0.mk hy19; have KA19 := Aside0.mk hA19; clear hy19 hA19; have KL19 := Aside0.mk (show (x8_1 : Int).toNat ≤ t207.length from by omega); replace q19 := eq_true q19) | ((with_reducible refine gate_builtin (b := .append) (xs := #[.tmp 40, .tmp 43]) rfl ?_); at_builtin; refine Kd.R_append_rows k31 (w0 := w) w.heap.size rfl (.tmp 40) (.tmp 43) 22 31 (.agg #[(.string ⟨#[]⟩), (.string ⟨#[]⟩)]) 32 rfl Try.underlying22 info31 rfl (by decide) (by omega) v217 y216 y219 _ _ _ (fun k_ => some k_ ≠ (.slice (some ad210) t207.length co17 : Value).ownBlock) (fun _ => False) rfl rfl ?aO ?aR (fun _ _ h => h) (fun _ h => h.elim) ?aF ?aB ?aS ?aL ?_; (case aR => repeat (first | exact (by repeat (first | (with_reducible exact HR222.out) | (with_reducible refine Kd.C_alloc ?_ _) | (with_reducible refine Kd.C_drewN ?_ _) | (with_reducible refine Kd.C_drew ?_) | exact HR222.out)) | (with_reducible refine Kd.C_alloc ?_ _) | (with_reducible refine Kd.C_drewN ?_ _) | (with_reducible refine Kd.C_drew ?_))); (case aB => exact (by repeat (first | (with_reducible first | exact HB.out | apply below_alloc | apply pw_below_drewN | apply below_drew1) | exact HB.out))); (case aF => exact (fun k_ hk => Kd.fresh' (Kd.R_lt (by (with_reducible repeat (first | apply Kd.R_alloc | apply Kd.R_drewN | apply Kd.R_drew)); exact HO_0.out)) k_ hk)); (case aO => exact (by (with_reducible repeat (first | apply Kd.R_alloc | apply Kd.R_drewN | apply Kd.R_drew)); exact HO218.out)); (case aS => exact (below_size (by repeat (first | (with_reducible first | exact HB.out | apply below_alloc | apply pw_below_drewN | apply below_drew1) | exact HB.out)))); (case aL => have := LMc16.out; omega); intro v224 w20 ho hb hg hat; rw [← Ny223.out] at ho; have n0_ := Aside0.mk (Kd.R_after (ok := (fun _ => True)) (by (with_reducible repeat (first | apply Kd.R_alloc | apply Kd.R_drewN | apply Kd.R_drew)); exact HO_0.out) hg hat); have n1_ := Aside0.mk (hb); have n2_ := Aside0.mk ((show Kd.C k31 w20 A19 y219.length y219 from by rw [Ny219.out, KA19.out]; exact Kd.C_drop (m := (x8_1 : Int).toNat) (c := co17) ((Kd.R_reads' (Kd.R_after (ok := (fun _ => True)) (by (with_reducible repeat (first | apply Kd.R_alloc | apply Kd.R_drewN | apply Kd.R_drew)); exact HO_0.out) hg hat)).2.2) KL19.out ((Kd.R_reads' (Kd.R_after (ok := (fun _ => True)) (by (with_reducible repeat (first | apply Kd.R_alloc | apply Kd.R_drewN | apply Kd.R_drew)); exact HO_0.out) hg hat)).2.1))); have n3_ := Aside0.mk (ho); clear HO_0; clear HB; clear HR222; clear HO218; have HO_0 := n0_; have HB := n1_; have HR222 := n2_; have HO225 := n3_; clear n0_ n1_ n2_ n3_; clear ho hb hg hat))
                  go_ret
                  exact ⟨_, by first | rfl | (simp [errW_none, errW_some] <;> rfl) | (simp [*, errW_none, errW_some] <;> rfl), by (with_reducible repeat (first | apply Kd.R_alloc | apply Kd.R_drewN | apply Kd.R_drew)); exact Kd.R_mono HO225.out (fun _ hk => trivial), by repeat (first | (with_reducible first | exact HB.out | apply below_alloc | apply pw_below_drewN | apply below_drew1) | exact HB.out)⟩
                · rw [if_neg c16] at H
                  exact absurd H (by simp)
              · rw [if_neg c15] at H
                exact absurd H (by simp)
            · rw [if_neg c13] at H
              exact absurd H (by simp)
        · rw [if_neg c7] at H
          exact absurd H (by simp)
      · rw [if_neg c6] at H
        have c6b0 : decide (x8_1 < (t207.length : Int)) = false := decide_eq_false c6
        clear c6
        by_cases c21 : x7_1.length < 4398046511104
        · rw [if_pos c21] at H
          have LMc21 := Aside0.mk c21
          clear c21
          obtain ⟨y226, hy226⟩ : ∃ y_ : List (S31), y_ = (x7_1 ++ [(⟨a1, a2⟩ : S31)]) := ⟨_, rfl⟩
          replace H : (if 0 ≤ x8_1 then (if x8_1 ≤ (t207.length : Int) then ((some (t207.drop (x8_1 : Int).toNat : List (S31))).bind fun y229 => (if y226.length + y229.length < 4398046511104 then (some (y226 ++ y229)) else (none))) else (none)) else (none)) = some r := by first | (rw [hy226]; with_reducible exact H) | (have H2_ := (Option.bind_some _ _).symm.trans H; rw [hy226]; with_reducible exact H2_) | (have H2_ := (Option.bind_some _ _).symm.trans H; with_reducible exact H2_) | with_reducible exact H | (rw [hy226]; exact H) | exact H
          have Ny226 := Aside0.mk hy226
          clear hy226
          by_cases c22 : 0 ≤ x8_1
          · rw [if_pos c22] at H
            have c22b0 := eq_true c22
            have c22b1 : decide (0 ≤ x8_1) = true := decide_eq_true c22
            clear c22
            by_cases c23 : x8_1 ≤ (t207.length : Int)
            · rw [if_pos c23] at H
              have c23b0 := eq_true c23
              have c23b1 : decide (x8_1 ≤ (t207.length : Int)) = true := decide_eq_true c23
              clear c23
              obtain ⟨y229, hy229⟩ : ∃ y_ : List (S31), y_ = (t207.drop (x8_1 : Int).toNat) := ⟨_, rfl⟩
              replace H : (if y226.length + y229.length < 4398046511104 then (some (y226 ++ y229)) else (none)) = some r := by first | (rw [hy229]; with_reducible exact H) | (have H2_ := (Option.bind_some _ _).symm.trans H; rw [hy229]; with_reducible exact H2_) | (have H2_ := (Option.bind_some _ _).symm.trans H; with_reducible exact H2_) | with_reducible exact H | (rw [hy229]; exact H) | exact H
              have Ny229 := Aside0.mk hy229
              clear hy229
              by_cases c24 : y226.length + y229.length < 4398046511104
              · rw [if_pos c24] at H
                have LMc24 := Aside0.mk c24
                clear c24
                obtain ⟨y233, hy233⟩ : ∃ y_ : List (S31), y_ = (y226 ++ y229) := ⟨_, rfl⟩
                replace H : (some y233) = some r := by first | (rw [hy233]; with_reducible exact H) | (have H2_ := (Option.bind_some _ _).symm.trans H; rw [hy233]; with_reducible exact H2_) | (have H2_ := (Option.bind_some _ _).symm.trans H; with_reducible exact H2_) | with_reducible exact H | (rw [hy233]; exact H) | exact H
                have Ny233 := Aside0.mk hy233
                clear hy233
                obtain rfl := Option.some.inj H
                obtain ⟨Ao25, co25, eo25⟩ := Kd.R_slice HO_0.out
                subst eo25
                go_wp2_with (first | ((with_reducible refine gate_builtin (b := .append) (xs := #[.tmp 34, .tmp 38]) rfl ?_); at_builtin; refine Kd.R_append k31 (w0 := w) w.heap.size rfl (.tmp 34) (.tmp 38) 22 31 (.agg #[(.string ⟨#[]⟩), (.string ⟨#[]⟩)]) 32 rfl Try.underlying22 info31 rfl (by decide) (by omega) u7 x7_1 (⟨a1, a2⟩ : S31) [.string a1, .string a2] (fun k_ => some k_ ≠ (.slice Ao25 t207.length co25 : Value).ownBlock) (fun _ => False) rfl rfl ?aP (fun _ hk => hk.elim) ?aF ?aO ?aB ?aS ?aL ?_; (case aP => exact k31_mkM _ _ _ (⟨a1, a2⟩ : S31)); (case aB => exact (by repeat (first | (with_reducible first | exact HB.out | apply below_alloc | apply pw_below_drewN | apply below_drew1) | exact HB.out))); (case aF => exact (fun k_ hk => Kd.fresh' (Kd.R_lt (by (with_reducible repeat (first | apply Kd.R_alloc | apply Kd.R_drewN | apply Kd.R_drew)); exact HO_0.out)) k_ hk)); (case aO => exact (by (with_reducible repeat (first | apply Kd.R_alloc | apply Kd.R_drewN | apply Kd.R_drew)); exact HO_7.out)); (case aS => exact (below_size (by repeat (first | (with_reducible first | exact HB.out | apply below_alloc | apply pw_below_drewN | apply below_drew1) | exact HB.out)))); (case aL => have := LMc21.out; omega); intro v227 w26 ho hb hg hat; rw [← Ny226.out] at ho; have n0_ := Aside0.mk (Kd.R_after (ok := (fun _ => True)) (by (with_reducible repeat (first | apply Kd.R_alloc | apply Kd.R_drewN | apply Kd.R_drew)); exact Kd.R_mono HO_0.out (fun _ hk => ⟨trivial, hk⟩)) hg hat); have n1_ := Aside0.mk (hb); have n2_ := Aside0.mk (ho); clear HO_0; clear HB; clear HO_7; have HO_0 := n0_; have HB := n1_; have HO228 := n2_; clear n0_ n1_ n2_; clear ho hb hg hat; have q27 : (x8_1 : Int) ≤ ((t207.length : Int) : Int) := of_decide_eq_true (by first | (with_reducible assumption) | assumption); obtain ⟨i027, hi027, _, hsz27, _⟩ := info_parts info31; have hroom27 : t207.length ≤ co25 := (Kd.R_reads' HO_0.out).2.1; have hC27 : Kd.C k31 _ Ao25 t207.length t207 := (Kd.R_reads' HO_0.out).2.2; have q027 : (0 : Int) ≤ (x8_1 : Int) := of_decide_eq_true (by first | (with_reducible assumption) | assumption); have hcut27 := cut_from (P := Try.prog) 22 31 .i64 Try.underlying22 hi027 2 hsz27 Ao25 t207.length co25 x8_1 q027 q27; have hr27 := Kd.C_drop (m := (x8_1 : Int).toNat) (c := co25) hC27 (by omega) hroom27; obtain ⟨A27, hA27⟩ : ∃ A1, A1 = (if co25 = (x8_1 : Int).toNat then Ao25 else (Ao25 : Option Addr).map (·.add ((x8_1 : Int).toNat * 2))) := ⟨_, rfl⟩; obtain ⟨c27, hc27⟩ : ∃ c1, c1 = co25 - (x8_1 : Int).toNat := ⟨_, rfl⟩; have hy27 : y229.length = t207.length - (x8_1 : Int).toNat := (by rw [Ny229.out, List.length_drop] <;> omega); rw [show (t207).drop (x8_1 : Int).toNat = y229 from Ny229.out.symm] at hr27; replace hr27 : Kd.C k31 _ A27 y229.length y229 := (by rw [hA27]; exact hr27); rw [← hy27, ← hA27, ← hc27] at hcut27; have HR232 := Aside0.mk hr27; have HC232 := Aside0.mk (show y229.length ≤ c27 from by rw [hy27, hc27]; exact Nat.sub_le_sub_right hroom27 _); clear hr27 hC27 hroom27 hi027 hsz27 hc27; have KY27 := Aside0.mk hy27; have KA27 := Aside0.mk hA27; clear hy27 hA27; have KL27 := Aside0.mk (show (x8_1 : Int).toNat ≤ t207.length from by omega); replace q27 := eq_true q27) | ((with_reducible refine gate_builtin (b := .append) (xs := #[.tmp 40, .tmp 43]) rfl ?_); at_builtin; refine Kd.R_append_rows k31 (w0 := w) w.heap.size rfl (.tmp 40) (.tmp 43) 22 31 (.agg #[(.string ⟨#[]⟩), (.string ⟨#[]⟩)]) 32 rfl Try.underlying22 info31 rfl (by decide) (by omega) v227 y226 y229 _ _ _ (fun k_ => some k_ ≠ (.slice Ao25 t207.length co25 : Value).ownBlock) (fun _ => False) rfl rfl ?aO ?aR (fun _ _ h => h) (fun _ h => h.elim) ?aF ?aB ?aS ?aL ?_; (case aR => repeat (first | exact (by repeat (first | (with_reducible exact HR232.out) | (with_reducible refine Kd.C_alloc ?_ _) | (with_reducible refine Kd.C_drewN ?_ _) | (with_reducible refine Kd.C_drew ?_) | exact HR232.out)) | (with_reducible refine Kd.C_alloc ?_ _) | (with_reducible refine Kd.C_drewN ?_ _) | (with_reducible refine Kd.C_drew ?_))); (case aB => exact (by repeat (first | (with_reducible first | exact HB.out | apply below_alloc | apply pw_below_drewN | apply below_drew1) | exact HB.out))); (case aF => exact (fun k_ hk => Kd.fresh' (Kd.R_lt (by (with_reducible repeat (first | apply Kd.R_alloc | apply Kd.R_drewN | apply Kd.R_drew)); exact HO_0.out)) k_ hk)); (case aO => exact (by (with_reducible repeat (first | apply Kd.R_alloc | apply Kd.R_drewN | apply Kd.R_drew)); exact HO228.out)); (case aS => exact (below_size (by repeat (first | (with_reducible first | exact HB.out | apply below_alloc | apply pw_below_drewN | apply below_drew1) | exact HB.out)))); (case aL => have := LMc24.out; omega); intro v234 w28 ho hb hg hat; rw [← Ny233.out] at ho; have n0_ := Aside0.mk (Kd.R_after (ok := (fun _ => True)) (by (with_reducible repeat (first | apply Kd.R_alloc | apply Kd.R_drewN | apply Kd.R_drew)); exact HO_0.out) hg hat); have n1_ := Aside0.mk (hb); have n2_ := Aside0.mk ((show Kd.C k31 w28 A27 y229.length y229 from by rw [Ny229.out, KA27.out]; exact Kd.C_drop (m := (x8_1 : Int).toNat) (c := co25) ((Kd.R_reads' (Kd.R_after (ok := (fun _ => True)) (by (with_reducible repeat (first | apply Kd.R_alloc | apply Kd.R_drewN | apply Kd.R_drew)); exact HO_0.out) hg hat)).2.2) KL27.out ((Kd.R_reads' (Kd.R_after (ok := (fun _ => True)) (by (with_reducible repeat (first | apply Kd.R_alloc | apply Kd.R_drewN | apply Kd.R_drew)); exact HO_0.out) hg hat)).2.1))); have n3_ := Aside0.mk (ho); clear HO_0; clear HB; clear HR232; clear HO228; have HO_0 := n0_; have HB := n1_; have HR232 := n2_; have HO235 := n3_; clear n0_ n1_ n2_ n3_; clear ho hb hg hat))
                go_ret
                exact ⟨_, by first | rfl | (simp [errW_none, errW_some] <;> rfl) | (simp [*, errW_none, errW_some] <;> rfl), by (with_reducible repeat (first | apply Kd.R_alloc | apply Kd.R_drewN | apply Kd.R_drew)); exact Kd.R_mono HO235.out (fun _ hk => trivial), by repeat (first | (with_reducible first | exact HB.out | apply below_alloc | apply pw_below_drewN | apply below_drew1) | exact HB.out)⟩
              · rw [if_neg c24] at H
                exact absurd H (by simp)
            · rw [if_neg c23] at H
              exact absurd H (by simp)
          · rw [if_neg c22] at H
            exact absurd H (by simp)
        · rw [if_neg c21] at H
          exact absurd H (by simp)
end Go.Proofs.Ytcnaefnlnjfjkaa.H
end
section
namespace Go.Proofs.Ytcnaefnlnjfjkaa.H
open Go.RowKit Go.Proofs.YtcnaefnlnjfjkaaW.PrintWords Go.Proofs.YtcnaefnlnjfjkaaW.PrintLast Go.Proofs.YtcnaefnlnjfjkaaW.PrintMore
attribute [local go_sem] max2_int min2_int max_two min_two max_three min_three max_four min_four   -- for this text's walks alone
set_option linter.unusedVariables false
set_option linter.unusedSimpArgs false
mutual
def triremelaw05_LabelsSet.j0 : Nat → List (S31) → ByteArray → ByteArray → Bool → Option (Bool)
  | 0, _, _, _, _ => none
  | k + 1, x0, x1, x2, x34 => if x34 = true then ((triremelaw05_known.f).bind fun t238 => (some t238)) else ((some (([] : List (S31)) : List (S31))).bind fun y239 => (if y239.length + x0.length < 4398046511104 then ((some (y239 ++ x0 : List (S31))).bind fun y242 => ((labels_Get.f k y242 x1).bind fun bt245 => ((triremeref05_Get.f k x0 x1).bind fun bt247 => ((labels_Set.f k y242 x1 x2).bind fun t249 => ((labels_Drop.f k y242 x1).bind fun t252 => (if bt245.1.toList = bt247.1.toList then (if (bt245.2 == bt247.2) = true then ((triremeref05_Set.f k x0 x1 x2).bind fun t255 => ((triremeref05_Same.f k t249 t255).bind fun t258 => (if t258 = true then ((triremeref05_Drop.f k x0 x1).bind fun t259 => ((triremeref05_Same.f k t252 t259).bind fun t262 => (triremelaw05_LabelsSet.j1 k x0 y242 t249 t252 t262))) else (triremelaw05_LabelsSet.j1 k x0 y242 t249 t252 false)))) else (triremelaw05_LabelsSet.j1 k x0 y242 t249 t252 false)) else (triremelaw05_LabelsSet.j1 k x0 y242 t249 t252 false))))))) else (none)))
def triremelaw05_LabelsSet.j1 : Nat → List (S31) → List (S31) → List (S31) → List (S31) → Bool → Option (Bool)
  | 0, _, _, _, _, _ => none
  | k + 1, x0, x7, x12, x13, x14 => triremelaw05_LabelsSet.l0 k x0 x7 x12 x13 x14 0
def triremelaw05_LabelsSet.l0 : Nat → List (S31) → List (S31) → List (S31) → List (S31) → Bool → Int → Option (Bool)
  | 0, _, _, _, _, _, _ => none
  | k + 1, x0, x7, x12, x13, x14, x15 => if x15 < (x12.length : Int) then (if 0 ≤ x15 then (triremelaw05_LabelsSet.l0 k x0 x7 (x12.set (x15 : Int).toNat (⟨(rd_T31 x12 x15).f0, (⟨#[115, 112, 111, 105, 108, 116]⟩ : ByteArray)⟩ : S31)) x13 x14 (wrap64 (x15 + 1))) else (none)) else (triremelaw05_LabelsSet.l1 k x0 x7 x13 x14 0)
def triremelaw05_LabelsSet.l1 : Nat → List (S31) → List (S31) → List (S31) → Bool → Int → Option (Bool)
  | 0, _, _, _, _, _ => none
  | k + 1, x0, x7, x13, x14, x16 => if x16 < (x13.length : Int) then (if 0 ≤ x16 then (triremelaw05_LabelsSet.l1 k x0 x7 (x13.set (x16 : Int).toNat (⟨(rd_T31 x13 x16).f0, (⟨#[115, 112, 111, 105, 108, 116]⟩ : ByteArray)⟩ : S31)) x14 (wrap64 (x16 + 1))) else (none)) else (if x14 = true then ((triremeref05_Same.f k x7 x0).bind fun t265 => (if t265 = true then ((triremelaw05_known.f).bind fun t266 => (some t266)) else (some false))) else (some false))
end
def triremelaw05_LabelsSet.f (k : Nat) (l0 : List (S31)) (a1 : ByteArray) (a2 : ByteArray) : Option (Bool) := (triremeref05_Light.f k l0).bind fun t236 => (if t236 = true then (if (a1.size : Int) > 300 then (triremelaw05_LabelsSet.j0 k l0 a1 a2 true) else (if (a2.size : Int) > 300 then (triremelaw05_LabelsSet.j0 k l0 a1 a2 true) else ((triremeref05_Right.f k l0).bind fun t237 => (triremelaw05_LabelsSet.j0 k l0 a1 a2 (!t237))))) else (triremelaw05_LabelsSet.j0 k l0 a1 a2 true))
theorem triremelaw05_LabelsSet.mono_l : ∀ k, (∀ y0 y1 y2 y3, LeO (triremelaw05_LabelsSet.j0 k y0 y1 y2 y3) (triremelaw05_LabelsSet.j0 (k + 1) y0 y1 y2 y3)) ∧ (∀ y0 y1 y2 y3 y4, LeO (triremelaw05_LabelsSet.j1 k y0 y1 y2 y3 y4) (triremelaw05_LabelsSet.j1 (k + 1) y0 y1 y2 y3 y4)) ∧ (∀ y0 y1 y2 y3 y4 y5, LeO (triremelaw05_LabelsSet.l0 k y0 y1 y2 y3 y4 y5) (triremelaw05_LabelsSet.l0 (k + 1) y0 y1 y2 y3 y4 y5)) ∧ (∀ y0 y1 y2 y3 y4, LeO (triremelaw05_LabelsSet.l1 k y0 y1 y2 y3 y4) (triremelaw05_LabelsSet.l1 (k + 1) y0 y1 y2 y3 y4))
  | 0 => ⟨fun _ _ _ _ r h => by simp [triremelaw05_LabelsSet.j0] at h, fun _ _ _ _ _ r h => by simp [triremelaw05_LabelsSet.j1] at h, fun _ _ _ _ _ _ r h => by simp [triremelaw05_LabelsSet.l0] at h, fun _ _ _ _ _ r h => by simp [triremelaw05_LabelsSet.l1] at h⟩
  | k + 1 => by
    obtain ⟨ih0, ih1, ih2, ih3⟩ := triremelaw05_LabelsSet.mono_l k
    refine ⟨?_, ?_, ?_, ?_⟩
    · intro y0 y1 y2 y3
      unfold triremelaw05_LabelsSet.j0
      repeat' first
      | (with_reducible exact ih0 _ _ _ _)
      | (with_reducible exact ih1 _ _ _ _ _)
      | (with_reducible exact ih2 _ _ _ _ _ _)
      | (with_reducible exact ih3 _ _ _ _ _)
      | (with_reducible exact labels_Drop.mono _ _ _)
      | (with_reducible exact labels_Get.mono _ _ _)
      | (with_reducible exact labels_Set.mono _ _ _ _)
      | (with_reducible exact triremeref05_Drop.mono _ _ _)
      | (with_reducible exact triremeref05_Get.mono _ _ _)
      | (with_reducible exact triremeref05_Light.mono _ _)
      | (with_reducible exact triremeref05_Right.mono _ _)
      | (with_reducible exact triremeref05_Same.mono _ _ _)
      | (with_reducible exact triremeref05_Set.mono _ _ _ _)
      | (with_reducible exact LeO.refl _)
      | (with_reducible exact LeO.none _)
      | (with_reducible refine LeO.ite ?_ ?_)
      | (with_reducible refine LeO.bind ?_ (fun _ => ?_))
      | exact ih0 _ _ _ _
      | exact ih1 _ _ _ _ _
      | exact ih2 _ _ _ _ _ _
      | exact ih3 _ _ _ _ _
      | exact labels_Drop.mono _ _ _
      | exact labels_Get.mono _ _ _
      | exact labels_Set.mono _ _ _ _
      | exact triremeref05_Drop.mono _ _ _
      | exact triremeref05_Get.mono _ _ _
      | exact triremeref05_Light.mono _ _
      | exact triremeref05_Right.mono _ _
      | exact triremeref05_Same.mono _ _ _
      | exact triremeref05_Set.mono _ _ _ _
      | exact LeO.none _
      | refine LeO.ite ?_ ?_
      | refine LeO.bind ?_ (fun _ => ?_)
    · intro y0 y1 y2 y3 y4
      unfold triremelaw05_LabelsSet.j1
      repeat' first
      | (with_reducible exact ih0 _ _ _ _)
      | (with_reducible exact ih1 _ _ _ _ _)
      | (with_reducible exact ih2 _ _ _ _ _ _)
      | (with_reducible exact ih3 _ _ _ _ _)
      | (with_reducible exact labels_Drop.mono _ _ _)
      | (with_reducible exact labels_Get.mono _ _ _)
      | (with_reducible exact labels_Set.mono _ _ _ _)
      | (with_reducible exact triremeref05_Drop.mono _ _ _)
      | (with_reducible exact triremeref05_Get.mono _ _ _)
      | (with_reducible exact triremeref05_Light.mono _ _)
      | (with_reducible exact triremeref05_Right.mono _ _)
      | (with_reducible exact triremeref05_Same.mono _ _ _)
      | (with_reducible exact triremeref05_Set.mono _ _ _ _)
      | (with_reducible exact LeO.refl _)
      | (with_reducible exact LeO.none _)
      | (with_reducible refine LeO.ite ?_ ?_)
      | (with_reducible refine LeO.bind ?_ (fun _ => ?_))
      | exact ih0 _ _ _ _
      | exact ih1 _ _ _ _ _
      | exact ih2 _ _ _ _ _ _
      | exact ih3 _ _ _ _ _
      | exact labels_Drop.mono _ _ _
      | exact labels_Get.mono _ _ _
      | exact labels_Set.mono _ _ _ _
      | exact triremeref05_Drop.mono _ _ _
      | exact triremeref05_Get.mono _ _ _
      | exact triremeref05_Light.mono _ _
      | exact triremeref05_Right.mono _ _
      | exact triremeref05_Same.mono _ _ _
      | exact triremeref05_Set.mono _ _ _ _
      | exact LeO.none _
      | refine LeO.ite ?_ ?_
      | refine LeO.bind ?_ (fun _ => ?_)
    · intro y0 y1 y2 y3 y4 y5
      unfold triremelaw05_LabelsSet.l0
      repeat' first
      | (with_reducible exact ih0 _ _ _ _)
      | (with_reducible exact ih1 _ _ _ _ _)
      | (with_reducible exact ih2 _ _ _ _ _ _)
      | (with_reducible exact ih3 _ _ _ _ _)
      | (with_reducible exact labels_Drop.mono _ _ _)
      | (with_reducible exact labels_Get.mono _ _ _)
      | (with_reducible exact labels_Set.mono _ _ _ _)
      | (with_reducible exact triremeref05_Drop.mono _ _ _)
      | (with_reducible exact triremeref05_Get.mono _ _ _)
      | (with_reducible exact triremeref05_Light.mono _ _)
      | (with_reducible exact triremeref05_Right.mono _ _)
      | (with_reducible exact triremeref05_Same.mono _ _ _)
      | (with_reducible exact triremeref05_Set.mono _ _ _ _)
      | (with_reducible exact LeO.refl _)
      | (with_reducible exact LeO.none _)
      | (with_reducible refine LeO.ite ?_ ?_)
      | (with_reducible refine LeO.bind ?_ (fun _ => ?_))
      | exact ih0 _ _ _ _
      | exact ih1 _ _ _ _ _
      | exact ih2 _ _ _ _ _ _
      | exact ih3 _ _ _ _ _
      | exact labels_Drop.mono _ _ _
      | exact labels_Get.mono _ _ _
      | exact labels_Set.mono _ _ _ _
      | exact triremeref05_Drop.mono _ _ _
      | exact triremeref05_Get.mono _ _ _
      | exact triremeref05_Light.mono _ _
      | exact triremeref05_Right.mono _ _
      | exact triremeref05_Same.mono _ _ _
      | exact triremeref05_Set.mono _ _ _ _
      | exact LeO.none _
      | refine LeO.ite ?_ ?_
      | refine LeO.bind ?_ (fun _ => ?_)
    · intro y0 y1 y2 y3 y4
      unfold triremelaw05_LabelsSet.l1
      repeat' first
      | (with_reducible exact ih0 _ _ _ _)
      | (with_reducible exact ih1 _ _ _ _ _)
      | (with_reducible exact ih2 _ _ _ _ _ _)
      | (with_reducible exact ih3 _ _ _ _ _)
      | (with_reducible exact labels_Drop.mono _ _ _)
      | (with_reducible exact labels_Get.mono _ _ _)
      | (with_reducible exact labels_Set.mono _ _ _ _)
      | (with_reducible exact triremeref05_Drop.mono _ _ _)
      | (with_reducible exact triremeref05_Get.mono _ _ _)
      | (with_reducible exact triremeref05_Light.mono _ _)
      | (with_reducible exact triremeref05_Right.mono _ _)
      | (with_reducible exact triremeref05_Same.mono _ _ _)
      | (with_reducible exact triremeref05_Set.mono _ _ _ _)
      | (with_reducible exact LeO.refl _)
      | (with_reducible exact LeO.none _)
      | (with_reducible refine LeO.ite ?_ ?_)
      | (with_reducible refine LeO.bind ?_ (fun _ => ?_))
      | exact ih0 _ _ _ _
      | exact ih1 _ _ _ _ _
      | exact ih2 _ _ _ _ _ _
      | exact ih3 _ _ _ _ _
      | exact labels_Drop.mono _ _ _
      | exact labels_Get.mono _ _ _
      | exact labels_Set.mono _ _ _ _
      | exact triremeref05_Drop.mono _ _ _
      | exact triremeref05_Get.mono _ _ _
      | exact triremeref05_Light.mono _ _
      | exact triremeref05_Right.mono _ _
      | exact triremeref05_Same.mono _ _ _
      | exact triremeref05_Set.mono _ _ _ _
      | exact LeO.none _
      | refine LeO.ite ?_ ?_
      | refine LeO.bind ?_ (fun _ => ?_)
theorem triremelaw05_LabelsSet.mono : ∀ a0 a1 a2 k, LeO (triremelaw05_LabelsSet.f k a0 a1 a2) (triremelaw05_LabelsSet.f (k + 1) a0 a1 a2) := by
  intro a0 a1 a2 k
  obtain ⟨ih0, ih1, ih2, ih3⟩ := triremelaw05_LabelsSet.mono_l k
  unfold triremelaw05_LabelsSet.f
  repeat' first
      | (with_reducible exact ih0 _ _ _ _)
      | (with_reducible exact ih1 _ _ _ _ _)
      | (with_reducible exact ih2 _ _ _ _ _ _)
      | (with_reducible exact ih3 _ _ _ _ _)
      | (with_reducible exact labels_Drop.mono _ _ _)
      | (with_reducible exact labels_Get.mono _ _ _)
      | (with_reducible exact labels_Set.mono _ _ _ _)
      | (with_reducible exact triremeref05_Drop.mono _ _ _)
      | (with_reducible exact triremeref05_Get.mono _ _ _)
      | (with_reducible exact triremeref05_Light.mono _ _)
      | (with_reducible exact triremeref05_Right.mono _ _)
      | (with_reducible exact triremeref05_Same.mono _ _ _)
      | (with_reducible exact triremeref05_Set.mono _ _ _ _)
      | (with_reducible exact LeO.refl _)
      | (with_reducible exact LeO.none _)
      | (with_reducible refine LeO.ite ?_ ?_)
      | (with_reducible refine LeO.bind ?_ (fun _ => ?_))
      | exact ih0 _ _ _ _
      | exact ih1 _ _ _ _ _
      | exact ih2 _ _ _ _ _ _
      | exact ih3 _ _ _ _ _
      | exact labels_Drop.mono _ _ _
      | exact labels_Get.mono _ _ _
      | exact labels_Set.mono _ _ _ _
      | exact triremeref05_Drop.mono _ _ _
      | exact triremeref05_Get.mono _ _ _
      | exact triremeref05_Light.mono _ _
      | exact triremeref05_Right.mono _ _
      | exact triremeref05_Same.mono _ _ _
      | exact triremeref05_Set.mono _ _ _ _
      | exact LeO.none _
      | refine LeO.ite ?_ ?_
      | refine LeO.bind ?_ (fun _ => ?_)
set_option maxHeartbeats 8000000 in
set_option maxRecDepth 100000 in
theorem triremelaw05_LabelsSet.calls (k : Nat) (A0 : Option Addr) (c0 : Nat) (l0 : List (S31)) (a1 : ByteArray) (a2 : ByteArray) (r : Bool) (w : World) (hr0 : Kd.C k31 w A0 l0.length l0) (hc0 : l0.length ≤ c0) (h : triremelaw05_LabelsSet.f k l0 a1 a2 = some r) :
    Calls Try.prog 3 #[.slice A0 l0.length c0, .string a1, .string a2] w fun e w' => e = .returned (.bool r) ∧ Below w.heap.size w w' := by
  have HR0 := Aside0.mk hr0
  have HC0 := Aside0.mk hc0
  clear hr0 hc0
  have HB := Aside0.mk (Below.refl w.heap.size w)
  have H : ((triremeref05_Light.f k l0).bind fun t236 => (if t236 = true then (if (a1.size : Int) > 300 then (triremelaw05_LabelsSet.j0 k l0 a1 a2 true) else (if (a2.size : Int) > 300 then (triremelaw05_LabelsSet.j0 k l0 a1 a2 true) else ((triremeref05_Right.f k l0).bind fun t237 => (triremelaw05_LabelsSet.j0 k l0 a1 a2 (!t237))))) else (triremelaw05_LabelsSet.j0 k l0 a1 a2 true))) = some r := h
  clear h
  have HC4 := Aside0.mk H
  clear H
  go_enter Try.func3, Try.ntmps3
  go_upto_region 1 with (fail)
  go_cut [34] (fun v34 wc => ∃ (kq : Nat) (x34_3 : Bool), v34 = .bool x34_3 ∧ Aside0 (triremelaw05_LabelsSet.j0 kq l0 a1 a2 x34_3 = some r) ∧ Aside0 (kq ≤ k) ∧ Aside0 (Below w.heap.size w wc))
  case first =>
    have H := HC4.out
    clear HC4
    replace H := Option.bind_eq_some_iff.mp H
    obtain ⟨t236, A50, H⟩ := H
    replace H : (if t236 = true then (if (a1.size : Int) > 300 then (triremelaw05_LabelsSet.j0 k l0 a1 a2 true) else (if (a2.size : Int) > 300 then (triremelaw05_LabelsSet.j0 k l0 a1 a2 true) else ((triremeref05_Right.f k l0).bind fun t237 => (triremelaw05_LabelsSet.j0 k l0 a1 a2 (!t237))))) else (triremelaw05_LabelsSet.j0 k l0 a1 a2 true)) = some r := H
    have A5 := Aside0.mk A50
    clear A50
    by_cases c6 : t236 = true
    · subst c6
      have H1 : (if (a1.size : Int) > 300 then (triremelaw05_LabelsSet.j0 k l0 a1 a2 true) else (if (a2.size : Int) > 300 then (triremelaw05_LabelsSet.j0 k l0 a1 a2 true) else ((triremeref05_Right.f k l0).bind fun t237 => (triremelaw05_LabelsSet.j0 k l0 a1 a2 (!t237))))) = some r := by rw [if_pos rfl] at H; exact H
      clear H
      have H := H1
      clear H1
      by_cases c7 : (a1.size : Int) > 300
      · rw [if_pos c7] at H
        have c7b0 : decide (300 < (a1.size : Int)) = true := decide_eq_true c7
        have c7b1 : decide (300 < a1.size) = true := decide_eq_true (by omega)
        clear c7
        (first | rw [c7b0] | (simp only [i64_w, i32_w]; rw [c7b0]) | skip)
        have H' := Aside0.mk H
        clear H
        go_wp2_with (first | ((first | ((with_reducible refine gate_callee (f := 5) rfl ?_); refine goesL_ (some 18) rfl rfl Try.func5 (by kernel_rfl) rfl #[.slice A0 l0.length c0] rfl (by (try simp only [List.map_toArray, List.map_cons, List.map_nil]); first | done | rfl | (simp only [List.length_drop, List.length_take]; rfl)) ?_; (with_reducible refine (triremeref05_Light.calls k _ _ l0 true _ ?side1 ?side2 A5.out).mono ?_); (case side1 => repeat (first | exact (Kd.C_below HR0.out HB.out) | (with_reducible refine Kd.C_alloc ?_ _) | (with_reducible refine Kd.C_drewN ?_ _) | (with_reducible refine Kd.C_drew ?_))); (case side2 => exact HC0.out); rintro e w' ⟨rfl, ⟨nd, rfl⟩⟩; refine ⟨_, rfl, ?_⟩) | (go_at_call 5; (with_reducible refine (triremeref05_Light.calls k _ _ l0 true _ ?side1 ?side2 A5.out).mono ?_); (case side1 => repeat (first | exact (Kd.C_below HR0.out HB.out) | (with_reducible refine Kd.C_alloc ?_ _) | (with_reducible refine Kd.C_drewN ?_ _) | (with_reducible refine Kd.C_drew ?_))); (case side2 => exact HC0.out); rintro e w' ⟨rfl, ⟨nd, rfl⟩⟩))))
        go_meet
        case rel => exact ⟨_, (true), (by first | rfl | (simp; done) | (simp [*]; done)), H', ⟨by first | omega | exact Nat.le_refl _⟩, ⟨by repeat (first | (with_reducible first | exact HB.out | apply below_alloc | apply pw_below_drewN | apply below_drew1) | exact HB.out)⟩⟩
      · rw [if_neg c7] at H
        have c7b0 : decide (300 < (a1.size : Int)) = false := decide_eq_false c7
        have c7b1 : decide (300 < a1.size) = false := decide_eq_false (by omega)
        clear c7
        (first | rw [c7b0] | (simp only [i64_w, i32_w]; rw [c7b0]) | skip)
        by_cases c8 : (a2.size : Int) > 300
        · rw [if_pos c8] at H
          have c8b0 : decide (300 < (a2.size : Int)) = true := decide_eq_true c8
          have c8b1 : decide (300 < a2.size) = true := decide_eq_true (by omega)
          clear c8
          have H' := Aside0.mk H
          clear H
          go_wp2_with (first | ((first | ((with_reducible refine gate_callee (f := 5) rfl ?_); refine goesL_ (some 18) rfl rfl Try.func5 (by kernel_rfl) rfl #[.slice A0 l0.length c0] rfl (by (try simp only [List.map_toArray, List.map_cons, List.map_nil]); first | done | rfl | (simp only [List.length_drop, List.length_take]; rfl)) ?_; (with_reducible refine (triremeref05_Light.calls k _ _ l0 true _ ?side1 ?side2 A5.out).mono ?_); (case side1 => repeat (first | exact (Kd.C_below HR0.out HB.out) | (with_reducible refine Kd.C_alloc ?_ _) | (with_reducible refine Kd.C_drewN ?_ _) | (with_reducible refine Kd.C_drew ?_))); (case side2 => exact HC0.out); rintro e w' ⟨rfl, ⟨nd, rfl⟩⟩; refine ⟨_, rfl, ?_⟩) | (go_at_call 5; (with_reducible refine (triremeref05_Light.calls k _ _ l0 true _ ?side1 ?side2 A5.out).mono ?_); (case side1 => repeat (first | exact (Kd.C_below HR0.out HB.out) | (with_reducible refine Kd.C_alloc ?_ _) | (with_reducible refine Kd.C_drewN ?_ _) | (with_reducible refine Kd.C_drew ?_))); (case side2 => exact HC0.out); rintro e w' ⟨rfl, ⟨nd, rfl⟩⟩))))
          go_meet
          case rel => exact ⟨_, (true), (by first | rfl | (simp; done) | (simp [*]; done)), H', ⟨by first | omega | exact Nat.le_refl _⟩, ⟨by repeat (first | (with_reducible first | exact HB.out | apply below_alloc | apply pw_below_drewN | apply below_drew1) | exact HB.out)⟩⟩
        · rw [if_neg c8] at H
          have c8b0 : decide (300 < (a2.size : Int)) = false := decide_eq_false c8
          have c8b1 : decide (300 < a2.size) = false := decide_eq_false (by omega)
          clear c8
          replace H := Option.bind_eq_some_iff.mp H
          obtain ⟨t237, A90, H⟩ := H
          replace H : (triremelaw05_LabelsSet.j0 k l0 a1 a2 (!t237)) = some r := H
          have A9 := Aside0.mk A90
          clear A90
          have H' := Aside0.mk H
          clear H
          go_wp2_with (first | ((first | ((with_reducible refine gate_callee (f := 5) rfl ?_); refine goesL_ (some 18) rfl rfl Try.func5 (by kernel_rfl) rfl #[.slice A0 l0.length c0] rfl (by (try simp only [List.map_toArray, List.map_cons, List.map_nil]); first | done | rfl | (simp only [List.length_drop, List.length_take]; rfl)) ?_; (with_reducible refine (triremeref05_Light.calls k _ _ l0 true _ ?side1 ?side2 A5.out).mono ?_); (case side1 => repeat (first | exact (Kd.C_below HR0.out HB.out) | (with_reducible refine Kd.C_alloc ?_ _) | (with_reducible refine Kd.C_drewN ?_ _) | (with_reducible refine Kd.C_drew ?_))); (case side2 => exact HC0.out); rintro e w' ⟨rfl, ⟨nd, rfl⟩⟩; refine ⟨_, rfl, ?_⟩) | (go_at_call 5; (with_reducible refine (triremeref05_Light.calls k _ _ l0 true _ ?side1 ?side2 A5.out).mono ?_); (case side1 => repeat (first | exact (Kd.C_below HR0.out HB.out) | (with_reducible refine Kd.C_alloc ?_ _) | (with_reducible refine Kd.C_drewN ?_ _) | (with_reducible refine Kd.C_drew ?_))); (case side2 => exact HC0.out); rintro e w' ⟨rfl, ⟨nd, rfl⟩⟩))) | (go_at_call 6; (with_reducible refine (triremeref05_Right.calls k _ _ l0 t237 _ ?side1 ?side2 A9.out).mono ?_); (case side1 => repeat (first | exact (Kd.C_below HR0.out (by repeat (first | (with_reducible first | exact HB.out | apply below_alloc | apply pw_below_drewN | apply below_drew1) | exact HB.out))) | (with_reducible refine Kd.C_alloc ?_ _) | (with_reducible refine Kd.C_drewN ?_ _) | (with_reducible refine Kd.C_drew ?_))); (case side2 => exact HC0.out); rintro e w10 ⟨rfl, hb⟩; have n0_ := Aside0.mk (below_step (by repeat (first | (with_reducible first | exact HB.out | apply below_alloc | apply pw_below_drewN | apply below_drew1) | exact HB.out)) hb); clear HB; have HB := n0_; clear n0_; (try clear hb); (try clear hb2); (try clear hk); (try clear hi)))
          go_meet
          case rel => exact ⟨_, (!t237), (by first | rfl | (simp; done) | (simp [*]; done)), H', ⟨by first | omega | exact Nat.le_refl _⟩, ⟨by repeat (first | (with_reducible first | exact HB.out | apply below_alloc | apply pw_below_drewN | apply below_drew1) | exact HB.out)⟩⟩
    · replace c6 := Bool.eq_false_iff.mpr c6
      subst c6
      have H1 : (triremelaw05_LabelsSet.j0 k l0 a1 a2 true) = some r := by rw [if_neg (show ¬ (false = true) by decide)] at H; exact H
      clear H
      have H := H1
      clear H1
      have H' := Aside0.mk H
      clear H
      go_wp2_with (first | ((first | ((with_reducible refine gate_callee (f := 5) rfl ?_); refine goesL_ (some 18) rfl rfl Try.func5 (by kernel_rfl) rfl #[.slice A0 l0.length c0] rfl (by (try simp only [List.map_toArray, List.map_cons, List.map_nil]); first | done | rfl | (simp only [List.length_drop, List.length_take]; rfl)) ?_; (with_reducible refine (triremeref05_Light.calls k _ _ l0 false _ ?side1 ?side2 A5.out).mono ?_); (case side1 => repeat (first | exact (Kd.C_below HR0.out HB.out) | (with_reducible refine Kd.C_alloc ?_ _) | (with_reducible refine Kd.C_drewN ?_ _) | (with_reducible refine Kd.C_drew ?_))); (case side2 => exact HC0.out); rintro e w' ⟨rfl, ⟨nd, rfl⟩⟩; refine ⟨_, rfl, ?_⟩) | (go_at_call 5; (with_reducible refine (triremeref05_Light.calls k _ _ l0 false _ ?side1 ?side2 A5.out).mono ?_); (case side1 => repeat (first | exact (Kd.C_below HR0.out HB.out) | (with_reducible refine Kd.C_alloc ?_ _) | (with_reducible refine Kd.C_drewN ?_ _) | (with_reducible refine Kd.C_drew ?_))); (case side2 => exact HC0.out); rintro e w' ⟨rfl, ⟨nd, rfl⟩⟩))))
      go_meet
      case rel => exact ⟨_, (true), (by first | rfl | (simp; done) | (simp [*]; done)), H', ⟨by first | omega | exact Nat.le_refl _⟩, ⟨by repeat (first | (with_reducible first | exact HB.out | apply below_alloc | apply pw_below_drewN | apply below_drew1) | exact HB.out)⟩⟩
  case rest =>
    clear HC4
    try clear p2
    try clear c3
    try clear c5
    try clear c6
    try clear c7
    try clear c7b0
    try clear c7b1
    try clear c8
    try clear c8b0
    try clear c8b1
    obtain ⟨kq, x34_3, rfl, HA, HJ3, HB⟩ := hcut
    cases kq with
    | zero => exact absurd HA.out (by simp [triremelaw05_LabelsSet.j0])
    | succ kj3 =>
      have H := HA.out
      clear HA
      simp only [triremelaw05_LabelsSet.j0] at H
      by_cases c11 : x34_3 = true
      · subst c11
        have H1 : ((triremelaw05_known.f).bind fun t238 => (some t238)) = some r := by rw [if_pos rfl] at H; exact H
        clear H
        have H := H1
        clear H1
        replace H := Option.bind_eq_some_iff.mp H
        obtain ⟨t238, A120, H⟩ := H
        replace H : (some t238) = some r := H
        have A12 := Aside0.mk A120
        clear A120
        obtain rfl := Option.some.inj H
        go_wp2_with (first | ((first | ((with_reducible refine gate_callee (f := 7) rfl ?_); refine goesL_ (some 35) rfl rfl Try.func7 (by kernel_rfl) rfl #[] rfl (by (try simp only [List.map_toArray, List.map_cons, List.map_nil]); first | done | rfl | (simp only [List.length_drop, List.length_take]; rfl)) ?_; (with_reducible refine (triremelaw05_known.calls  t238 _ A12.out).mono ?_); rintro e w13 ⟨rfl, hb⟩; refine ⟨_, rfl, ?_⟩) | (go_at_call 7; (with_reducible refine (triremelaw05_known.calls  t238 _ A12.out).mono ?_); rintro e w13 ⟨rfl, hb⟩)); have n0_ := Aside0.mk (below_step (by repeat (first | (with_reducible first | exact HB.out | apply below_alloc | apply pw_below_drewN | apply below_drew1) | exact HB.out)) hb); clear HB; have HB := n0_; clear n0_; (try clear hb); (try clear hb2); (try clear hk); (try clear hi)))
        go_ret
        exact ⟨by first | rfl | (simp [errW_none, errW_some] <;> rfl) | (simp [*, errW_none, errW_some] <;> rfl), by repeat (first | (with_reducible first | exact HB.out | apply below_alloc | apply pw_below_drewN | apply below_drew1) | exact HB.out)⟩
      · replace c11 := Bool.eq_false_iff.mpr c11
        subst c11
        have H1 : ((some (([] : List (S31)) : List (S31))).bind fun y239 => (if y239.length + l0.length < 4398046511104 then ((some (y239 ++ l0 : List (S31))).bind fun y242 => ((labels_Get.f kj3 y242 a1).bind fun bt245 => ((triremeref05_Get.f kj3 l0 a1).bind fun bt247 => ((labels_Set.f kj3 y242 a1 a2).bind fun t249 => ((labels_Drop.f kj3 y242 a1).bind fun t252 => (if bt245.1.toList = bt247.1.toList then (if (bt245.2 == bt247.2) = true then ((triremeref05_Set.f kj3 l0 a1 a2).bind fun t255 => ((triremeref05_Same.f kj3 t249 t255).bind fun t258 => (if t258 = true then ((triremeref05_Drop.f kj3 l0 a1).bind fun t259 => ((triremeref05_Same.f kj3 t252 t259).bind fun t262 => (triremelaw05_LabelsSet.j1 kj3 l0 y242 t249 t252 t262))) else (triremelaw05_LabelsSet.j1 kj3 l0 y242 t249 t252 false)))) else (triremelaw05_LabelsSet.j1 kj3 l0 y242 t249 t252 false)) else (triremelaw05_LabelsSet.j1 kj3 l0 y242 t249 t252 false))))))) else (none))) = some r := by rw [if_neg (show ¬ (false = true) by decide)] at H; exact H
        clear H
        have H := H1
        clear H1
        obtain ⟨y239, hy239⟩ : ∃ y_ : List (S31), y_ = (([] : List (S31))) := ⟨_, rfl⟩
        replace H : (if y239.length + l0.length < 4398046511104 then ((some (y239 ++ l0 : List (S31))).bind fun y242 => ((labels_Get.f kj3 y242 a1).bind fun bt245 => ((triremeref05_Get.f kj3 l0 a1).bind fun bt247 => ((labels_Set.f kj3 y242 a1 a2).bind fun t249 => ((labels_Drop.f kj3 y242 a1).bind fun t252 => (if bt245.1.toList = bt247.1.toList then (if (bt245.2 == bt247.2) = true then ((triremeref05_Set.f kj3 l0 a1 a2).bind fun t255 => ((triremeref05_Same.f kj3 t249 t255).bind fun t258 => (if t258 = true then ((triremeref05_Drop.f kj3 l0 a1).bind fun t259 => ((triremeref05_Same.f kj3 t252 t259).bind fun t262 => (triremelaw05_LabelsSet.j1 kj3 l0 y242 t249 t252 t262))) else (triremelaw05_LabelsSet.j1 kj3 l0 y242 t249 t252 false)))) else (triremelaw05_LabelsSet.j1 kj3 l0 y242 t249 t252 false)) else (triremelaw05_LabelsSet.j1 kj3 l0 y242 t249 t252 false))))))) else (none)) = some r := by first | (rw [hy239]; with_reducible exact H) | (have H2_ := (Option.bind_some _ _).symm.trans H; rw [hy239]; with_reducible exact H2_) | (have H2_ := (Option.bind_some _ _).symm.trans H; with_reducible exact H2_) | with_reducible exact H | (rw [hy239]; exact H) | exact H
        have Ny239 := Aside0.mk hy239
        clear hy239
        by_cases c14 : y239.length + l0.length < 4398046511104
        · rw [if_pos c14] at H
          have LMc14 := Aside0.mk c14
          clear c14
          obtain ⟨y242, hy242⟩ : ∃ y_ : List (S31), y_ = (y239 ++ l0) := ⟨_, rfl⟩
          replace H : ((labels_Get.f kj3 y242 a1).bind fun bt245 => ((triremeref05_Get.f kj3 l0 a1).bind fun bt247 => ((labels_Set.f kj3 y242 a1 a2).bind fun t249 => ((labels_Drop.f kj3 y242 a1).bind fun t252 => (if bt245.1.toList = bt247.1.toList then (if (bt245.2 == bt247.2) = true then ((triremeref05_Set.f kj3 l0 a1 a2).bind fun t255 => ((triremeref05_Same.f kj3 t249 t255).bind fun t258 => (if t258 = true then ((triremeref05_Drop.f kj3 l0 a1).bind fun t259 => ((triremeref05_Same.f kj3 t252 t259).bind fun t262 => (triremelaw05_LabelsSet.j1 kj3 l0 y242 t249 t252 t262))) else (triremelaw05_LabelsSet.j1 kj3 l0 y242 t249 t252 false)))) else (triremelaw05_LabelsSet.j1 kj3 l0 y242 t249 t252 false)) else (triremelaw05_LabelsSet.j1 kj3 l0 y242 t249 t252 false)))))) = some r := by first | (rw [hy242]; with_reducible exact H) | (have H2_ := (Option.bind_some _ _).symm.trans H; rw [hy242]; with_reducible exact H2_) | (have H2_ := (Option.bind_some _ _).symm.trans H; with_reducible exact H2_) | with_reducible exact H | (rw [hy242]; exact H) | exact H
          have Ny242 := Aside0.mk hy242
          clear hy242
          replace H := Option.bind_eq_some_iff.mp H
          obtain ⟨⟨t245, t246⟩, A150, H⟩ := H
          replace H : ((triremeref05_Get.f kj3 l0 a1).bind fun bt247 => ((labels_Set.f kj3 y242 a1 a2).bind fun t249 => ((labels_Drop.f kj3 y242 a1).bind fun t252 => (if t245.toList = bt247.1.toList then (if (t246 == bt247.2) = true then ((triremeref05_Set.f kj3 l0 a1 a2).bind fun t255 => ((triremeref05_Same.f kj3 t249 t255).bind fun t258 => (if t258 = true then ((triremeref05_Drop.f kj3 l0 a1).bind fun t259 => ((triremeref05_Same.f kj3 t252 t259).bind fun t262 => (triremelaw05_LabelsSet.j1 kj3 l0 y242 t249 t252 t262))) else (triremelaw05_LabelsSet.j1 kj3 l0 y242 t249 t252 false)))) else (triremelaw05_LabelsSet.j1 kj3 l0 y242 t249 t252 false)) else (triremelaw05_LabelsSet.j1 kj3 l0 y242 t249 t252 false))))) = some r := H
          have A15 := Aside0.mk A150
          clear A150
          replace H := Option.bind_eq_some_iff.mp H
          obtain ⟨⟨t247, t248⟩, A160, H⟩ := H
          replace H : ((labels_Set.f kj3 y242 a1 a2).bind fun t249 => ((labels_Drop.f kj3 y242 a1).bind fun t252 => (if t245.toList = t247.toList then (if (t246 == t248) = true then ((triremeref05_Set.f kj3 l0 a1 a2).bind fun t255 => ((triremeref05_Same.f kj3 t249 t255).bind fun t258 => (if t258 = true then ((triremeref05_Drop.f kj3 l0 a1).bind fun t259 => ((triremeref05_Same.f kj3 t252 t259).bind fun t262 => (triremelaw05_LabelsSet.j1 kj3 l0 y242 t249 t252 t262))) else (triremelaw05_LabelsSet.j1 kj3 l0 y242 t249 t252 false)))) else (triremelaw05_LabelsSet.j1 kj3 l0 y242 t249 t252 false)) else (triremelaw05_LabelsSet.j1 kj3 l0 y242 t249 t252 false)))) = some r := H
          have A16 := Aside0.mk A160
          clear A160
          replace H := Option.bind_eq_some_iff.mp H
          obtain ⟨t249, A170, H⟩ := H
          replace H : ((labels_Drop.f kj3 y242 a1).bind fun t252 => (if t245.toList = t247.toList then (if (t246 == t248) = true then ((triremeref05_Set.f kj3 l0 a1 a2).bind fun t255 => ((triremeref05_Same.f kj3 t249 t255).bind fun t258 => (if t258 = true then ((triremeref05_Drop.f kj3 l0 a1).bind fun t259 => ((triremeref05_Same.f kj3 t252 t259).bind fun t262 => (triremelaw05_LabelsSet.j1 kj3 l0 y242 t249 t252 t262))) else (triremelaw05_LabelsSet.j1 kj3 l0 y242 t249 t252 false)))) else (triremelaw05_LabelsSet.j1 kj3 l0 y242 t249 t252 false)) else (triremelaw05_LabelsSet.j1 kj3 l0 y242 t249 t252 false))) = some r := H
          have A17 := Aside0.mk A170
          clear A170
          replace H := Option.bind_eq_some_iff.mp H
          obtain ⟨t252, A180, H⟩ := H
          replace H : (if t245.toList = t247.toList then (if (t246 == t248) = true then ((triremeref05_Set.f kj3 l0 a1 a2).bind fun t255 => ((triremeref05_Same.f kj3 t249 t255).bind fun t258 => (if t258 = true then ((triremeref05_Drop.f kj3 l0 a1).bind fun t259 => ((triremeref05_Same.f kj3 t252 t259).bind fun t262 => (triremelaw05_LabelsSet.j1 kj3 l0 y242 t249 t252 t262))) else (triremelaw05_LabelsSet.j1 kj3 l0 y242 t249 t252 false)))) else (triremelaw05_LabelsSet.j1 kj3 l0 y242 t249 t252 false)) else (triremelaw05_LabelsSet.j1 kj3 l0 y242 t249 t252 false)) = some r := H
          have A18 := Aside0.mk A180
          clear A180
          have HC19 := Aside0.mk H
          clear H
          go_upto_region 8 with (first | ((with_reducible refine gate_dst (N := 36) rfl ?_); (try (refine gate_guard (by rfl) ?_; dsimp only)); refine Kd.R_lit k31 _ 31 ?hg (N := 36) ?hd (xs := ([] : List (S31))) (inner := []) (ok := fun _ => True) (okp := fun _ => True) ?hr ?hp (fun _ hk => hk) trivial (Below.refl _ _) (Nat.le_refl _) (by simp) ?_; (case hd => rfl); (case hg => rfl); (case hr => first | (go_simp; done) | (go_simp; rfl)); (case hp => exact (Reps.none _ _)); intro v240 w20 ho21 hb hg_ hnew_; clear hg_ hnew_; (first | rw [← Ny239.out] at ho21 | (simp only [Int.reduceToNat] at ho21; rw [← Ny239.out] at ho21)); have n0_ := Aside0.mk (Kd.R_lower ho21 (below_size (by repeat (first | (with_reducible first | exact HB.out | apply below_alloc | apply pw_below_drewN | apply below_drew1) | exact HB.out)))); have n1_ := Aside0.mk (below_step (by repeat (first | (with_reducible first | exact HB.out | apply below_alloc | apply pw_below_drewN | apply below_drew1) | exact HB.out)) hb); clear HB; have HO241 := n0_; have HB := n1_; clear n0_ n1_; clear hb ho21) | ((with_reducible refine gate_builtin (b := .append) (xs := #[.tmp 36, .tmp 37]) rfl ?_); (try (refine gate_guard (by rfl) ?_; dsimp only)); at_builtin; refine Kd.R_append_rows k31 (w0 := w) w.heap.size rfl (.tmp 36) (.tmp 37) 22 31 (.agg #[(.string ⟨#[]⟩), (.string ⟨#[]⟩)]) 32 rfl Try.underlying22 info31 rfl (by decide) (by omega) v240 y239 l0 _ _ _ (fun _ => True) (fun _ => False) rfl rfl ?aO ?aR (fun _ _ h => h) (fun _ h => h.elim) ?aF ?aB ?aS ?aL ?_; (case aR => repeat (first | exact (Kd.C_below HR0.out HB.out) | (with_reducible refine Kd.C_alloc ?_ _) | (with_reducible refine Kd.C_drewN ?_ _) | (with_reducible refine Kd.C_drew ?_))); (case aB => exact (by repeat (first | (with_reducible first | exact HB.out | apply below_alloc | apply pw_below_drewN | apply below_drew1) | exact HB.out))); (case aF => exact (fun _ _ => trivial)); (case aO => exact (by (with_reducible repeat (first | apply Kd.R_alloc | apply Kd.R_drewN | apply Kd.R_drew)); exact HO241.out)); (case aS => exact (below_size (by repeat (first | (with_reducible first | exact HB.out | apply below_alloc | apply pw_below_drewN | apply below_drew1) | exact HB.out)))); (case aL => have := LMc14.out; omega); intro v243 w22 ho hb hg hat; rw [← Ny242.out] at ho; have n0_ := Aside0.mk (hb); have n1_ := Aside0.mk (ho); clear HB; clear HO241; have HB := n0_; have HO244 := n1_; clear n0_ n1_; clear ho hb hg hat; obtain ⟨Ao23, co23, eo23⟩ := Kd.R_slice HO244.out; subst eo23) | ((first | ((with_reducible refine gate_callee (f := 8) rfl ?_); refine goesL_ (some 42) rfl rfl Try.func8 (by kernel_rfl) rfl #[.slice Ao23 y242.length co23, .string a1] rfl (by (try simp only [List.map_toArray, List.map_cons, List.map_nil]); first | done | rfl | (simp only [List.length_drop, List.length_take]; rfl)) ?_; (with_reducible refine (labels_Get.calls kj3 _ _ y242 a1 t245 t246 _ ?side1 ?side2 A15.out).mono ?_); (case side1 => repeat (first | exact (Kd.R_reads' HO244.out).2.2 | (with_reducible refine Kd.C_alloc ?_ _) | (with_reducible refine Kd.C_drewN ?_ _) | (with_reducible refine Kd.C_drew ?_))); (case side2 => exact (Kd.R_reads' HO244.out).2.1); rintro e w24 ⟨rfl, hb⟩; refine ⟨_, rfl, ?_⟩) | (go_at_call 8; (with_reducible refine (labels_Get.calls kj3 _ _ y242 a1 t245 t246 _ ?side1 ?side2 A15.out).mono ?_); (case side1 => repeat (first | exact (Kd.R_reads' HO244.out).2.2 | (with_reducible refine Kd.C_alloc ?_ _) | (with_reducible refine Kd.C_drewN ?_ _) | (with_reducible refine Kd.C_drew ?_))); (case side2 => exact (Kd.R_reads' HO244.out).2.1); rintro e w24 ⟨rfl, hb⟩)); have n0_ := Aside0.mk (Kd.R_below (by (with_reducible repeat (first | apply Kd.R_alloc | apply Kd.R_drewN | apply Kd.R_drew)); exact HO244.out) hb); have n1_ := Aside0.mk (below_step (by repeat (first | (with_reducible first | exact HB.out | apply below_alloc | apply pw_below_drewN | apply below_drew1) | exact HB.out)) hb); clear HO244; clear HB; have HO244 := n0_; have HB := n1_; clear n0_ n1_; (try clear hb); (try clear hb2); (try clear hk); (try clear hi)) | ((first | ((with_reducible refine gate_callee (f := 9) rfl ?_); refine goesL_ (some 48) rfl rfl Try.func9 (by kernel_rfl) rfl #[.slice A0 l0.length c0, .string a1] rfl (by (try simp only [List.map_toArray, List.map_cons, List.map_nil]); first | done | rfl | (simp only [List.length_drop, List.length_take]; rfl)) ?_; (with_reducible refine (triremeref05_Get.calls kj3 _ _ l0 a1 t247 t248 _ ?side1 ?side2 A16.out).mono ?_); (case side1 => repeat (first | exact (Kd.C_below HR0.out HB.out) | (with_reducible refine Kd.C_alloc ?_ _) | (with_reducible refine Kd.C_drewN ?_ _) | (with_reducible refine Kd.C_drew ?_))); (case side2 => exact HC0.out); rintro e w' ⟨rfl, ⟨nd, rfl⟩⟩; refine ⟨_, rfl, ?_⟩) | (go_at_call 9; (with_reducible refine (triremeref05_Get.calls kj3 _ _ l0 a1 t247 t248 _ ?side1 ?side2 A16.out).mono ?_); (case side1 => repeat (first | exact (Kd.C_below HR0.out HB.out) | (with_reducible refine Kd.C_alloc ?_ _) | (with_reducible refine Kd.C_drewN ?_ _) | (with_reducible refine Kd.C_drew ?_))); (case side2 => exact HC0.out); rintro e w' ⟨rfl, ⟨nd, rfl⟩⟩))) | ((first | ((with_reducible refine gate_callee (f := 10) rfl ?_); refine goesL_ (some 54) rfl rfl Try.func10 (by kernel_rfl) rfl #[.slice Ao23 y242.length co23, .string a1, .string a2] rfl (by (try simp only [List.map_toArray, List.map_cons, List.map_nil]); first | done | rfl | (simp only [List.length_drop, List.length_take]; rfl)) ?_; (with_reducible refine (labels_Set.calls kj3 _ _ y242 a1 a2 t249 _ ?side1 ?side2 A17.out).mono ?_); (case side1 => repeat (first | exact (Kd.R_reads' HO244.out).2.2 | (with_reducible refine Kd.C_alloc ?_ _) | (with_reducible refine Kd.C_drewN ?_ _) | (with_reducible refine Kd.C_drew ?_))); (case side2 => exact (Kd.R_reads' HO244.out).2.1); rintro e w25 ⟨v250, rfl, ho0, hb⟩; refine ⟨_, rfl, ?_⟩) | (go_at_call 10; (with_reducible refine (labels_Set.calls kj3 _ _ y242 a1 a2 t249 _ ?side1 ?side2 A17.out).mono ?_); (case side1 => repeat (first | exact (Kd.R_reads' HO244.out).2.2 | (with_reducible refine Kd.C_alloc ?_ _) | (with_reducible refine Kd.C_drewN ?_ _) | (with_reducible refine Kd.C_drew ?_))); (case side2 => exact (Kd.R_reads' HO244.out).2.1); rintro e w25 ⟨v250, rfl, ho0, hb⟩)); have n0_ := Aside0.mk (Kd.R_elder' (by (with_reducible repeat (first | apply Kd.R_alloc | apply Kd.R_drewN | apply Kd.R_drew)); exact HO244.out) (Kd.R_base ho0) hb); have n1_ := Aside0.mk (Kd.R_lower (Kd.R_new' ho0 (Kd.R_lt (by (with_reducible repeat (first | apply Kd.R_alloc | apply Kd.R_drewN | apply Kd.R_drew)); exact HO244.out))) (below_size (by repeat (first | (with_reducible first | exact HB.out | apply below_alloc | apply pw_below_drewN | apply below_drew1) | exact HB.out)))); have n2_ := Aside0.mk (below_step (by repeat (first | (with_reducible first | exact HB.out | apply below_alloc | apply pw_below_drewN | apply below_drew1) | exact HB.out)) hb); clear HO244; clear HB; have HO244 := n0_; have HO251 := n1_; have HB := n2_; clear n0_ n1_ n2_; (try clear hb); (try clear hb2); (try clear hk); (try clear hi); (try clear ho0)) | ((first | ((with_reducible refine gate_callee (f := 11) rfl ?_); refine goesL_ (some 57) rfl rfl Try.func11 (by kernel_rfl) rfl #[.slice Ao23 y242.length co23, .string a1] rfl (by (try simp only [List.map_toArray, List.map_cons, List.map_nil]); first | done | rfl | (simp only [List.length_drop, List.length_take]; rfl)) ?_; (with_reducible refine (labels_Drop.calls kj3 _ _ y242 a1 t252 _ ?side1 ?side2 A18.out).mono ?_); (case side1 => repeat (first | exact (Kd.R_reads' HO244.out).2.2 | (with_reducible refine Kd.C_alloc ?_ _) | (with_reducible refine Kd.C_drewN ?_ _) | (with_reducible refine Kd.C_drew ?_))); (case side2 => exact (Kd.R_reads' HO244.out).2.1); rintro e w26 ⟨v253, rfl, ho0, hb⟩; refine ⟨_, rfl, ?_⟩) | (go_at_call 11; (with_reducible refine (labels_Drop.calls kj3 _ _ y242 a1 t252 _ ?side1 ?side2 A18.out).mono ?_); (case side1 => repeat (first | exact (Kd.R_reads' HO244.out).2.2 | (with_reducible refine Kd.C_alloc ?_ _) | (with_reducible refine Kd.C_drewN ?_ _) | (with_reducible refine Kd.C_drew ?_))); (case side2 => exact (Kd.R_reads' HO244.out).2.1); rintro e w26 ⟨v253, rfl, ho0, hb⟩)); have n0_ := Aside0.mk (Kd.R_elder' (by (with_reducible repeat (first | apply Kd.R_alloc | apply Kd.R_drewN | apply Kd.R_drew)); exact HO244.out) (Kd.R_base ho0) hb); have n1_ := Aside0.mk (Kd.R_elder' (by (with_reducible repeat (first | apply Kd.R_alloc | apply Kd.R_drewN | apply Kd.R_drew)); exact HO251.out) (Kd.R_base ho0) hb); have n2_ := Aside0.mk (Kd.R_lower (Kd.R_new' (Kd.R_new' ho0 (Kd.R_lt (by (with_reducible repeat (first | apply Kd.R_alloc | apply Kd.R_drewN | apply Kd.R_drew)); exact HO244.out))) (Kd.R_lt (by (with_reducible repeat (first | apply Kd.R_alloc | apply Kd.R_drewN | apply Kd.R_drew)); exact HO251.out))) (below_size (by repeat (first | (with_reducible first | exact HB.out | apply below_alloc | apply pw_below_drewN | apply below_drew1) | exact HB.out)))); have n3_ := Aside0.mk (below_step (by repeat (first | (with_reducible first | exact HB.out | apply below_alloc | apply pw_below_drewN | apply below_drew1) | exact HB.out)) hb); clear HO244; clear HO251; clear HB; have HO244 := n0_; have HO251 := n1_; have HO254 := n2_; have HB := n3_; clear n0_ n1_ n2_ n3_; (try clear hb); (try clear hb2); (try clear hk); (try clear hi); (try clear ho0)))
          (try simp only [Act.put, List.setIfInBounds_toArray, List.set_cons_zero, List.set_cons_succ])
          go_cut [14] (fun v14 wc => ∃ (kq : Nat) (x14_18 : Bool), v14 = .bool x14_18 ∧ Aside0 (triremelaw05_LabelsSet.j1 kq l0 y242 t249 t252 x14_18 = some r) ∧ Aside0 (kq ≤ kj3) ∧ Aside0 (Kd.R k31 31 wc w.heap.size (fun k_ => some k_ ≠ (v250 : Value).ownBlock ∧ some k_ ≠ (v253 : Value).ownBlock) (.slice Ao23 y242.length co23) y242) ∧ Aside0 (Kd.R k31 31 wc w.heap.size (fun k_ => some k_ ≠ ((.slice Ao23 y242.length co23) : Value).ownBlock ∧ some k_ ≠ (v253 : Value).ownBlock) v250 t249) ∧ Aside0 (Kd.R k31 31 wc w.heap.size (fun k_ => some k_ ≠ ((.slice Ao23 y242.length co23) : Value).ownBlock ∧ some k_ ≠ (v250 : Value).ownBlock) v253 t252) ∧ Aside0 (Below w.heap.size w wc))
          case first =>
            have H := HC19.out
            clear HC19
            by_cases c27 : t245.toList = t247.toList
            · rw [if_pos c27] at H
              have c27b0 : (t245.toList == t247.toList) = true := beq_iff_eq.mpr c27
              have c27b1 : (t245.toList != t247.toList) = false := bne_eq_false_iff_eq.mpr c27
              clear c27
              (first | rw [c27b0] | (simp only [i64_w, i32_w]; rw [c27b0]) | skip)
              by_cases c28 : (t246 == t248) = true
              · rw [if_pos c28] at H
                have c28b0 : (t246 == t248) = true := c28
                (try (have c28b1 : decide (t246 = t248) = true := by simpa using c28))
                (try (have c28b2 : (t246 == t248) = true := by simpa using c28))
                clear c28
                replace H := Option.bind_eq_some_iff.mp H
                obtain ⟨t255, A290, H⟩ := H
                replace H : ((triremeref05_Same.f kj3 t249 t255).bind fun t258 => (if t258 = true then ((triremeref05_Drop.f kj3 l0 a1).bind fun t259 => ((triremeref05_Same.f kj3 t252 t259).bind fun t262 => (triremelaw05_LabelsSet.j1 kj3 l0 y242 t249 t252 t262))) else (triremelaw05_LabelsSet.j1 kj3 l0 y242 t249 t252 false))) = some r := H
                have A29 := Aside0.mk A290
                clear A290
                replace H := Option.bind_eq_some_iff.mp H
                obtain ⟨t258, A300, H⟩ := H
                replace H : (if t258 = true then ((triremeref05_Drop.f kj3 l0 a1).bind fun t259 => ((triremeref05_Same.f kj3 t252 t259).bind fun t262 => (triremelaw05_LabelsSet.j1 kj3 l0 y242 t249 t252 t262))) else (triremelaw05_LabelsSet.j1 kj3 l0 y242 t249 t252 false)) = some r := H
                have A30 := Aside0.mk A300
                clear A300
                by_cases c31 : t258 = true
                · subst c31
                  have H1 : ((triremeref05_Drop.f kj3 l0 a1).bind fun t259 => ((triremeref05_Same.f kj3 t252 t259).bind fun t262 => (triremelaw05_LabelsSet.j1 kj3 l0 y242 t249 t252 t262))) = some r := by rw [if_pos rfl] at H; exact H
                  clear H
                  have H := H1
                  clear H1
                  replace H := Option.bind_eq_some_iff.mp H
                  obtain ⟨t259, A320, H⟩ := H
                  replace H : ((triremeref05_Same.f kj3 t252 t259).bind fun t262 => (triremelaw05_LabelsSet.j1 kj3 l0 y242 t249 t252 t262)) = some r := H
                  have A32 := Aside0.mk A320
                  clear A320
                  replace H := Option.bind_eq_some_iff.mp H
                  obtain ⟨t262, A330, H⟩ := H
                  replace H : (triremelaw05_LabelsSet.j1 kj3 l0 y242 t249 t252 t262) = some r := H
                  have A33 := Aside0.mk A330
                  clear A330
                  have H' := Aside0.mk H
                  clear H
                  go_wp2_with (first | (go_at_call 13; (with_reducible refine (triremeref05_Set.calls kj3 _ _ l0 a1 a2 t255 _ ?side1 ?side2 A29.out).mono ?_); (case side1 => repeat (first | exact (Kd.C_below HR0.out HB.out) | (with_reducible refine Kd.C_alloc ?_ _) | (with_reducible refine Kd.C_drewN ?_ _) | (with_reducible refine Kd.C_drew ?_))); (case side2 => exact HC0.out); rintro e w34 ⟨v256, rfl, ho0, hb⟩; have n0_ := Aside0.mk (Kd.R_elder' (by (with_reducible repeat (first | apply Kd.R_alloc | apply Kd.R_drewN | apply Kd.R_drew)); exact HO244.out) (Kd.R_base ho0) hb); have n1_ := Aside0.mk (Kd.R_elder' (by (with_reducible repeat (first | apply Kd.R_alloc | apply Kd.R_drewN | apply Kd.R_drew)); exact HO251.out) (Kd.R_base ho0) hb); have n2_ := Aside0.mk (Kd.R_elder' (by (with_reducible repeat (first | apply Kd.R_alloc | apply Kd.R_drewN | apply Kd.R_drew)); exact HO254.out) (Kd.R_base ho0) hb); have n3_ := Aside0.mk (Kd.R_lower (Kd.R_new' (Kd.R_new' (Kd.R_new' ho0 (Kd.R_lt (by (with_reducible repeat (first | apply Kd.R_alloc | apply Kd.R_drewN | apply Kd.R_drew)); exact HO244.out))) (Kd.R_lt (by (with_reducible repeat (first | apply Kd.R_alloc | apply Kd.R_drewN | apply Kd.R_drew)); exact HO251.out))) (Kd.R_lt (by (with_reducible repeat (first | apply Kd.R_alloc | apply Kd.R_drewN | apply Kd.R_drew)); exact HO254.out))) (below_size (by repeat (first | (with_reducible first | exact HB.out | apply below_alloc | apply pw_below_drewN | apply below_drew1) | exact HB.out)))); have n4_ := Aside0.mk (below_step (by repeat (first | (with_reducible first | exact HB.out | apply below_alloc | apply pw_below_drewN | apply below_drew1) | exact HB.out)) hb); clear HO244; clear HO251; clear HO254; clear HB; have HO244 := n0_; have HO251 := n1_; have HO254 := n2_; have HO257 := n3_; have HB := n4_; clear n0_ n1_ n2_ n3_ n4_; (try clear hb); (try clear hb2); (try clear hk); (try clear hi); (try clear ho0); obtain ⟨Ao35, co35, eo35⟩ := Kd.R_slice HO251.out; subst eo35; obtain ⟨Ao36, co36, eo36⟩ := Kd.R_slice HO257.out; subst eo36) | (go_at_call 12; (with_reducible refine (triremeref05_Same.calls kj3 _ _ t249 _ _ t255 true _ ?side1 ?side2 ?side3 ?side4 A30.out).mono ?_); (case side1 => repeat (first | exact (Kd.R_reads' HO251.out).2.2 | (with_reducible refine Kd.C_alloc ?_ _) | (with_reducible refine Kd.C_drewN ?_ _) | (with_reducible refine Kd.C_drew ?_))); (case side2 => exact (Kd.R_reads' HO251.out).2.1); (case side3 => repeat (first | exact (Kd.R_reads' HO257.out).2.2 | (with_reducible refine Kd.C_alloc ?_ _) | (with_reducible refine Kd.C_drewN ?_ _) | (with_reducible refine Kd.C_drew ?_))); (case side4 => exact (Kd.R_reads' HO257.out).2.1); rintro e w' ⟨rfl, ⟨nd, rfl⟩⟩) | (go_at_call 14; (with_reducible refine (triremeref05_Drop.calls kj3 _ _ l0 a1 t259 _ ?side1 ?side2 A32.out).mono ?_); (case side1 => repeat (first | exact (Kd.C_below HR0.out (by repeat (first | (with_reducible first | exact HB.out | apply below_alloc | apply pw_below_drewN | apply below_drew1) | exact HB.out))) | (with_reducible refine Kd.C_alloc ?_ _) | (with_reducible refine Kd.C_drewN ?_ _) | (with_reducible refine Kd.C_drew ?_))); (case side2 => exact HC0.out); rintro e w37 ⟨v260, rfl, ho0, hb⟩; have n0_ := Aside0.mk (Kd.R_elder' (by (with_reducible repeat (first | apply Kd.R_alloc | apply Kd.R_drewN | apply Kd.R_drew)); exact HO244.out) (Kd.R_base ho0) hb); have n1_ := Aside0.mk (Kd.R_elder' (by (with_reducible repeat (first | apply Kd.R_alloc | apply Kd.R_drewN | apply Kd.R_drew)); exact HO251.out) (Kd.R_base ho0) hb); have n2_ := Aside0.mk (Kd.R_elder' (by (with_reducible repeat (first | apply Kd.R_alloc | apply Kd.R_drewN | apply Kd.R_drew)); exact HO254.out) (Kd.R_base ho0) hb); have n3_ := Aside0.mk (Kd.R_elder' (by (with_reducible repeat (first | apply Kd.R_alloc | apply Kd.R_drewN | apply Kd.R_drew)); exact HO257.out) (Kd.R_base ho0) hb); have n4_ := Aside0.mk (Kd.R_lower (Kd.R_new' (Kd.R_new' (Kd.R_new' (Kd.R_new' ho0 (Kd.R_lt (by (with_reducible repeat (first | apply Kd.R_alloc | apply Kd.R_drewN | apply Kd.R_drew)); exact HO244.out))) (Kd.R_lt (by (with_reducible repeat (first | apply Kd.R_alloc | apply Kd.R_drewN | apply Kd.R_drew)); exact HO251.out))) (Kd.R_lt (by (with_reducible repeat (first | apply Kd.R_alloc | apply Kd.R_drewN | apply Kd.R_drew)); exact HO254.out))) (Kd.R_lt (by (with_reducible repeat (first | apply Kd.R_alloc | apply Kd.R_drewN | apply Kd.R_drew)); exact HO257.out))) (below_size (by repeat (first | (with_reducible first | exact HB.out | apply below_alloc | apply pw_below_drewN | apply below_drew1) | exact HB.out)))); have n5_ := Aside0.mk (below_step (by repeat (first | (with_reducible first | exact HB.out | apply below_alloc | apply pw_below_drewN | apply below_drew1) | exact HB.out)) hb); clear HO244; clear HO251; clear HO254; clear HO257; clear HB; have HO244 := n0_; have HO251 := n1_; have HO254 := n2_; have HO257 := n3_; have HO261 := n4_; have HB := n5_; clear n0_ n1_ n2_ n3_ n4_ n5_; (try clear hb); (try clear hb2); (try clear hk); (try clear hi); (try clear ho0); obtain ⟨Ao38, co38, eo38⟩ := Kd.R_slice HO254.out; subst eo38; obtain ⟨Ao39, co39, eo39⟩ := Kd.R_slice HO261.out; subst eo39) | (go_at_call 12; (with_reducible refine (triremeref05_Same.calls kj3 _ _ t252 _ _ t259 t262 _ ?side1 ?side2 ?side3 ?side4 A33.out).mono ?_); (case side1 => repeat (first | exact (Kd.R_reads' HO254.out).2.2 | (with_reducible refine Kd.C_alloc ?_ _) | (with_reducible refine Kd.C_drewN ?_ _) | (with_reducible refine Kd.C_drew ?_))); (case side2 => exact (Kd.R_reads' HO254.out).2.1); (case side3 => repeat (first | exact (Kd.R_reads' HO261.out).2.2 | (with_reducible refine Kd.C_alloc ?_ _) | (with_reducible refine Kd.C_drewN ?_ _) | (with_reducible refine Kd.C_drew ?_))); (case side4 => exact (Kd.R_reads' HO261.out).2.1); rintro e w' ⟨rfl, ⟨nd, rfl⟩⟩))
                  go_meet
                  case rel => exact ⟨_, (t262), (by first | rfl | (simp; done) | (simp [*]; done)), H', ⟨by have := HJ3.out; first | omega | exact Nat.le_refl _⟩, ⟨by (with_reducible repeat (first | apply Kd.R_alloc | apply Kd.R_drewN | apply Kd.R_drew)); exact Kd.R_mono HO244.out (fun _ hk => ⟨hk.1.1.1.2, hk.1.1.2⟩)⟩, ⟨by (with_reducible repeat (first | apply Kd.R_alloc | apply Kd.R_drewN | apply Kd.R_drew)); exact Kd.R_mono HO251.out (fun _ hk => ⟨hk.1.1.1.2, hk.1.1.2⟩)⟩, ⟨by (with_reducible repeat (first | apply Kd.R_alloc | apply Kd.R_drewN | apply Kd.R_drew)); exact Kd.R_mono HO254.out (fun _ hk => ⟨hk.1.1.1.2, hk.1.1.2⟩)⟩, ⟨by repeat (first | (with_reducible first | exact HB.out | apply below_alloc | apply pw_below_drewN | apply below_drew1) | exact HB.out)⟩⟩
                · replace c31 := Bool.eq_false_iff.mpr c31
                  subst c31
                  have H1 : (triremelaw05_LabelsSet.j1 kj3 l0 y242 t249 t252 false) = some r := by rw [if_neg (show ¬ (false = true) by decide)] at H; exact H
                  clear H
                  have H := H1
                  clear H1
                  have H' := Aside0.mk H
                  clear H
                  go_wp2_with (first | (go_at_call 13; (with_reducible refine (triremeref05_Set.calls kj3 _ _ l0 a1 a2 t255 _ ?side1 ?side2 A29.out).mono ?_); (case side1 => repeat (first | exact (Kd.C_below HR0.out HB.out) | (with_reducible refine Kd.C_alloc ?_ _) | (with_reducible refine Kd.C_drewN ?_ _) | (with_reducible refine Kd.C_drew ?_))); (case side2 => exact HC0.out); rintro e w40 ⟨v256, rfl, ho0, hb⟩; have n0_ := Aside0.mk (Kd.R_elder' (by (with_reducible repeat (first | apply Kd.R_alloc | apply Kd.R_drewN | apply Kd.R_drew)); exact HO244.out) (Kd.R_base ho0) hb); have n1_ := Aside0.mk (Kd.R_elder' (by (with_reducible repeat (first | apply Kd.R_alloc | apply Kd.R_drewN | apply Kd.R_drew)); exact HO251.out) (Kd.R_base ho0) hb); have n2_ := Aside0.mk (Kd.R_elder' (by (with_reducible repeat (first | apply Kd.R_alloc | apply Kd.R_drewN | apply Kd.R_drew)); exact HO254.out) (Kd.R_base ho0) hb); have n3_ := Aside0.mk (Kd.R_lower (Kd.R_new' (Kd.R_new' (Kd.R_new' ho0 (Kd.R_lt (by (with_reducible repeat (first | apply Kd.R_alloc | apply Kd.R_drewN | apply Kd.R_drew)); exact HO244.out))) (Kd.R_lt (by (with_reducible repeat (first | apply Kd.R_alloc | apply Kd.R_drewN | apply Kd.R_drew)); exact HO251.out))) (Kd.R_lt (by (with_reducible repeat (first | apply Kd.R_alloc | apply Kd.R_drewN | apply Kd.R_drew)); exact HO254.out))) (below_size (by repeat (first | (with_reducible first | exact HB.out | apply below_alloc | apply pw_below_drewN | apply below_drew1) | exact HB.out)))); have n4_ := Aside0.mk (below_step (by repeat (first | (with_reducible first | exact HB.out | apply below_alloc | apply pw_below_drewN | apply below_drew1) | exact HB.out)) hb); clear HO244; clear HO251; clear HO254; clear HB; have HO244 := n0_; have HO251 := n1_; have HO254 := n2_; have HO257 := n3_; have HB := n4_; clear n0_ n1_ n2_ n3_ n4_; (try clear hb); (try clear hb2); (try clear hk); (try clear hi); (try clear ho0); obtain ⟨Ao41, co41, eo41⟩ := Kd.R_slice HO251.out; subst eo41; obtain ⟨Ao42, co42, eo42⟩ := Kd.R_slice HO257.out; subst eo42) | (go_at_call 12; (with_reducible refine (triremeref05_Same.calls kj3 _ _ t249 _ _ t255 false _ ?side1 ?side2 ?side3 ?side4 A30.out).mono ?_); (case side1 => repeat (first | exact (Kd.R_reads' HO251.out).2.2 | (with_reducible refine Kd.C_alloc ?_ _) | (with_reducible refine Kd.C_drewN ?_ _) | (with_reducible refine Kd.C_drew ?_))); (case side2 => exact (Kd.R_reads' HO251.out).2.1); (case side3 => repeat (first | exact (Kd.R_reads' HO257.out).2.2 | (with_reducible refine Kd.C_alloc ?_ _) | (with_reducible refine Kd.C_drewN ?_ _) | (with_reducible refine Kd.C_drew ?_))); (case side4 => exact (Kd.R_reads' HO257.out).2.1); rintro e w' ⟨rfl, ⟨nd, rfl⟩⟩))
                  go_meet
                  case rel => exact ⟨_, (false), (by first | rfl | (simp; done) | (simp [*]; done)), H', ⟨by have := HJ3.out; first | omega | exact Nat.le_refl _⟩, ⟨by (with_reducible repeat (first | apply Kd.R_alloc | apply Kd.R_drewN | apply Kd.R_drew)); exact Kd.R_mono HO244.out (fun _ hk => ⟨hk.1.1.2, hk.1.2⟩)⟩, ⟨by (with_reducible repeat (first | apply Kd.R_alloc | apply Kd.R_drewN | apply Kd.R_drew)); exact Kd.R_mono HO251.out (fun _ hk => ⟨hk.1.1.2, hk.1.2⟩)⟩, ⟨by (with_reducible repeat (first | apply Kd.R_alloc | apply Kd.R_drewN | apply Kd.R_drew)); exact Kd.R_mono HO254.out (fun _ hk => ⟨hk.1.1.2, hk.1.2⟩)⟩, ⟨by repeat (first | (with_reducible first | exact HB.out | apply below_alloc | apply pw_below_drewN | apply below_drew1) | exact HB.out)⟩⟩
              · rw [if_neg c28] at H
                have c28b0 : (t246 == t248) = false := by simpa using c28
                (try (have c28b1 : decide (t246 = t248) = false := by simpa using c28))
                (try (have c28b2 : (t246 == t248) = false := by simpa using c28))
                (try (have c28b3 : ¬ (t246 = t248) := by simpa using c28))
                clear c28
                have H' := Aside0.mk H
                clear H
                go_wp2
                go_meet
                case rel => exact ⟨_, (false), (by first | rfl | (simp; done) | (simp [*]; done)), H', ⟨by have := HJ3.out; first | omega | exact Nat.le_refl _⟩, ⟨by (with_reducible repeat (first | apply Kd.R_alloc | apply Kd.R_drewN | apply Kd.R_drew)); exact Kd.R_mono HO244.out (fun _ hk => ⟨hk.1.2, hk.2⟩)⟩, ⟨by (with_reducible repeat (first | apply Kd.R_alloc | apply Kd.R_drewN | apply Kd.R_drew)); exact Kd.R_mono HO251.out (fun _ hk => ⟨hk.1.2, hk.2⟩)⟩, ⟨by (with_reducible repeat (first | apply Kd.R_alloc | apply Kd.R_drewN | apply Kd.R_drew)); exact Kd.R_mono HO254.out (fun _ hk => ⟨hk.1.2, hk.2⟩)⟩, ⟨by repeat (first | (with_reducible first | exact HB.out | apply below_alloc | apply pw_below_drewN | apply below_drew1) | exact HB.out)⟩⟩
            · rw [if_neg c27] at H
              have c27b0 : (t245.toList == t247.toList) = false := beq_eq_false_iff_ne.mpr c27
              have c27b1 : (t245.toList != t247.toList) = true := bne_iff_ne.mpr c27
              (first | rw [c27b0] | (simp only [i64_w, i32_w]; rw [c27b0]) | skip)
              have H' := Aside0.mk H
              clear H
              go_wp2
              go_meet
              case rel => exact ⟨_, (false), (by first | rfl | (simp; done) | (simp [*]; done)), H', ⟨by have := HJ3.out; first | omega | exact Nat.le_refl _⟩, ⟨by (with_reducible repeat (first | apply Kd.R_alloc | apply Kd.R_drewN | apply Kd.R_drew)); exact Kd.R_mono HO244.out (fun _ hk => ⟨hk.1.2, hk.2⟩)⟩, ⟨by (with_reducible repeat (first | apply Kd.R_alloc | apply Kd.R_drewN | apply Kd.R_drew)); exact Kd.R_mono HO251.out (fun _ hk => ⟨hk.1.2, hk.2⟩)⟩, ⟨by (with_reducible repeat (first | apply Kd.R_alloc | apply Kd.R_drewN | apply Kd.R_drew)); exact Kd.R_mono HO254.out (fun _ hk => ⟨hk.1.2, hk.2⟩)⟩, ⟨by repeat (first | (with_reducible first | exact HB.out | apply below_alloc | apply pw_below_drewN | apply below_drew1) | exact HB.out)⟩⟩
          case rest =>
            clear HC19
            try clear c1
            try clear c2
            try clear p2
            try clear c3
            try clear c5
            try clear c6
            try clear c7
            try clear c7b0
            try clear c7b1
            try clear c8
            try clear c8b0
            try clear c8b1
            try clear c9
            try clear c10
            try clear c11
            try clear c14
            try clear c27
            try clear c27b0
            try clear c27b1
            try clear c28
            try clear c28b0
            try clear c28b1
            try clear c28b2
            try clear c31
            try clear p2
            obtain ⟨kq, x14_18, rfl, HA, HJ18, HO_7, HO_12, HO_13, HB⟩ := hcut
            cases kq with
            | zero => exact absurd HA.out (by simp [triremelaw05_LabelsSet.j1])
            | succ kj18 =>
              have H := HA.out
              clear HA
              simp only [triremelaw05_LabelsSet.j1] at H
              have H' := Aside0.mk H
              clear H
              go_wp2
              go_loopg [15] kj18 (fun kq v15 w' => ∃ (x12_3 : List (S31)) (x15_3 : Int), v15 = .int .i64 x15_3 ∧ Aside0 (triremelaw05_LabelsSet.l0 kq l0 y242 x12_3 t252 x14_18 x15_3 = some r) ∧ Aside0 (kq ≤ kj18) ∧ Aside0 (Kd.R k31 31 w' w.heap.size (fun k_ => some k_ ≠ (v250 : Value).ownBlock ∧ some k_ ≠ (v253 : Value).ownBlock) (.slice Ao23 y242.length co23) y242) ∧ Aside0 (Kd.R k31 31 w' w.heap.size (fun k_ => some k_ ≠ ((.slice Ao23 y242.length co23) : Value).ownBlock ∧ some k_ ≠ (v253 : Value).ownBlock) v250 x12_3) ∧ Aside0 (Kd.R k31 31 w' w.heap.size (fun k_ => some k_ ≠ ((.slice Ao23 y242.length co23) : Value).ownBlock ∧ some k_ ≠ (v250 : Value).ownBlock) v253 t252) ∧ Aside0 (Below w.heap.size w w'))
              case atStart => exact ⟨(t249), (0), (by first | rfl | (simp; done) | (simp [*]; done)), H', ⟨Nat.le_refl _⟩, ⟨by (with_reducible repeat (first | apply Kd.R_alloc | apply Kd.R_drewN | apply Kd.R_drew)); exact HO_7.out⟩, ⟨by (with_reducible repeat (first | apply Kd.R_alloc | apply Kd.R_drewN | apply Kd.R_drew)); exact HO_12.out⟩, ⟨by (with_reducible repeat (first | apply Kd.R_alloc | apply Kd.R_drewN | apply Kd.R_drew)); exact HO_13.out⟩, ⟨by repeat (first | (with_reducible first | exact HB.out | apply below_alloc | apply pw_below_drewN | apply below_drew1) | exact HB.out)⟩⟩
              case round =>
                clear H'
                try clear c1
                try clear c2
                try clear p2
                try clear c3
                try clear c5
                try clear c6
                try clear c7
                try clear c7b0
                try clear c7b1
                try clear c8
                try clear c8b0
                try clear c8b1
                try clear c9
                try clear c10
                try clear c11
                try clear c14
                try clear c27
                try clear c27b0
                try clear c27b1
                try clear c28
                try clear c28b0
                try clear c28b1
                try clear c28b2
                try clear c31
                try clear p2
                obtain ⟨x12_3, x15_3, rfl, HA, HK3, HO_7, HO_12, HO_13, HB⟩ := hrel
                cases gk with
                | zero => exact absurd HA.out (by simp [triremelaw05_LabelsSet.l0])
                | succ k3 =>
                  have H := HA.out
                  clear HA
                  simp only [triremelaw05_LabelsSet.l0] at H
                  by_cases c43 : x15_3 < (x12_3.length : Int)
                  · rw [if_pos c43] at H
                    have c43b0 : decide (x15_3 < (x12_3.length : Int)) = true := decide_eq_true c43
                    clear c43
                    by_cases c44 : 0 ≤ x15_3
                    · rw [if_pos c44] at H
                      have c44b0 : decide (0 ≤ x15_3) = true := decide_eq_true c44
                      clear c44
                      obtain ⟨y263, hy263⟩ : ∃ y_ : List (S31), y_ = (x12_3.set (x15_3 : Int).toNat (⟨(rd_T31 x12_3 x15_3).f0, (⟨#[115, 112, 111, 105, 108, 116]⟩ : ByteArray)⟩ : S31)) := ⟨_, rfl⟩
                      replace H : (triremelaw05_LabelsSet.l0 k3 l0 y242 y263 t252 x14_18 (wrap64 (x15_3 + 1))) = some r := by first | (rw [hy263]; with_reducible exact H) | (have H2_ := (Option.bind_some _ _).symm.trans H; rw [hy263]; with_reducible exact H2_) | (have H2_ := (Option.bind_some _ _).symm.trans H; with_reducible exact H2_) | with_reducible exact H | (rw [hy263]; exact H) | exact H
                      have Ny263 := Aside0.mk hy263
                      clear hy263
                      have H' := Aside0.mk H
                      clear H
                      obtain ⟨Ao46, co46, eo46⟩ := Kd.R_slice HO_12.out
                      subst eo46
                      have p45 : 0 ≤ (x15_3 : Int) := of_decide_eq_true (by first | (with_reducible assumption) | assumption)
                      have q45 : (x15_3 : Int) < ((x12_3.length : Int) : Int) := of_decide_eq_true (by first | (with_reducible assumption) | assumption)
                      obtain ⟨go45, co45, eo45, gb45, gl45, cl45, HG45⟩ := Kd.R_form HO_12.out (by omega)
                      (first | cases eo45 | (injection eo45 with ea_ en_ ec_; (first | subst ea_ | (injection ea_ with ea_; subst ea_)); subst ec_; clear en_))
                      have GB45 := Aside0.mk gb45
                      have GG45 := Aside0.mk HG45
                      clear gb45 gl45 HG45
                      obtain ⟨ce45, hcl45, hM45, hcc45, hfr45⟩ := Kd.R_elem HO_12.out z31 (x15_3 : Int) p45 q45
                      obtain rfl := k31_openM hM45
                      have hx45_0 : wr.cell? ⟨go45, (x15_3 : Int).toNat * 2, none⟩ = some (.string ((rd_T31 x12_3 x15_3).f0)) := hcc45 0 _ rfl
                      have hx45_1 : wr.cell? ⟨go45, (x15_3 : Int).toNat * 2 + 1, none⟩ = some (.string ((rd_T31 x12_3 x15_3).f1)) := hcc45 1 _ rfl
                      have hf45_0 : wr.frozen? ⟨go45, (x15_3 : Int).toNat * 2, none⟩ = false := hfr45 0
                      have hf45_1 : wr.frozen? ⟨go45, (x15_3 : Int).toNat * 2 + 1, none⟩ = false := hfr45 1
                      clear hcl45 hcc45 hfr45 hM45
                      replace p45 := eq_true p45
                      replace q45 := eq_true q45
                      have HX47 := Aside0.mk (show Kd.R k31 31 wr w.heap.size (fun k_ => some k_ ≠ (.slice Ao23 y242.length co23 : Value).ownBlock ∧ some k_ ≠ (v253 : Value).ownBlock) (.slice (some ⟨go45, 0, none⟩) x12_3.length co46) x12_3 from (by (with_reducible repeat (first | apply Kd.R_alloc | apply Kd.R_drewN | apply Kd.R_drew)); exact HO_12.out))
                      obtain ⟨ce47, hcl47, hM47, hcc47, hfr47⟩ := Kd.R_elem HX47.out z31 (x15_3 : Int) (of_decide_eq_true (by first | (with_reducible assumption) | assumption)) (by have h_ : (x15_3 : Int) < ((x12_3.length : Int) : Int) := of_decide_eq_true (by first | (with_reducible assumption) | assumption); first | exact h_ | (have e_ := (Kd.R_reads' HO_12.out).1; omega) | simpa using h_)
                      obtain rfl := k31_openM hM47
                      have HP47 := Kd.R_seg HX47.out (x15_3 : Int) (of_decide_eq_true (by first | (with_reducible assumption) | assumption)) (by have h_ : (x15_3 : Int) < ((x12_3.length : Int) : Int) := of_decide_eq_true (by first | (with_reducible assumption) | assumption); first | exact h_ | (have e_ := (Kd.R_reads' HO_12.out).1; omega) | simpa using h_) (seg := [.string (⟨#[115, 112, 111, 105, 108, 116]⟩ : ByteArray)]) (j := 1) hcl47 hcc47 (show 2 ≤ 2 from by decide) (x' := (⟨(rd_T31 x12_3 x15_3).f0, (⟨#[115, 112, 111, 105, 108, 116]⟩ : ByteArray)⟩ : S31)) (k31_mkM _ _ _ (⟨(rd_T31 x12_3 x15_3).f0, (⟨#[115, 112, 111, 105, 108, 116]⟩ : ByteArray)⟩ : S31) ) (fun _ hk => hk)
                      have hx47_1 := hcc47 1 _ rfl
                      (try simp only [show (k31).sz = 2 from rfl, Nat.mul_one, Nat.add_zero] at hx47_1)
                      have hf47_1 := hfr47 1
                      (try simp only [show (k31).sz = 2 from rfl, Nat.mul_one, Nat.add_zero] at hf47_1)
                      clear hcl47 hcc47 hfr47 hM47
                      go_wp2_with (first | ((with_reducible refine gate_store (t := 9) (p := 90) rfl ?_); refine store_event (t := 9) (p := 90) (v := ?vo_w48) (w1 := (wr.setCell ⟨go45, (x15_3 : Int).toNat * 2 + 1, none⟩ (.string (⟨#[115, 112, 111, 105, 108, 116]⟩ : ByteArray)))) ?hg ?ho ?hn ?hr ?_; (case ho => rfl); (case hg => rfl); (case hn => rfl); (case hr => first | (go_simp; done) | (go_simp; rfl)); intro w48 hw; have hg : wr.grownBy w48 (some go45) := (by rw [hw]; exact HP47.2); have hp_ : Kd.R k31 31 w48 w.heap.size (fun k_ => some k_ ≠ (.slice Ao23 y242.length co23 : Value).ownBlock ∧ some k_ ≠ (v253 : Value).ownBlock) (.slice (some ⟨go45, 0, none⟩) x12_3.length co46) y263 := (by rw [hw, Ny263.out]; exact HP47.1); clear HP47; have n0_ := Aside0.mk (Kd.R_after (v := (.slice (some ⟨go45, 0, none⟩) x12_3.length co46)) (v1 := (.slice (some ⟨go45, 0, none⟩) x12_3.length co46)) (ok := (fun k_ => some k_ ≠ (v253 : Value).ownBlock)) (by (with_reducible repeat (first | apply Kd.R_alloc | apply Kd.R_drewN | apply Kd.R_drew)); exact Kd.R_mono HO_7.out (fun _ hk => ⟨hk.2, hk.1⟩)) hg (.inl rfl)); have n1_ := Aside0.mk (hp_); have n2_ := Aside0.mk (Kd.R_after (v := (.slice (some ⟨go45, 0, none⟩) x12_3.length co46)) (v1 := (.slice (some ⟨go45, 0, none⟩) x12_3.length co46)) (ok := (fun k_ => some k_ ≠ (.slice Ao23 y242.length co23 : Value).ownBlock)) (by (with_reducible repeat (first | apply Kd.R_alloc | apply Kd.R_drewN | apply Kd.R_drew)); exact HO_13.out) hg (.inl rfl)); have n3_ := Aside0.mk ((by rw [hw]; exact below_set (HB.out) GB45.out : Below w.heap.size w w48)); clear HO_7; clear HO_12; clear HO_13; clear HB; have HO_7 := n0_; have HO_12 := n1_; have HO_13 := n2_; have HB := n3_; clear n0_ n1_ n2_ n3_; clear hg hw hp_))
                      go_roundg k3
                      case measure => have := HJ3.out; have := HJ18.out; have := HK3.out; omega
                      case rel => exact ⟨(y263), (wrap64 (x15_3 + 1)), (by first | rfl | (simp; done) | (simp [*]; done)), H', ⟨by have := HJ3.out; have := HJ18.out; have := HK3.out; omega⟩, ⟨by (with_reducible repeat (first | apply Kd.R_alloc | apply Kd.R_drewN | apply Kd.R_drew)); exact Kd.R_mono HO_7.out (fun _ hk => ⟨hk.2, hk.1⟩)⟩, ⟨by (with_reducible repeat (first | apply Kd.R_alloc | apply Kd.R_drewN | apply Kd.R_drew)); exact HO_12.out⟩, ⟨by (with_reducible repeat (first | apply Kd.R_alloc | apply Kd.R_drewN | apply Kd.R_drew)); exact HO_13.out⟩, ⟨by repeat (first | (with_reducible first | exact HB.out | apply below_alloc | apply pw_below_drewN | apply below_drew1) | exact HB.out)⟩⟩
                    · rw [if_neg c44] at H
                      exact absurd H (by simp)
                  · rw [if_neg c43] at H
                    have c43b0 : decide (x15_3 < (x12_3.length : Int)) = false := decide_eq_false c43
                    clear c43
                    have H' := Aside0.mk H
                    clear H
                    obtain ⟨Ao49, co49, eo49⟩ := Kd.R_slice HO_12.out
                    subst eo49
                    go_wp2
                    go_loopg [16] k3 (fun kq v16 w' => ∃ (x13_4 : List (S31)) (x16_4 : Int), v16 = .int .i64 x16_4 ∧ Aside0 (triremelaw05_LabelsSet.l1 kq l0 y242 x13_4 x14_18 x16_4 = some r) ∧ Aside0 (kq ≤ k3) ∧ Aside0 (Kd.R k31 31 w' w.heap.size (fun k_ => some k_ ≠ (v253 : Value).ownBlock) (.slice Ao23 y242.length co23) y242) ∧ Aside0 (Kd.R k31 31 w' w.heap.size (fun k_ => some k_ ≠ ((.slice Ao23 y242.length co23) : Value).ownBlock) v253 x13_4) ∧ Aside0 (Below w.heap.size w w'))
                    case atStart => exact ⟨(t252), (0), (by first | rfl | (simp; done) | (simp [*]; done)), H', ⟨Nat.le_refl _⟩, ⟨by (with_reducible repeat (first | apply Kd.R_alloc | apply Kd.R_drewN | apply Kd.R_drew)); exact Kd.R_mono HO_7.out (fun _ hk => hk.2)⟩, ⟨by (with_reducible repeat (first | apply Kd.R_alloc | apply Kd.R_drewN | apply Kd.R_drew)); exact Kd.R_mono HO_13.out (fun _ hk => hk.1)⟩, ⟨by repeat (first | (with_reducible first | exact HB.out | apply below_alloc | apply pw_below_drewN | apply below_drew1) | exact HB.out)⟩⟩
                    case round =>
                      clear H'
                      try clear c1
                      try clear c2
                      try clear p2
                      try clear c3
                      try clear c4
                      try clear p4
                      try clear q4
                      try clear hx4
                      try clear hf4
                      try clear c5
                      try clear c6
                      try clear p6
                      try clear c7
                      try clear c7b0
                      try clear c7b1
                      try clear c8
                      try clear c8b0
                      try clear c8b1
                      try clear c9
                      try clear c10
                      try clear c11
                      try clear c14
                      try clear c27
                      try clear c27b0
                      try clear c27b1
                      try clear c28
                      try clear c28b0
                      try clear c28b1
                      try clear c28b2
                      try clear c31
                      try clear c43
                      try clear c43b0
                      try clear c44
                      try clear c44b0
                      try clear c45
                      try clear p45
                      try clear q45
                      try clear hx45
                      try clear hf45
                      try clear c47
                      try clear hx47
                      try clear hf47
                      try clear hx45_0
                      try clear hx45_1
                      try clear hx47_1
                      try clear p2
                      try clear p45
                      try clear q45
                      obtain ⟨x13_4, x16_4, rfl, HA, HK4, HO_7, HO_13, HB⟩ := hrel
                      cases gk with
                      | zero => exact absurd HA.out (by simp [triremelaw05_LabelsSet.l1])
                      | succ k4 =>
                        have H := HA.out
                        clear HA
                        simp only [triremelaw05_LabelsSet.l1] at H
                        by_cases c50 : x16_4 < (x13_4.length : Int)
                        · rw [if_pos c50] at H
                          have c50b0 : decide (x16_4 < (x13_4.length : Int)) = true := decide_eq_true c50
                          clear c50
                          by_cases c51 : 0 ≤ x16_4
                          · rw [if_pos c51] at H
                            have c51b0 : decide (0 ≤ x16_4) = true := decide_eq_true c51
                            clear c51
                            obtain ⟨y264, hy264⟩ : ∃ y_ : List (S31), y_ = (x13_4.set (x16_4 : Int).toNat (⟨(rd_T31 x13_4 x16_4).f0, (⟨#[115, 112, 111, 105, 108, 116]⟩ : ByteArray)⟩ : S31)) := ⟨_, rfl⟩
                            replace H : (triremelaw05_LabelsSet.l1 k4 l0 y242 y264 x14_18 (wrap64 (x16_4 + 1))) = some r := by first | (rw [hy264]; with_reducible exact H) | (have H2_ := (Option.bind_some _ _).symm.trans H; rw [hy264]; with_reducible exact H2_) | (have H2_ := (Option.bind_some _ _).symm.trans H; with_reducible exact H2_) | with_reducible exact H | (rw [hy264]; exact H) | exact H
                            have Ny264 := Aside0.mk hy264
                            clear hy264
                            have H' := Aside0.mk H
                            clear H
                            obtain ⟨Ao53, co53, eo53⟩ := Kd.R_slice HO_13.out
                            subst eo53
                            have p52 : 0 ≤ (x16_4 : Int) := of_decide_eq_true (by first | (with_reducible assumption) | assumption)
                            have q52 : (x16_4 : Int) < ((x13_4.length : Int) : Int) := of_decide_eq_true (by first | (with_reducible assumption) | assumption)
                            obtain ⟨go52, co52, eo52, gb52, gl52, cl52, HG52⟩ := Kd.R_form HO_13.out (by omega)
                            (first | cases eo52 | (injection eo52 with ea_ en_ ec_; (first | subst ea_ | (injection ea_ with ea_; subst ea_)); subst ec_; clear en_))
                            have GB52 := Aside0.mk gb52
                            have GG52 := Aside0.mk HG52
                            clear gb52 gl52 HG52
                            obtain ⟨ce52, hcl52, hM52, hcc52, hfr52⟩ := Kd.R_elem HO_13.out z31 (x16_4 : Int) p52 q52
                            obtain rfl := k31_openM hM52
                            have hx52_0 : wr.cell? ⟨go52, (x16_4 : Int).toNat * 2, none⟩ = some (.string ((rd_T31 x13_4 x16_4).f0)) := hcc52 0 _ rfl
                            have hx52_1 : wr.cell? ⟨go52, (x16_4 : Int).toNat * 2 + 1, none⟩ = some (.string ((rd_T31 x13_4 x16_4).f1)) := hcc52 1 _ rfl
                            have hf52_0 : wr.frozen? ⟨go52, (x16_4 : Int).toNat * 2, none⟩ = false := hfr52 0
                            have hf52_1 : wr.frozen? ⟨go52, (x16_4 : Int).toNat * 2 + 1, none⟩ = false := hfr52 1
                            clear hcl52 hcc52 hfr52 hM52
                            replace p52 := eq_true p52
                            replace q52 := eq_true q52
                            have HX54 := Aside0.mk (show Kd.R k31 31 wr w.heap.size (fun k_ => some k_ ≠ (.slice Ao23 y242.length co23 : Value).ownBlock) (.slice (some ⟨go52, 0, none⟩) x13_4.length co53) x13_4 from (by (with_reducible repeat (first | apply Kd.R_alloc | apply Kd.R_drewN | apply Kd.R_drew)); exact HO_13.out))
                            obtain ⟨ce54, hcl54, hM54, hcc54, hfr54⟩ := Kd.R_elem HX54.out z31 (x16_4 : Int) (of_decide_eq_true (by first | (with_reducible assumption) | assumption)) (by have h_ : (x16_4 : Int) < ((x13_4.length : Int) : Int) := of_decide_eq_true (by first | (with_reducible assumption) | assumption); first | exact h_ | (have e_ := (Kd.R_reads' HO_13.out).1; omega) | simpa using h_)
                            obtain rfl := k31_openM hM54
                            have HP54 := Kd.R_seg HX54.out (x16_4 : Int) (of_decide_eq_true (by first | (with_reducible assumption) | assumption)) (by have h_ : (x16_4 : Int) < ((x13_4.length : Int) : Int) := of_decide_eq_true (by first | (with_reducible assumption) | assumption); first | exact h_ | (have e_ := (Kd.R_reads' HO_13.out).1; omega) | simpa using h_) (seg := [.string (⟨#[115, 112, 111, 105, 108, 116]⟩ : ByteArray)]) (j := 1) hcl54 hcc54 (show 2 ≤ 2 from by decide) (x' := (⟨(rd_T31 x13_4 x16_4).f0, (⟨#[115, 112, 111, 105, 108, 116]⟩ : ByteArray)⟩ : S31)) (k31_mkM _ _ _ (⟨(rd_T31 x13_4 x16_4).f0, (⟨#[115, 112, 111, 105, 108, 116]⟩ : ByteArray)⟩ : S31) ) (fun _ hk => hk)
                            have hx54_1 := hcc54 1 _ rfl
                            (try simp only [show (k31).sz = 2 from rfl, Nat.mul_one, Nat.add_zero] at hx54_1)
                            have hf54_1 := hfr54 1
                            (try simp only [show (k31).sz = 2 from rfl, Nat.mul_one, Nat.add_zero] at hf54_1)
                            clear hcl54 hcc54 hfr54 hM54
                            go_wp2_with (first | ((with_reducible refine gate_store (t := 9) (p := 100) rfl ?_); refine store_event (t := 9) (p := 100) (v := ?vo_w55) (w1 := (wr.setCell ⟨go52, (x16_4 : Int).toNat * 2 + 1, none⟩ (.string (⟨#[115, 112, 111, 105, 108, 116]⟩ : ByteArray)))) ?hg ?ho ?hn ?hr ?_; (case ho => rfl); (case hg => rfl); (case hn => rfl); (case hr => first | (go_simp; done) | (go_simp; rfl)); intro w55 hw; have hg : wr.grownBy w55 (some go52) := (by rw [hw]; exact HP54.2); have hp_ : Kd.R k31 31 w55 w.heap.size (fun k_ => some k_ ≠ (.slice Ao23 y242.length co23 : Value).ownBlock) (.slice (some ⟨go52, 0, none⟩) x13_4.length co53) y264 := (by rw [hw, Ny264.out]; exact HP54.1); clear HP54; have n0_ := Aside0.mk (Kd.R_after (v := (.slice (some ⟨go52, 0, none⟩) x13_4.length co53)) (v1 := (.slice (some ⟨go52, 0, none⟩) x13_4.length co53)) (ok := (fun _ => True)) (by (with_reducible repeat (first | apply Kd.R_alloc | apply Kd.R_drewN | apply Kd.R_drew)); exact Kd.R_mono HO_7.out (fun _ hk => ⟨trivial, hk⟩)) hg (.inl rfl)); have n1_ := Aside0.mk (hp_); have n2_ := Aside0.mk ((by rw [hw]; exact below_set (HB.out) GB52.out : Below w.heap.size w w55)); clear HO_7; clear HO_13; clear HB; have HO_7 := n0_; have HO_13 := n1_; have HB := n2_; clear n0_ n1_ n2_; clear hg hw hp_))
                            go_roundg k4
                            case measure => have := HJ3.out; have := HJ18.out; have := HK3.out; have := HK4.out; omega
                            case rel => exact ⟨(y264), (wrap64 (x16_4 + 1)), (by first | rfl | (simp; done) | (simp [*]; done)), H', ⟨by have := HJ3.out; have := HJ18.out; have := HK3.out; have := HK4.out; omega⟩, ⟨by (with_reducible repeat (first | apply Kd.R_alloc | apply Kd.R_drewN | apply Kd.R_drew)); exact Kd.R_mono HO_7.out (fun _ hk => hk.2)⟩, ⟨by (with_reducible repeat (first | apply Kd.R_alloc | apply Kd.R_drewN | apply Kd.R_drew)); exact HO_13.out⟩, ⟨by repeat (first | (with_reducible first | exact HB.out | apply below_alloc | apply pw_below_drewN | apply below_drew1) | exact HB.out)⟩⟩
                          · rw [if_neg c51] at H
                            exact absurd H (by simp)
                        · rw [if_neg c50] at H
                          have c50b0 : decide (x16_4 < (x13_4.length : Int)) = false := decide_eq_false c50
                          clear c50
                          by_cases c56 : x14_18 = true
                          · subst c56
                            have H1 : ((triremeref05_Same.f k4 y242 l0).bind fun t265 => (if t265 = true then ((triremelaw05_known.f).bind fun t266 => (some t266)) else (some false))) = some r := by rw [if_pos rfl] at H; exact H
                            clear H
                            have H := H1
                            clear H1
                            replace H := Option.bind_eq_some_iff.mp H
                            obtain ⟨t265, A570, H⟩ := H
                            replace H : (if t265 = true then ((triremelaw05_known.f).bind fun t266 => (some t266)) else (some false)) = some r := H
                            have A57 := Aside0.mk A570
                            clear A570
                            by_cases c58 : t265 = true
                            · subst c58
                              have H1 : ((triremelaw05_known.f).bind fun t266 => (some t266)) = some r := by rw [if_pos rfl] at H; exact H
                              clear H
                              have H := H1
                              clear H1
                              replace H := Option.bind_eq_some_iff.mp H
                              obtain ⟨t266, A590, H⟩ := H
                              replace H : (some t266) = some r := H
                              have A59 := Aside0.mk A590
                              clear A590
                              obtain rfl := Option.some.inj H
                              obtain ⟨Ao60, co60, eo60⟩ := Kd.R_slice HO_13.out
                              subst eo60
                              go_wp2_with (first | (go_at_call 12; (with_reducible refine (triremeref05_Same.calls k4 _ _ y242 _ _ l0 true _ ?side1 ?side2 ?side3 ?side4 A57.out).mono ?_); (case side1 => repeat (first | exact (Kd.R_reads' HO_7.out).2.2 | (with_reducible refine Kd.C_alloc ?_ _) | (with_reducible refine Kd.C_drewN ?_ _) | (with_reducible refine Kd.C_drew ?_))); (case side2 => exact (Kd.R_reads' HO_7.out).2.1); (case side3 => repeat (first | exact (Kd.C_below HR0.out HB.out) | (with_reducible refine Kd.C_alloc ?_ _) | (with_reducible refine Kd.C_drewN ?_ _) | (with_reducible refine Kd.C_drew ?_))); (case side4 => exact HC0.out); rintro e w' ⟨rfl, ⟨nd, rfl⟩⟩) | (go_at_call 7; (with_reducible refine (triremelaw05_known.calls  t266 _ A59.out).mono ?_); rintro e w61 ⟨rfl, hb⟩; have n0_ := Aside0.mk (Kd.R_below (by (with_reducible repeat (first | apply Kd.R_alloc | apply Kd.R_drewN | apply Kd.R_drew)); exact HO_7.out) hb); have n1_ := Aside0.mk (Kd.R_below (by (with_reducible repeat (first | apply Kd.R_alloc | apply Kd.R_drewN | apply Kd.R_drew)); exact HO_13.out) hb); have n2_ := Aside0.mk (below_step (by repeat (first | (with_reducible first | exact HB.out | apply below_alloc | apply pw_below_drewN | apply below_drew1) | exact HB.out)) hb); clear HO_7; clear HO_13; clear HB; have HO_7 := n0_; have HO_13 := n1_; have HB := n2_; clear n0_ n1_ n2_; (try clear hb); (try clear hb2); (try clear hk); (try clear hi)))
                              go_ret
                              exact ⟨by first | rfl | (simp [errW_none, errW_some] <;> rfl) | (simp [*, errW_none, errW_some] <;> rfl), by repeat (first | (with_reducible first | exact HB.out | apply below_alloc | apply pw_below_drewN | apply below_drew1) | exact HB.out)⟩
                            · replace c58 := Bool.eq_false_iff.mpr c58
                              subst c58
                              have H1 : (some false) = some r := by rw [if_neg (show ¬ (false = true) by decide)] at H; exact H
                              clear H
                              have H := H1
                              clear H1
                              obtain rfl := Option.some.inj H
                              obtain ⟨Ao62, co62, eo62⟩ := Kd.R_slice HO_13.out
                              subst eo62
                              go_wp2_with (first | (go_at_call 12; (with_reducible refine (triremeref05_Same.calls k4 _ _ y242 _ _ l0 false _ ?side1 ?side2 ?side3 ?side4 A57.out).mono ?_); (case side1 => repeat (first | exact (Kd.R_reads' HO_7.out).2.2 | (with_reducible refine Kd.C_alloc ?_ _) | (with_reducible refine Kd.C_drewN ?_ _) | (with_reducible refine Kd.C_drew ?_))); (case side2 => exact (Kd.R_reads' HO_7.out).2.1); (case side3 => repeat (first | exact (Kd.C_below HR0.out HB.out) | (with_reducible refine Kd.C_alloc ?_ _) | (with_reducible refine Kd.C_drewN ?_ _) | (with_reducible refine Kd.C_drew ?_))); (case side4 => exact HC0.out); rintro e w' ⟨rfl, ⟨nd, rfl⟩⟩))
                              go_ret
                              exact ⟨by first | rfl | (simp [errW_none, errW_some] <;> rfl) | (simp [*, errW_none, errW_some] <;> rfl), by repeat (first | (with_reducible first | exact HB.out | apply below_alloc | apply pw_below_drewN | apply below_drew1) | exact HB.out)⟩
                          · replace c56 := Bool.eq_false_iff.mpr c56
                            subst c56
                            have H1 : (some false) = some r := by rw [if_neg (show ¬ (false = true) by decide)] at H; exact H
                            clear H
                            have H := H1
                            clear H1
                            obtain rfl := Option.some.inj H
                            obtain ⟨Ao63, co63, eo63⟩ := Kd.R_slice HO_13.out
                            subst eo63
                            go_wp2
                            go_ret
                            exact ⟨by first | rfl | (simp [errW_none, errW_some] <;> rfl) | (simp [*, errW_none, errW_some] <;> rfl), by repeat (first | (with_reducible first | exact HB.out | apply below_alloc | apply pw_below_drewN | apply below_drew1) | exact HB.out)⟩
        · rw [if_neg c14] at H
          exact absurd H (by simp)
end Go.Proofs.Ytcnaefnlnjfjkaa.H
end
