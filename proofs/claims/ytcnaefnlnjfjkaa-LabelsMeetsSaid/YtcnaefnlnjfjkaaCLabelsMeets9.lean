/- LabelsMeets returns true for every input, and each argument reads behind the call as it read before. No condition beyond the row's own. -/
import Derived.Test.YtcnaefnlnjfjkaaRows
import Derived.WalkKit
import Derived.ProofKit
import Derived.OpenShut
import Derived.ShutString
import Derived.ChangeOld
import Derived.Below
import Derived.SizedLaws
import Derived.Deep.Slices
import Derived.Test.YtcnaefnlnjfjkaaCLabelsMeets0
import Derived.Test.YtcnaefnlnjfjkaaCLabelsMeets1
import Derived.Test.YtcnaefnlnjfjkaaCLabelsMeets2
import Derived.Test.YtcnaefnlnjfjkaaCLabelsMeets3
import Derived.Test.YtcnaefnlnjfjkaaCLabelsMeets4
import Derived.Test.YtcnaefnlnjfjkaaCLabelsMeets5
import Derived.Test.YtcnaefnlnjfjkaaCLabelsMeets6
import Derived.Test.YtcnaefnlnjfjkaaCLabelsMeets7
import Derived.Test.YtcnaefnlnjfjkaaCLabelsMeets8
section
namespace Go.Proofs.Ytcnaefnlnjfjkaa.H
open Go.RowKit Go.Proofs.YtcnaefnlnjfjkaaW.PrintWords Go.Proofs.YtcnaefnlnjfjkaaW.PrintLast
theorem bl_irrefl : ∀ a : List UInt8, Op.bytesLess a a = false
  | [] => rfl
  | a :: x => by simp [Op.bytesLess, bl_irrefl x]
theorem bl_trans : ∀ a b c : List UInt8, Op.bytesLess a b = true → Op.bytesLess b c = true → Op.bytesLess a c = true
  | _, [], _, h, _ => by simp [Op.bytesLess] at h
  | _, _ :: _, [], _, h => by simp [Op.bytesLess] at h
  | [], _ :: _, _ :: _, _, _ => rfl
  | a :: x, b :: y, c :: z, h, k => by
    simp only [Op.bytesLess, Bool.or_eq_true, Bool.and_eq_true, decide_eq_true_eq, beq_iff_eq] at h k ⊢
    rcases h with h | ⟨h, h2⟩ <;> rcases k with k | ⟨k, k2⟩
    · exact Or.inl (UInt8.lt_trans h k)
    · subst k; exact Or.inl h
    · subst h; exact Or.inl k
    · subst h; subst k; exact Or.inr ⟨rfl, bl_trans x y z h2 k2⟩
theorem bl_total : ∀ a b : List UInt8, Op.bytesLess a b = false → Op.bytesLess b a = false → a = b
  | [], [], _, _ => rfl
  | [], _ :: _, h, _ => by simp [Op.bytesLess] at h
  | _ :: _, [], _, h => by simp [Op.bytesLess] at h
  | a :: x, b :: y, h, k => by
    simp only [Op.bytesLess, Bool.or_eq_false_iff, Bool.and_eq_false_iff, decide_eq_false_iff_not, beq_eq_false_iff_ne] at h k
    have e : a = b := by
      have h1 := h.1; have h2 := k.1
      rw [UInt8.not_lt] at h1 h2
      exact UInt8.le_antisymm h2 h1
    subst e
    rw [bl_total x y (by simpa using h.2) (by simpa using k.2)]
def lt (a b : ByteArray) : Bool := Op.bytesLess a.toList b.toList
theorem toList_inj {a b : ByteArray} (h : a.toList = b.toList) : a = b := by
  rw [ByteArray.toList_eq, ByteArray.toList_eq] at h
  exact bytes_inj h
theorem drop_bt (s : ByteArray) (i : Nat) (h : i < s.size) : s.toList.drop i = (s[i]'h) :: s.toList.drop (i + 1) := by
  rw [ByteArray.toList_eq]
  rw [List.drop_eq_getElem_cons (by simpa using h)]
  rfl
theorem bt_nat (s : ByteArray) (i : Nat) (h : i < s.size) : bt s (i : Int) = ((s[i]'h).toNat : Int) := by
  unfold bt
  simp only [Int.toNat_natCast]
  rw [dif_pos h]
theorem less_l0 (a b : ByteArray) (ha : a.size ≤ 1000000000) (hb : b.size ≤ 1000000000) : ∀ (d i : Nat), a.size - i = d → i ≤ a.size → i ≤ b.size → Ev (fun k => triremeref05_Less.l0 k a b (i : Int)) (Op.bytesLess (a.toList.drop i) (b.toList.drop i)) := by
  have la : a.toList.length = a.size := by rw [ByteArray.toList_eq]; rfl
  have lb : b.toList.length = b.size := by rw [ByteArray.toList_eq]; rfl
  intro d
  induction d with
  | zero =>
    intro i hd h1 h2
    refine Ev.step (fun k => by rw [triremeref05_Less.l0]) ?_
    have h3 : ¬ ((i : Int) < (a.size : Int)) := by omega
    simp only [h3, if_false]
    refine Ev.step (fun k => by rw [triremeref05_Less.j1]) ?_
    simp only [Bool.false_eq_true, if_false]
    have e : i = a.size := by omega
    rw [List.drop_eq_nil_of_le (by omega)]
    by_cases h4 : i < b.size
    · rw [drop_bt b i h4]
      have h5 : ((a.size : Int) < (b.size : Int)) := by omega
      simp only [h5, decide_true, Op.bytesLess]
      exact Ev.now _
    · rw [List.drop_eq_nil_of_le (by omega)]
      have h5 : ¬ ((a.size : Int) < (b.size : Int)) := by omega
      simp only [h5, decide_false, Op.bytesLess]
      exact Ev.now _
  | succ d ih =>
    intro i hd h1 h2
    refine Ev.step (fun k => by rw [triremeref05_Less.l0]) ?_
    have h3 : i < a.size := by omega
    have h3' : (i : Int) < (a.size : Int) := by omega
    simp only [h3', if_true]
    refine Ev.step (fun k => by rw [triremeref05_Less.j1]) ?_
    rw [drop_bt a i h3]
    by_cases h4 : i < b.size
    · have h4' : (i : Int) < (b.size : Int) := by omega
      have h5 : (0 : Int) ≤ (i : Int) := by omega
      simp only [h4', h3', h5, decide_true, if_true]
      rw [drop_bt b i h4, bt_nat a i h3, bt_nat b i h4]
      by_cases h6 : (a[i]'h3) = (b[i]'h4)
      · rw [h6]
        simp only [if_true, Op.bytesLess, UInt8.lt_irrefl, decide_false, BEq.rfl, Bool.true_and, Bool.false_or]
        rw [wrap_small (by omega) (by omega)]
        exact ih (i + 1) (by omega) (by omega) (by omega)
      · have h7 : ¬ (((a[i]'h3).toNat : Int) = ((b[i]'h4).toNat : Int)) := fun e => h6 (UInt8.toNat_inj.1 (by omega))
        simp only [h7, if_false, Op.bytesLess]
        have h8 : ((a[i]'h3) == (b[i]'h4)) = false := by simp [h6]
        rw [h8]
        simp only [Bool.false_and, Bool.or_false]
        have h9 : decide (((a[i]'h3).toNat : Int) < ((b[i]'h4).toNat : Int)) = decide ((a[i]'h3) < (b[i]'h4)) := by
          rw [decide_eq_decide, UInt8.lt_iff_toNat_lt]
          omega
        rw [h9]
        exact Ev.now _
    · have h4' : ¬ ((i : Int) < (b.size : Int)) := by omega
      simp only [h4', decide_false, Bool.false_eq_true, if_false]
      rw [show b.toList.drop i = [] from List.drop_eq_nil_of_le (by omega)]
      have h5 : ¬ ((a.size : Int) < (b.size : Int)) := by omega
      simp only [h5, decide_false, Op.bytesLess]
      exact Ev.now _
theorem less_ev (a b : ByteArray) (ha : a.size ≤ 1000000000) (hb : b.size ≤ 1000000000) : Ev (fun k => triremeref05_Less.f k a b) (lt a b) := by
  have h := less_l0 a b ha hb _ 0 rfl (by omega) (by omega)
  exact h
theorem rd_nat (xs : List S31) (i : Nat) (h : i < xs.length) : rd_T31 xs (i : Int) = xs[i] := by
  unfold rd_T31
  simp [List.getD_eq_getElem?_getD, h]
theorem ev_if {α : Type} {c : Prop} [Decidable c] {f g : Nat → Option α} {r : α} (h1 : c → Ev f r) (h2 : ¬ c → Ev g r) : Ev (fun k => if c then f k else g k) r := by
  by_cases h : c
  · simp only [h, if_true]; exact h1 h
  · simp only [h, if_false]; exact h2 h
def lightB (xs : List S31) : Bool := xs.all (fun x => decide (x.f0.size ≤ 300) && decide (x.f1.size ≤ 300))
theorem light_l0 (xs : List S31) (hl : xs.length ≤ 1000) : ∀ d i : Nat, i + d = xs.length → Ev (fun k => triremeref05_Light.l0 k xs (i : Int)) (lightB (xs.drop i)) := by
  intro d
  induction d with
  | zero =>
    intro i h
    refine Ev.step (fun k => by rw [triremeref05_Light.l0]) ?_
    rw [List.drop_eq_nil_of_le (by omega)]
    have h3 : ¬ ((i : Int) < (xs.length : Int)) := by omega
    simp only [h3, if_false]
    exact Ev.now _
  | succ d ih =>
    intro i h
    refine Ev.step (fun k => by rw [triremeref05_Light.l0]) ?_
    have h3 : ((i : Int) < (xs.length : Int)) := by omega
    have h4 : (0 : Int) ≤ (i : Int) := by omega
    have h5 : i < xs.length := by omega
    simp only [h3, h4, if_true]
    rw [wrap_small (by omega) (by omega), rd_nat xs i h5, List.drop_eq_getElem_cons h5]
    refine ev_if (fun h6 => ?_) (fun h6 => ev_if (fun h7 => ?_) (fun h7 => ?_))
    · have : lightB (xs[i] :: xs.drop (i + 1)) = false := by
        unfold lightB
        rw [List.all_cons, show decide (xs[i].f0.size ≤ 300) = false from decide_eq_false (by omega)]; rfl
      rw [this]; exact Ev.now _
    · have : lightB (xs[i] :: xs.drop (i + 1)) = false := by
        unfold lightB
        rw [List.all_cons, show decide (xs[i].f1.size ≤ 300) = false from decide_eq_false (by omega)]; simp
      rw [this]; exact Ev.now _
    · have : lightB (xs[i] :: xs.drop (i + 1)) = lightB (xs.drop (i + 1)) := by
        unfold lightB
        rw [List.all_cons]
        have e1 : xs[i].f0.size ≤ 300 := by omega
        have e2 : xs[i].f1.size ≤ 300 := by omega
        simp [e1, e2]
      rw [this]
      exact ih (i + 1) (by omega)
theorem light_ev (xs : List S31) : Ev (fun k => triremeref05_Light.f k xs) (decide (xs.length ≤ 40) && lightB xs) := by
  unfold triremeref05_Light.f
  by_cases h : xs.length ≤ 40
  · have h3 : ¬ ((xs.length : Int) > 40) := by omega
    simp only [h3, if_false, h, decide_true, Bool.true_and]
    have := light_l0 xs (by omega) xs.length 0 (by omega)
    simpa using this
  · have h3 : ((xs.length : Int) > 40) := by omega
    simp only [h3, if_true, h, decide_false, Bool.false_and]
    exact Ev.now _
theorem light_at {xs : List S31} (h : lightB xs = true) : ∀ x ∈ xs, x.f0.size ≤ 300 ∧ x.f1.size ≤ 300 := by
  intro x hx
  have := List.all_eq_true.1 h x hx
  simpa using this
/-- What is right by the reference: as it goes through. -/
def refMaybe (s : ByteArray) : Bool := if s.toList = [] then true else lexWordB s
theorem refMaybe_ev (s : ByteArray) (h : s.size ≤ 1000000000) : Ev (fun k => triremeref05_maybe.f k s) (refMaybe s) := by
  unfold triremeref05_maybe.f refMaybe
  by_cases h1 : s.toList = ([] : List UInt8)
  · simp only [h1, if_true]; exact Ev.now _
  · simp only [h1, if_false]
    exact Ev.bind (word_ev s h) (Ev.now _)
def rightGo : Option ByteArray → List S31 → Bool
  | _, [] => true
  | p, x :: xs => lexWordB x.f0 && (refMaybe x.f1 && ((match p with | none => true | some q => lt q x.f0) && rightGo (some x.f0) xs))
theorem right_l0 (xs : List S31) (hl : xs.length ≤ 1000) (hx : ∀ x ∈ xs, x.f0.size ≤ 300 ∧ x.f1.size ≤ 300) : ∀ d i : Nat, i + d = xs.length → Ev (fun k => triremeref05_Right.l0 k xs (i : Int)) (rightGo (if i = 0 then none else (xs[i - 1]?).map (·.f0)) (xs.drop i)) := by
  intro d
  induction d with
  | zero =>
    intro i h
    refine Ev.step (fun k => by rw [triremeref05_Right.l0]) ?_
    rw [List.drop_eq_nil_of_le (by omega)]
    have h3 : ¬ ((i : Int) < (xs.length : Int)) := by omega
    simp only [h3, if_false, rightGo]
    exact Ev.now _
  | succ d ih =>
    intro i h
    refine Ev.step (fun k => by rw [triremeref05_Right.l0]) ?_
    have h3 : ((i : Int) < (xs.length : Int)) := by omega
    have h4 : (0 : Int) ≤ (i : Int) := by omega
    have h5 : i < xs.length := by omega
    have hxi := hx xs[i] (List.getElem_mem h5)
    simp only [h3, h4, if_true]
    rw [wrap_small (i := (i : Int) + 1) (by omega) (by omega), rd_nat xs i h5, List.drop_eq_getElem_cons h5]
    refine Ev.bind (word_ev _ (by omega)) ?_
    simp only [rightGo]
    cases hw : lexWordB xs[i].f0 with
    | false => simp only [Bool.false_eq_true, if_false, Bool.false_and]; exact Ev.now _
    | true =>
      simp only [if_true, Bool.true_and]
      refine Ev.bind (refMaybe_ev _ (by omega)) ?_
      cases hm : refMaybe xs[i].f1 with
      | false => simp only [Bool.false_eq_true, if_false, Bool.false_and]; exact Ev.now _
      | true =>
        simp only [if_true, Bool.true_and]
        have ih' := ih (i + 1) (by omega)
        have e0 : ¬ (i + 1 = 0) := by omega
        rw [if_neg e0, Nat.add_sub_cancel, List.getElem?_eq_getElem h5] at ih'
        simp only [Option.map_some] at ih'
        refine ev_if (fun h6 => ?_) (fun h6 => ?_)
        · have h7 : i - 1 < xs.length := by omega
          have h8 : (0 : Int) ≤ (i : Int) - 1 := by omega
          have h9 : (i : Int) - 1 < (xs.length : Int) := by omega
          have h10 : ¬ (i = 0) := by omega
          have hxj := hx xs[i - 1] (List.getElem_mem h7)
          rw [wrap_small (i := (i : Int) - 1) (by omega) (by omega)]
          simp only [h8, h9, if_true]
          have e1 : (i : Int) - 1 = ((i - 1 : Nat) : Int) := by omega
          rw [e1, rd_nat xs (i - 1) h7, if_neg h10, List.getElem?_eq_getElem h7]
          simp only [Option.map_some]
          refine Ev.bind (less_ev _ _ (by omega) (by omega)) ?_
          cases hlt : lt xs[i - 1].f0 xs[i].f0 with
          | false => simp only [Bool.false_eq_true, if_false, Bool.false_and]; exact Ev.now _
          | true => simp only [if_true, Bool.true_and]; exact ih'
        · have h10 : i = 0 := by omega
          rw [if_pos h10]
          simp only [Bool.true_and]
          exact ih'
def refRight (xs : List S31) : Bool := decide (xs.length ≤ 16) && rightGo none xs
theorem right_ev (xs : List S31) (hl : xs.length ≤ 1000) (hx : ∀ x ∈ xs, x.f0.size ≤ 300 ∧ x.f1.size ≤ 300) : Ev (fun k => triremeref05_Right.f k xs) (refRight xs) := by
  unfold triremeref05_Right.f refRight
  by_cases h : xs.length ≤ 16
  · have h3 : ¬ ((xs.length : Int) > 16) := by omega
    simp only [h3, if_false, h, decide_true, Bool.true_and]
    have := right_l0 xs hl hx xs.length 0 (by omega)
    simpa using this
  · have h3 : ((xs.length : Int) > 16) := by omega
    simp only [h3, if_true, h, decide_false, Bool.false_and]
    exact Ev.now _
/-- Keys rise. -/
def Rises (xs : List S31) : Prop := xs.Pairwise (fun x y => lt x.f0 y.f0 = true)
theorem lt_trans {a b c : ByteArray} (h : lt a b = true) (k : lt b c = true) : lt a c = true := bl_trans _ _ _ h k
theorem lt_irrefl (a : ByteArray) : lt a a = false := bl_irrefl _
theorem lt_total {a b : ByteArray} (h : lt a b = false) (k : lt b a = false) : a = b := toList_inj (bl_total _ _ h k)
theorem rightGo_above : ∀ (xs : List S31) (p : ByteArray), rightGo (some p) xs = true → (∀ x ∈ xs, lt p x.f0 = true) ∧ Rises xs
  | [], _, _ => ⟨(fun _ h => by cases h), List.Pairwise.nil⟩
  | x :: xs, p, h => by
    simp only [rightGo, Bool.and_eq_true] at h
    obtain ⟨_, _, h1, h2⟩ := h
    have ih := rightGo_above xs x.f0 h2
    refine ⟨fun y hy => ?_, List.pairwise_cons.2 ⟨ih.1, ih.2⟩⟩
    rcases List.mem_cons.1 hy with rfl | hy
    · exact h1
    · exact lt_trans h1 (ih.1 y hy)
theorem refRight_rises {xs : List S31} (h : refRight xs = true) : xs.length ≤ 16 ∧ Rises xs := by
  simp only [refRight, Bool.and_eq_true, decide_eq_true_eq] at h
  refine ⟨h.1, ?_⟩
  cases xs with
  | nil => exact List.Pairwise.nil
  | cons x xs =>
    have := h.2
    simp only [rightGo, Bool.and_eq_true] at this
    have ih := rightGo_above xs x.f0 this.2.2.2
    exact List.pairwise_cons.2 ⟨ih.1, ih.2⟩
def posr (key : ByteArray) : List S31 → Nat → Int × Bool
  | [], i => ((i : Int), false)
  | x :: xs, i => if lt x.f0 key = true then posr key xs (i + 1) else ((i : Int), x.f0.toList == key.toList)
theorem at_l0 (xs : List S31) (key : ByteArray) (hl : xs.length ≤ 1000) : ∀ d i : Nat, i + d = xs.length → Ev (fun k => labels_at.l0 k xs key xs (xs.length : Int) (i : Int)) (posr key (xs.drop i) i) := by
  intro d
  induction d with
  | zero =>
    intro i h
    refine Ev.step (fun k => by rw [labels_at.l0]) ?_
    rw [List.drop_eq_nil_of_le (by omega)]
    have h3 : ¬ ((i : Int) < (xs.length : Int)) := by omega
    have h4 : i = xs.length := by omega
    simp only [h3, if_false, posr]
    rw [h4]
    exact Ev.now _
  | succ d ih =>
    intro i h
    refine Ev.step (fun k => by rw [labels_at.l0]) ?_
    have h3 : ((i : Int) < (xs.length : Int)) := by omega
    have h4 : (0 : Int) ≤ (i : Int) := by omega
    have h5 : i < xs.length := by omega
    simp only [h3, h4, if_true]
    rw [wrap_small (i := (i : Int) + 1) (by omega) (by omega), rd_nat xs i h5, List.drop_eq_getElem_cons h5]
    simp only [posr]
    show Ev (fun k => if lt xs[i].f0 key = true then _ else _) _
    cases hlt : lt xs[i].f0 key with
    | false => simp only [Bool.false_eq_true, if_false]; exact Ev.now _
    | true => simp only [if_true]; exact ih (i + 1) (by omega)
theorem at_ev (xs : List S31) (key : ByteArray) (hl : xs.length ≤ 1000) : Ev (fun k => labels_at.f k xs key) (posr key xs 0) := by
  have := at_l0 xs key hl xs.length 0 (by omega)
  rw [List.drop_zero] at this
  exact this
/-- What lies ahead of a key, and what from it on. -/
def ahead (key : ByteArray) (xs : List S31) : List S31 := xs.takeWhile (fun x => lt x.f0 key)
def onward (key : ByteArray) (xs : List S31) : List S31 := xs.dropWhile (fun x => lt x.f0 key)
theorem ahead_onward (key : ByteArray) (xs : List S31) : ahead key xs ++ onward key xs = xs := List.takeWhile_append_dropWhile
theorem ahead_lt (key : ByteArray) (xs : List S31) : ∀ x ∈ ahead key xs, lt x.f0 key = true := by
  intro x hx
  have := List.all_takeWhile (p := fun x : S31 => lt x.f0 key) (l := xs)
  exact List.all_eq_true.1 this x hx
theorem onward_not (key : ByteArray) (xs : List S31) : ∀ y ys, onward key xs = y :: ys → lt y.f0 key = false := by
  intro y ys h
  unfold onward at h
  have := List.head?_dropWhile_not (fun x : S31 => lt x.f0 key) xs
  rw [h] at this
  simpa using this
theorem posr_eq (key : ByteArray) : ∀ (xs : List S31) (i : Nat), posr key xs i = (((i + (ahead key xs).length : Nat) : Int), match onward key xs with | [] => false | y :: _ => y.f0.toList == key.toList)
  | [], i => by simp [posr, ahead, onward]
  | x :: xs, i => by
    unfold posr ahead onward
    rw [List.takeWhile_cons, List.dropWhile_cons]
    cases h : lt x.f0 key with
    | false => simp
    | true =>
      simp only [if_true]
      rw [posr_eq key xs (i + 1)]
      unfold ahead onward
      simp only [List.length_cons]
      congr 2
      omega
/-- In what rises, all behind the first that isn't ahead are not it. -/
theorem onward_rest {key : ByteArray} {xs : List S31} (hr : Rises xs) {y : S31} {ys : List S31} (h : onward key xs = y :: ys) : ∀ z ∈ ys, lt key z.f0 = true := by
  intro z hz
  have hr2 : Rises (onward key xs) := by
    have e := ahead_onward key xs
    unfold Rises at hr
    rw [← e] at hr
    exact (List.pairwise_append.1 hr).2.1
  rw [h] at hr2
  have h1 := (List.pairwise_cons.1 hr2).1 z hz
  have h2 := onward_not key xs y ys h
  cases h3 : lt key y.f0 with
  | true => exact lt_trans h3 h1
  | false => rw [← lt_total h2 h3]; exact h1
theorem lt_ne {a b : ByteArray} (h : lt a b = true) : a ≠ b := fun e => by rw [e, lt_irrefl] at h; cases h
/-- The same key, told by the first that isn't ahead. -/
def isAt (key : ByteArray) (xs : List S31) : Bool := match onward key xs with | [] => false | y :: _ => y.f0.toList == key.toList
theorem posr_at (key : ByteArray) (xs : List S31) : posr key xs 0 = (((ahead key xs).length : Int), isAt key xs) := by
  rw [posr_eq]
  unfold isAt
  simp
def getB (key : ByteArray) (xs : List S31) : ByteArray × Bool := match onward key xs with | [] => (⟨#[]⟩, false) | y :: _ => if y.f0.toList = key.toList then (y.f1, true) else (⟨#[]⟩, false)
theorem ahead_len (key : ByteArray) (xs : List S31) : (ahead key xs).length ≤ xs.length := by
  have := congrArg List.length (ahead_onward key xs)
  rw [List.length_append] at this
  omega
theorem onward_get {key : ByteArray} {xs : List S31} {y : S31} {ys : List S31} (h : onward key xs = y :: ys) : ∃ hh : (ahead key xs).length < xs.length, xs[(ahead key xs).length] = y := by
  have e := ahead_onward key xs
  rw [h] at e
  have hl : (ahead key xs).length < xs.length := by
    have := congrArg List.length e
    rw [List.length_append, List.length_cons] at this
    omega
  refine ⟨hl, ?_⟩
  have : (ahead key xs ++ y :: ys)[(ahead key xs).length]? = some y := by
    rw [List.getElem?_append_right (Nat.le_refl _)]
    simp
  rw [e] at this
  rw [List.getElem?_eq_getElem hl] at this
  injection this
theorem get_ev (xs : List S31) (key : ByteArray) (hl : xs.length ≤ 1000) : Ev (fun k => labels_Get.f k xs key) (getB key xs) := by
  unfold labels_Get.f
  refine Ev.bind (at_ev xs key hl) ?_
  rw [posr_at]
  have hal := ahead_len key xs
  unfold isAt getB
  cases h : onward key xs with
  | nil => simp only [Bool.false_eq_true, if_false]; exact Ev.now _
  | cons y ys =>
    obtain ⟨h1, h2⟩ := onward_get h
    simp only [beq_iff_eq]
    refine ev_if (fun h3 => ?_) (fun h3 => ?_)
    · have h4 : (0 : Int) ≤ ((ahead key xs).length : Int) := by omega
      have h5 : ((ahead key xs).length : Int) < (xs.length : Int) := by omega
      simp only [h4, h5, if_true]
      rw [rd_nat xs _ h1, h2, if_pos h3]
      exact Ev.now _
    · rw [if_neg h3]
      exact Ev.now _
def refGet (key : ByteArray) : List S31 → ByteArray × Bool
  | [] => (⟨#[]⟩, false)
  | x :: xs => if x.f0.toList = key.toList then (x.f1, true) else refGet key xs
theorem refGet_l0 (xs : List S31) (key : ByteArray) (hl : xs.length ≤ 1000) : ∀ d i : Nat, i + d = xs.length → Ev (fun k => triremeref05_Get.l0 k xs key (i : Int)) (refGet key (xs.drop i)) := by
  intro d
  induction d with
  | zero =>
    intro i h
    refine Ev.step (fun k => by rw [triremeref05_Get.l0]) ?_
    rw [List.drop_eq_nil_of_le (by omega)]
    have h3 : ¬ ((i : Int) < (xs.length : Int)) := by omega
    simp only [h3, if_false]
    exact Ev.now _
  | succ d ih =>
    intro i h
    refine Ev.step (fun k => by rw [triremeref05_Get.l0]) ?_
    have h3 : ((i : Int) < (xs.length : Int)) := by omega
    have h4 : (0 : Int) ≤ (i : Int) := by omega
    have h5 : i < xs.length := by omega
    simp only [h3, h4, if_true]
    rw [wrap_small (i := (i : Int) + 1) (by omega) (by omega), rd_nat xs i h5, List.drop_eq_getElem_cons h5]
    simp only [refGet]
    refine ev_if (fun h6 => ?_) (fun h6 => ?_)
    · rw [if_pos h6]; exact Ev.now _
    · rw [if_neg h6]; exact ih (i + 1) (by omega)
theorem refGet_ev (xs : List S31) (key : ByteArray) (hl : xs.length ≤ 1000) : Ev (fun k => triremeref05_Get.f k xs key) (refGet key xs) := by
  have := refGet_l0 xs key hl xs.length 0 (by omega)
  rw [List.drop_zero] at this
  exact this
theorem refGet_none {key : ByteArray} : ∀ {xs : List S31}, (∀ x ∈ xs, x.f0.toList ≠ key.toList) → refGet key xs = (⟨#[]⟩, false)
  | [], _ => rfl
  | x :: xs, h => by
    unfold refGet
    rw [if_neg (h x List.mem_cons_self)]
    exact refGet_none (fun y hy => h y (List.mem_cons_of_mem _ hy))
theorem refGet_append {key : ByteArray} {ys : List S31} : ∀ {xs : List S31}, (∀ x ∈ xs, x.f0.toList ≠ key.toList) → refGet key (xs ++ ys) = refGet key ys
  | [], _ => rfl
  | x :: xs, h => by
    rw [List.cons_append]
    conv => lhs; unfold refGet
    rw [if_neg (h x List.mem_cons_self)]
    exact refGet_append (fun y hy => h y (List.mem_cons_of_mem _ hy))
theorem ne_toList {a b : ByteArray} (h : a ≠ b) : a.toList ≠ b.toList := fun e => h (toList_inj e)
theorem get_alike (key : ByteArray) (xs : List S31) (hr : Rises xs) : refGet key xs = getB key xs := by
  conv => lhs; rw [← ahead_onward key xs]
  rw [refGet_append (fun x hx => ne_toList (lt_ne (ahead_lt key xs x hx)))]
  unfold getB
  cases h : onward key xs with
  | nil => rfl
  | cons y ys =>
    simp only [refGet]
    by_cases h1 : y.f0.toList = key.toList
    · rw [if_pos h1, if_pos h1]
    · rw [if_neg h1, if_neg h1]
      exact refGet_none (fun z hz => ne_toList (lt_ne (onward_rest hr h z hz)).symm)
end Go.Proofs.Ytcnaefnlnjfjkaa.H
end
section
namespace Go.Proofs.Ytcnaefnlnjfjkaa.H
open Go.RowKit Go.Proofs.YtcnaefnlnjfjkaaW.PrintWords Go.Proofs.YtcnaefnlnjfjkaaW.PrintLast Go.Proofs.YtcnaefnlnjfjkaaW.PrintMore
def digB (c : UInt8) : Bool := decide (48 ≤ c.toNat) && decide (c.toNat ≤ 57)
def heads (l : List UInt8) : Nat := (l.takeWhile digB).length
theorem toList_len (s : ByteArray) : s.toList.length = s.size := by rw [ByteArray.toList_eq]; rfl
theorem head_l0 (s : ByteArray) (hs : s.size ≤ 1000000000) : ∀ d i : Nat, i + d = s.size → Ev (fun k => quant_head.l0 k s (i : Int)) ((i + heads (s.toList.drop i) : Nat) : Int) := by
  intro d
  induction d with
  | zero =>
    intro i h
    refine Ev.step (fun k => by rw [quant_head.l0]) ?_
    have h3 : ¬ ((i : Int) < (s.size : Int)) := by omega
    rw [List.drop_eq_nil_of_le (by rw [toList_len]; omega)]
    simp only [h3, if_false, heads, List.takeWhile_nil, List.length_nil, Nat.add_zero]
    exact Ev.now _
  | succ d ih =>
    intro i h
    refine Ev.step (fun k => by rw [quant_head.l0]) ?_
    have h3 : ((i : Int) < (s.size : Int)) := by omega
    have h4 : (0 : Int) ≤ (i : Int) := by omega
    have h5 : i < s.size := by omega
    simp only [h3, h4, if_true]
    rw [wrap_small (i := (i : Int) + 1) (by omega) (by omega), drop_bt s i h5, bt_nat s i h5]
    unfold heads
    rw [List.takeWhile_cons]
    refine ev_if (fun h6 => ev_if (fun h7 => ?_) (fun h7 => ?_)) (fun h6 => ?_)
    · have : digB s[i] = true := by simp [digB]; omega
      rw [this]
      have := ih (i + 1) (by omega)
      unfold heads at this
      rw [show i + 1 + (List.takeWhile digB (List.drop (i + 1) s.toList)).length = i + (s[i] :: List.takeWhile digB (List.drop (i + 1) s.toList)).length by simp; omega] at this
      exact this
    · have : digB s[i] = false := by simp [digB]; omega
      rw [this]
      exact Ev.now _
    · have : digB s[i] = false := by simp [digB]; omega
      rw [this]
      exact Ev.now _
theorem head_ev (s : ByteArray) (hs : s.size ≤ 1000000000) : Ev (fun k => quant_head.f k s) ((heads s.toList : Nat) : Int) := by
  have := head_l0 s hs s.size 0 (by omega)
  rw [List.drop_zero, Nat.zero_add] at this
  exact this
theorem refDigits_l0 (s : ByteArray) (hs : s.size ≤ 1000000000) : ∀ d i : Nat, i + d = s.size → Ev (fun k => triremeref03_digits.l0 k s (i : Int)) ((i + heads (s.toList.drop i) : Nat) : Int) := by
  intro d
  induction d with
  | zero =>
    intro i h
    refine Ev.step (fun k => by rw [triremeref03_digits.l0]) ?_
    have h3 : ¬ ((i : Int) < (s.size : Int)) := by omega
    rw [List.drop_eq_nil_of_le (by rw [toList_len]; omega)]
    simp only [h3, if_false, heads, List.takeWhile_nil, List.length_nil, Nat.add_zero]
    exact Ev.now _
  | succ d ih =>
    intro i h
    refine Ev.step (fun k => by rw [triremeref03_digits.l0]) ?_
    have h3 : ((i : Int) < (s.size : Int)) := by omega
    have h4 : (0 : Int) ≤ (i : Int) := by omega
    have h5 : i < s.size := by omega
    simp only [h3, h4, if_true]
    have e : triremeref03_digit.f (bt s (i : Int)) = some (digB s[i]) := by
      rw [bt_nat s i h5]
      unfold triremeref03_digit.f digB
      by_cases g1 : (((s[i]'h5).toNat : Int) ≥ 48) <;> by_cases g2 : (((s[i]'h5).toNat : Int) ≤ 57) <;> simp [g1, g2] <;> omega
    rw [e, wrap_small (i := (i : Int) + 1) (by omega) (by omega), drop_bt s i h5]
    simp only [Option.bind_some]
    unfold heads
    rw [List.takeWhile_cons]
    cases hg : digB s[i] with
    | true =>
      simp only [if_true]
      have := ih (i + 1) (by omega)
      unfold heads at this
      rw [show i + 1 + (List.takeWhile digB (List.drop (i + 1) s.toList)).length = i + (s[i] :: List.takeWhile digB (List.drop (i + 1) s.toList)).length by simp; omega] at this
      exact this
    | false => simp only [Bool.false_eq_true, if_false]; exact Ev.now _
theorem refDigits_ev (s : ByteArray) (hs : s.size ≤ 1000000000) : Ev (fun k => triremeref03_digits.f k s) ((heads s.toList : Nat) : Int) := by
  have := refDigits_l0 s hs s.size 0 (by omega)
  rw [List.drop_zero, Nat.zero_add] at this
  exact this
theorem heads_le (l : List UInt8) : heads l ≤ l.length := by
  have h := congrArg List.length (List.takeWhile_append_dropWhile (p := digB) (l := l))
  rw [List.length_append] at h
  unfold heads
  omega
theorem heads_all {l : List UInt8} (h : heads l = l.length) : ∀ c ∈ l, digB c = true := by
  unfold heads at h
  have e : l.takeWhile digB = l := by
    have h1 := List.takeWhile_append_dropWhile (p := digB) (l := l)
    have h2 := congrArg List.length h1
    rw [List.length_append] at h2
    have h3 : l.dropWhile digB = [] := List.eq_nil_of_length_eq_zero (by omega)
    rw [h3, List.append_nil] at h1
    exact h1
  intro c hc
  rw [← e] at hc
  exact List.all_eq_true.1 (List.all_takeWhile (p := digB) (l := l)) c hc
/-- The number that digits tell, behind n. -/
def dval : List UInt8 → Nat → Nat
  | [], n => n
  | c :: l, n => dval l (10 * n + (c.toNat - 48))
theorem dval_ge : ∀ (l : List UInt8) (n : Nat), n ≤ dval l n
  | [], n => Nat.le_refl _
  | c :: l, n => Nat.le_trans (by omega) (dval_ge l (10 * n + (c.toNat - 48)))
def valR (v most : Nat) : Int × Bool := if v ≤ most then ((v : Int), true) else (0, false)
theorem value_l0 (s : ByteArray) (most : Nat) (hm : 9 ≤ most) (hm2 : most ≤ 100000000000000000) (hs : s.size ≤ 1000000000) (hd : ∀ c ∈ s.toList, digB c = true) : ∀ (d i n : Nat), i + d = s.size → n ≤ most →
    Ev (fun k => quant_value.l0 k s (most : Int) (n : Int) (s.size : Int) (i : Int)) (valR (dval (s.toList.drop i) n) most) := by
  intro d
  induction d with
  | zero =>
    intro i n h hn
    refine Ev.step (fun k => by rw [quant_value.l0]) ?_
    have h3 : ¬ ((i : Int) < (s.size : Int)) := by omega
    rw [List.drop_eq_nil_of_le (by rw [toList_len]; omega)]
    simp only [h3, if_false, dval, valR, hn, if_true]
    exact Ev.now _
  | succ d ih =>
    intro i n h hn
    refine Ev.step (fun k => by rw [quant_value.l0]) ?_
    have h3 : ((i : Int) < (s.size : Int)) := by omega
    have h4 : (0 : Int) ≤ (i : Int) := by omega
    have h5 : i < s.size := by omega
    simp only [h3, h4, if_true]
    have hg : digB s[i] = true := hd _ (by
      have := drop_bt s i h5
      have h6 : s[i] ∈ s.toList.drop i := by rw [this]; exact List.mem_cons_self
      exact List.mem_of_mem_drop h6)
    simp only [digB, Bool.and_eq_true, decide_eq_true_eq] at hg
    rw [drop_bt s i h5, bt_nat s i h5]
    simp only [dval]
    have e1 : (((s[i]'h5).toNat : Int) - 48) % 256 = (((s[i]'h5).toNat - 48 : Nat) : Int) := by omega
    rw [e1]
    have hq9 : ((s[i]'h5).toNat - 48) ≤ 9 := by omega
    rw [wrap_small (i := (most : Int) - ((((s[i]'h5).toNat - 48) : Nat) : Int)) (by omega) (by omega), wrap_small (i := (i : Int) + 1) (by omega) (by omega)]
    have e2 : Int.tdiv ((most : Int) - ((((s[i]'h5).toNat - 48) : Nat) : Int)) 10 = (((most - ((s[i]'h5).toNat - 48)) / 10 : Nat) : Int) := by
      rw [show (most : Int) - ((((s[i]'h5).toNat - 48) : Nat) : Int) = ((most - ((s[i]'h5).toNat - 48) : Nat) : Int) by omega]
      rfl
    rw [e2, wrap_small (i := (((most - ((s[i]'h5).toNat - 48)) / 10 : Nat) : Int)) (by omega) (by omega)]
    refine ev_if (fun h6 => ?_) (fun h6 => ?_)
    · have h7 : most < 10 * n + ((s[i]'h5).toNat - 48) := by omega
      have h8 := dval_ge (s.toList.drop (i + 1)) (10 * n + ((s[i]'h5).toNat - 48))
      have h9 : ¬ (dval (s.toList.drop (i + 1)) (10 * n + ((s[i]'h5).toNat - 48)) ≤ most) := by omega
      unfold valR
      rw [if_neg h9]
      exact Ev.now _
    · have h7 : 10 * n + ((s[i]'h5).toNat - 48) ≤ most := by omega
      rw [wrap_small (i := 10 * (n : Int)) (by omega) (by omega), wrap_small (i := 10 * (n : Int) + ((((s[i]'h5).toNat - 48) : Nat) : Int)) (by omega) (by omega)]
      have := ih (i + 1) (10 * n + ((s[i]'h5).toNat - 48)) (by omega) h7
      rw [show ((10 * n + ((s[i]'h5).toNat - 48) : Nat) : Int) = 10 * (n : Int) + ((((s[i]'h5).toNat - 48) : Nat) : Int) by push_cast; rfl] at this
      exact this
theorem value_ev (s : ByteArray) (most : Nat) (hm : 9 ≤ most) (hm2 : most ≤ 100000000000000000) (hs : s.size ≤ 1000000000) (hd : ∀ c ∈ s.toList, digB c = true) :
    Ev (fun k => quant_value.f k s (most : Int)) (valR (dval s.toList 0) most) := by
  have := value_l0 s most hm hm2 hs hd s.size 0 0 (by omega) (by omega)
  rw [List.drop_zero] at this
  exact this
theorem min_dval (l : List UInt8) (a M : Nat) : min (dval l (min a M)) M = min (dval l a) M := by
  rcases Nat.le_total a M with h | h
  · rw [Nat.min_eq_left h]
  · rw [Nat.min_eq_right h]
    have h1 := dval_ge l M
    have h2 := dval_ge l a
    omega
theorem refValue_l0 (s : ByteArray) (hs : s.size ≤ 1000000000) (hd : ∀ c ∈ s.toList, digB c = true) : ∀ (d i n : Nat), i + d = s.size → n ≤ 1125899906842625 →
    Ev (fun k => triremeref03_value.l0 k s (n : Int) (i : Int)) ((min (dval (s.toList.drop i) n) 1125899906842625 : Nat) : Int) := by
  intro d
  induction d with
  | zero =>
    intro i n h hn
    refine Ev.step (fun k => by rw [triremeref03_value.l0]) ?_
    have h3 : ¬ ((i : Int) < (s.size : Int)) := by omega
    rw [List.drop_eq_nil_of_le (by rw [toList_len]; omega)]
    simp only [h3, if_false, dval, Nat.min_eq_left hn]
    exact Ev.now _
  | succ d ih =>
    intro i n h hn
    refine Ev.step (fun k => by rw [triremeref03_value.l0]) ?_
    have h3 : ((i : Int) < (s.size : Int)) := by omega
    have h4 : (0 : Int) ≤ (i : Int) := by omega
    have h5 : i < s.size := by omega
    simp only [h3, h4, if_true]
    have hg : digB s[i] = true := hd _ (by
      have := drop_bt s i h5
      have h6 : s[i] ∈ s.toList.drop i := by rw [this]; exact List.mem_cons_self
      exact List.mem_of_mem_drop h6)
    simp only [digB, Bool.and_eq_true, decide_eq_true_eq] at hg
    rw [drop_bt s i h5, bt_nat s i h5]
    simp only [dval]
    have e1 : (((s[i]'h5).toNat : Int) - 48) % 256 = (((s[i]'h5).toNat - 48 : Nat) : Int) := by omega
    rw [e1]
    have hq9 : ((s[i]'h5).toNat - 48) ≤ 9 := by omega
    rw [wrap_small (i := (i : Int) + 1) (by omega) (by omega), wrap_small (i := 10 * (n : Int)) (by omega) (by omega), wrap_small (i := 10 * (n : Int) + ((((s[i]'h5).toNat - 48) : Nat) : Int)) (by omega) (by omega)]
    have e2 : mn (10 * (n : Int) + ((((s[i]'h5).toNat - 48) : Nat) : Int)) 1125899906842625 = ((min (10 * n + ((s[i]'h5).toNat - 48)) 1125899906842625 : Nat) : Int) := by unfold mn; split <;> omega
    rw [e2, ← min_dval]
    exact ih (i + 1) _ (by omega) (by omega)
theorem refValue_ev (s : ByteArray) (hs : s.size ≤ 1000000000) (hd : ∀ c ∈ s.toList, digB c = true) : Ev (fun k => triremeref03_value.f k s) ((min (dval s.toList 0) 1125899906842625 : Nat) : Int) := by
  have := refValue_l0 s hs hd s.size 0 0 (by omega) (by omega)
  rw [List.drop_zero] at this
  exact this
/-- A number's number, or what is wrong. -/
def numR (s : ByteArray) : Int × Int :=
  if s.size = 0 then (0, 8) else if heads s.toList < s.size then (0, 8) else if dval s.toList 0 ≤ 1125899906842624 then (((dval s.toList 0 : Nat) : Int), 0) else (0, 10)
theorem quantNumber_ev (s : ByteArray) (hs : s.size ≤ 1000000000) : Ev (fun k => quant_Number.f k s) (numR s) := by
  have hj : ∀ b : Bool, (b = true → (s.size = 0 ∨ heads s.toList < s.size)) → (b = false → s.size ≠ 0 ∧ heads s.toList = s.size) → Ev (fun k => quant_Number.j0 k s b) (numR s) := by
    intro b h1 h2
    refine Ev.step (fun k => by rw [quant_Number.j0]) ?_
    unfold numR
    cases b with
    | true =>
      simp only [if_true]
      have h3 := h1 rfl
      by_cases h4 : s.size = 0
      · rw [if_pos h4]; exact Ev.now _
      · rw [if_neg h4, if_pos (by omega)]; exact Ev.now _
    | false =>
      simp only [Bool.false_eq_true, if_false]
      have h3 := h2 rfl
      rw [if_neg h3.1, if_neg (by omega)]
      refine Ev.bind (value_ev s 1125899906842624 (by omega) (by omega) hs (heads_all (by rw [toList_len]; exact h3.2))) ?_
      by_cases h4 : dval s.toList 0 ≤ 1125899906842624
      · simp only [valR, h4, if_true]; exact Ev.now _
      · simp only [valR, h4, if_false, Bool.false_eq_true]; exact Ev.now _
  unfold quant_Number.f
  refine ev_if (fun h => ?_) (fun h => ?_)
  · exact hj true (fun _ => Or.inl (by have := toList_len s; rw [h] at this; exact this.symm)) (fun e => by cases e)
  · refine Ev.bind (head_ev s hs) ?_
    have hl := heads_le s.toList
    rw [toList_len] at hl
    have hne : s.size ≠ 0 := fun e => h (List.eq_nil_of_length_eq_zero (by rw [toList_len]; exact e))
    refine hj _ (fun e => Or.inr ?_) (fun e => ⟨hne, ?_⟩)
    · simp at e; omega
    · simp at e; omega
theorem refNumber_ev (s : ByteArray) (hs : s.size ≤ 1000000000) : Ev (fun k => triremeref03_Number.f k s) (numR s) := by
  have hj : ∀ b : Bool, (b = true → (s.size = 0 ∨ heads s.toList < s.size)) → (b = false → s.size ≠ 0 ∧ heads s.toList = s.size) → Ev (fun k => triremeref03_Number.j0 k s b) (numR s) := by
    intro b h1 h2
    refine Ev.step (fun k => by rw [triremeref03_Number.j0]) ?_
    unfold numR
    cases b with
    | true =>
      simp only [if_true]
      have h3 := h1 rfl
      by_cases h4 : s.size = 0
      · rw [if_pos h4]; exact Ev.now _
      · rw [if_neg h4, if_pos (by omega)]; exact Ev.now _
    | false =>
      simp only [Bool.false_eq_true, if_false]
      have h3 := h2 rfl
      rw [if_neg h3.1, if_neg (by omega)]
      refine Ev.bind (refValue_ev s hs (heads_all (by rw [toList_len]; exact h3.2))) ?_
      by_cases h4 : dval s.toList 0 ≤ 1125899906842624
      · rw [if_pos h4, Nat.min_eq_left (by omega)]
        have h5 : ¬ (((dval s.toList 0 : Nat) : Int) > 1125899906842624) := by omega
        simp only [h5, if_false]
        exact Ev.now _
      · rw [if_neg h4, Nat.min_eq_right (by omega)]
        exact Ev.now _
  unfold triremeref03_Number.f
  refine ev_if (fun h => ?_) (fun h => ?_)
  · exact hj true (fun _ => Or.inl (by omega)) (fun e => by cases e)
  · refine Ev.bind (refDigits_ev s hs) ?_
    have hl := heads_le s.toList
    rw [toList_len] at hl
    refine hj _ (fun e => Or.inr ?_) (fun e => ⟨by omega, ?_⟩)
    · simp at e; omega
    · simp at e; omega
end Go.Proofs.Ytcnaefnlnjfjkaa.H
end
section
namespace Go.Proofs.Ytcnaefnlnjfjkaa.H
open Go.RowKit Go.Proofs.YtcnaefnlnjfjkaaW.PrintWords Go.Proofs.YtcnaefnlnjfjkaaW.PrintLast
theorem rdOf_nat (vs : List ByteArray) (i : Nat) (h : i < vs.length) : rdOf ByteArray.empty vs (i : Int) = vs[i] := by
  unfold rdOf
  simp [List.getD_eq_getElem?_getD, h]
theorem rd37_nat (xs : List S37) (i : Nat) (h : i < xs.length) : rd_T37 xs (i : Int) = xs[i] := by
  unfold rd_T37
  simp [List.getD_eq_getElem?_getD, h]
def LightT (key : ByteArray) (vs : List ByteArray) : Prop := vs.length ≤ 40 ∧ key.size ≤ 300 ∧ ∀ v ∈ vs, v.size ≤ 300
theorem lightTerm_l0 (key : ByteArray) (op : Int) (vs : List ByteArray) (hl : vs.length ≤ 40) : ∀ d i : Nat, i + d = vs.length → ∃ b, Ev (fun k => triremeref05_LightTerm.l0 k (i : Int) key op vs) b ∧ (b = true → ∀ v ∈ vs.drop i, v.size ≤ 300) := by
  intro d
  induction d with
  | zero =>
    intro i h
    refine ⟨true, Ev.step (fun k => by rw [triremeref05_LightTerm.l0]) ?_, fun _ v hv => by rw [List.drop_eq_nil_of_le (by omega)] at hv; cases hv⟩
    have h3 : ¬ ((i : Int) < (vs.length : Int)) := by omega
    simp only [h3, if_false]
    exact Ev.now _
  | succ d ih =>
    intro i h
    have h3 : ((i : Int) < (vs.length : Int)) := by omega
    have h4 : (0 : Int) ≤ (i : Int) := by omega
    have h5 : i < vs.length := by omega
    by_cases h6 : vs[i].size ≤ 300
    · obtain ⟨b, hb, hb2⟩ := ih (i + 1) (by omega)
      refine ⟨b, Ev.step (fun k => by rw [triremeref05_LightTerm.l0]) ?_, fun e v hv => ?_⟩
      · have h7 : ¬ ((vs[i].size : Int) > 300) := by omega
        rw [rdOf_nat vs i h5, wrap_small (i := (i : Int) + 1) (by omega) (by omega)]
        simp only [h3, h4, h7, if_true, if_false]
        exact hb
      · rw [List.drop_eq_getElem_cons h5] at hv
        rcases List.mem_cons.1 hv with rfl | hv
        · exact h6
        · exact hb2 e v hv
    · refine ⟨false, Ev.step (fun k => by rw [triremeref05_LightTerm.l0]) ?_, fun e => by cases e⟩
      have h7 : ((vs[i].size : Int) > 300) := by omega
      rw [rdOf_nat vs i h5]
      simp only [h3, h4, h7, if_true]
      exact Ev.now _
theorem lightTerm_ev (key : ByteArray) (op : Int) (vs : List ByteArray) : ∃ b, Ev (fun k => triremeref05_LightTerm.f k key op vs) b ∧ (b = true → LightT key vs) := by
  unfold triremeref05_LightTerm.f
  by_cases h : vs.length ≤ 40
  · have h3 : ¬ ((vs.length : Int) > 40) := by omega
    simp only [h3, if_false]
    by_cases h2 : key.size ≤ 300
    · obtain ⟨b, hb, hb2⟩ := lightTerm_l0 key op vs h vs.length 0 (by omega)
      refine ⟨b, Ev.step (fun k => by rw [triremeref05_LightTerm.j0]) ?_, fun e => ⟨h, h2, hb2 e⟩⟩
      have h4 : decide ((key.size : Int) > 300) = false := decide_eq_false (by omega)
      rw [h4]
      simp only [Bool.false_eq_true, if_false]
      exact hb
    · refine ⟨false, Ev.step (fun k => by rw [triremeref05_LightTerm.j0]) ?_, fun e => by cases e⟩
      have h4 : decide ((key.size : Int) > 300) = true := decide_eq_true (by omega)
      rw [h4]
      simp only [if_true]
      exact Ev.now _
  · have h3 : ((vs.length : Int) > 40) := by omega
    simp only [h3, if_true]
    refine ⟨false, Ev.step (fun k => by rw [triremeref05_LightTerm.j0]) ?_, fun e => by cases e⟩
    simp only [if_true]
    exact Ev.now _
def RightT (op : Int) (vs : List ByteArray) : Prop := op = 1 ∨ op = 2 ∨ op = 3 ∨ op = 4 ∨ ((op = 5 ∨ op = 6) ∧ vs.length = 1)
theorem rightTerm_j3 (key : ByteArray) (op : Int) (vs : List ByteArray) (hv : ∀ v ∈ vs, v.size ≤ 300) (c : Bool) (hc : c = true → op = 5 ∨ op = 6) : ∃ b, Ev (fun k => triremeref05_RightTerm.j3 k c key op vs) b ∧ (b = true → RightT op vs) := by
  by_cases h1 : c = true ∧ vs.length = 1
  · obtain ⟨rfl, h2⟩ := h1
    have h3 : ((vs.length : Int) = 1) := by omega
    have h4 : ((0 : Int) < (vs.length : Int)) := by omega
    have h5 := rdOf_nat vs 0 (by omega)
    have hn := refNumber_ev vs[0] (by have := hv vs[0] (List.getElem_mem _); omega)
    refine ⟨(numR vs[0]).2 == 0, Ev.step (fun k => by rw [triremeref05_RightTerm.j3]) ?_, fun _ => Or.inr (Or.inr (Or.inr (Or.inr ⟨hc rfl, h2⟩)))⟩
    simp only [if_true, h3]
    rw [show rdOf ByteArray.empty vs 0 = vs[0] from h5]
    simp only [Int.zero_lt_one, if_true]
    exact Ev.bind hn (Ev.now _)
  · refine ⟨false, Ev.step (fun k => by rw [triremeref05_RightTerm.j3]) ?_, fun e => by cases e⟩
    cases c with
    | false => simp only [Bool.false_eq_true, if_false]; exact Ev.now _
    | true =>
      have h3 : ¬ ((vs.length : Int) = 1) := fun e => h1 ⟨rfl, by omega⟩
      simp only [if_true, h3, if_false]
      exact Ev.now _
theorem rightTerm_j2 (key : ByteArray) (op : Int) (vs : List ByteArray) (hv : ∀ v ∈ vs, v.size ≤ 300) (c : Bool) (hc : c = true → op = 3 ∨ op = 4) : ∃ b, Ev (fun k => triremeref05_RightTerm.j2 k op c key op vs) b ∧ (b = true → RightT op vs) := by
  cases c with
  | true => exact ⟨_, Ev.step (fun k => by rw [triremeref05_RightTerm.j2]) (by simp only [if_true]; exact Ev.now _), fun _ => by rcases hc rfl with h | h; exact Or.inr (Or.inr (Or.inl h)); exact Or.inr (Or.inr (Or.inr (Or.inl h)))⟩
  | false =>
    by_cases h5 : op = 5
    · obtain ⟨b, hb, hb2⟩ := rightTerm_j3 key op vs hv (op == 5) (fun h => Or.inl (by simpa using h))
      exact ⟨b, Ev.step (fun k => by rw [triremeref05_RightTerm.j2]) (by simp only [Bool.false_eq_true, if_false, h5, if_true] at hb ⊢; exact hb), hb2⟩
    · obtain ⟨b, hb, hb2⟩ := rightTerm_j3 key op vs hv (op == 6) (fun h => Or.inr (by simpa using h))
      exact ⟨b, Ev.step (fun k => by rw [triremeref05_RightTerm.j2]) (by simp only [Bool.false_eq_true, if_false, h5]; exact hb), hb2⟩
theorem rightTerm_l0 (key : ByteArray) (op : Int) (vs : List ByteArray) (hl : vs.length ≤ 40) (hv : ∀ v ∈ vs, v.size ≤ 300) : ∀ d i : Nat, i + d = vs.length → ∃ b, Ev (fun k => triremeref05_RightTerm.l0 k (i : Int) key op vs) b := by
  intro d
  induction d with
  | zero =>
    intro i h
    have h3 : ¬ ((i : Int) < (vs.length : Int)) := by omega
    by_cases h4 : (vs.length : Int) ≥ 1
    · exact ⟨_, Ev.step (fun k => by rw [triremeref05_RightTerm.l0]) (by simp only [h3, if_false, h4, if_true]; exact Ev.now _)⟩
    · exact ⟨_, Ev.step (fun k => by rw [triremeref05_RightTerm.l0]) (by simp only [h3, if_false, h4]; exact Ev.now _)⟩
  | succ d ih =>
    intro i h
    have h3 : ((i : Int) < (vs.length : Int)) := by omega
    have h4 : (0 : Int) ≤ (i : Int) := by omega
    have h5 : i < vs.length := by omega
    have hm := refMaybe_ev vs[i] (by have := hv vs[i] (List.getElem_mem _); omega)
    obtain ⟨b, hb⟩ := ih (i + 1) (by omega)
    cases hr : refMaybe vs[i] with
    | true =>
      refine ⟨b, Ev.step (fun k => by rw [triremeref05_RightTerm.l0]) ?_⟩
      rw [rdOf_nat vs i h5, wrap_small (i := (i : Int) + 1) (by omega) (by omega)]
      simp only [h3, h4, if_true]
      rw [hr] at hm
      refine Ev.bind hm ?_
      simp only [if_true]
      exact hb
    | false =>
      refine ⟨false, Ev.step (fun k => by rw [triremeref05_RightTerm.l0]) ?_⟩
      rw [rdOf_nat vs i h5]
      simp only [h3, h4, if_true]
      rw [hr] at hm
      refine Ev.bind hm ?_
      simp only [Bool.false_eq_true, if_false]
      exact Ev.now _
theorem rightTerm_j0 (key : ByteArray) (op : Int) (vs : List ByteArray) (hl : vs.length ≤ 40) (hv : ∀ v ∈ vs, v.size ≤ 300) (c : Bool) (hc : c = true → op = 1 ∨ op = 2) : ∃ b, Ev (fun k => triremeref05_RightTerm.j0 k op c key op vs) b ∧ (b = true → RightT op vs) := by
  cases c with
  | true =>
    obtain ⟨b, hb⟩ := rightTerm_l0 key op vs hl hv vs.length 0 (by omega)
    refine ⟨b, Ev.step (fun k => by rw [triremeref05_RightTerm.j0]) (by simp only [if_true]; exact hb), fun _ => ?_⟩
    rcases hc rfl with h | h
    · exact Or.inl h
    · exact Or.inr (Or.inl h)
  | false =>
    by_cases h5 : op = 3
    · obtain ⟨b, hb, hb2⟩ := rightTerm_j2 key op vs hv (op == 3) (fun h => Or.inl (by simpa using h))
      exact ⟨b, Ev.step (fun k => by rw [triremeref05_RightTerm.j0]) (by simp only [Bool.false_eq_true, if_false, h5, if_true] at hb ⊢; exact hb), hb2⟩
    · obtain ⟨b, hb, hb2⟩ := rightTerm_j2 key op vs hv (op == 4) (fun h => Or.inr (by simpa using h))
      exact ⟨b, Ev.step (fun k => by rw [triremeref05_RightTerm.j0]) (by simp only [Bool.false_eq_true, if_false, h5]; exact hb), hb2⟩
theorem rightTerm_ev (key : ByteArray) (op : Int) (vs : List ByteArray) (h : LightT key vs) : ∃ b, Ev (fun k => triremeref05_RightTerm.f k key op vs) b ∧ (b = true → RightT op vs) := by
  unfold triremeref05_RightTerm.f
  have hw := word_ev key (by have := h.2.1; omega)
  cases hb : lexWordB key with
  | false =>
    rw [hb] at hw
    refine ⟨false, Ev.bind hw ?_, fun e => by cases e⟩
    simp only [Bool.false_eq_true, if_false]
    exact Ev.now _
  | true =>
    rw [hb] at hw
    by_cases h1 : op = 1
    · obtain ⟨b, hb, hb2⟩ := rightTerm_j0 key op vs h.1 h.2.2 (op == 1) (fun h => Or.inl (by simpa using h))
      refine ⟨b, Ev.bind hw ?_, hb2⟩
      simp only [if_true, h1] at hb ⊢
      exact hb
    · obtain ⟨b, hb, hb2⟩ := rightTerm_j0 key op vs h.1 h.2.2 (op == 2) (fun h => Or.inr (by simpa using h))
      refine ⟨b, Ev.bind hw ?_, hb2⟩
      simp only [if_true, h1, if_false]
      exact hb
def anyB (vs : List ByteArray) (v : ByteArray) : Bool := vs.any (fun u => u.toList == v.toList)
theorem among_l0 (vs : List ByteArray) (v : ByteArray) (hl : vs.length ≤ 1000) : ∀ d i : Nat, i + d = vs.length → Ev (fun k => labels_among.l0 k v vs (vs.length : Int) (i : Int)) (anyB (vs.drop i) v) := by
  intro d
  induction d with
  | zero =>
    intro i h
    refine Ev.step (fun k => by rw [labels_among.l0]) ?_
    have h3 : ¬ ((i : Int) < (vs.length : Int)) := by omega
    rw [List.drop_eq_nil_of_le (by omega)]
    simp only [h3, if_false]
    exact Ev.now _
  | succ d ih =>
    intro i h
    refine Ev.step (fun k => by rw [labels_among.l0]) ?_
    have h3 : ((i : Int) < (vs.length : Int)) := by omega
    have h4 : (0 : Int) ≤ (i : Int) := by omega
    have h5 : i < vs.length := by omega
    rw [rdOf_nat vs i h5, wrap_small (i := (i : Int) + 1) (by omega) (by omega), List.drop_eq_getElem_cons h5]
    simp only [h3, h4, if_true]
    unfold anyB
    rw [List.any_cons]
    refine ev_if (fun h6 => ?_) (fun h6 => ?_)
    · rw [show (vs[i].toList == v.toList) = true by simp [h6]]
      exact Ev.now _
    · rw [show (vs[i].toList == v.toList) = false by simp [h6], Bool.false_or]
      exact ih (i + 1) (by omega)
theorem among_ev (vs : List ByteArray) (v : ByteArray) (hl : vs.length ≤ 1000) : Ev (fun k => labels_among.f k vs v) (anyB vs v) := by
  have := among_l0 vs v hl vs.length 0 (by omega)
  rw [List.drop_zero] at this
  exact this
theorem lnumber_ev (s : ByteArray) (hs : s.size ≤ 1000000000) : Ev (fun k => labels_number.f k s) ((numR s).1, (numR s).2 == 0) := by
  unfold labels_number.f
  exact Ev.bind (quantNumber_ev s hs) (Ev.now _)
def meetR (g : ByteArray × Bool) (op : Int) (vs : List ByteArray) : Bool :=
  if op = 1 then g.2 && anyB vs g.1 else if op = 2 then !(g.2 && anyB vs g.1) else if op = 3 then g.2 else if op = 4 then !g.2
  else g.2 && ((numR g.1).2 == 0 && (if op = 6 then decide ((numR (vs.headD ByteArray.empty)).1 > (numR g.1).1) else decide ((numR g.1).1 > (numR (vs.headD ByteArray.empty)).1)))
theorem getB_size {key : ByteArray} {xs : List S31} (hx : ∀ x ∈ xs, x.f0.size ≤ 300 ∧ x.f1.size ≤ 300) : (getB key xs).1.size ≤ 300 := by
  unfold getB
  cases h : onward key xs with
  | nil => exact Nat.zero_le 300
  | cons y ys =>
    simp only []
    split
    · have hm : y ∈ xs := by
        have e := ahead_onward key xs
        rw [← e, h]
        exact List.mem_append_right _ List.mem_cons_self
      exact (hx y hm).2
    · exact Nat.zero_le 300
theorem meets_ev (xs : List S31) (key : ByteArray) (op : Int) (vs : List ByteArray) (hl : xs.length ≤ 40) (hx : ∀ x ∈ xs, x.f0.size ≤ 300 ∧ x.f1.size ≤ 300) (ht : LightT key vs) (hr : RightT op vs) :
    Ev (fun k => labels_Meets.f k xs key op vs) (meetR (getB key xs) op vs) := by
  unfold labels_Meets.f
  refine Ev.bind (get_ev xs key (by omega)) ?_
  have hg := getB_size (key := key) hx
  generalize getB key xs = g at *
  unfold meetR
  by_cases h1 : op = 1
  · rw [if_pos h1]
    simp only [h1, if_true]
    refine ev_if (fun h => ?_) (fun h => ?_)
    · rw [h, Bool.true_and]
      exact Ev.bind (among_ev vs g.1 (by have := ht.1; omega)) (Ev.now _)
    · rw [Bool.eq_false_iff.2 h, Bool.false_and]
      exact Ev.now _
  rw [if_neg h1]
  simp only [h1, if_false]
  by_cases h2 : op = 2
  · rw [if_pos h2]
    simp only [h2, if_true]
    refine ev_if (fun h => ?_) (fun h => ?_)
    · rw [h, Bool.true_and]
      exact Ev.bind (among_ev vs g.1 (by have := ht.1; omega)) (Ev.now _)
    · rw [Bool.eq_false_iff.2 h, Bool.false_and]
      exact Ev.now _
  rw [if_neg h2]
  simp only [h2, if_false]
  by_cases h3 : op = 3
  · rw [if_pos h3]; simp only [h3, if_true]; exact Ev.now _
  rw [if_neg h3]
  simp only [h3, if_false]
  by_cases h4 : op = 4
  · rw [if_pos h4]; simp only [h4, if_true]; exact Ev.now _
  rw [if_neg h4]
  simp only [h4, if_false]
  have h5 : (op = 5 ∨ op = 6) ∧ vs.length = 1 := by rcases hr with h | h | h | h | h <;> first | exact h | exact absurd h (by assumption)
  obtain ⟨u, rfl⟩ : ∃ u, vs = [u] := List.length_eq_one_iff.1 h5.2
  refine ev_if (fun h => ?_) (fun h => ?_)
  · rw [h, Bool.true_and]
    refine Ev.step (fun k => by rw [labels_Meets.j0]) ?_
    have e : (((([u] : List ByteArray).length : Nat) : Int) != 1) = false := rfl
    rw [e]
    simp only [Bool.false_eq_true, if_false]
    refine Ev.bind (lnumber_ev g.1 (by omega)) ?_
    have e2 : (0 : Int) < ((([u] : List ByteArray).length : Nat) : Int) := by simp
    simp only [e2, if_true]
    refine Ev.bind (lnumber_ev u (by have := ht.2.2 u (by simp); omega)) ?_
    refine ev_if (fun h6 => ?_) (fun h6 => ?_)
    · rw [if_pos h6]
      refine ev_if (fun h7 => ?_) (fun h7 => ?_)
      · rw [h7, Bool.true_and]; exact Ev.now _
      · rw [Bool.eq_false_iff.2 h7, Bool.false_and]; exact Ev.now _
    · rw [if_neg h6]
      refine ev_if (fun h7 => ?_) (fun h7 => ?_)
      · rw [h7, Bool.true_and]; exact Ev.now _
      · rw [Bool.eq_false_iff.2 h7, Bool.false_and]; exact Ev.now _
  · rw [Bool.eq_false_iff.2 h, Bool.false_and]
    refine Ev.step (fun k => by rw [labels_Meets.j0]) ?_
    simp only [if_true]
    exact Ev.now _
theorem refMeets_l0 (g : ByteArray × Bool) (key : ByteArray) (op : Int) (vs : List ByteArray) (hl : vs.length ≤ 40) (hg : g.1.size ≤ 300) (hv : ∀ v ∈ vs, v.size ≤ 300) (hr : RightT op vs) : ∀ (d i : Nat) (c : Bool), i + d = vs.length → (c || (g.2 && anyB (vs.drop i) g.1)) = (g.2 && anyB vs g.1) →
    Ev (fun k => triremeref05_Meets.l0 k g.1 g.2 c (i : Int) key op vs) (meetR g op vs) := by
  intro d
  induction d with
  | zero =>
    intro i c h hc
    refine Ev.step (fun k => by rw [triremeref05_Meets.l0]) ?_
    have h3 : ¬ ((i : Int) < (vs.length : Int)) := by omega
    rw [List.drop_eq_nil_of_le (by omega)] at hc
    have hc2 : c = (g.2 && anyB vs g.1) := by rw [← hc]; simp [anyB]
    simp only [h3, if_false]
    unfold meetR
    by_cases h1 : op = 1
    · rw [if_pos h1]; simp only [h1, if_true]; rw [hc2]; exact Ev.now _
    rw [if_neg h1]; simp only [h1, if_false]
    by_cases h2 : op = 2
    · rw [if_pos h2]; simp only [h2, if_true]; rw [hc2]; exact Ev.now _
    rw [if_neg h2]; simp only [h2, if_false]
    by_cases h3 : op = 3
    · rw [if_pos h3]; simp only [h3, if_true]; exact Ev.now _
    rw [if_neg h3]; simp only [h3, if_false]
    by_cases h4 : op = 4
    · rw [if_pos h4]; simp only [h4, if_true]; exact Ev.now _
    rw [if_neg h4]; simp only [h4, if_false]
    have h5 : (op = 5 ∨ op = 6) ∧ vs.length = 1 := by rcases hr with h | h | h | h | h <;> first | exact h | exact absurd h (by assumption)
    obtain ⟨u, rfl⟩ : ∃ u, vs = [u] := List.length_eq_one_iff.1 h5.2
    refine Ev.bind (refNumber_ev g.1 (by omega)) ?_
    have e2 : (0 : Int) < ((([u] : List ByteArray).length : Nat) : Int) := by simp
    simp only [e2, if_true]
    refine Ev.bind (refNumber_ev u (by have := hv u (by simp); omega)) ?_
    have hj : ∀ c : Bool, Ev (fun k => triremeref05_Meets.j1 k (numR g.1).1 (numR u).1 c key op [u]) (!c && (if op = 6 then decide ((numR u).1 > (numR g.1).1) else decide ((numR g.1).1 > (numR u).1))) := by
      intro c
      refine Ev.step (fun k => by rw [triremeref05_Meets.j1]) ?_
      cases c with
      | true => simp only [if_true, Bool.not_true, Bool.false_and]; exact Ev.now _
      | false =>
        simp only [Bool.false_eq_true, if_false, Bool.not_false, Bool.true_and]
        rcases h5.1 with h6 | h6
        · have h7 : ¬ (op = 6) := by omega
          rw [if_neg h7]
          simp only [h6, if_true]
          exact Ev.now _
        · have h7 : ¬ (op = 5) := by omega
          rw [if_pos h6]
          simp only [h7, if_false]
          exact Ev.now _
    refine ev_if (fun h6 => ?_) (fun h6 => ?_)
    · rw [h6, Bool.true_and]
      have := hj ((numR g.1).2 != 0)
      rw [show (!((numR g.1).2 != 0)) = ((numR g.1).2 == 0) by simp [bne]] at this
      exact this
    · rw [Bool.eq_false_iff.2 h6, Bool.false_and]
      exact hj true
  | succ d ih =>
    intro i c h hc
    refine Ev.step (fun k => by rw [triremeref05_Meets.l0]) ?_
    have h3 : ((i : Int) < (vs.length : Int)) := by omega
    have h4 : (0 : Int) ≤ (i : Int) := by omega
    have h5 : i < vs.length := by omega
    rw [rdOf_nat vs i h5, wrap_small (i := (i : Int) + 1) (by omega) (by omega)]
    simp only [h3, h4, if_true]
    rw [List.drop_eq_getElem_cons h5] at hc
    unfold anyB at hc
    rw [List.any_cons] at hc
    refine ev_if (fun h6 => ?_) (fun h6 => ev_if (fun h7 => ?_) (fun h7 => ?_))
    · refine ih (i + 1) true (by omega) ?_
      rw [h6] at hc
      simp only [Bool.true_or] at hc ⊢
      exact hc
    · refine ih (i + 1) _ (by omega) ?_
      rw [Bool.eq_false_iff.2 h6, h7] at hc
      rw [h7]
      simp only [Bool.false_or, Bool.true_and] at hc ⊢
      exact hc
    · refine ih (i + 1) false (by omega) ?_
      rw [Bool.eq_false_iff.2 h7]
      simp
theorem refMeets_ev (xs : List S31) (key : ByteArray) (op : Int) (vs : List ByteArray) (hl : xs.length ≤ 40) (hx : ∀ x ∈ xs, x.f0.size ≤ 300 ∧ x.f1.size ≤ 300) (hs : Rises xs) (ht : LightT key vs) (hr : RightT op vs) :
    Ev (fun k => triremeref05_Meets.f k xs key op vs) (meetR (getB key xs) op vs) := by
  unfold triremeref05_Meets.f
  refine Ev.bind (refGet_ev xs key (by omega)) ?_
  rw [get_alike key xs hs]
  exact refMeets_l0 (getB key xs) key op vs ht.1 (getB_size hx) ht.2.2 hr vs.length 0 false (by omega) (by rw [List.drop_zero]; rfl)
def hasB (xs : List S31) (ys : List S31) : Bool := ys.all (fun y => (getB y.f0 xs).2 && decide ((getB y.f0 xs).1.toList = y.f1.toList))
theorem has_l0 (xs ys : List S31) (hl : xs.length ≤ 40) (hy : ys.length ≤ 40) : ∀ d i : Nat, i + d = ys.length → Ev (fun k => labels_Has.l0 k xs ys (ys.length : Int) (i : Int)) (hasB xs (ys.drop i)) := by
  intro d
  induction d with
  | zero =>
    intro i h
    refine Ev.step (fun k => by rw [labels_Has.l0]) ?_
    have h3 : ¬ ((i : Int) < (ys.length : Int)) := by omega
    rw [List.drop_eq_nil_of_le (by omega)]
    simp only [h3, if_false]
    exact Ev.now _
  | succ d ih =>
    intro i h
    refine Ev.step (fun k => by rw [labels_Has.l0]) ?_
    have h3 : ((i : Int) < (ys.length : Int)) := by omega
    have h4 : (0 : Int) ≤ (i : Int) := by omega
    have h5 : i < ys.length := by omega
    rw [rd_nat ys i h5, wrap_small (i := (i : Int) + 1) (by omega) (by omega), List.drop_eq_getElem_cons h5]
    simp only [h3, h4, if_true]
    refine Ev.bind (get_ev xs _ (by omega)) ?_
    unfold hasB
    rw [List.all_cons]
    refine ev_if (fun h6 => ev_if (fun h7 => ?_) (fun h7 => ?_)) (fun h6 => ?_)
    · rw [h6, decide_eq_true h7]; exact ih (i + 1) (by omega)
    · rw [decide_eq_false h7, Bool.and_false, Bool.false_and]; exact Ev.now _
    · rw [Bool.eq_false_iff.2 h6, Bool.false_and, Bool.false_and]; exact Ev.now _
theorem has_ev (xs ys : List S31) (hl : xs.length ≤ 40) (hy : ys.length ≤ 40) : Ev (fun k => labels_Has.f k xs ys) (hasB xs ys) := by
  have := has_l0 xs ys hl hy ys.length 0 (by omega)
  rw [List.drop_zero] at this
  exact this
theorem refHas_l0 (xs ys : List S31) (hl : xs.length ≤ 40) (hy : ys.length ≤ 40) (hs : Rises xs) : ∀ d i : Nat, i + d = ys.length → Ev (fun k => triremeref05_Has.l0 k xs ys (i : Int)) (hasB xs (ys.drop i)) := by
  intro d
  induction d with
  | zero =>
    intro i h
    refine Ev.step (fun k => by rw [triremeref05_Has.l0]) ?_
    have h3 : ¬ ((i : Int) < (ys.length : Int)) := by omega
    rw [List.drop_eq_nil_of_le (by omega)]
    simp only [h3, if_false]
    exact Ev.now _
  | succ d ih =>
    intro i h
    refine Ev.step (fun k => by rw [triremeref05_Has.l0]) ?_
    have h3 : ((i : Int) < (ys.length : Int)) := by omega
    have h4 : (0 : Int) ≤ (i : Int) := by omega
    have h5 : i < ys.length := by omega
    rw [rd_nat ys i h5, wrap_small (i := (i : Int) + 1) (by omega) (by omega), List.drop_eq_getElem_cons h5]
    simp only [h3, h4, if_true]
    refine Ev.bind (refGet_ev xs _ (by omega)) ?_
    rw [get_alike _ xs hs]
    unfold hasB
    rw [List.all_cons]
    refine ev_if (fun h6 => ev_if (fun h7 => ?_) (fun h7 => ?_)) (fun h6 => ?_)
    · rw [h6, decide_eq_true h7]; exact ih (i + 1) (by omega)
    · rw [decide_eq_false h7, Bool.and_false, Bool.false_and]; exact Ev.now _
    · rw [Bool.eq_false_iff.2 h6, Bool.false_and, Bool.false_and]; exact Ev.now _
theorem refHas_ev (xs ys : List S31) (hl : xs.length ≤ 40) (hy : ys.length ≤ 40) (hs : Rises xs) : Ev (fun k => triremeref05_Has.f k xs ys) (hasB xs ys) := by
  have := refHas_l0 xs ys hl hy hs ys.length 0 (by omega)
  rw [List.drop_zero] at this
  exact this
def allB (xs : List S31) (ts : List S37) : Bool := ts.all (fun t => meetR (getB t.f0 xs) t.f1 t.f2)
def RightTs (ts : List S37) : Prop := ∀ t ∈ ts, LightT t.f0 t.f2 ∧ RightT t.f1 t.f2
theorem all_l0 (xs : List S31) (ts : List S37) (hl : xs.length ≤ 40) (hx : ∀ x ∈ xs, x.f0.size ≤ 300 ∧ x.f1.size ≤ 300) (htl : ts.length ≤ 40) (ht : RightTs ts) : ∀ d i : Nat, i + d = ts.length → Ev (fun k => labels_All.l0 k xs ts (ts.length : Int) (i : Int)) (allB xs (ts.drop i)) := by
  intro d
  induction d with
  | zero =>
    intro i h
    refine Ev.step (fun k => by rw [labels_All.l0]) ?_
    have h3 : ¬ ((i : Int) < (ts.length : Int)) := by omega
    rw [List.drop_eq_nil_of_le (by omega)]
    simp only [h3, if_false]
    exact Ev.now _
  | succ d ih =>
    intro i h
    refine Ev.step (fun k => by rw [labels_All.l0]) ?_
    have h3 : ((i : Int) < (ts.length : Int)) := by omega
    have h4 : (0 : Int) ≤ (i : Int) := by omega
    have h5 : i < ts.length := by omega
    rw [rd37_nat ts i h5, wrap_small (i := (i : Int) + 1) (by omega) (by omega), List.drop_eq_getElem_cons h5]
    simp only [h3, h4, if_true]
    have hti := ht ts[i] (List.getElem_mem h5)
    refine Ev.bind (meets_ev xs _ _ _ hl hx hti.1 hti.2) ?_
    unfold allB
    rw [List.all_cons]
    refine ev_if (fun h6 => ?_) (fun h6 => ?_)
    · rw [h6]; exact ih (i + 1) (by omega)
    · rw [Bool.eq_false_iff.2 h6]; exact Ev.now _
theorem all_ev (xs : List S31) (ts : List S37) (hl : xs.length ≤ 40) (hx : ∀ x ∈ xs, x.f0.size ≤ 300 ∧ x.f1.size ≤ 300) (htl : ts.length ≤ 40) (ht : RightTs ts) : Ev (fun k => labels_All.f k xs ts) (allB xs ts) := by
  have := all_l0 xs ts hl hx htl ht ts.length 0 (by omega)
  rw [List.drop_zero] at this
  exact this
theorem refAll_l0 (xs : List S31) (ts : List S37) (hl : xs.length ≤ 40) (hx : ∀ x ∈ xs, x.f0.size ≤ 300 ∧ x.f1.size ≤ 300) (hs : Rises xs) (htl : ts.length ≤ 40) (ht : RightTs ts) : ∀ d i : Nat, i + d = ts.length → Ev (fun k => triremeref05_All.l0 k xs ts (i : Int)) (allB xs (ts.drop i)) := by
  intro d
  induction d with
  | zero =>
    intro i h
    refine Ev.step (fun k => by rw [triremeref05_All.l0]) ?_
    have h3 : ¬ ((i : Int) < (ts.length : Int)) := by omega
    rw [List.drop_eq_nil_of_le (by omega)]
    simp only [h3, if_false]
    exact Ev.now _
  | succ d ih =>
    intro i h
    refine Ev.step (fun k => by rw [triremeref05_All.l0]) ?_
    have h3 : ((i : Int) < (ts.length : Int)) := by omega
    have h4 : (0 : Int) ≤ (i : Int) := by omega
    have h5 : i < ts.length := by omega
    rw [rd37_nat ts i h5, wrap_small (i := (i : Int) + 1) (by omega) (by omega), List.drop_eq_getElem_cons h5]
    simp only [h3, h4, if_true]
    have hti := ht ts[i] (List.getElem_mem h5)
    refine Ev.bind (refMeets_ev xs _ _ _ hl hx hs hti.1 hti.2) ?_
    unfold allB
    rw [List.all_cons]
    refine ev_if (fun h6 => ?_) (fun h6 => ?_)
    · rw [h6]; exact ih (i + 1) (by omega)
    · rw [Bool.eq_false_iff.2 h6]; exact Ev.now _
theorem refAll_ev (xs : List S31) (ts : List S37) (hl : xs.length ≤ 40) (hx : ∀ x ∈ xs, x.f0.size ≤ 300 ∧ x.f1.size ≤ 300) (hs : Rises xs) (htl : ts.length ≤ 40) (ht : RightTs ts) : Ev (fun k => triremeref05_All.f k xs ts) (allB xs ts) := by
  have := refAll_l0 xs ts hl hx hs htl ht ts.length 0 (by omega)
  rw [List.drop_zero] at this
  exact this
theorem meets_j0_true (xs ys : List S31) (ts : List S37) : Ev (fun k => triremelaw05_LabelsMeets.j0 k xs ys ts true) true := by
  refine Ev.step (fun k => by rw [triremelaw05_LabelsMeets.j0]) ?_
  simp only [if_true, triremelaw05_known.f, Option.bind_some]
  exact Ev.now _
theorem meets_l0 (xs ys : List S31) (ts : List S37) (hl : xs.length ≤ 40) (hx : ∀ x ∈ xs, x.f0.size ≤ 300 ∧ x.f1.size ≤ 300) (hs : Rises xs) (hy : ys.length ≤ 40) (htl : ts.length ≤ 20) : ∀ d i : Nat, i + d = ts.length → RightTs (ts.take i) → Ev (fun k => triremelaw05_LabelsMeets.l0 k xs ys ts (i : Int)) true := by
  intro d
  induction d with
  | zero =>
    intro i h ht
    rw [List.take_of_length_le (by omega)] at ht
    refine Ev.step (fun k => by rw [triremelaw05_LabelsMeets.l0]) ?_
    have h3 : ¬ ((i : Int) < (ts.length : Int)) := by omega
    simp only [h3, if_false]
    refine Ev.bind (has_ev xs ys hl hy) ?_
    refine Ev.bind (refHas_ev xs ys hl hy hs) ?_
    simp only [BEq.rfl, if_true]
    refine Ev.bind (all_ev xs ts hl hx (by omega) ht) ?_
    refine Ev.bind (refAll_ev xs ts hl hx hs (by omega) ht) ?_
    simp only [BEq.rfl, if_true, triremelaw05_known.f, Option.bind_some]
    exact Ev.now _
  | succ d ih =>
    intro i h ht
    have h3 : ((i : Int) < (ts.length : Int)) := by omega
    have h4 : (0 : Int) ≤ (i : Int) := by omega
    have h5 : i < ts.length := by omega
    have hj : ∀ b : Bool, (b = false → LightT ts[i].f0 ts[i].f2 ∧ RightT ts[i].f1 ts[i].f2) → Ev (fun k => triremelaw05_LabelsMeets.j2 k xs ys ts (i : Int) b) true := by
      intro b hb
      refine Ev.step (fun k => by rw [triremelaw05_LabelsMeets.j2]) ?_
      cases b with
      | true => simp only [if_true, triremelaw05_known.f, Option.bind_some]; exact Ev.now _
      | false =>
        have ⟨h6, h7⟩ := hb rfl
        simp only [Bool.false_eq_true, if_false, h3, h4, if_true]
        rw [rd37_nat ts i h5, wrap_small (i := (i : Int) + 1) (by omega) (by omega)]
        refine Ev.bind (meets_ev xs _ _ _ hl hx h6 h7) ?_
        refine Ev.bind (refMeets_ev xs _ _ _ hl hx hs h6 h7) ?_
        simp only [bne_self_eq_false, Bool.false_eq_true, if_false]
        refine ih (i + 1) (by omega) ?_
        intro t htm
        rw [List.take_add_one, List.getElem?_eq_getElem h5] at htm
        rcases List.mem_append.1 htm with htm | htm
        · exact ht t htm
        · simp at htm
          subst htm
          exact ⟨h6, h7⟩
    refine Ev.step (fun k => by rw [triremelaw05_LabelsMeets.l0]) ?_
    rw [rd37_nat ts i h5]
    simp only [h3, h4, if_true]
    obtain ⟨b, hb, hb2⟩ := lightTerm_ev ts[i].f0 ts[i].f1 ts[i].f2
    refine Ev.bind hb ?_
    cases b with
    | false => simp only [Bool.false_eq_true, if_false]; exact hj true (fun e => by cases e)
    | true =>
      simp only [if_true]
      obtain ⟨c, hc, hc2⟩ := rightTerm_ev ts[i].f0 ts[i].f1 ts[i].f2 (hb2 rfl)
      refine Ev.bind hc ?_
      exact hj (!c) (fun e => ⟨hb2 rfl, hc2 (by simpa using e)⟩)
theorem LabelsMeets_pure (xs ys : List S31) (ts : List S37) : ∃ k, triremelaw05_LabelsMeets.f k xs ys ts = some true := by
  refine Ev.rounds ?_
  unfold triremelaw05_LabelsMeets.f
  refine Ev.bind (light_ev xs) ?_
  cases h1 : (decide (xs.length ≤ 40) && lightB xs) with
  | false => simp only [Bool.false_eq_true, if_false]; exact meets_j0_true xs ys ts
  | true =>
    simp only [Bool.and_eq_true, decide_eq_true_eq] at h1
    simp only [if_true]
    refine Ev.bind (light_ev ys) ?_
    cases h2 : (decide (ys.length ≤ 40) && lightB ys) with
    | false => simp only [Bool.false_eq_true, if_false]; exact meets_j0_true xs ys ts
    | true =>
      simp only [Bool.and_eq_true, decide_eq_true_eq] at h2
      simp only [if_true]
      refine ev_if (fun _ => meets_j0_true xs ys ts) (fun h3 => ?_)
      have hx := light_at h1.2
      have hy := light_at h2.2
      refine Ev.bind (right_ev xs (by omega) hx) ?_
      cases h4 : refRight xs with
      | false => simp only [Bool.false_eq_true, if_false]; exact meets_j0_true xs ys ts
      | true =>
        simp only [if_true]
        refine Ev.bind (right_ev ys (by omega) hy) ?_
        cases h5 : refRight ys with
        | false => exact meets_j0_true xs ys ts
        | true =>
          refine Ev.step (fun k => by rw [triremelaw05_LabelsMeets.j0]) ?_
          simp only [Bool.not_true, Bool.false_eq_true, if_false]
          exact meets_l0 xs ys ts h1.1 hx (refRight_rises h4).2 h2.1 (by omega) ts.length 0 (by omega) (fun t h => by simp at h)
end Go.Proofs.Ytcnaefnlnjfjkaa.H
end
section
namespace Go.Proofs.Ytcnaefnlnjfjkaa.labelsMeets
open Go.ChangeShapes Go.WideShapes Go.ChangeAt Go.RowKit Go.Proofs.YtcnaefnlnjfjkaaW.PrintWords Go.Proofs.YtcnaefnlnjfjkaaW.PrintLast Go.Proofs.Ytcnaefnlnjfjkaa.H
open Go.ChangeMaps (open_string shut_string)
set_option linter.unusedVariables false
set_option maxRecDepth 100000
def ok9 (s : ByteArray) : Prop := s.size ≤ 140737488351232
theorem opens9 : Opens Try.prog 9 Kd.string ok9 := opens_string Try.underlying9
def ok31 (y : S31) : Prop := ok9 y.f0 ∧ ok9 y.f1
theorem opens31 : Opens Try.prog 31 k31 ok31 := by
  intro H enc w base fuel held cs x h hw
  obtain ⟨xs, n, _, rfl, hl, hxl, hf⟩ := DataW.trod_struct Try.underlying31 h
  have hl' : cs.length = 2 := hl.trans (by kernel_rfl)
  have g0 := hf 0 _ rfl
  obtain ⟨x0, e0⟩ : ∃ z, xs[0]? = some z := ⟨_, List.getElem?_eq_getElem (by rw [hxl]; decide)⟩
  rw [e0] at g0
  obtain ⟨y0, q0, o0⟩ := opens9 enc w base n held ((cs.drop 0).take 1) x0 (by rw [← g0]; rfl) (fun m hm => hw m (DataW.weights_mem_each (j := 0) rfl (by rw [List.getElem?_map, e0]; rfl) m hm))
  have g1 := hf 1 _ rfl
  obtain ⟨x1, e1⟩ : ∃ z, xs[1]? = some z := ⟨_, List.getElem?_eq_getElem (by rw [hxl]; decide)⟩
  rw [e1] at g1
  obtain ⟨y1, q1, o1⟩ := opens9 enc w base n held ((cs.drop 1).take 1) x1 (by rw [← g1]; rfl) (fun m hm => hw m (DataW.weights_mem_each (j := 1) rfl (by rw [List.getElem?_map, e1]; rfl) m hm))
  rw [split_last cs 1 1 (by omega)] at q1
  exact ⟨⟨y0, y1⟩, ⟨_, _, split_step cs 0 1, q0, q1⟩, o0, o1⟩
theorem bytes22 : Try.prog.bytesOf 31 = 32 := by kernel_rfl
def ok22 (l : List S31) : Prop := l.length * 32 ≤ 140737488351232 ∧ ∀ y ∈ l, ok31 y
theorem opens22 : Opens Try.prog 22 (Kd.slice 31 k31) ok22 := opens_slice Try.underlying22 (by kernel_rfl) bytes22 opens31
def ok3 (n : Int) : Prop := (Lit.int .i64 n).wf = true
theorem opens3 : Opens Try.prog 3 (Kd.int .i64) ok3 := opens_int Try.underlying3
theorem bytes35 : Try.prog.bytesOf 9 = 16 := by kernel_rfl
def ok35 (l : List ByteArray) : Prop := l.length * 16 ≤ 140737488351232 ∧ ∀ y ∈ l, ok9 y
theorem opens35 : Opens Try.prog 35 (Kd.slice 9 Kd.string) ok35 := opens_slice Try.underlying35 (by kernel_rfl) bytes35 opens9
def ok37 (y : S37) : Prop := ok9 y.f0 ∧ ok3 y.f1 ∧ ok35 y.f2
theorem opens37 : Opens Try.prog 37 k37 ok37 := by
  intro H enc w base fuel held cs x h hw
  obtain ⟨xs, n, _, rfl, hl, hxl, hf⟩ := DataW.trod_struct Try.underlying37 h
  have hl' : cs.length = 3 := hl.trans (by kernel_rfl)
  have g0 := hf 0 _ rfl
  obtain ⟨x0, e0⟩ : ∃ z, xs[0]? = some z := ⟨_, List.getElem?_eq_getElem (by rw [hxl]; decide)⟩
  rw [e0] at g0
  obtain ⟨y0, q0, o0⟩ := opens9 enc w base n held ((cs.drop 0).take 1) x0 (by rw [← g0]; rfl) (fun m hm => hw m (DataW.weights_mem_each (j := 0) rfl (by rw [List.getElem?_map, e0]; rfl) m hm))
  have g1 := hf 1 _ rfl
  obtain ⟨x1, e1⟩ : ∃ z, xs[1]? = some z := ⟨_, List.getElem?_eq_getElem (by rw [hxl]; decide)⟩
  rw [e1] at g1
  obtain ⟨y1, q1, o1⟩ := opens3 enc w base n held ((cs.drop 1).take 1) x1 (by rw [← g1]; rfl) (fun m hm => hw m (DataW.weights_mem_each (j := 1) rfl (by rw [List.getElem?_map, e1]; rfl) m hm))
  have g2 := hf 2 _ rfl
  obtain ⟨x2, e2⟩ : ∃ z, xs[2]? = some z := ⟨_, List.getElem?_eq_getElem (by rw [hxl]; decide)⟩
  rw [e2] at g2
  obtain ⟨y2, q2, o2⟩ := opens35 enc w base n held ((cs.drop 2).take 1) x2 (by rw [← g2]; rfl) (fun m hm => hw m (DataW.weights_mem_each (j := 2) rfl (by rw [List.getElem?_map, e2]; rfl) m hm))
  rw [split_last cs 2 1 (by omega)] at q2
  exact ⟨⟨y0, y1, y2⟩, ⟨_, _, split_step cs 0 1, q0, ⟨_, _, split_step cs 1 1, q1, q2⟩⟩, o0, o1, o2⟩
theorem bytes33 : Try.prog.bytesOf 37 = 48 := by kernel_rfl
def ok33 (l : List S37) : Prop := l.length * 48 ≤ 140737488351232 ∧ ∀ y ∈ l, ok37 y
theorem opens33 : Opens Try.prog 33 (Kd.slice 37 k37) ok33 := opens_slice Try.underlying33 (by kernel_rfl) bytes33 opens37
theorem own : ownKnob Try.prog.godebug = none := by kernel_rfl
theorem laidOut : laidOutB Try.prog = true := by kernel_rfl
set_option maxRecDepth 100000 in
theorem lifted (os : Os) (started : os.Started) (H : Type) (enc : TypeId × Value → H) :
    ReturnsInHanded {} Try.checked os 4 .any (Rows.labelsMeetsSpec.pre6 enc Try.prog Try.f4 Rows.labelsMeetsRow.domain false) (Rows.labelsMeetsSpec.post enc Try.prog Try.f4 false true false false) := by
  refine returnsInHanded_of_change_sized (C := Try.checked) own started (by kernel_rfl) Try.func4
    (ChangeSpec.witness6 (enc := enc) (C := Try.checked) false ⟨#[], #[.slice none 0 0, .slice none 0 0, .slice none 0 0], []⟩ 8 (by kernel_rfl) (by kernel_rfl) (by kernel_rfl) (by kernel_rfl)) ?_
  intro W base args ds gs before hval0 hW hcnd hsz0 _
  have hsz : (DataW.weightsEach Try.prog (Try.f4.params.toList ++ Rows.labelsMeetsSpec.plain.varTypes Try.prog) (ds ++ gs)).all (· ≤ reachBytes) = true := hsz0
  have hval : ∀ (j : Nat) t v, Try.f4.params[j]? = some t → args[j]? = some v → Value.okWide Try.prog W .any base t v := hval0
  have hW' := hW
  obtain ⟨p, q, hA0, hV, rfl, hfz, hnd⟩ := hW
  have hA : DataW.TrodAll enc Try.prog W 0 (fun _ => true) true Try.f4.params.toList args.toList ds p := hA0
  rw [Try.params4] at hA hval hsz
  obtain ⟨v0, vs0, d0, ds0, p0, q0, hargs, rfl, rfl, h0, r0⟩ := trodAll_cons hA
  obtain ⟨v1, vs1, d1, ds1, p1, q1, rfl, rfl, rfl, h1, r1⟩ := trodAll_cons r0
  obtain ⟨v2, vs2, d2, ds2, p2, q2, rfl, rfl, rfl, h2, r2⟩ := trodAll_cons r1
  obtain ⟨rfl, rfl, rfl⟩ := trodAll_nil r2
  obtain rfl : args = #[v0, v1, v2] := by cases args; simp_all
  obtain ⟨rfl, rfl⟩ := trodVars_none hV
  have tr0 := h0
  have lt0 : ∀ x ∈ p0, x.block < W.heap.size := by obtain ⟨m, hm⟩ := tr0; exact DataW.trod_lt m _ _ _ hm
  obtain ⟨a0, len0, cap0, rfl⟩ := okWide_slice Try.underlying22 (hval 0 22 v0 rfl rfl)
  obtain ⟨m0, hm0⟩ := h0
  obtain ⟨l0, kk0, okk0⟩ := opens22 enc W 0 m0 true _ _ hm0 (fun m hm => of_decide_eq_true (List.all_eq_true.1 hsz m (DataW.weights_mem_each (j := 0) rfl rfl m hm)))
  obtain ⟨A0, c0, e0, hc0, hr0⟩ := kk0
  simp only [Value.cells, List.cons.injEq, and_true, Value.slice.injEq] at e0
  obtain ⟨rfl, rfl, rfl⟩ := e0
  have tr1 := h1
  have lt1 : ∀ x ∈ p1, x.block < W.heap.size := by obtain ⟨m, hm⟩ := tr1; exact DataW.trod_lt m _ _ _ hm
  obtain ⟨a1, len1, cap1, rfl⟩ := okWide_slice Try.underlying22 (hval 1 22 v1 rfl rfl)
  obtain ⟨m1, hm1⟩ := h1
  obtain ⟨l1, kk1, okk1⟩ := opens22 enc W 0 m1 true _ _ hm1 (fun m hm => of_decide_eq_true (List.all_eq_true.1 hsz m (DataW.weights_mem_each (j := 1) rfl rfl m hm)))
  obtain ⟨A1, c1, e1, hc1, hr1⟩ := kk1
  simp only [Value.cells, List.cons.injEq, and_true, Value.slice.injEq] at e1
  obtain ⟨rfl, rfl, rfl⟩ := e1
  have tr2 := h2
  have lt2 : ∀ x ∈ p2, x.block < W.heap.size := by obtain ⟨m, hm⟩ := tr2; exact DataW.trod_lt m _ _ _ hm
  obtain ⟨a2, len2, cap2, rfl⟩ := okWide_slice Try.underlying33 (hval 2 33 v2 rfl rfl)
  obtain ⟨m2, hm2⟩ := h2
  obtain ⟨l2, kk2, okk2⟩ := opens33 enc W 0 m2 true _ _ hm2 (fun m hm => of_decide_eq_true (List.all_eq_true.1 hsz m (DataW.weights_mem_each (j := 2) rfl rfl m hm)))
  obtain ⟨A2, c2, e2, hc2, hr2⟩ := kk2
  simp only [Value.cells, List.cons.injEq, and_true, Value.slice.injEq] at e2
  obtain ⟨rfl, rfl, rfl⟩ := e2
  clear hA0 hval0 hsz0 hsz
  obtain ⟨k, hp⟩ := LabelsMeets_pure l0 l1 l2
  refine (triremelaw05_LabelsMeets.calls k _ _ l0 _ _ l1 _ _ l2 true W hr0 hc0 hr1 hc1 hr2 hc2 hp).mono fun e W' ⟨he, bel⟩ => ?_
  subst he
  exact ⟨_, rfl, _, _, _, [], _, [], hW', trodAll_mk1 (shut_bool Try.underlying4 _), (trodAll_cons_mk (Below.trod laidOut (by kernel_rfl) (of_decide_eq_true (by kernel_rfl)) tr0 bel lt0) (trodAll_cons_mk (Below.trod laidOut (by kernel_rfl) (of_decide_eq_true (by kernel_rfl)) tr1 bel lt1) (trodAll_cons_mk (Below.trod laidOut (by kernel_rfl) (of_decide_eq_true (by kernel_rfl)) tr2 bel lt2) trodAll_mk0))), rfl, bel.frame _, fun h => by cases h⟩
theorem over : Rows.labelsMeetsRow.holds Try.pinned (OpenSpec.ofChange Rows.labelsMeetsSpec) :=
  OpenClaim.holds_of_wide 4 Try.f4 rfl rfl rfl rfl rfl rfl rfl ⟨rfl, rfl, rfl, rfl, rfl⟩ rfl rfl rfl rfl rfl (by kernel_rfl) Try.func4 (by kernel_rfl)
    (of_decide_eq_true (by kernel_rfl)) (by unfold Func.isWrapper; first | (rw [if_pos (by decide +kernel)]; kernel_rfl) | (rw [if_neg (by decide +kernel)]; exact ⟨rfl, rfl⟩))
    (fun os started H enc _ => lifted os started H enc)
theorem proved : Rows.LabelsMeetsSaid := over
end Go.Proofs.Ytcnaefnlnjfjkaa.labelsMeets
namespace Go.Proofs.Ytcnaefnlnjfjkaa
/-- LabelsMeets, as the given rows state it. -/
theorem labelsMeets_holds : Rows.LabelsMeetsSaid := labelsMeets.proved
end Go.Proofs.Ytcnaefnlnjfjkaa
end
