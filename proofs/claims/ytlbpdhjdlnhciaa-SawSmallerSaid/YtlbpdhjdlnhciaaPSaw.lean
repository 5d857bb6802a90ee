/-
  Saws in plain terms: their checks, a box at a cut, whether a saw can make it, of the program and of the reference.
-/
import Derived.Test.YtlbpdhjdlnhciaaPName
import Derived.Test.YtlbpdhjdlnhciaaHof
import Derived.Test.YtlbpdhjdlnhciaaKs
import Derived.Test.YtlbpdhjdlnhciaaSym
import Derived.Test.YtlbpdhjdlnhciaaPx2
import Derived.Test.YtlbpdhjdlnhciaaPx5
import Derived.Test.YtlbpdhjdlnhciaaPx1
import Derived.Test.YtlbpdhjdlnhciaaPx6
set_option linter.unusedVariables false
set_option linter.unusedSimpArgs false
namespace Go.Proofs.Ytlbpdhjdlnhciaa.PSaw
open Go.RowKit Go.Proofs.YtlbpdhjdlnhciaaW.PrintWords Go.Proofs.Ytlbpdhjdlnhciaa.P Go.Proofs.Ytlbpdhjdlnhciaa.Rnd Go.Proofs.Ytlbpdhjdlnhciaa.Lex Go.Proofs.Ytlbpdhjdlnhciaa.PName Go.Proofs.Ytlbpdhjdlnhciaa.Open Go.Proofs.Ytlbpdhjdlnhciaa.Ks Go.Proofs.Ytlbpdhjdlnhciaa.Hof Go.Proofs.Ytlbpdhjdlnhciaa.Sym

abbrev Sw := S37
theorem rdW_at (l : List Sw) (i : Nat) (h : i < l.length) : rd_T37 l (i : Int) = l[i] := getD_at l _ i h
theorem anyO_some {α : Type} (q : α → Bool) (l : List α) : anyO (fun x => some (q x)) l = some (l.any q) := by
  induction l with
  | nil => rfl
  | cons x l ih => simp only [anyO, List.any_cons]; cases h : q x <;> simp [ih]
def badNm (s : Sw) : Bool := !nameB s.f0
def badKd (s : Sw) : Bool := decide (s.f1 < 1) || decide (s.f1 > 3)
def inS (x : Int) : Bool := decide (1 ≤ x) && decide (x ≤ 1000000)
def lastOk (a b : Int) : Bool := decide (0 ≤ a) && (decide (a ≤ 1000) && (decide (1 ≤ b) && decide (b ≤ 1000000000)))
def badSz (s : Sw) : Bool := !(inS s.f2.f0 && (inS s.f2.f1 && (inS s.f2.f2 && (inS s.f3 && lastOk s.f4 s.f5))))
def checkS (l : List Sw) : Int := if l.any badNm then 4 else if l.any badKd then 3 else if l.any badSz then 6 else 0
theorem in_f (x : Int) : saw_check_1.f x = some (inS x) := by
  unfold saw_check_1.f inS
  by_cases h : x ≥ 1
  · rw [if_pos h, decide_eq_true (show 1 ≤ x from h)]; rfl
  · rw [if_neg h, decide_eq_false (show ¬ 1 ≤ x from h)]; rfl
theorem rin_f (x : Int) : gangsawref29_in.f x 1 1000000 = some (inS x) := by
  unfold gangsawref29_in.f inS
  by_cases h : x ≥ 1
  · rw [if_pos h, decide_eq_true (show 1 ≤ x from h)]; rfl
  · rw [if_neg h, decide_eq_false (show ¬ 1 ≤ x from h)]; rfl
theorem kind_f (x : Int) : gangsawref29_kind.f x = some (!(decide (x < 1) || decide (x > 3))) := by
  unfold gangsawref29_kind.f
  by_cases h1 : x = 1
  · subst h1; rfl
  rw [if_neg h1]
  by_cases h2 : x = 2
  · subst h2; rfl
  rw [if_neg h2]
  by_cases h3 : x = 3
  · subst h3; rfl
  · have : (x == 3) = false := by simpa using h3
    rw [this]
    by_cases h4 : x < 1
    · rw [decide_eq_true h4]; rfl
    · rw [decide_eq_false h4, decide_eq_true (show x > 3 by omega)]; rfl
theorem kd_f (s : Sw) : saw_check_4.f s.f0 s.f1 s.f2.f0 s.f2.f1 s.f2.f2 s.f3 s.f4 s.f5 = some (badKd s) := by
  unfold saw_check_4.f badKd
  by_cases h : s.f1 < 1
  · rw [if_pos h, decide_eq_true h]; rfl
  · rw [if_neg h, decide_eq_false h]; rfl
theorem sz_f (s : Sw) : saw_check_5.f s.f0 s.f1 s.f2.f0 s.f2.f1 s.f2.f2 s.f3 s.f4 s.f5 (fun x_ => saw_check_1.f x_) = some (badSz s) := by
  unfold saw_check_5.f badSz
  simp only [in_f, Option.bind_some]
  cases inS s.f2.f0 with
  | false => rfl
  | true =>
  cases inS s.f2.f1 with
  | false => rfl
  | true =>
  cases inS s.f2.f2 with
  | false => rfl
  | true =>
  cases inS s.f3 with
  | false => rfl
  | true =>
  simp only [if_true, Bool.true_and, lastOk]
  by_cases h1 : s.f4 < 0
  · rw [if_pos h1, decide_eq_false (show ¬ 0 ≤ s.f4 by omega)]; rfl
  rw [if_neg h1, decide_eq_true (show 0 ≤ s.f4 by omega)]
  by_cases h2 : s.f4 > 1000
  · rw [if_pos h2, decide_eq_false (show ¬ s.f4 ≤ 1000 by omega)]; rfl
  rw [if_neg h2, decide_eq_true (show s.f4 ≤ 1000 by omega)]
  by_cases h3 : s.f5 < 1
  · rw [if_pos h3, decide_eq_false (show ¬ 1 ≤ s.f5 by omega)]; rfl
  rw [if_neg h3, decide_eq_true (show 1 ≤ s.f5 by omega)]
  by_cases h4 : s.f5 > 1000000000
  · rw [decide_eq_true h4, decide_eq_false (show ¬ s.f5 ≤ 1000000000 by omega)]; rfl
  · rw [decide_eq_false h4, decide_eq_true (show s.f5 ≤ 1000000000 by omega)]; rfl
theorem rsz_f (s : Sw) : gangsawref29_sized.f s.f0 s.f1 s.f2.f0 s.f2.f1 s.f2.f2 s.f3 s.f4 s.f5 = some (!badSz s) := by
  unfold gangsawref29_sized.f badSz
  simp only [rin_f, Option.bind_some, Bool.not_not]
  cases inS s.f2.f0 with
  | false => rfl
  | true =>
  cases inS s.f2.f1 with
  | false => rfl
  | true =>
  cases inS s.f2.f2 with
  | false => rfl
  | true =>
  cases inS s.f3 with
  | false => rfl
  | true =>
  simp only [if_true, Bool.true_and, lastOk, gangsawref29_in.f]
  by_cases h1 : s.f4 ≥ 0
  · rw [if_pos h1, decide_eq_true (show 0 ≤ s.f4 by omega), Option.bind_some]
    by_cases h2 : s.f4 ≤ 1000
    · rw [decide_eq_true h2, if_pos rfl]
      by_cases h3 : s.f5 ≥ 1
      · rw [if_pos h3, decide_eq_true (show 1 ≤ s.f5 by omega)]; rfl
      · rw [if_neg h3, decide_eq_false (show ¬ 1 ≤ s.f5 by omega)]; rfl
    · rw [decide_eq_false h2, if_neg (by simp)]; rfl
  · rw [if_neg h1, decide_eq_false (show ¬ 0 ≤ s.f4 by omega)]; rfl
theorem check_f (l : List Sw) : saw_check.f l = some (checkS l) := by
  unfold saw_check.f checkS saw_check_2.f
  have e1 : contains37.f l (fun x_ => saw_check_3.f x_.f0 x_.f1 x_.f2.f0 x_.f2.f1 x_.f2.f2 x_.f3 x_.f4 x_.f5) = some (l.any badNm) := anyO_some badNm l
  have e2 : contains37.f l (fun x_ => saw_check_4.f x_.f0 x_.f1 x_.f2.f0 x_.f2.f1 x_.f2.f2 x_.f3 x_.f4 x_.f5) = some (l.any badKd) := by
    rw [show (fun x_ : Sw => saw_check_4.f x_.f0 x_.f1 x_.f2.f0 x_.f2.f1 x_.f2.f2 x_.f3 x_.f4 x_.f5) = fun x_ => some (badKd x_) from funext kd_f]
    exact anyO_some badKd l
  have e3 : contains37.f l (fun x_ => saw_check_5.f x_.f0 x_.f1 x_.f2.f0 x_.f2.f1 x_.f2.f2 x_.f3 x_.f4 x_.f5 (fun x_ => saw_check_1.f x_)) = some (l.any badSz) := by
    rw [show (fun x_ : Sw => saw_check_5.f x_.f0 x_.f1 x_.f2.f0 x_.f2.f1 x_.f2.f2 x_.f3 x_.f4 x_.f5 (fun x_ => saw_check_1.f x_)) = fun x_ => some (badSz x_) from funext sz_f]
    exact anyO_some badSz l
  rw [e1, e2, e3]
  cases l.any badNm <;> cases l.any badKd <;> cases l.any badSz <;> rfl
theorem each_ev (l : List Sw) (hl : l.length ≤ 9223372036854775807) (hg : ∀ t ∈ l, t.f0.size ≤ 9223372036854775807) : Evt (fun k => gangsawref29_each.f k l) (checkS l) := by
  unfold gangsawref29_each.f checkS
  refine Evt.any_list (F := fun k i => gangsawref29_each.l0 k l i) badNm 4 ?_ ?_ ?_
  · refine Evt.succ (g := fun k => gangsawref29_each.l1 k l 0) ?_ (fun k => by simp only [gangsawref29_each.l0, Int.lt_irrefl, if_false])
    refine Evt.any_list (F := fun k i => gangsawref29_each.l1 k l i) badKd 3 ?_ ?_ ?_
    · refine Evt.succ (g := fun k => gangsawref29_each.l2 k l 0) ?_ (fun k => by simp only [gangsawref29_each.l1, Int.lt_irrefl, if_false])
      refine Evt.any_list (F := fun k i => gangsawref29_each.l2 k l i) badSz 6 ?_ ?_ ?_
      · exact Evt.succ (g := fun _ => some 0) (Evt.pure _) (fun k => by simp only [gangsawref29_each.l2, Int.lt_irrefl, if_false])
      · intro i hi hb
        refine Evt.succ (g := fun _ => some 6) (Evt.pure _) (fun k => ?_)
        simp only [gangsawref29_each.l2, rdW_at l i hi, rsz_f, Option.bind_some, hb]
        rw [if_pos (by omega), if_pos (by omega)]; rfl
      · intro i hi hb v hv
        refine Evt.succ hv (fun k => ?_)
        simp only [gangsawref29_each.l2, rdW_at l i hi, rsz_f, Option.bind_some, hb]
        rw [if_pos (by omega), if_pos (by omega), wrap_up i l.length hi hl]; rfl
    · intro i hi hb
      refine Evt.succ (g := fun _ => some 3) (Evt.pure _) (fun k => ?_)
      simp only [gangsawref29_each.l1, rdW_at l i hi, kind_f, Option.bind_some]
      unfold badKd at hb
      rw [if_pos (by omega), if_pos (by omega), hb]; rfl
    · intro i hi hb v hv
      refine Evt.succ hv (fun k => ?_)
      simp only [gangsawref29_each.l1, rdW_at l i hi, kind_f, Option.bind_some]
      unfold badKd at hb
      rw [if_pos (by omega), if_pos (by omega), wrap_up i l.length hi hl, hb]; rfl
  · intro i hi hb
    have hb2 : nameB l[i].f0 = false := by unfold badNm at hb; simpa using hb
    refine Evt.succ (g := fun k => (gangsawref09_Name.f k l[i].f0).bind fun t => if t = true then gangsawref29_each.l0 k l (wrap64 ((i : Int) + 1)) else some 4) ?_ (fun k => ?_)
    · refine Evt.bind (name_ev _ (hg _ (List.getElem_mem _))) ?_
      rw [hb2]; exact Evt.pure _
    · simp only [gangsawref29_each.l0, rdW_at l i hi]
      rw [if_pos (by omega), if_pos (by omega)]
  · intro i hi hb v hv
    have hb2 : nameB l[i].f0 = true := by unfold badNm at hb; simpa using hb
    refine Evt.succ (g := fun k => (gangsawref09_Name.f k l[i].f0).bind fun t => if t = true then gangsawref29_each.l0 k l (wrap64 ((i : Int) + 1)) else some 4) ?_ (fun k => ?_)
    · refine Evt.bind (name_ev _ (hg _ (List.getElem_mem _))) ?_
      rw [hb2, wrap_up i l.length hi hl]; exact hv
    · simp only [gangsawref29_each.l0, rdW_at l i hi]
      rw [if_pos (by omega), if_pos (by omega)]
theorem checkS_zero {l : List Sw} (h : checkS l = 0) {s : Sw} (hs : s ∈ l) : badKd s = false ∧ badSz s = false := by
  unfold checkS at h
  cases h1 : l.any badNm <;> cases h2 : l.any badKd <;> cases h3 : l.any badSz <;> simp only [h1, h2, h3] at h <;> simp at h
  exact ⟨by rw [List.any_eq_false] at h2; simpa using h2 s hs, by rw [List.any_eq_false] at h3; simpa using h3 s hs⟩
theorem badSz_false {s : Sw} (h : badSz s = false) : (1 ≤ s.f2.f0 ∧ s.f2.f0 ≤ 1000000) ∧ (1 ≤ s.f2.f1 ∧ s.f2.f1 ≤ 1000000) ∧ (1 ≤ s.f2.f2 ∧ s.f2.f2 ≤ 1000000) ∧ (1 ≤ s.f3 ∧ s.f3 ≤ 1000000) ∧ (0 ≤ s.f4 ∧ s.f4 ≤ 1000) ∧ (1 ≤ s.f5 ∧ s.f5 ≤ 1000000000) := by
  unfold badSz inS lastOk at h
  simp at h
  omega
theorem ite_step {α : Type} {c : Prop} [Decidable c] {x y v : α} (h1 : c → x = v) (h2 : ¬ c → y = v) : ite c x y = v := by
  by_cases h : c
  · rw [if_pos h]; exact h1 h
  · rw [if_neg h]; exact h2 h
def boxOk (a b c d e f x k : Int) : Prop := ((-1000000 ≤ a ∧ a < d ∧ d ≤ 1000000) ∧ (-1000000 ≤ b ∧ b < e ∧ e ≤ 1000000) ∧ (-1000000 ≤ c ∧ c < f ∧ f ≤ 1000000)) ∧ (0 ≤ x ∧ x ≤ 2) ∧ (0 ≤ k ∧ k ≤ 1000)
instance (a b c d e f x k : Int) : Decidable (boxOk a b c d e f x k) := by unfold boxOk; infer_instance
theorem boxed_f (a b c d e f x : Int) : saw_boxed.f a b c d e f x = some (if boxOk a b c d e f x 0 then 0 else 1) := by
  unfold saw_boxed.f
  by_cases h : boxOk a b c d e f x 0
  · rw [if_pos h]
    unfold boxOk at h
    rw [if_neg (by omega), if_neg (by omega), if_neg (by omega), if_neg (by omega), if_neg (by omega), if_neg (by omega), if_neg (by omega), if_neg (by omega), if_neg (by omega), if_neg (by omega), if_neg (by omega)]
  · rw [if_neg h]
    unfold boxOk at h
    repeat' (refine ite_step (fun _ => ?_) (fun _ => ?_))
    all_goals first | rfl | (exfalso; omega)
theorem cut_f (a b c d e f x k : Int) : saw_cut.f a b c d e f x k = some (if boxOk a b c d e f x k then 0 else 1) := by
  unfold saw_cut.f
  rw [boxed_f, Option.bind_some]
  by_cases h : boxOk a b c d e f x 0
  · rw [if_pos h, if_pos rfl]
    by_cases h2 : boxOk a b c d e f x k
    · rw [if_pos h2]; unfold boxOk at h2; rw [if_neg (by omega), if_neg (by omega)]
    · rw [if_neg h2]; unfold boxOk at h h2
      by_cases h3 : k < 0
      · rw [if_pos h3]
      · rw [if_neg h3, if_pos (by omega)]
  · rw [if_neg h, if_neg (by decide), if_neg (by unfold boxOk at h ⊢; omega)]
theorem rcut_f (a b c d e f x k : Int) : gangsawref29_Cut.f a b c d e f x k = some (if boxOk a b c d e f x k then 0 else 1) := by
  unfold gangsawref29_Cut.f
  by_cases hr : (-1000000 ≤ a ∧ a ≤ 1000000 ∧ -1000000 ≤ b ∧ b ≤ 1000000 ∧ -1000000 ≤ c ∧ c ≤ 1000000 ∧ -1000000 ≤ d ∧ d ≤ 1000000 ∧ -1000000 ≤ e ∧ e ≤ 1000000 ∧ -1000000 ≤ f ∧ f ≤ 1000000)
  · rw [wrap_mid (d - a) (by omega) (by omega), wrap_mid (e - b) (by omega) (by omega), wrap_mid (f - c) (by omega) (by omega)]
    by_cases h : boxOk a b c d e f x k
    · rw [if_pos h]
      unfold boxOk at h
      repeat' (refine ite_step (fun _ => ?_) (fun _ => ?_))
      all_goals first | rfl | (exfalso; omega)
    · rw [if_neg h]
      unfold boxOk at h
      repeat' (refine ite_step (fun _ => ?_) (fun _ => ?_))
      all_goals first | rfl | (exfalso; omega)
  · rw [if_neg (show ¬ boxOk a b c d e f x k by unfold boxOk; omega)]
    generalize wrap64 (d - a) = u
    generalize wrap64 (e - b) = v
    generalize wrap64 (f - c) = w
    repeat' (refine ite_step (fun _ => ?_) (fun _ => ?_))
    all_goals first | rfl | (exfalso; omega)
theorem sort3_eq (a b c : Int) : sort3.f a b c = (min a (min b c), max (min a b) (min (max a b) c), max a (max b c)) := by
  unfold sort3.f
  repeat' (refine ite_step (fun _ => ?_) (fun _ => ?_))
  all_goals (simp only [Prod.mk.injEq]; omega)
theorem sorted_f (a b c : Int) : gangsawref29_sorted.f a b c = some (sort3.f a b c) := by
  unfold gangsawref29_sorted.f
  repeat' (refine ite_step (fun _ => ?_) (fun _ => ?_))
  all_goals
    rw [sort3_eq]
    simp only [Option.some.injEq, Prod.mk.injEq]
    omega
theorem able_f (s0 : ByteArray) (s1 s2 s3 s4 s5 s6 s7 a b c d e f x k : Int) : gangsawref29_able.f s0 s1 s2 s3 s4 s5 s6 s7 a b c d e f x k = saw_can.f s0 s1 s2 s3 s4 s5 s6 s7 a b c d e f x k := by
  unfold gangsawref29_able.f saw_can.f
  by_cases h0 : x = 0
  · subst h0
    rw [if_pos rfl, if_pos rfl]
    by_cases hk : k = s6
    · subst hk; rw [if_pos rfl, if_pos rfl, sorted_f, sorted_f]; rfl
    · rw [if_neg hk, if_neg (fun h => hk h.symm)]
  rw [if_neg h0, if_neg h0]
  by_cases h1 : x = 1
  · subst h1
    rw [if_pos rfl, if_pos rfl]
    by_cases hk : k = s6
    · subst hk; rw [if_pos rfl, if_pos rfl, sorted_f, sorted_f]; rfl
    · rw [if_neg hk, if_neg (fun h => hk h.symm)]
  rw [if_neg h1, if_neg h1]
  by_cases h2 : x = 2
  · subst h2
    rw [if_pos rfl, if_pos rfl]
    by_cases hk : k = s6
    · subst hk; rw [if_pos rfl, if_pos rfl, sorted_f, sorted_f]; rfl
    · rw [if_neg hk, if_neg (fun h => hk h.symm)]
  rw [if_neg h2, if_neg h2]
theorem can_some (s0 : ByteArray) (s1 s2 s3 s4 s5 s6 s7 a b c d e f x k : Int) (hx : 0 ≤ x ∧ x ≤ 2) : ∃ v, saw_can.f s0 s1 s2 s3 s4 s5 s6 s7 a b c d e f x k = some v := by
  unfold saw_can.f
  have some_ite : ∀ {c : Prop} [Decidable c] {p q : Option Int}, (∃ v, p = some v) → (∃ v, q = some v) → ∃ v, ite c p q = some v := by
    intro c _ p q h1 h2
    by_cases h : c
    · rw [if_pos h]; exact h1
    · rw [if_neg h]; exact h2
  by_cases h0 : x = 0
  · rw [if_pos h0]; repeat' (first | exact ⟨_, rfl⟩ | apply some_ite)
  rw [if_neg h0]
  by_cases h1 : x = 1
  · rw [if_pos h1]; repeat' (first | exact ⟨_, rfl⟩ | apply some_ite)
  rw [if_neg h1, if_pos (by omega)]
  repeat' (first | exact ⟨_, rfl⟩ | apply some_ite)
def minuteV (s : Sw) (a : Int) : Int := wrap64 (Int.tdiv (wrap64 ((wrap64 (a + s.f5)) - 1)) s.f5)
theorem minutes_f (s : Sw) (a : Int) (h : 1 ≤ s.f5) : saw_minutes.f s.f0 s.f1 s.f2.f0 s.f2.f1 s.f2.f2 s.f3 s.f4 s.f5 a = some (minuteV s a) := by
  unfold saw_minutes.f minuteV
  rw [if_neg (by omega)]
def minutesV (s : Sw) (a : Int) : Int × Int := if checkS [s] = 0 then (if a < 1 then (0, 1) else if a > 4000000000000 then (0, 1) else (minuteV s a, 0)) else (0, checkS [s])
theorem one_ok {s : Sw} (h : checkS [s] = 0) : badKd s = false ∧ badSz s = false := checkS_zero h (by simp)
theorem one_speed {s : Sw} (h : checkS [s] = 0) : 1 ≤ s.f5 := (badSz_false (one_ok h).2).2.2.2.2.2.1
theorem Minutes_f (s : Sw) (a : Int) : saw_Minutes.f s.f0 s.f1 s.f2.f0 s.f2.f1 s.f2.f2 s.f3 s.f4 s.f5 a = some (minutesV s a) := by
  unfold saw_Minutes.f minutesV
  rw [show ([⟨s.f0, s.f1, ⟨s.f2.f0, s.f2.f1, s.f2.f2⟩, s.f3, s.f4, s.f5⟩] : List Sw) = [s] from rfl, check_f, Option.bind_some]
  by_cases h : checkS [s] = 0
  · rw [if_pos h, if_pos h, minutes_f s a (one_speed h), Option.bind_some]
    by_cases h1 : a < 1
    · rw [if_pos h1, if_pos h1]
    · rw [if_neg h1, if_neg h1]
      by_cases h2 : a > 4000000000000
      · rw [if_pos h2, if_pos h2]
      · rw [if_neg h2, if_neg h2]
  · rw [if_neg h, if_neg h]
theorem Cans_ev (s : Sw) (a b c d e f x k0 : Int) (hg : s.f0.size ≤ 9223372036854775807) : ∃ v, saw_Can.f s.f0 s.f1 s.f2.f0 s.f2.f1 s.f2.f2 s.f3 s.f4 s.f5 a b c d e f x k0 = some v ∧ Evt (fun k => gangsawref29_Can.f k s.f0 s.f1 s.f2.f0 s.f2.f1 s.f2.f2 s.f3 s.f4 s.f5 a b c d e f x k0) v := by
  unfold saw_Can.f gangsawref29_Can.f
  rw [show ([⟨s.f0, s.f1, ⟨s.f2.f0, s.f2.f1, s.f2.f2⟩, s.f3, s.f4, s.f5⟩] : List Sw) = [s] from rfl, check_f, Option.bind_some]
  by_cases h : checkS [s] = 0
  · rw [if_pos h, cut_f, Option.bind_some]
    by_cases h2 : boxOk a b c d e f x k0
    · obtain ⟨v, hv⟩ := can_some s.f0 s.f1 s.f2.f0 s.f2.f1 s.f2.f2 s.f3 s.f4 s.f5 a b c d e f x k0 h2.2.1
      refine ⟨v, by rw [if_pos h2, if_pos rfl, hv]; rfl, ?_⟩
      refine Evt.bind (each_ev [s] (by simp) (by simpa using hg)) ?_
      simp only [if_pos h, rcut_f, Option.bind_some, if_pos h2, able_f, hv]
      exact Evt.pure _
    · refine ⟨1, by rw [if_neg h2, if_neg (by decide)], ?_⟩
      refine Evt.bind (each_ev [s] (by simp) (by simpa using hg)) ?_
      simp only [if_pos h, rcut_f, Option.bind_some, if_neg h2]
      exact Evt.pure _
  · refine ⟨checkS [s], by rw [if_neg h], ?_⟩
    refine Evt.bind (each_ev [s] (by simp) (by simpa using hg)) ?_
    simp only [if_neg h]; exact Evt.pure _
end Go.Proofs.Ytlbpdhjdlnhciaa.PSaw
