/-
 jobshop.Check and the reference's Check (layer 50): what both return.
-/
import Derived.Test.YtkdbcaegeeeiaaaGreatPName
import Derived.Test.YtkdbcaegeeeiaaaGreatKs
import Derived.Test.YtkdbcaegeeeiaaaGreatJCheck
import Derived.Test.YtkdbcaegeeeiaaaGreatPx8
set_option linter.unusedVariables false
set_option linter.unusedSimpArgs false
namespace Go.Proofs.YtkdbcaegeeeiaaaGreat.PCheck
open Go.RowKit Go.Proofs.YtkdbcaegeeeiaaaGreatW.PrintWords Go.Proofs.YtkdbcaegeeeiaaaGreat.P Go.Proofs.YtkdbcaegeeeiaaaGreat.Rnd Go.Proofs.YtkdbcaegeeeiaaaGreat.Lex Go.Proofs.YtkdbcaegeeeiaaaGreat.PName Go.Proofs.YtkdbcaegeeeiaaaGreat.Open Go.Proofs.YtkdbcaegeeeiaaaGreat.Ks Go.Proofs.YtkdbcaegeeeiaaaGreat.Hof Go.Proofs.YtkdbcaegeeeiaaaGreat.Twice Go.Proofs.YtkdbcaegeeeiaaaGreat.JCheck
def inB (n lo hi : Int) : Bool := decide (lo ≤ n) && decide (n ≤ hi)
theorem in_f (n lo hi : Int) : jobshop_in.f n lo hi = some (inB n lo hi) := by unfold jobshop_in.f inB; grind
theorem inr_f (n lo hi : Int) : gangsawref50_in.f n lo hi = some (inB n lo hi) := by unfold gangsawref50_in.f inB; grind
theorem name_f (s : ByteArray) : lexer_Name.f s = some (nameB s) := rfl
theorem anyO_some {α : Type} (q : α → Bool) (l : List α) : anyO (fun x => some (q x)) l = some (l.any q) := by
 induction l with
 | nil => rfl
 | cons x l ih => simp only [anyO, List.any_cons]; cases h : q x <;> simp [ih]
def badNM (m : Mc) : Bool := !nameB m.f0 || !nameB m.f1
def badNJ (j : Jb) : Bool := !nameB j.f0
def badNS (s : Sp) : Bool := !nameB s.f0
def badRM (m : Mc) : Bool := !inB m.f2 0 1440
def badRJ (j : Jb) : Bool := !(inB j.f2 0 1000000 && (inB j.f3 0 1000000 && inB j.f4 0 100))
def badRS (s : Sp) : Bool := !(inB s.f1 1 1000000 && inB s.f2 0 1000000)
def long (j : Jb) : Bool := decide ((j.f1.length : Int) > 16)
def bare (j : Jb) : Bool := (j.f1.length : Int) == 0
def lost (l0 : List Mc) (s : Sp) : Bool := !((worksM l0).at_ s.f0 false)
def V (l0 : List Mc) (l1 : List Jb) : Int :=
 if (l0.length : Int) > 32 then 7 else if (l1.length : Int) > 128 then 7 else if l1.any long = true then 7 else
 if l0.any badNM = true then 4 else if l1.any badNJ = true then 4 else if l1.any (fun j => j.f1.any badNS) = true then 4 else
 if l0.any badRM = true then 6 else if l1.any badRJ = true then 6 else if l1.any (fun j => j.f1.any badRS) = true then 6 else
 if l1.any bare = true then 9 else
 if (List.range l0.length).any (dupM (fun x => x.f0) l0) = true then 5 else if (List.range l1.length).any (dupJ (fun x => x.f0) l1) = true then 5 else
 if l1.any (fun j => j.f1.any (lost l0)) = true then 3 else 0
theorem job_any (l : List Jb) (p : Jb → Option Bool) (q : Jb → Bool) (h : ∀ x, p x = some (q x)) : api_Job_63.f l p = some (l.any q) := by
 have e : p = fun x => some (q x) := funext h
 subst e
 show (anyO (fun x => some (q x)) l).bind _ = _
 rw [anyO_some]; rfl
theorem mac_any (l : List Mc) (p : Mc → Option Bool) (q : Mc → Bool) (h : ∀ x, p x = some (q x)) : api_Machine_67.f l p = some (l.any q) := by
 have e : p = fun x => some (q x) := funext h
 subst e
 show (anyO (fun x => some (q x)) l).bind _ = _
 rw [anyO_some]; rfl
theorem step_any (l : List Sp) (p : Sp → Option Bool) (q : Sp → Bool) (h : ∀ x, p x = some (q x)) : api_Step_65.f l p = some (l.any q) := by
 have e : p = fun x => some (q x) := funext h
 subst e
 show (anyO (fun x => some (q x)) l).bind _ = _
 rw [anyO_some]; rfl
theorem steps_any (l : List Jb) (p : Sp → Option Bool) (q : Sp → Bool) (h : ∀ x, p x = some (q x)) : jobshop_Check_1.f p l = some (l.any (fun j => j.f1.any q)) := by
 unfold jobshop_Check_1.f
 rw [job_any l _ (fun j => j.f1.any q) (fun x => by unfold jobshop_Check_1_1.f; rw [step_any x.f1 p q h]; rfl)]; rfl
theorem ifs {c : Prop} [Decidable c] (a b : Int) : (if c then some a else some b) = some (if c then a else b) := by split <;> rfl
theorem jobshop_eq (l0 : List Mc) (l1 : List Jb) : jobshop_Check.f l0 l1 = some (V l0 l1) := by
 unfold jobshop_Check.f V
 rw [job_any l1 (fun x_ => jobshop_Check_2.f x_.f0 x_.f1 x_.f2 x_.f3 x_.f4) long (fun x => rfl), mac_any l0 (fun x_ => jobshop_Check_3.f x_.f0 x_.f1 x_.f2) badNM (fun x => by unfold jobshop_Check_3.f badNM; rw [name_f, name_f]; cases nameB x.f0 <;> simp),
  job_any l1 (fun x_ => jobshop_Check_4.f x_.f0 x_.f1 x_.f2 x_.f3 x_.f4) badNJ (fun x => by unfold jobshop_Check_4.f badNJ; rw [name_f]; rfl), steps_any l1 (fun x_ => jobshop_Check_5.f x_.f0 x_.f1 x_.f2) badNS (fun x => by unfold jobshop_Check_5.f badNS; rw [name_f]; rfl),
  mac_any l0 (fun x_ => jobshop_Check_6.f x_.f0 x_.f1 x_.f2) badRM (fun x => by unfold jobshop_Check_6.f badRM; rw [in_f]; rfl),
  job_any l1 (fun x_ => jobshop_Check_7.f x_.f0 x_.f1 x_.f2 x_.f3 x_.f4) badRJ (fun x => by unfold jobshop_Check_7.f badRJ; rw [in_f, in_f, in_f]; cases inB x.f2 0 1000000 <;> cases inB x.f3 0 1000000 <;> simp),
  steps_any l1 (fun x_ => jobshop_Check_8.f x_.f0 x_.f1 x_.f2) badRS (fun x => by unfold jobshop_Check_8.f badRS; rw [in_f, in_f]; cases inB x.f1 1 1000000 <;> simp),
  job_any l1 (fun x_ => jobshop_Check_9.f x_.f0 x_.f1 x_.f2 x_.f3 x_.f4) bare (fun x => rfl), steps_any l1 (worksB l0) (lost l0) (fun x => rfl)]
 simp only [Option.bind_some, ifs]
theorem rdM_at (l : List Mc) (i : Nat) (h : i < l.length) : rd_T42 l (i : Int) = l[i] := getD_at l _ i h
theorem rdJ_at (l : List Jb) (i : Nat) (h : i < l.length) : rd_T38 l (i : Int) = l[i] := getD_at l _ i h
theorem rdS_at (l : List Sp) (i : Nat) (h : i < l.length) : rd_T40 l (i : Int) = l[i] := getD_at l _ i h
structure Fits (l0 : List Mc) (l1 : List Jb) : Prop where
 n0 : l0.length ≤ 9223372036854775807
 n1 : l1.length ≤ 9223372036854775807
 m : ∀ x ∈ l0, x.f0.size ≤ 9223372036854775807 ∧ x.f1.size ≤ 9223372036854775807
 j : ∀ x ∈ l1, x.f0.size ≤ 9223372036854775807 ∧ x.f1.length ≤ 9223372036854775807 ∧ ∀ s ∈ x.f1, s.f0.size ≤ 9223372036854775807
theorem named_bad (l0 : List Mc) (l1 : List Jb) (H : Fits l0 l1) (i : Nat) (hi : i < l1.length) (n : Nat) (h : n < l1[i].f1.length) (hb : badNS l1[i].f1[n] = true) : Evt (fun k => gangsawref50_named.l2 k l1 i n) false := by
 have hJ := H.j _ (List.getElem_mem hi)
 have hs := hJ.2.2 _ (List.getElem_mem h)
 have hnm : nameB l1[i].f1[n].f0 = false := by simpa [badNS] using hb
 refine Evt.succ (g := fun k => (gangsawref09_Name.f k l1[i].f1[n].f0).bind fun t => if t = true then gangsawref50_named.l2 k l1 i ((n + 1 : Nat) : Int) else some false) (Evt.bind (name_ev _ hs) ?_) (fun k => ?_)
 ·simp only [hnm, Bool.false_eq_true, if_false]; exact Evt.pure _
 ·simp only [gangsawref50_named.l2, rdJ_at l1 i hi, rdS_at _ n h]
  rw [if_pos (by omega), if_pos (by omega), if_pos (by omega), if_pos (by omega), wrap_up n _ h hJ.2.1]
theorem named_go (l0 : List Mc) (l1 : List Jb) (H : Fits l0 l1) (i : Nat) (hi : i < l1.length) (n : Nat) (h : n < l1[i].f1.length) (hb : badNS l1[i].f1[n] = false) (u : Bool) (hu : Evt (fun k => gangsawref50_named.l2 k l1 i ((n + 1 : Nat) : Int)) u) : Evt (fun k => gangsawref50_named.l2 k l1 i n) u := by
 have hJ := H.j _ (List.getElem_mem hi)
 have hs := hJ.2.2 _ (List.getElem_mem h)
 have hnm : nameB l1[i].f1[n].f0 = true := by simpa [badNS] using hb
 refine Evt.succ (g := fun k => (gangsawref09_Name.f k l1[i].f1[n].f0).bind fun t => if t = true then gangsawref50_named.l2 k l1 i ((n + 1 : Nat) : Int) else some false) (Evt.bind (name_ev _ hs) ?_) (fun k => ?_)
 ·simp only [hnm, if_true]; exact hu
 ·simp only [gangsawref50_named.l2, rdJ_at l1 i hi, rdS_at _ n h]
  rw [if_pos (by omega), if_pos (by omega), if_pos (by omega), if_pos (by omega), wrap_up n _ h hJ.2.1]
theorem named_l2 (l0 : List Mc) (l1 : List Jb) (H : Fits l0 l1) (i : Nat) (hi : i < l1.length) (v : Bool) (hv : Evt (fun k => gangsawref50_named.l1 k l1 ((i + 1 : Nat) : Int)) v) :
  Evt (fun k => gangsawref50_named.l2 k l1 i 0) (if l1[i].f1.any badNS then false else v) := by
 have hJ := H.j _ (List.getElem_mem hi)
 have hn1 := H.n1
 refine Evt.any_list (F := fun k x => gangsawref50_named.l2 k l1 i x) badNS false ?_ (named_bad l0 l1 H i hi) (named_go l0 l1 H i hi)
 refine Evt.succ hv (fun k => ?_)
 simp only [gangsawref50_named.l2, rdJ_at l1 i hi]
 rw [if_pos (by omega), if_pos (by omega), if_neg (by omega), wrap_up i l1.length hi hn1]
def badN (j : Jb) : Bool := badNJ j || j.f1.any badNS
theorem named_l1 (l0 : List Mc) (l1 : List Jb) (H : Fits l0 l1) : Evt (fun k => gangsawref50_named.l1 k l1 0) (if l1.any badN then false else true) := by
 have hn1 := H.n1
 have step : ∀ i (h : i < l1.length), ∀ k, gangsawref50_named.l1 (k + 1) l1 (i : Int) = (gangsawref09_Name.f k l1[i].f0).bind fun t => if t = true then gangsawref50_named.l2 k l1 i 0 else some false := by
  intro i h k
  simp only [gangsawref50_named.l1, rdJ_at l1 i h]
  rw [if_pos (by omega), if_pos (by omega)]
 refine Evt.any_list (F := fun k x => gangsawref50_named.l1 k l1 x) badN false ?_ ?_ ?_
 ·refine Evt.succ (g := fun _ => some true) (Evt.pure _) (fun k => ?_)
  simp only [gangsawref50_named.l1]
  rw [if_neg (by omega)]
 ·intro i h hb
  refine Evt.succ (Evt.bind (name_ev _ (H.j _ (List.getElem_mem h)).1) ?_) (step i h)
  cases hnm : nameB l1[i].f0 with
  | false => simp only [Bool.false_eq_true, if_false]; exact Evt.pure _
  | true =>
   simp only [if_true]
   have ha : l1[i].f1.any badNS = true := by simpa [badN, badNJ, hnm] using hb
   exact Evt.any_bad (F := fun k x => gangsawref50_named.l2 k l1 i x) badNS false ha (named_bad l0 l1 H i h) (named_go l0 l1 H i h)
 ·intro i h hb v hv
  refine Evt.succ (Evt.bind (name_ev _ (H.j _ (List.getElem_mem h)).1) ?_) (step i h)
  have h1 : nameB l1[i].f0 = true ∧ l1[i].f1.any badNS = false := by
   unfold badN badNJ at hb
   cases hnm : nameB l1[i].f0 <;> simp_all
  simp only [h1.1, if_true]
  have h2 := named_l2 l0 l1 H i h v hv
  rwa [h1.2, if_neg (by simp)] at h2
theorem named_ev (l0 : List Mc) (l1 : List Jb) (H : Fits l0 l1) : Evt (fun k => gangsawref50_named.f k l0 l1) (if l0.any badNM then false else if l1.any badN then false else true) := by
 have hn0 := H.n0
 have hb0 : ∀ i (h : i < l0.length), ∀ k, gangsawref50_named.l0 (k + 1) l0 l1 (i : Int) = (gangsawref09_Name.f k l0[i].f0).bind fun t => if t = true then ((gangsawref09_Name.f k l0[i].f1).bind fun t => if t = true then gangsawref50_named.l0 k l0 l1 ((i + 1 : Nat) : Int) else some false) else some false := by
  intro i h k
  simp only [gangsawref50_named.l0, rdM_at l0 i h]
  rw [if_pos (by omega), if_pos (by omega), wrap_up i l0.length h hn0]
 refine Evt.any_list (F := fun k x => gangsawref50_named.l0 k l0 l1 x) badNM false ?_ ?_ ?_
 ·refine Evt.succ (named_l1 l0 l1 H) (fun k => ?_)
  simp only [gangsawref50_named.l0]
  rw [if_neg (by omega)]
 ·intro i h hb
  have hs := H.m _ (List.getElem_mem h)
  refine Evt.succ (Evt.bind (name_ev _ hs.1) ?_) (hb0 i h)
  cases hnm : nameB l0[i].f0 with
  | false => simp only [Bool.false_eq_true, if_false]; exact Evt.pure _
  | true =>
   simp only [if_true]
   have h2 : nameB l0[i].f1 = false := by simpa [badNM, hnm] using hb
   refine Evt.bind (name_ev _ hs.2) ?_
   simp only [h2, Bool.false_eq_true, if_false]; exact Evt.pure _
 ·intro i h hb v hv
  have hs := H.m _ (List.getElem_mem h)
  have h1 : nameB l0[i].f0 = true ∧ nameB l0[i].f1 = true := by unfold badNM at hb; simpa using hb
  refine Evt.succ (Evt.bind (name_ev _ hs.1) ?_) (hb0 i h)
  simp only [h1.1, if_true]
  refine Evt.bind (name_ev _ hs.2) ?_
  simp only [h1.2, if_true]; exact hv
section
variable (l0 : List Mc) (l1 : List Jb)
theorem ranged_bad (H : Fits l0 l1) (i : Nat) (hi : i < l1.length) (a : ByteArray) (x2 x3 x4 : Int) (n : Nat) (h : n < l1[i].f1.length) (hb : badRS l1[i].f1[n] = true) : Evt (fun k => gangsawref50_ranged.l2 k l1 i n a l1[i].f1 x2 x3 x4) false := by
 refine Evt.succ (g := fun _ => some false) (Evt.pure _) (fun k => ?_)
 simp only [gangsawref50_ranged.l2, rdS_at _ n h, inr_f, Option.bind_some]
 rw [if_pos (by omega), if_pos (by omega)]
 unfold badRS at hb
 cases h1 : inB l1[i].f1[n].f1 1 1000000 <;> simp_all
theorem ranged_go (H : Fits l0 l1) (i : Nat) (hi : i < l1.length) (a : ByteArray) (x2 x3 x4 : Int) (n : Nat) (h : n < l1[i].f1.length) (hb : badRS l1[i].f1[n] = false) (u : Bool) (hu : Evt (fun k => gangsawref50_ranged.l2 k l1 i ((n + 1 : Nat) : Int) a l1[i].f1 x2 x3 x4) u) : Evt (fun k => gangsawref50_ranged.l2 k l1 i n a l1[i].f1 x2 x3 x4) u := by
 have hJ := H.j _ (List.getElem_mem hi)
 refine Evt.succ hu (fun k => ?_)
 simp only [gangsawref50_ranged.l2, rdS_at _ n h, inr_f, Option.bind_some]
 have h1 : inB l1[i].f1[n].f1 1 1000000 = true ∧ inB l1[i].f1[n].f2 0 1000000 = true := by unfold badRS at hb; simpa using hb
 rw [if_pos (by omega), if_pos (by omega), wrap_up n _ h hJ.2.1, h1.1, h1.2]
 rfl
def badR (j : Jb) : Bool := badRJ j || j.f1.any badRS
theorem ranged_l1 (H : Fits l0 l1) : Evt (fun k => gangsawref50_ranged.l1 k l1 0) (if l1.any badR then false else true) := by
 have hn1 := H.n1
 have step : ∀ i (h : i < l1.length), ∀ k, gangsawref50_ranged.l1 (k + 1) l1 (i : Int) = gangsawref50_ranged.j2 k l1 i (badRJ l1[i]) l1[i].f0 l1[i].f1 l1[i].f2 l1[i].f3 l1[i].f4 := by
  intro i h k
  simp only [gangsawref50_ranged.l1, rdJ_at l1 i h, inr_f, Option.bind_some]
  rw [if_pos (by omega), if_pos (by omega)]
  unfold badRJ
  cases inB l1[i].f2 0 1000000 <;> cases inB l1[i].f3 0 1000000 <;> simp
 refine Evt.any_list (F := fun k x => gangsawref50_ranged.l1 k l1 x) badR false ?_ ?_ ?_
 ·refine Evt.succ (g := fun _ => some true) (Evt.pure _) (fun k => ?_)
  simp only [gangsawref50_ranged.l1]
  rw [if_neg (by omega)]
 ·intro i h hb
  refine Evt.succ (g := fun k => gangsawref50_ranged.j2 k l1 i (badRJ l1[i]) l1[i].f0 l1[i].f1 l1[i].f2 l1[i].f3 l1[i].f4) ?_ (step i h)
  cases hr : badRJ l1[i] with
  | true => exact Evt.succ (g := fun _ => some false) (Evt.pure _) (fun k => by simp only [gangsawref50_ranged.j2]; rfl)
  | false =>
   have ha : l1[i].f1.any badRS = true := by simpa [badR, hr] using hb
   exact Evt.succ (Evt.any_bad (F := fun k x => gangsawref50_ranged.l2 k l1 i x l1[i].f0 l1[i].f1 l1[i].f2 l1[i].f3 l1[i].f4) badRS false ha (ranged_bad l0 l1 H i h _ _ _ _) (ranged_go l0 l1 H i h _ _ _ _)) (fun k => by simp only [gangsawref50_ranged.j2]; rfl)
 ·intro i h hb v hv
  refine Evt.succ (g := fun k => gangsawref50_ranged.j2 k l1 i (badRJ l1[i]) l1[i].f0 l1[i].f1 l1[i].f2 l1[i].f3 l1[i].f4) ?_ (step i h)
  have h1 : badRJ l1[i] = false ∧ l1[i].f1.any badRS = false := by unfold badR at hb; simpa using hb
  rw [h1.1]
  have h2 : Evt (fun k => gangsawref50_ranged.l2 k l1 i 0 l1[i].f0 l1[i].f1 l1[i].f2 l1[i].f3 l1[i].f4) (if l1[i].f1.any badRS then false else v) := by
   refine Evt.any_list (F := fun k x => gangsawref50_ranged.l2 k l1 i x l1[i].f0 l1[i].f1 l1[i].f2 l1[i].f3 l1[i].f4) badRS false ?_ (ranged_bad l0 l1 H i h _ _ _ _) (ranged_go l0 l1 H i h _ _ _ _)
   refine Evt.succ hv (fun k => ?_)
   simp only [gangsawref50_ranged.l2]
   rw [if_neg (by omega), wrap_up i l1.length h hn1]
  rw [h1.2, if_neg (by simp)] at h2
  exact Evt.succ h2 (fun k => by simp only [gangsawref50_ranged.j2]; rfl)
theorem ranged_ev (H : Fits l0 l1) : Evt (fun k => gangsawref50_ranged.f k l0 l1) (if l0.any badRM then false else if l1.any badR then false else true) := by
 have hn0 := H.n0
 refine Evt.any_list (F := fun k x => gangsawref50_ranged.l0 k l0 l1 x) badRM false ?_ ?_ ?_
 ·refine Evt.succ (ranged_l1 l0 l1 H) (fun k => ?_)
  simp only [gangsawref50_ranged.l0]
  rw [if_neg (by omega)]
 ·intro i h hb
  refine Evt.succ (g := fun _ => some false) (Evt.pure _) (fun k => ?_)
  have h1 : inB l0[i].f2 0 1440 = false := by unfold badRM at hb; simpa using hb
  simp only [gangsawref50_ranged.l0, rdM_at l0 i h, inr_f, Option.bind_some, h1]
  rw [if_pos (by omega), if_pos (by omega)]; rfl
 ·intro i h hb v hv
  refine Evt.succ hv (fun k => ?_)
  have h1 : inB l0[i].f2 0 1440 = true := by unfold badRM at hb; simpa using hb
  simp only [gangsawref50_ranged.l0, rdM_at l0 i h, inr_f, Option.bind_some, h1]
  rw [if_pos (by omega), if_pos (by omega), if_pos trivial, wrap_up i l0.length h hn0]
end
theorem tl_inj {a b : ByteArray} : a.toList = b.toList ↔ a = b := by
 constructor
 ·intro h
  rw [ByteArray.toList_eq, ByteArray.toList_eq] at h
  cases a with | mk a => cases b with | mk b => congr 1; exact Array.toList_inj.1 h
 ·rintro rfl; rfl
theorem mk_at {α : Type} (nm : α → ByteArray) (s : ByteArray) : ∀ (l : List α) (m0 : Sm.SM ByteArray Bool), (l.foldl (fun m x => m.put (nm x) true) m0).at_ s false = (l.any (fun x => s == nm x) || m0.at_ s false)
 | [], m0 => by simp
 | x :: l, m0 => by
  rw [List.foldl_cons, mk_at nm s l]
  have h := Sm.SM.get_put m0 (nm x) s true
  have h2 : (m0.put (nm x) true).at_ s false = ((s == nm x) || m0.at_ s false) := by
   unfold Sm.SM.at_; rw [h]; cases s == nm x <;> simp
  rw [h2, List.any_cons]
  cases s == nm x <;> cases l.any (fun x => s == nm x) <;> simp
theorem new_at (s : ByteArray) : (Sm.SM.new : Sm.SM ByteArray Bool).at_ s false = false := rfl
theorem least {P : Nat → Prop} [DecidablePred P] : ∀ n, P n → ∃ p, p ≤ n ∧ P p ∧ ∀ q, q < p → ¬ P q := by
 intro n
 induction n using Nat.strongRecOn with
 | _ n ih =>
  intro h
  by_cases hq : ∃ q, q < n ∧ P q
  ·obtain ⟨q, hlt, hp⟩ := hq
   obtain ⟨p, h1, h2, h3⟩ := ih q hlt hp
   exact ⟨p, by omega, h2, h3⟩
  ·exact ⟨n, Nat.le_refl _, h, fun q hlt hp => hq ⟨q, hlt, hp⟩⟩
theorem fromM (l : List Mc) (hl : l.length ≤ 9223372036854775807) (s : ByteArray) (p : Nat) (hp : p < l.length) (hm : l[p].f0 = s) : ∀ d n, n + d = p → (∀ q (h : q < l.length), n ≤ q → q < p → l[q].f0 ≠ s) → Evt (fun k => gangsawref50_machine.l0 k l s n) (p : Int)
 | 0, n, e, hq => by
  obtain rfl : n = p := by omega
  refine Evt.succ (g := fun _ => some (n : Int)) (Evt.pure _) (fun k => ?_)
  simp only [gangsawref50_machine.l0, rdM_at l n hp, tl_inj, hm]
  rw [if_pos (by omega), if_pos (by omega), if_pos trivial]
 | d + 1, n, e, hq => by
  refine Evt.succ (fromM l hl s p hp hm d (n + 1) (by omega) (fun q h h1 h2 => hq q h (by omega) h2)) (fun k => ?_)
  have hn : n < l.length := by omega
  have hne := hq n hn (Nat.le_refl _) (by omega)
  simp only [gangsawref50_machine.l0, rdM_at l n hn, tl_inj]
  rw [if_pos (by omega), if_pos (by omega), if_neg hne, wrap_up n l.length hn hl]
theorem indexM (l : List Mc) (hl : l.length ≤ 9223372036854775807) (i : Nat) (hi : i < l.length) : ∃ p : Nat, Evt (fun k => gangsawref50_machine.f k l l[i].f0) (p : Int) ∧ (p ≠ i ↔ dupM (fun x => x.f0) l i = true) := by
 have hP : ∃ h : i < l.length, l[i].f0 = l[i].f0 := ⟨hi, rfl⟩
 obtain ⟨p, hpi, ⟨hp, hm⟩, hmin⟩ := least (P := fun q => ∃ h : q < l.length, l[q].f0 = l[i].f0) i hP
 refine ⟨p, fromM l hl l[i].f0 p hp hm p 0 (by omega) (fun q h _ h2 e => hmin q h2 ⟨h, e⟩), ?_⟩
 unfold dupM mkM
 rw [mk_at, new_at, Bool.or_false, getD_nat _ _ _ hi, List.any_eq_true]
 constructor
 ·intro hne
  exact ⟨l[p], List.mem_take_iff_getElem.2 ⟨p, by omega, rfl⟩, by simp [hm]⟩
 ·rintro ⟨x, hx, hxe⟩
  obtain ⟨q, hq, rfl⟩ := List.mem_take_iff_getElem.1 hx
  have e := eq_of_beq hxe
  intro hpe
  exact hmin q (by omega) ⟨by omega, e.symm⟩
theorem fromJ (l : List Jb) (hl : l.length ≤ 9223372036854775807) (s : ByteArray) (p : Nat) (hp : p < l.length) (hm : l[p].f0 = s) : ∀ d n, n + d = p → (∀ q (h : q < l.length), n ≤ q → q < p → l[q].f0 ≠ s) → Evt (fun k => gangsawref50_job.l0 k l s n) (p : Int)
 | 0, n, e, hq => by
  obtain rfl : n = p := by omega
  refine Evt.succ (g := fun _ => some (n : Int)) (Evt.pure _) (fun k => ?_)
  simp only [gangsawref50_job.l0, rdJ_at l n hp, tl_inj, hm]
  rw [if_pos (by omega), if_pos (by omega), if_pos trivial]
 | d + 1, n, e, hq => by
  refine Evt.succ (fromJ l hl s p hp hm d (n + 1) (by omega) (fun q h h1 h2 => hq q h (by omega) h2)) (fun k => ?_)
  have hn : n < l.length := by omega
  have hne := hq n hn (Nat.le_refl _) (by omega)
  simp only [gangsawref50_job.l0, rdJ_at l n hn, tl_inj]
  rw [if_pos (by omega), if_pos (by omega), if_neg hne, wrap_up n l.length hn hl]
theorem indexJ (l : List Jb) (hl : l.length ≤ 9223372036854775807) (i : Nat) (hi : i < l.length) : ∃ p : Nat, Evt (fun k => gangsawref50_job.f k l l[i].f0) (p : Int) ∧ (p ≠ i ↔ dupJ (fun x => x.f0) l i = true) := by
 have hP : ∃ h : i < l.length, l[i].f0 = l[i].f0 := ⟨hi, rfl⟩
 obtain ⟨p, hpi, ⟨hp, hm⟩, hmin⟩ := least (P := fun q => ∃ h : q < l.length, l[q].f0 = l[i].f0) i hP
 refine ⟨p, fromJ l hl l[i].f0 p hp hm p 0 (by omega) (fun q h _ h2 e => hmin q h2 ⟨h, e⟩), ?_⟩
 unfold dupJ mkJ
 rw [mk_at, new_at, Bool.or_false, getD_nat _ _ _ hi, List.any_eq_true]
 constructor
 ·intro hne
  exact ⟨l[p], List.mem_take_iff_getElem.2 ⟨p, by omega, rfl⟩, by simp [hm]⟩
 ·rintro ⟨x, hx, hxe⟩
  obtain ⟨q, hq, rfl⟩ := List.mem_take_iff_getElem.1 hx
  have e := eq_of_beq hxe
  intro hpe
  exact hmin q (by omega) ⟨by omega, e.symm⟩
theorem lost_eq (l0 : List Mc) (s : Sp) : lost l0 s = !(l0.any (fun x => s.f0 == x.f1)) := by
 unfold lost worksM mkM
 rw [mk_at, new_at, Bool.or_false]
section
variable (l0 : List Mc) (l1 : List Jb)
theorem check_l6 (H : Fits l0 l1) (i : Nat) (hi : i < l1.length) (n : Nat) (hn : n < l1[i].f1.length) (v : Int) : ∀ m, m ≤ l0.length → ∀ b : Bool,
  ((b || (l0.drop m).any (fun x => l1[i].f1[n].f0 == x.f1)) = true → Evt (fun k => gangsawref50_Check.l5 k l0 l1 i ((n + 1 : Nat) : Int)) v) →
  Evt (fun k => gangsawref50_Check.l6 k l0 l1 i n b m) (if (b || (l0.drop m).any (fun x => l1[i].f1[n].f0 == x.f1)) = true then v else 3) := by
 have hJ := H.j _ (List.getElem_mem hi)
 have hn0 := H.n0
 refine down ?_ ?_
 ·intro b hv
  rw [List.drop_length, List.any_nil, Bool.or_false] at hv ⊢
  cases b with
  | true =>
   refine Evt.succ (hv rfl) (fun k => ?_)
   simp only [gangsawref50_Check.l6]
   rw [if_neg (by omega), if_pos trivial, wrap_up n _ hn hJ.2.1]
  | false =>
   refine Evt.succ (g := fun _ => some 3) (Evt.pure _) (fun k => ?_)
   simp only [gangsawref50_Check.l6]
   rw [if_neg (by omega)]; rfl
 ·intro m hm ih b hv
  rw [List.drop_eq_getElem_cons hm, List.any_cons] at hv ⊢
  cases b with
  | true =>
   have h2 := ih true (fun _ => hv rfl)
   simp only [Bool.true_or] at h2 ⊢
   refine Evt.succ h2 (fun k => ?_)
   simp only [gangsawref50_Check.l6]
   rw [if_pos (by omega), if_pos trivial, wrap_up m _ hm hn0]
  | false =>
   simp only [Bool.false_or] at hv ⊢
   refine Evt.succ (ih (l1[i].f1[n].f0 == l0[m].f1) hv) (fun k => ?_)
   simp only [gangsawref50_Check.l6, rdM_at l0 m hm, rdJ_at l1 i hi, rdS_at _ n hn]
   have he : (l0[m].f1.toList == l1[i].f1[n].f0.toList) = (l1[i].f1[n].f0 == l0[m].f1) := by
    rw [Bool.eq_iff_iff, beq_iff_eq, beq_iff_eq, tl_inj]; exact eq_comm
   rw [if_pos (by omega), if_neg (by simp), if_pos (by omega), if_pos (by omega), if_pos (by omega), if_pos (by omega), if_pos (by omega), he, wrap_up m _ hm hn0]
theorem check_l5s (i : Nat) (hi : i < l1.length) (n : Nat) (hn : n < l1[i].f1.length) (k : Nat) : gangsawref50_Check.l5 (k + 1) l0 l1 i n = gangsawref50_Check.l6 k l0 l1 i n false 0 := by
 simp only [gangsawref50_Check.l5, rdJ_at l1 i hi]
 rw [if_pos (by omega), if_pos (by omega), if_pos (by omega)]
theorem check_bad (H : Fits l0 l1) (i : Nat) (hi : i < l1.length) (n : Nat) (hn : n < l1[i].f1.length) (hb : lost l0 l1[i].f1[n] = true) : Evt (fun k => gangsawref50_Check.l5 k l0 l1 i n) 3 := by
 have hq : l0.any (fun x => l1[i].f1[n].f0 == x.f1) = false := by rw [lost_eq] at hb; simpa using hb
 have h := check_l6 l0 l1 H i hi n hn 0 0 (Nat.zero_le _) false (by rw [List.drop_zero, hq]; simp)
 rw [List.drop_zero, hq, if_neg (by simp)] at h
 exact Evt.succ h (check_l5s l0 l1 i hi n hn)
theorem check_go (H : Fits l0 l1) (i : Nat) (hi : i < l1.length) (n : Nat) (hn : n < l1[i].f1.length) (hb : lost l0 l1[i].f1[n] = false) (v : Int) (hv : Evt (fun k => gangsawref50_Check.l5 k l0 l1 i ((n + 1 : Nat) : Int)) v) : Evt (fun k => gangsawref50_Check.l5 k l0 l1 i n) v := by
 have hq : l0.any (fun x => l1[i].f1[n].f0 == x.f1) = true := by rw [lost_eq] at hb; simpa using hb
 have h := check_l6 l0 l1 H i hi n hn v 0 (Nat.zero_le _) false (fun _ => hv)
 rw [List.drop_zero, hq, if_pos (by simp)] at h
 exact Evt.succ h (check_l5s l0 l1 i hi n hn)
theorem check_l4 (H : Fits l0 l1) : Evt (fun k => gangsawref50_Check.l4 k l0 l1 0) (if l1.any (fun j : Jb => j.f1.any (lost l0)) then 3 else 0) := by
 have hn1 := H.n1
 have step : ∀ i (h : i < l1.length), ∀ k, gangsawref50_Check.l4 (k + 1) l0 l1 (i : Int) = gangsawref50_Check.l5 k l0 l1 i 0 := by
  intro i h k
  simp only [gangsawref50_Check.l4]
  rw [if_pos (by omega)]
 refine Evt.any_list (F := fun k x => gangsawref50_Check.l4 k l0 l1 x) (fun j : Jb => j.f1.any (lost l0)) 3 ?_ ?_ ?_
 ·refine Evt.succ (g := fun _ => some 0) (Evt.pure _) (fun k => ?_)
  simp only [gangsawref50_Check.l4]
  rw [if_neg (by omega)]
 ·intro i h hb
  exact Evt.succ (Evt.any_bad (F := fun k x => gangsawref50_Check.l5 k l0 l1 i x) (lost l0) 3 hb (check_bad l0 l1 H i h) (check_go l0 l1 H i h)) (step i h)
 ·intro i h hb v hv
  have h2 : Evt (fun k => gangsawref50_Check.l5 k l0 l1 i 0) (if l1[i].f1.any (lost l0) then 3 else v) := by
   refine Evt.any_list (F := fun k x => gangsawref50_Check.l5 k l0 l1 i x) (lost l0) 3 ?_ (check_bad l0 l1 H i h) (check_go l0 l1 H i h)
   refine Evt.succ hv (fun k => ?_)
   simp only [gangsawref50_Check.l5, rdJ_at l1 i h]
   rw [if_pos (by omega), if_pos (by omega), if_neg (by omega), wrap_up i l1.length h hn1]
  have hb' : l1[i].f1.any (lost l0) = false := hb
  rw [hb', if_neg (by simp)] at h2
  exact Evt.succ h2 (step i h)
theorem check_l3 (H : Fits l0 l1) (V : Int) (hV : Evt (fun k => gangsawref50_Check.l4 k l0 l1 0) V) : Evt (fun k => gangsawref50_Check.l3 k l0 l1 0) (if (List.range l1.length).any (dupJ (fun x => x.f0) l1) then 5 else V) := by
 have hn1 := H.n1
 rw [List.range_eq_range']
 refine Evt.any_up (F := fun k x => gangsawref50_Check.l3 k l0 l1 x) (n := l1.length) (dupJ (fun x => x.f0) l1) 5 ?_ ?_ ?_ 0 (Nat.zero_le _)
 ·refine Evt.succ hV (fun k => ?_)
  simp only [gangsawref50_Check.l3]
  rw [if_neg (by omega)]
 ·intro i h hb
  obtain ⟨p, hp, hiff⟩ := indexJ l1 hn1 i h
  refine Evt.succ (g := fun k => (gangsawref50_job.f k l1 l1[i].f0).bind fun t => if t = (i : Int) then gangsawref50_Check.l3 k l0 l1 ((i + 1 : Nat) : Int) else some 5) (Evt.bind hp ?_) (fun k => ?_)
  ·have := hiff.2 hb
   simp only [if_neg (show ¬ (p : Int) = (i : Int) by omega)]; exact Evt.pure _
  ·simp only [gangsawref50_Check.l3, rdJ_at l1 i h]
   rw [if_pos (by omega), if_pos (by omega), wrap_up i _ h hn1]
 ·intro i h hb v hv
  obtain ⟨p, hp, hiff⟩ := indexJ l1 hn1 i h
  refine Evt.succ (g := fun k => (gangsawref50_job.f k l1 l1[i].f0).bind fun t => if t = (i : Int) then gangsawref50_Check.l3 k l0 l1 ((i + 1 : Nat) : Int) else some 5) (Evt.bind hp ?_) (fun k => ?_)
  ·have : p = i := Decidable.byContradiction fun hne => by rw [hiff.1 hne] at hb; cases hb
   simp only [if_pos (show (p : Int) = (i : Int) by omega)]; exact hv
  ·simp only [gangsawref50_Check.l3, rdJ_at l1 i h]
   rw [if_pos (by omega), if_pos (by omega), wrap_up i _ h hn1]
theorem check_l2 (H : Fits l0 l1) (V : Int) (hV : Evt (fun k => gangsawref50_Check.l3 k l0 l1 0) V) : Evt (fun k => gangsawref50_Check.l2 k l0 l1 0) (if (List.range l0.length).any (dupM (fun x => x.f0) l0) then 5 else V) := by
 have hn0 := H.n0
 rw [List.range_eq_range']
 refine Evt.any_up (F := fun k x => gangsawref50_Check.l2 k l0 l1 x) (n := l0.length) (dupM (fun x => x.f0) l0) 5 ?_ ?_ ?_ 0 (Nat.zero_le _)
 ·refine Evt.succ hV (fun k => ?_)
  simp only [gangsawref50_Check.l2]
  rw [if_neg (by omega)]
 ·intro i h hb
  obtain ⟨p, hp, hiff⟩ := indexM l0 hn0 i h
  refine Evt.succ (g := fun k => (gangsawref50_machine.f k l0 l0[i].f0).bind fun t => if t = (i : Int) then gangsawref50_Check.l2 k l0 l1 ((i + 1 : Nat) : Int) else some 5) (Evt.bind hp ?_) (fun k => ?_)
  ·have := hiff.2 hb
   simp only [if_neg (show ¬ (p : Int) = (i : Int) by omega)]; exact Evt.pure _
  ·simp only [gangsawref50_Check.l2, rdM_at l0 i h]
   rw [if_pos (by omega), if_pos (by omega), wrap_up i _ h hn0]
 ·intro i h hb v hv
  obtain ⟨p, hp, hiff⟩ := indexM l0 hn0 i h
  refine Evt.succ (g := fun k => (gangsawref50_machine.f k l0 l0[i].f0).bind fun t => if t = (i : Int) then gangsawref50_Check.l2 k l0 l1 ((i + 1 : Nat) : Int) else some 5) (Evt.bind hp ?_) (fun k => ?_)
  ·have : p = i := Decidable.byContradiction fun hne => by rw [hiff.1 hne] at hb; cases hb
   simp only [if_pos (show (p : Int) = (i : Int) by omega)]; exact hv
  ·simp only [gangsawref50_Check.l2, rdM_at l0 i h]
   rw [if_pos (by omega), if_pos (by omega), wrap_up i _ h hn0]
theorem check_l1 (H : Fits l0 l1) (V : Int) (hV : Evt (fun k => gangsawref50_Check.l2 k l0 l1 0) V) : Evt (fun k => gangsawref50_Check.l1 k l0 l1 0) (if l1.any bare then 9 else V) := by
 have hn1 := H.n1
 refine Evt.any_list (F := fun k x => gangsawref50_Check.l1 k l0 l1 x) bare 9 ?_ ?_ ?_
 ·refine Evt.succ hV (fun k => ?_)
  simp only [gangsawref50_Check.l1]
  rw [if_neg (by omega)]
 ·intro i h hb
  refine Evt.succ (g := fun _ => some 9) (Evt.pure _) (fun k => ?_)
  simp only [gangsawref50_Check.l1, rdJ_at l1 i h]
  rw [if_pos (by omega), if_pos (by omega), if_pos (by simpa [bare] using hb)]
 ·intro i h hb v hv
  refine Evt.succ hv (fun k => ?_)
  simp only [gangsawref50_Check.l1, rdJ_at l1 i h]
  rw [if_pos (by omega), if_pos (by omega), if_neg (by simpa [bare] using hb), wrap_up i _ h hn1]
end
section
variable (l0 : List Mc) (l1 : List Jb)
def R1 : Int := if l1.any bare then 9 else if (List.range l0.length).any (dupM (fun x => x.f0) l0) then 5 else if (List.range l1.length).any (dupJ (fun x => x.f0) l1) then 5 else if l1.any (fun j : Jb => j.f1.any (lost l0)) then 3 else 0
def R2 : Int := if (if l0.any badNM then false else if l1.any badN then false else true) = true then (if (if l0.any badRM then false else if l1.any badR then false else true) = true then R1 l0 l1 else 6) else 4
theorem check_rest (H : Fits l0 l1) : Evt (fun k => (gangsawref50_named.f k l0 l1).bind fun t => if t = true then ((gangsawref50_ranged.f k l0 l1).bind fun t => if t = true then gangsawref50_Check.l1 k l0 l1 0 else some 6) else some 4) (R2 l0 l1) := by
 refine Evt.bind (named_ev l0 l1 H) ?_
 unfold R2
 cases (if l0.any badNM then false else if l1.any badN then false else true : Bool) with
 | false => simp only [Bool.false_eq_true, if_false]; exact Evt.pure _
 | true =>
  simp only [if_true]
  refine Evt.bind (ranged_ev l0 l1 H) ?_
  cases (if l0.any badRM then false else if l1.any badR then false else true : Bool) with
  | false => simp only [Bool.false_eq_true, if_false]; exact Evt.pure _
  | true =>
   simp only [if_true]
   exact check_l1 l0 l1 H _ (check_l2 l0 l1 H _ (check_l3 l0 l1 H _ (check_l4 l0 l1 H)))
theorem check_l0 (H : Fits l0 l1) : ∀ m, m ≤ l1.length → ∀ b : Bool, Evt (fun k => gangsawref50_Check.l0 k l0 l1 b m) (if (b || (l1.drop m).any long) = true then 7 else R2 l0 l1) := by
 have hn1 := H.n1
 refine down ?_ ?_
 ·intro b
  rw [List.drop_length, List.any_nil, Bool.or_false]
  cases b with
  | true =>
   refine Evt.succ (g := fun _ => some 7) (Evt.pure _) (fun k => ?_)
   simp only [gangsawref50_Check.l0]
   rw [if_neg (by omega)]; rfl
  | false =>
   refine Evt.succ (check_rest l0 l1 H) (fun k => ?_)
   simp only [gangsawref50_Check.l0]
   rw [if_neg (by omega)]; rfl
 ·intro m hm ih b
  rw [List.drop_eq_getElem_cons hm, List.any_cons]
  cases b with
  | true =>
   have h2 := ih true
   simp only [Bool.true_or] at h2 ⊢
   refine Evt.succ h2 (fun k => ?_)
   simp only [gangsawref50_Check.l0]
   rw [if_pos (by omega), if_pos trivial, wrap_up m _ hm hn1]
  | false =>
   simp only [Bool.false_or]
   refine Evt.succ (ih (long l1[m])) (fun k => ?_)
   simp only [gangsawref50_Check.l0, rdJ_at l1 m hm]
   rw [if_pos (by omega), if_neg (by simp), if_pos (by omega), wrap_up m _ hm hn1]
   rfl
theorem any_or {α : Type} (p q : α → Bool) (l : List α) : l.any (fun x => p x || q x) = (l.any p || l.any q) := by
 induction l with
 | nil => rfl
 | cons x l ih => simp only [List.any_cons, ih]; cases p x <;> cases q x <;> cases l.any p <;> rfl
theorem V_eq : V l0 l1 = (if ((decide ((l0.length : Int) > 32) || decide ((l1.length : Int) > 128)) || l1.any long) = true then 7 else R2 l0 l1) := by
 have e1 : l1.any badN = (l1.any badNJ || l1.any (fun j => j.f1.any badNS)) := any_or badNJ (fun j => j.f1.any badNS) l1
 have e2 : l1.any badR = (l1.any badRJ || l1.any (fun j => j.f1.any badRS)) := any_or badRJ (fun j => j.f1.any badRS) l1
 unfold V R2 R1
 rw [e1, e2]
 by_cases c1 : (l0.length : Int) > 32
 ·simp [c1]
 by_cases c2 : (l1.length : Int) > 128
 ·simp [c2]
 simp only [c1, c2, if_false, decide_false, Bool.false_or]
 cases l1.any long <;> cases l0.any badNM <;> cases l1.any badNJ <;> cases l1.any (fun j => j.f1.any badNS) <;> cases l0.any badRM <;> cases l1.any badRJ <;> cases l1.any (fun j => j.f1.any badRS) <;> simp
theorem check_ev (H : Fits l0 l1) : Evt (fun k => gangsawref50_Check.f k l0 l1) (V l0 l1) := by
 have key : ∀ b : Bool, Evt (fun k => gangsawref50_Check.j0 k l0 l1 b) (if (b || l1.any long) = true then 7 else R2 l0 l1) := by
  intro b
  have h := check_l0 l0 l1 H 0 (Nat.zero_le _) b
  rw [List.drop_zero] at h
  exact Evt.succ h (fun k => by simp only [gangsawref50_Check.j0]; rfl)
 rw [V_eq]
 unfold gangsawref50_Check.f
 by_cases c1 : (l0.length : Int) > 32
 ·have h := key true
  simp only [if_pos c1, decide_true, Bool.true_or, c1] at h ⊢
  exact h
 ·have h := key (decide ((l1.length : Int) > 128))
  simp only [if_neg c1, decide_false, Bool.false_or, c1] at h ⊢
  exact h
end
end Go.Proofs.YtkdbcaegeeeiaaaGreat.PCheck
