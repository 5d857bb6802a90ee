/-
  What machine.CheckJobs and machine.Load yield, in plain terms.
-/
import Derived.Test.YtpfggghpkdnppaaPMach
import Derived.Test.YtpfggghpkdnppaaPx7
set_option linter.unusedVariables false
set_option linter.unusedSimpArgs false
namespace Go.Proofs.Ytpfggghpkdnppaa.PEach
open Go.RowKit Go.Proofs.YtpfggghpkdnppaaW.PrintWords Go.Proofs.Ytpfggghpkdnppaa.P Go.Proofs.Ytpfggghpkdnppaa.Rnd Go.Proofs.Ytpfggghpkdnppaa.Lex Go.Proofs.Ytpfggghpkdnppaa.PName Go.Proofs.Ytpfggghpkdnppaa.Open Go.Proofs.Ytpfggghpkdnppaa.Ks Go.Proofs.Ytpfggghpkdnppaa.Hof Go.Proofs.Ytpfggghpkdnppaa.PMach Go.Proofs.Ytpfggghpkdnppaa.Sm

def stepB (s : S36) : Bool := inB s.f1 1 100000 && inB s.f2 0 100000
theorem timed_f (s : S36) : machine_timed.f s.f0 s.f1 s.f2 = some (stepB s) := by
  unfold machine_timed.f stepB; simp only [in_f, Option.bind_some]; grind
def longJ (j : S47) : Bool := decide (16 < j.f1.length)
def noneJ (j : S47) : Bool := decide (j.f1.length = 0)
def unnamedJ (j : S47) : Bool := !nameB j.f0 || j.f1.any fun s => !nameB s.f0
def rangeJ (j : S47) : Bool := (j.f1.any fun s => !stepB s) || !inB j.f2 0 10000000 || !inB j.f3 0 10000000 || !inB j.f4 0 100
def adjJ (l : List S47) (i : Nat) : Bool := !lessB (l.getD (i - 1) z47).f0 (l.getD i z47).f0
def sortedJ (l : List S47) : Bool := !(List.range' 1 (l.length - 1)).any (adjJ l)
def unknownS (l : List S34) (s : S36) : Bool := decide ((whoV l s.f0 0).length = 0)
def eachV (l : List S34) (js : List S47) (sorted : Bool) : Int :=
  if js.any longJ then 7 else if js.any noneJ then 1 else if js.any unnamedJ then 4 else if js.any rangeJ then 6 else if sorted && !sortedJ js then 5 else if js.any (fun j => j.f1.any (unknownS l)) then 3 else 0
def checkJobsV (l : List S34) (js : List S47) : Int := if checkV l = 0 then (if 128 < js.length then 7 else eachV l js true) else checkV l
theorem e5 (j : S47) : machine_each_5.f j.f0 j.f1 j.f2 j.f3 j.f4 = some (longJ j) := by
  unfold machine_each_5.f longJ
  have : decide ((j.f1.length : Int) > 16) = decide (16 < j.f1.length) := decide_eq_decide.2 (by omega)
  rw [this]
theorem e6 (j : S47) : machine_each_6.f j.f0 j.f1 j.f2 j.f3 j.f4 = some (noneJ j) := by
  unfold machine_each_6.f noneJ
  have : ((j.f1.length : Int) == 0) = decide (j.f1.length = 0) := by
    rw [Bool.eq_iff_iff, beq_iff_eq, decide_eq_true_eq]; omega
  rw [this]
theorem e21 (q : S36 → Bool) (j : S47) : machine_each_2_1.f j.f0 j.f1 j.f2 j.f3 j.f4 (fun s => some (q s)) = some (j.f1.any q) := by
  unfold machine_each_2_1.f contains36.f; rw [anyO_some]; rfl
theorem e1 (q : S47 → Bool) (js : List S47) : machine_each_1.f (fun j => some (q j)) js = some (js.any q) := by
  unfold machine_each_1.f contains47.f; rw [anyO_some]; rfl
theorem e3 : (fun x_ : S36 => machine_each_3.f x_.f0 x_.f1 x_.f2) = fun s => some (!nameB s.f0) := by
  funext s; unfold machine_each_3.f; rw [name_f]; rfl
theorem e4 : (fun x_ : S36 => machine_each_4.f x_.f0 x_.f1 x_.f2) = fun s => some (!stepB s) := by
  funext s; unfold machine_each_4.f; rw [timed_f]; rfl
theorem e9 (l : List S34) (hl : l.length ≤ 1000000) : (fun x_ : S36 => machine_each_9.f x_.f0 x_.f1 x_.f2 l) = fun s => some (unknownS l s) := by
  funext s; unfold machine_each_9.f unknownS; rw [can_f l s.f0 hl, Option.bind_some]
  congr 1
  rw [Bool.eq_iff_iff, beq_iff_eq, decide_eq_true_eq]; omega
theorem e7 (j : S47) : machine_each_7.f j.f0 j.f1 j.f2 j.f3 j.f4 (fun x_ => machine_each_2_1.f x_.f0 x_.f1 x_.f2 x_.f3 x_.f4 fun s => some (!nameB s.f0)) = some (unnamedJ j) := by
  have e := e21 (fun s => !nameB s.f0) j
  unfold machine_each_7.f unnamedJ; simp only [name_f, e, Option.bind_some]; cases nameB j.f0 <;> simp
theorem e8 (j : S47) : machine_each_8.f j.f0 j.f1 j.f2 j.f3 j.f4 (fun x_ => machine_each_2_1.f x_.f0 x_.f1 x_.f2 x_.f3 x_.f4 fun s => some (!stepB s)) = some (rangeJ j) := by
  have e := e21 (fun s => !stepB s) j
  unfold machine_each_8.f rangeJ
  simp only [e, in_f, Option.bind_some]
  cases (j.f1.any fun s => !stepB s) <;> cases inB j.f2 0 10000000 <;> cases inB j.f3 0 10000000 <;> cases inB j.f4 0 100 <;> rfl
theorem each_last (l : List S34) (js : List S47) (hl : l.length ≤ 1000000) (k : Nat) (b : Bool) (i : Int) : machine_each.j1 (k + 1) b i false l js = some (if js.any (fun j => j.f1.any (unknownS l)) then 3 else 0) := by
  simp only [machine_each.j1, Bool.false_eq_true, if_false, machine_each_2.f, Option.bind_some, e9 l hl]
  rw [show (fun x_ : S47 => machine_each_2_1.f x_.f0 x_.f1 x_.f2 x_.f3 x_.f4 fun s => some (unknownS l s)) = fun j => some (j.f1.any (unknownS l)) from funext (fun j => e21 _ j), e1]
  cases js.any (fun j => j.f1.any (unknownS l)) <;> rfl
theorem each_sorted (l : List S34) (js : List S47) (hl : l.length ≤ 1000000) (hj : js.length ≤ 9223372036854775807) (b : Bool) :
    Evt (fun k => machine_each.l0 k b 1 l js) (if b && !sortedJ js then 5 else if js.any (fun j => j.f1.any (unknownS l)) then 3 else 0) := by
  have hlast : ∀ i, Evt (fun k => machine_each.j1 k b i false l js) (if js.any (fun j => j.f1.any (unknownS l)) then 3 else 0) := fun i => Evt.succ (g := fun _ => some _) (Evt.pure _) (fun k => each_last l js hl k b i)
  cases b with
  | false =>
    rw [Bool.false_and]
    refine Evt.succ (hlast 1) (fun k => ?_)
    simp only [machine_each.l0]
    split <;> rfl
  | true =>
    rw [Bool.true_and]
    have e : (if (!sortedJ js) = true then (5 : Int) else if js.any (fun j => j.f1.any (unknownS l)) then 3 else 0) = (if (List.range' 1 (js.length - 1)).any (adjJ js) then 5 else if js.any (fun j => j.f1.any (unknownS l)) then 3 else 0) := by
      unfold sortedJ; cases (List.range' 1 (js.length - 1)).any (adjJ js) <;> rfl
    rw [e]
    have hend : ∀ i : Int, (js.length : Int) ≤ i → Evt (fun k => machine_each.l0 k true i l js) (if js.any (fun j => j.f1.any (unknownS l)) then 3 else 0) := fun i hi =>
      Evt.succ (hlast i) (fun k => by simp only [machine_each.l0]; rw [if_neg (by omega)])
    by_cases hn : js.length = 0
    · have : (List.range' 1 (js.length - 1)).any (adjJ js) = false := by simp [hn]
      rw [this]
      exact hend 1 (by omega)
    · have key : ∀ i, i ≤ js.length → 1 ≤ i → Evt (fun k => machine_each.l0 k true (i : Nat) l js) (if (List.range' i (js.length - i)).any (adjJ js) then 5 else if js.any (fun j => j.f1.any (unknownS l)) then 3 else 0) := by
        refine down ?_ ?_
        · intro _; simp only [Nat.sub_self, List.range'_zero, List.any_nil, Bool.false_eq_true, if_false]; exact hend _ (Int.le_refl _)
        · intro i hi ih h1
          have e : js.length - i = (js.length - (i + 1)) + 1 := by omega
          rw [e, List.range'_succ, List.any_cons]
          refine Evt.succ (g := fun k => machine_each.j1 k true i true l js) ?_ (fun k => by simp only [machine_each.l0]; rw [if_pos (by omega)])
          cases hb : adjJ js i with
          | true =>
            rw [Bool.true_or, if_pos rfl]
            refine Evt.succ (g := fun _ => some 5) (Evt.pure _) (fun k => ?_)
            simp only [machine_each.j1, if_true, wrap_prev i h1 (by omega), rd47_at js i hi, rd47_at js (i - 1) (by omega)]
            have hb' : lessB js[i - 1].f0 js[i].f0 = false := by
              unfold adjJ at hb
              rw [getD_nat _ _ _ hi, getD_nat _ _ _ (show i - 1 < js.length by omega)] at hb
              simpa using hb
            unfold lessB at hb'
            rw [if_pos (by omega), if_pos (by omega), if_pos (by omega), if_pos (by omega), hb']; rfl
          | false =>
            rw [Bool.false_or]
            refine Evt.succ (ih (by omega)) (fun k => ?_)
            simp only [machine_each.j1, if_true, wrap_prev i h1 (by omega), rd47_at js i hi, rd47_at js (i - 1) (by omega)]
            have hb' : lessB js[i - 1].f0 js[i].f0 = true := by
              unfold adjJ at hb
              rw [getD_nat _ _ _ hi, getD_nat _ _ _ (show i - 1 < js.length by omega)] at hb
              simpa using hb
            unfold lessB at hb'
            rw [if_pos (by omega), if_pos (by omega), if_pos (by omega), if_pos (by omega), hb', if_pos rfl, wrap_up i js.length hi hj]
      exact key 1 (by omega) (Nat.le_refl _)
theorem each_ev (l : List S34) (js : List S47) (hl : l.length ≤ 1000000) (hj : js.length ≤ 9223372036854775807) (b : Bool) : Evt (fun k => machine_each.f k l js b) (eachV l js b) := by
  unfold machine_each.f eachV
  simp only [machine_each_2.f, Option.bind_some, e3, e4, e5, e6, e7, e8, e1]
  cases js.any longJ with
  | true => exact Evt.pure _
  | false =>
    simp only [Bool.false_eq_true, if_false]
    cases js.any noneJ with
    | true => exact Evt.pure _
    | false =>
      simp only [Bool.false_eq_true, if_false]
      cases js.any unnamedJ with
      | true => exact Evt.pure _
      | false =>
        simp only [Bool.false_eq_true, if_false]
        cases js.any rangeJ with
        | true => exact Evt.pure _
        | false => exact each_sorted l js hl hj b
theorem checkV_len {l : List S34} (h : checkV l = 0) : l.length ≤ 32 := by
  unfold checkV at h
  by_cases c : l.length > 32
  · rw [if_pos c] at h; omega
  · omega
theorem checkJobs_ev (l : List S34) (js : List S47) (hl : l.length ≤ 9223372036854775807) (hj : js.length ≤ 9223372036854775807) : Evt (fun k => machine_CheckJobs.f k l js) (checkJobsV l js) := by
  unfold machine_CheckJobs.f checkJobsV
  refine Evt.bind (check_ev l hl) ?_
  by_cases c : checkV l = 0
  · simp only [if_pos c]
    by_cases c2 : 128 < js.length
    · simp only [if_pos c2]; exact Evt.const (fun k => by rw [if_pos (by omega)])
    · simp only [if_neg c2]
      refine Evt.of_eq (g := fun k => (machine_each.f k l js true).bind fun t => some t) (Evt.bind (each_ev l js (by have := checkV_len c; omega) hj true) (Evt.pure _)) (fun k => by rw [if_neg (by omega)])
  · simp only [if_neg c]; exact Evt.pure _

def bnd (l : List S34) (w : ByteArray) : Option Int := match whoV l w 0 with | [j] => some j | _ => none
def stepV (l : List S34) (out : List Int) (s : S36) : List Int := match bnd l s.f0 with | some j => out.set j.toNat (wrap64 (rd out j + s.f1)) | none => out
def jobV (l : List S34) (out : List Int) (j : S47) : List Int := j.f1.foldl (stepV l) out
def loadV (l : List S34) (js : List S47) : List Int := js.foldl (jobV l) (List.replicate l.length 0)
theorem stepV_len (l : List S34) (out : List Int) (s : S36) : (stepV l out s).length = out.length := by unfold stepV; split <;> simp
theorem foldl_len {β : Type} (f : List Int → β → List Int) (hf : ∀ o b, (f o b).length = o.length) (bs : List β) (o : List Int) : (bs.foldl f o).length = o.length := by
  induction bs generalizing o with
  | nil => rfl
  | cons b bs ih => rw [List.foldl_cons, ih, hf]
theorem jobV_len (l : List S34) (out : List Int) (j : S47) : (jobV l out j).length = out.length := foldl_len _ (stepV_len l) _ _
theorem loadV_len (l : List S34) (js : List S47) : (loadV l js).length = l.length := by unfold loadV; rw [foldl_len _ (jobV_len l)]; simp
theorem bytes_eq (a b : ByteArray) : (a == b) = decide (a.toList = b.toList) := by
  rw [Bool.eq_iff_iff, beq_iff_eq, decide_eq_true_eq]
  constructor
  · rintro rfl; rfl
  · intro h
    have h1 : a.data.toList = b.data.toList := by rw [← ByteArray.toList_eq, ← ByteArray.toList_eq]; exact h
    cases a with | mk a => cases b with | mk b => congr 1; exact Array.toList_inj.1 h1
theorem mem_whoV (l : List S34) (w : ByteArray) (x : Int) : x ∈ whoV l w 0 ↔ ∃ (j : Nat) (h : j < l.length), l[j].f1.toList = w.toList ∧ x = (j : Int) := by
  unfold whoV
  simp only [List.mem_filterMap, List.mem_range'_1, Nat.sub_zero, Nat.zero_add, Nat.zero_le, true_and]
  constructor
  · rintro ⟨j, hj, h⟩
    rw [getD_nat _ _ _ hj] at h
    split at h
    · rename_i c; exact ⟨j, hj, c, (Option.some.inj h).symm⟩
    · cases h
  · rintro ⟨j, hj, c, rfl⟩
    exact ⟨j, hj, by rw [getD_nat _ _ _ hj, if_pos c]⟩
theorem bnd_some {l : List S34} {w : ByteArray} {x : Int} (h : bnd l w = some x) : whoV l w 0 = [x] := by
  unfold bnd at h
  split at h
  · rename_i j e; rw [e]; injection h with h; rw [h]
  · cases h
theorem bnd_at {l : List S34} {w : ByteArray} {x : Int} (h : bnd l w = some x) : ∃ (j : Nat) (h : j < l.length), l[j].f1.toList = w.toList ∧ x = (j : Int) := (mem_whoV l w x).1 (by rw [bnd_some h]; simp)
theorem bound_ev (l : List S34) (js : List S47) (hl : l.length ≤ 1000000) {v : List Int × Int} (hnext : ∀ m : SM ByteArray Int, (∀ w, m.get w = bnd l w) → Evt (fun k => machine_Load.l1 k (List.replicate l.length 0) js (js.length : Int) 0 m) v) :
    Evt (fun k => machine_Load.l0 k l js l (l.length : Int) 0 SM.new) v := by
  have key : ∀ i, i ≤ l.length → ∀ m : SM ByteArray Int, (∀ w, m.get w = if (∃ (j : Nat) (h : j < l.length), j < i ∧ l[j].f1.toList = w.toList) then bnd l w else none) → Evt (fun k => machine_Load.l0 k l js l (l.length : Int) i m) v := by
    refine down ?_ ?_
    · intro m hm
      refine Evt.succ (hnext m (fun w => ?_)) (fun k => ?_)
      · rw [hm w]
        cases hb : bnd l w with
        | none => split <;> rfl
        | some x =>
          obtain ⟨j, hj, h1, -⟩ := bnd_at hb
          rw [if_pos ⟨j, hj, hj, h1⟩]
      · simp only [machine_Load.l0, Int.lt_irrefl, if_false]
        rw [if_pos (by omega), if_pos (by omega), Int.toNat_natCast]
    · intro i hi ih m hm
      by_cases c : (whoV l l[i].f1 0).length = 1
      · refine Evt.succ (ih (m.put l[i].f1 (i : Int)) (fun w => ?_)) (fun k => ?_)
        · rw [SM.get_put, bytes_eq]
          have hbi : bnd l l[i].f1 = some (i : Int) := by
            have hmem : (i : Int) ∈ whoV l l[i].f1 0 := (mem_whoV l _ _).2 ⟨i, hi, rfl, rfl⟩
            unfold bnd
            match hw : whoV l l[i].f1 0, c, hmem with
            | [x], _, hx => simp at hx; rw [hx]
          by_cases cw : w.toList = l[i].f1.toList
          · rw [if_pos (by simpa using cw), if_pos ⟨i, hi, by omega, cw.symm⟩]
            have : w = l[i].f1 := by
              have := bytes_eq w l[i].f1
              rw [decide_eq_true cw] at this
              exact eq_of_beq this
            rw [this, hbi]
          · rw [if_neg (by simpa using cw), hm w]
            have e : (∃ (j : Nat) (h : j < l.length), j < i ∧ l[j].f1.toList = w.toList) ↔ (∃ (j : Nat) (h : j < l.length), j < i + 1 ∧ l[j].f1.toList = w.toList) := by
              constructor
              · rintro ⟨j, hj, h1, h2⟩; exact ⟨j, hj, by omega, h2⟩
              · rintro ⟨j, hj, h1, h2⟩
                refine ⟨j, hj, ?_, h2⟩
                rcases Nat.lt_or_ge j i with h3 | h3
                · exact h3
                · obtain rfl : j = i := by omega
                  exact absurd h2.symm cw
            simp only [e]
        · simp only [machine_Load.l0, rd34_at l i hi, can_f l _ hl, Option.bind_some]
          rw [if_pos (by omega), if_pos (by omega), if_pos (by omega), if_pos (by omega), wrap_up i l.length hi (by omega)]
      · refine Evt.succ (ih m (fun w => ?_)) (fun k => ?_)
        · rw [hm w]
          by_cases cw : w.toList = l[i].f1.toList
          · have hb : bnd l w = none := by
              cases hb : bnd l w with
              | none => rfl
              | some x =>
                have : w = l[i].f1 := by
                  have := bytes_eq w l[i].f1
                  rw [decide_eq_true cw] at this
                  exact eq_of_beq this
                rw [this] at hb
                exact absurd (by rw [bnd_some hb]; rfl) c
            rw [hb]; split <;> split <;> rfl
          · have e : (∃ (j : Nat) (h : j < l.length), j < i ∧ l[j].f1.toList = w.toList) ↔ (∃ (j : Nat) (h : j < l.length), j < i + 1 ∧ l[j].f1.toList = w.toList) := by
              constructor
              · rintro ⟨j, hj, h1, h2⟩; exact ⟨j, hj, by omega, h2⟩
              · rintro ⟨j, hj, h1, h2⟩
                refine ⟨j, hj, ?_, h2⟩
                rcases Nat.lt_or_ge j i with h3 | h3
                · exact h3
                · obtain rfl : j = i := by omega
                  exact absurd h2.symm cw
            simp only [e]
        · simp only [machine_Load.l0, rd34_at l i hi, can_f l _ hl, Option.bind_some]
          rw [if_pos (by omega), if_pos (by omega), if_pos (by omega), if_neg (by omega), wrap_up i l.length hi (by omega)]
  refine key 0 (by omega) SM.new (fun w => ?_)
  rw [SM.get_new, if_neg]
  rintro ⟨j, _, h, _⟩
  omega
theorem load_loops (l : List S34) (js : List S47) (hl : l.length ≤ 1000000) (hj : js.length ≤ 9223372036854775807) (hs : ∀ j ∈ js, j.f1.length ≤ 9223372036854775807) (m : SM ByteArray Int) (hm : ∀ w, m.get w = bnd l w) :
    ∀ i, i ≤ js.length → ∀ out : List Int, out.length = l.length → Evt (fun k => machine_Load.l1 k out js (js.length : Int) i m) ((js.drop i).foldl (jobV l) out, 0) := by
  refine down ?_ ?_
  · intro out _
    rw [List.drop_length]
    exact Evt.succ (g := fun _ => some (out, 0)) (Evt.pure _) (fun k => by simp only [machine_Load.l1, Int.lt_irrefl, if_false])
  · intro i hi ih out hout
    rw [List.drop_eq_getElem_cons hi, List.foldl_cons]
    refine Evt.succ (g := fun k => machine_Load.l2 k out js (js.length : Int) i js[i].f1 (js[i].f1.length : Int) 0 m) ?_ (fun k => ?_)
    · have inner : ∀ n, n ≤ js[i].f1.length → ∀ out : List Int, out.length = l.length → Evt (fun k => machine_Load.l2 k out js (js.length : Int) i js[i].f1 (js[i].f1.length : Int) n m) ((js.drop (i + 1)).foldl (jobV l) ((js[i].f1.drop n).foldl (stepV l) out), 0) := by
        refine down ?_ ?_
        · intro out hout
          rw [List.drop_length, List.foldl_nil]
          refine Evt.succ (ih out hout) (fun k => ?_)
          simp only [machine_Load.l2, Int.lt_irrefl, if_false]
          rw [wrap_up i js.length hi hj]
        · intro n hn ih2 out hout
          rw [List.drop_eq_getElem_cons hn, List.foldl_cons]
          refine Evt.succ (ih2 (stepV l out js[i].f1[n]) (by rw [stepV_len, hout])) (fun k => ?_)
          have hlen := hs js[i] (List.getElem_mem _)
          simp only [machine_Load.l2, rd36_at _ n hn, SM.has, SM.at_, hm]
          rw [if_pos (by omega), if_pos (by omega), if_pos (by omega), wrap_up n _ hn hlen]
          unfold stepV
          cases hb : bnd l js[i].f1[n].f0 with
          | none => simp
          | some x =>
            obtain ⟨j, hj2, -, rfl⟩ := bnd_at hb
            simp only [Option.isSome_some, if_true, Option.getD_some]
            rw [if_pos (by omega), if_pos (by omega)]
      have := inner 0 (by omega) out hout
      rw [List.drop_zero] at this
      exact this
    · simp only [machine_Load.l1, rd47_at js i hi]
      rw [if_pos (by omega), if_pos (by omega), if_pos (by omega)]
theorem load_ev (l : List S34) (js : List S47) (hl : l.length ≤ 9223372036854775807) (hj : js.length ≤ 9223372036854775807) (hs : ∀ j ∈ js, j.f1.length ≤ 9223372036854775807) :
    Evt (fun k => machine_Load.f k l js) (if checkJobsV l js = 0 then (loadV l js, 0) else ([], checkJobsV l js)) := by
  unfold machine_Load.f
  refine Evt.bind (checkJobs_ev l js hl hj) ?_
  by_cases c : checkJobsV l js = 0
  · simp only [if_pos c]
    have hc : checkV l = 0 := by
      unfold checkJobsV at c
      by_cases h : checkV l = 0
      · exact h
      · rw [if_neg h] at c; exact c
    have h32 := checkV_len hc
    refine bound_ev l js (by omega) (fun m hm => ?_)
    have := load_loops l js (by omega) hj hs m hm 0 (by omega) (List.replicate l.length 0) (by simp)
    rw [List.drop_zero] at this
    exact this
  · simp only [if_neg c]; exact Evt.pure _
end Go.Proofs.Ytpfggghpkdnppaa.PEach
