/-
  slices.IndexFunc and slices.ContainsFunc, for any predicate that only makes memory of its own: the first index of an element that satisfies it, or -1; whether there is one.
-/
import Derived.Test.YtkdbcaegeeeiaaaGreatPx0
import Derived.Shelf.Abstract
set_option linter.unusedVariables false
set_option linter.unusedSimpArgs false
namespace Go.Proofs.YtkdbcaegeeeiaaaGreat.Hof
open Go.RowKit Go.Proofs.YtkdbcaegeeeiaaaGreatW.PrintWords Go.Proofs.YtkdbcaegeeeiaaaGreatW.PrintLast Go.Proofs.YtkdbcaegeeeiaaaGreatW.PrintMore Go.Proofs.YtkdbcaegeeeiaaaGreat.P
def idxO {α : Type} (p : α → Option Bool) : List α → Int → Option Int
  | [], _ => some (-1)
  | x :: xs, i => (p x).bind fun b => if b = true then some i else idxO p xs (i + 1)
def anyO {α : Type} (p : α → Option Bool) : List α → Option Bool
  | [] => some false
  | x :: xs => (p x).bind fun b => if b = true then some true else anyO p xs
theorem anyO_idx {α : Type} (p : α → Option Bool) (l : List α) : ∀ i r, 0 ≤ i → anyO p l = some r → ∃ j, idxO p l i = some j ∧ decide (0 ≤ j) = r := by
  induction l with
  | nil => intro i r _ h; obtain rfl := Option.some.inj h; exact ⟨-1, rfl, by decide⟩
  | cons x xs ih =>
    intro i r hi h
    obtain ⟨b, hb, h⟩ := Option.bind_eq_some_iff.mp h
    cases b with
    | true => obtain rfl := Option.some.inj h; exact ⟨i, by simp [idxO, hb], by simpa using hi⟩
    | false =>
      obtain ⟨j, hj, he⟩ := ih (i + 1) r (by omega) h
      exact ⟨j, by simp [idxO, hb, hj], he⟩
section
variable {P : Program}
theorem hof_loadVar (w : World) (ad : Addr) (ty : TypeId) (cs : List Value) (d : TypeDesc) (hu : P.underlying ty = some d) (hd : (match d with | .struct _ | .array _ _ => true | _ => false) = true)
    (hi : (P.info? ty).map (·.size) = some cs.length) (hc : ∀ j v, cs[j]? = some v → w.cell? (ad.add j) = some v) : (loadVar ty ad).run P w = .ok (.agg cs.toArray) w := by
  have hl : (loadCells ad cs.length).run P w = .ok cs.toArray w := run_loadCells_list (P := P) w ad cs hc
  cases hq : P.info? ty with
  | none => simp [hq] at hi
  | some i =>
    have hs : i.size = cs.length := by simpa [hq] using hi
    cases d <;> first | (simp at hd; done) | simp [loadVar, isAgg, run_underlying hu, sizeOf, typeInfo, hq, hs, hl]
theorem wpList_load_agg {ops : Array Oper} {rest : List Oper} {o : Oper} {a : Act} {w : World} {Q : Exit → Act → World → Prop} (hgd : o.guard = none) (ty : TypeId) (x : Operand) (ho : o.op = .load ty x) (ad : Addr) (hx : a.eval x = .pointer (some ad))
    (d : TypeDesc) (hu : P.underlying ty = some d) (hd : (match d with | .struct _ | .array _ _ => true | _ => false) = true) (cs : List Value) (hi : (P.info? ty).map (·.size) = some cs.length) (hc : ∀ j v, cs[j]? = some v → w.cell? (ad.add j) = some v)
    (h : wpList P ops Q rest (a.put o.dst (.agg cs.toArray)) w) : wpList P ops Q (o :: rest) a w := by
  refine wpList_plain hgd fun _ hK => ?_
  unfold Oper.wp execOp
  simp only [ho, hx, Instr.loadAt, Instr.sureAddr, Sem.run_bind, Sem.run_pure, Result.andThen_ok, hof_loadVar w ad ty cs d hu hd hi hc]
  exact hK _ _ h
end
/-- What is asked of a predicate on elements that is handed over as a value. -/
def FnE (P : Program) {α β : Type} (K : Kd α) (val : List Value → Value) (enc : β → Value) (V : Value) (p : α → Option β) (w : World) : Prop :=
  ∃ (g : Nat) (lb : Array Value), V = .func (.func g) #[] lb ∧ (∀ args w, (callFunc g args).run P w = .ok (.enter g args) w) ∧
    ∀ (W : World) (x : α) (cs : List Value) (r : β), Below w.heap.size w W → K.K W x cs → p x = some r → Calls P g (#[val cs] ++ lb) W fun e w' => e = .returned (enc r) ∧ Below W.heap.size W w'
theorem FnE.below {P : Program} {α β : Type} {K : Kd α} {val : List Value → Value} {enc : β → Value} {V : Value} {p : α → Option β} {w w1 : World} (h : FnE P K val enc V p w) (hb : Below w.heap.size w w1) : FnE P K val enc V p w1 := by
  obtain ⟨g, lb, e, eg, hp⟩ := h
  exact ⟨g, lb, e, eg, fun W x cs r hW hk hr => hp W x cs r (below_step hb hW) hk hr⟩
theorem anyO_mono {α : Type} {p p' : α → Option Bool} (h : ∀ x, LeO (p x) (p' x)) : ∀ l, LeO (anyO p l) (anyO p' l)
  | [] => LeO.refl _
  | x :: xs => LeO.bind (h x) (fun b => LeO.ite (LeO.refl _) (anyO_mono h xs))
def vAgg (cs : List Value) : Value := .agg cs.toArray
def index42.f (l0 : List (S42)) (p1 : S42 → Option Bool) : Option Int := idxO p1 l0 0
set_option maxHeartbeats 1000000 in
theorem index42.calls (A0 : Option Addr) (c0 : Nat) (l0 : List (S42)) (V1 : Value) (p1 : S42 → Option Bool) (r : Int) (w : World) (hr0 : Kd.C k42 w A0 l0.length l0) (hc0 : l0.length ≤ c0) (hf1 : FnE Tryz.prog k42 vAgg Value.bool V1 p1 w) (h : index42.f l0 p1 = some r) :
    Calls Tryz.prog 108 #[.slice A0 l0.length c0, V1] w fun e w' => e = .returned (.int .i64 r) ∧ Below w.heap.size w w' := by
  have HR := Aside0.mk hr0
  have hlen : l0.length ≤ 9223372036854775807 := hr0.2.1
  obtain ⟨g, lb, rfl, eg, hp⟩ := hf1
  have HP := Aside0.mk hp
  have R0 : Aside0 (idxO p1 (l0.drop 0) ((0 : Nat) : Int) = some r) := ⟨h⟩
  clear hr0 hc0 hp h
  go_enter Tryz.func108, Tryz.ntmps108
  go_wp2
  go_loopg [5, 8] l0.length (fun gg _ s8 wr => ∃ kk : Nat, kk ≤ l0.length ∧ l0.length - kk ≤ gg ∧ s8 = .int .i64 kk ∧ Aside0 (Below w.heap.size w wr) ∧ Aside0 (idxO p1 (l0.drop kk) (kk : Int) = some r))
  case atStart => exact ⟨0, Nat.zero_le _, by omega, rfl, ⟨Below.refl _ _⟩, R0⟩
  case round =>
    clear R0
    obtain ⟨kk, hkk, hg, rfl, HB, R⟩ := hrel
    by_cases hlt : kk < l0.length
    · have hltz : (kk : Int) < (l0.length : Int) := by omega
      have hdrop : l0.drop kk = l0.getD kk z42 :: l0.drop (kk + 1) := by
        rw [List.getD_eq_getElem?_getD, List.getElem?_eq_getElem hlt]; exact List.drop_eq_getElem_cons hlt
      have R2 := R.out
      rw [hdrop, idxO] at R2
      obtain ⟨b, hb0, R2⟩ := Option.bind_eq_some_iff.mp R2
      obtain ⟨ad, cs, he, hcl, hK, hcell⟩ := Kd.C_get (Kd.C_below HR.out HB.out) z42 (kk : Int) (by omega) (by omega)
      have hl0 : ∀ j v, cs[j]? = some v → wr.cell? ((ad.add (kk * 3)).add j) = some v := fun j v hv => by rw [add_add]; exact hcell j v hv
      have HL := Aside0.mk hl0
      have HI := Aside0.mk (show (Tryz.prog.info? 42).map (·.size) = some cs.length by rw [hcl]; kernel_rfl)
      clear hl0
      have hcall : Calls Tryz.prog g (#[.agg cs.toArray] ++ lb) wr (fun e w' => e = .returned (.bool b) ∧ Below wr.heap.size wr w') := HP.out wr (l0.getD kk z42) cs b HB.out (by simpa using hK) hb0
      subst he
      have HC := Aside0.mk hcall
      clear hcall hcell hK hcl hdrop R hb0
      cases b with
      | true =>
        rw [if_pos rfl] at R2
        have R3 := Aside0.mk (Option.some.inj R2)
        clear R2
        go_wp2_with (first | (go_at_fn g; refine HC.out.mono ?_; rintro e w1 ⟨rfl, hb⟩; replace HB := Aside0.mk (below_step HB.out hb); clear hb) | ((with_reducible refine gate_dst (N := 15) rfl ?_); refine wpList_load_agg rfl 42 (.tmp 14) rfl _ rfl _ Tryz.underlying42 rfl cs HI.out HL.out ?_))
        go_ret
        exact ⟨by rw [← R3.out]; rfl, HB.out⟩
      | false =>
        rw [if_neg (by simp)] at R2
        have R3 := Aside0.mk R2
        clear R2
        go_wp2_with (first | (go_at_fn g; refine HC.out.mono ?_; rintro e w1 ⟨rfl, hb⟩; replace HB := Aside0.mk (below_step HB.out hb); clear hb) | ((with_reducible refine gate_dst (N := 15) rfl ?_); refine wpList_load_agg rfl 42 (.tmp 14) rfl _ rfl _ Tryz.underlying42 rfl cs HI.out HL.out ?_))
        go_roundg (l0.length - (kk + 1))
        case measure => omega
        case rel => exact ⟨kk + 1, by omega, by omega, by go_num, HB, ⟨by rw [← R3.out]; rfl⟩⟩
    · have hltz : ¬ (kk : Int) < (l0.length : Int) := by omega
      have hke : kk = l0.length := by omega
      have R2 : r = -1 := by have h2 := R.out; rw [hke, List.drop_length] at h2; exact (Option.some.inj h2).symm
      clear R
      subst R2
      subst hke
      go_wp2
      go_ret
      exact ⟨rfl, HB.out⟩

def contains42.f (l0 : List (S42)) (p1 : S42 → Option Bool) : Option Bool := anyO p1 l0
theorem contains42.mono2 {l : List (S42)} {p p' : S42 → Option Bool} (h : ∀ x, LeO (p x) (p' x)) : LeO (contains42.f l p) (contains42.f l p') := anyO_mono h l
set_option maxHeartbeats 400000 in
theorem contains42.calls (A0 : Option Addr) (c0 : Nat) (l0 : List (S42)) (V1 : Value) (p1 : S42 → Option Bool) (r : Bool) (w : World) (hr0 : Kd.C k42 w A0 l0.length l0) (hc0 : l0.length ≤ c0) (hf1 : FnE Tryz.prog k42 vAgg Value.bool V1 p1 w) (h : contains42.f l0 p1 = some r) :
    Calls Tryz.prog 147 #[.slice A0 l0.length c0, V1] w fun e w' => e = .returned (.bool r) ∧ Below w.heap.size w w' := by
  obtain ⟨j, hj, he⟩ := anyO_idx p1 l0 0 r (by omega) h
  have HC := Aside0.mk (index42.calls A0 c0 l0 V1 p1 j w hr0 hc0 hf1 hj)
  have HF := Aside0.mk he
  obtain ⟨g, lb, rfl, eg, hp⟩ := hf1
  clear hr0 hc0 hp h hj he eg
  go_enter Tryz.func147, Tryz.ntmps147
  go_wp2_with (go_at_call 108; refine HC.out.mono ?_; rintro e w1 ⟨rfl, hb⟩; have HB := Aside0.mk hb; clear hb)
  go_ret
  exact ⟨by rw [← HF.out]; rfl, HB.out⟩

def index38.f (l0 : List (S38)) (p1 : S38 → Option Bool) : Option Int := idxO p1 l0 0
set_option maxHeartbeats 1000000 in
theorem index38.calls (A0 : Option Addr) (c0 : Nat) (l0 : List (S38)) (V1 : Value) (p1 : S38 → Option Bool) (r : Int) (w : World) (hr0 : Kd.C k38 w A0 l0.length l0) (hc0 : l0.length ≤ c0) (hf1 : FnE Tryz.prog k38 vAgg Value.bool V1 p1 w) (h : index38.f l0 p1 = some r) :
    Calls Tryz.prog 134 #[.slice A0 l0.length c0, V1] w fun e w' => e = .returned (.int .i64 r) ∧ Below w.heap.size w w' := by
  have HR := Aside0.mk hr0
  have hlen : l0.length ≤ 9223372036854775807 := hr0.2.1
  obtain ⟨g, lb, rfl, eg, hp⟩ := hf1
  have HP := Aside0.mk hp
  have R0 : Aside0 (idxO p1 (l0.drop 0) ((0 : Nat) : Int) = some r) := ⟨h⟩
  clear hr0 hc0 hp h
  go_enter Tryz.func134, Tryz.ntmps134
  go_wp2
  go_loopg [5, 8] l0.length (fun gg _ s8 wr => ∃ kk : Nat, kk ≤ l0.length ∧ l0.length - kk ≤ gg ∧ s8 = .int .i64 kk ∧ Aside0 (Below w.heap.size w wr) ∧ Aside0 (idxO p1 (l0.drop kk) (kk : Int) = some r))
  case atStart => exact ⟨0, Nat.zero_le _, by omega, rfl, ⟨Below.refl _ _⟩, R0⟩
  case round =>
    clear R0
    obtain ⟨kk, hkk, hg, rfl, HB, R⟩ := hrel
    by_cases hlt : kk < l0.length
    · have hltz : (kk : Int) < (l0.length : Int) := by omega
      have hdrop : l0.drop kk = l0.getD kk z38 :: l0.drop (kk + 1) := by
        rw [List.getD_eq_getElem?_getD, List.getElem?_eq_getElem hlt]; exact List.drop_eq_getElem_cons hlt
      have R2 := R.out
      rw [hdrop, idxO] at R2
      obtain ⟨b, hb0, R2⟩ := Option.bind_eq_some_iff.mp R2
      obtain ⟨ad, cs, he, hcl, hK, hcell⟩ := Kd.C_get (Kd.C_below HR.out HB.out) z38 (kk : Int) (by omega) (by omega)
      have hl0 : ∀ j v, cs[j]? = some v → wr.cell? ((ad.add (kk * 5)).add j) = some v := fun j v hv => by rw [add_add]; exact hcell j v hv
      have HL := Aside0.mk hl0
      have HI := Aside0.mk (show (Tryz.prog.info? 38).map (·.size) = some cs.length by rw [hcl]; kernel_rfl)
      clear hl0
      have hcall : Calls Tryz.prog g (#[.agg cs.toArray] ++ lb) wr (fun e w' => e = .returned (.bool b) ∧ Below wr.heap.size wr w') := HP.out wr (l0.getD kk z38) cs b HB.out (by simpa using hK) hb0
      subst he
      have HC := Aside0.mk hcall
      clear hcall hcell hK hcl hdrop R hb0
      cases b with
      | true =>
        rw [if_pos rfl] at R2
        have R3 := Aside0.mk (Option.some.inj R2)
        clear R2
        go_wp2_with (first | (go_at_fn g; refine HC.out.mono ?_; rintro e w1 ⟨rfl, hb⟩; replace HB := Aside0.mk (below_step HB.out hb); clear hb) | ((with_reducible refine gate_dst (N := 15) rfl ?_); refine wpList_load_agg rfl 38 (.tmp 14) rfl _ rfl _ Tryz.underlying38 rfl cs HI.out HL.out ?_))
        go_ret
        exact ⟨by rw [← R3.out]; rfl, HB.out⟩
      | false =>
        rw [if_neg (by simp)] at R2
        have R3 := Aside0.mk R2
        clear R2
        go_wp2_with (first | (go_at_fn g; refine HC.out.mono ?_; rintro e w1 ⟨rfl, hb⟩; replace HB := Aside0.mk (below_step HB.out hb); clear hb) | ((with_reducible refine gate_dst (N := 15) rfl ?_); refine wpList_load_agg rfl 38 (.tmp 14) rfl _ rfl _ Tryz.underlying38 rfl cs HI.out HL.out ?_))
        go_roundg (l0.length - (kk + 1))
        case measure => omega
        case rel => exact ⟨kk + 1, by omega, by omega, by go_num, HB, ⟨by rw [← R3.out]; rfl⟩⟩
    · have hltz : ¬ (kk : Int) < (l0.length : Int) := by omega
      have hke : kk = l0.length := by omega
      have R2 : r = -1 := by have h2 := R.out; rw [hke, List.drop_length] at h2; exact (Option.some.inj h2).symm
      clear R
      subst R2
      subst hke
      go_wp2
      go_ret
      exact ⟨rfl, HB.out⟩

def contains38.f (l0 : List (S38)) (p1 : S38 → Option Bool) : Option Bool := anyO p1 l0
set_option maxHeartbeats 400000 in
theorem contains38.calls (A0 : Option Addr) (c0 : Nat) (l0 : List (S38)) (V1 : Value) (p1 : S38 → Option Bool) (r : Bool) (w : World) (hr0 : Kd.C k38 w A0 l0.length l0) (hc0 : l0.length ≤ c0) (hf1 : FnE Tryz.prog k38 vAgg Value.bool V1 p1 w) (h : contains38.f l0 p1 = some r) :
    Calls Tryz.prog 145 #[.slice A0 l0.length c0, V1] w fun e w' => e = .returned (.bool r) ∧ Below w.heap.size w w' := by
  obtain ⟨j, hj, he⟩ := anyO_idx p1 l0 0 r (by omega) h
  have HC := Aside0.mk (index38.calls A0 c0 l0 V1 p1 j w hr0 hc0 hf1 hj)
  have HF := Aside0.mk he
  obtain ⟨g, lb, rfl, eg, hp⟩ := hf1
  clear hr0 hc0 hp h hj he eg
  go_enter Tryz.func145, Tryz.ntmps145
  go_wp2_with (go_at_call 134; refine HC.out.mono ?_; rintro e w1 ⟨rfl, hb⟩; have HB := Aside0.mk hb; clear hb)
  go_ret
  exact ⟨by rw [← HF.out]; rfl, HB.out⟩

def index40.f (l0 : List (S40)) (p1 : S40 → Option Bool) : Option Int := idxO p1 l0 0
set_option maxHeartbeats 1000000 in
theorem index40.calls (A0 : Option Addr) (c0 : Nat) (l0 : List (S40)) (V1 : Value) (p1 : S40 → Option Bool) (r : Int) (w : World) (hr0 : Kd.C k40 w A0 l0.length l0) (hc0 : l0.length ≤ c0) (hf1 : FnE Tryz.prog k40 vAgg Value.bool V1 p1 w) (h : index40.f l0 p1 = some r) :
    Calls Tryz.prog 174 #[.slice A0 l0.length c0, V1] w fun e w' => e = .returned (.int .i64 r) ∧ Below w.heap.size w w' := by
  have HR := Aside0.mk hr0
  have hlen : l0.length ≤ 9223372036854775807 := hr0.2.1
  obtain ⟨g, lb, rfl, eg, hp⟩ := hf1
  have HP := Aside0.mk hp
  have R0 : Aside0 (idxO p1 (l0.drop 0) ((0 : Nat) : Int) = some r) := ⟨h⟩
  clear hr0 hc0 hp h
  go_enter Tryz.func174, Tryz.ntmps174
  go_wp2
  go_loopg [5, 8] l0.length (fun gg _ s8 wr => ∃ kk : Nat, kk ≤ l0.length ∧ l0.length - kk ≤ gg ∧ s8 = .int .i64 kk ∧ Aside0 (Below w.heap.size w wr) ∧ Aside0 (idxO p1 (l0.drop kk) (kk : Int) = some r))
  case atStart => exact ⟨0, Nat.zero_le _, by omega, rfl, ⟨Below.refl _ _⟩, R0⟩
  case round =>
    clear R0
    obtain ⟨kk, hkk, hg, rfl, HB, R⟩ := hrel
    by_cases hlt : kk < l0.length
    · have hltz : (kk : Int) < (l0.length : Int) := by omega
      have hdrop : l0.drop kk = l0.getD kk z40 :: l0.drop (kk + 1) := by
        rw [List.getD_eq_getElem?_getD, List.getElem?_eq_getElem hlt]; exact List.drop_eq_getElem_cons hlt
      have R2 := R.out
      rw [hdrop, idxO] at R2
      obtain ⟨b, hb0, R2⟩ := Option.bind_eq_some_iff.mp R2
      obtain ⟨ad, cs, he, hcl, hK, hcell⟩ := Kd.C_get (Kd.C_below HR.out HB.out) z40 (kk : Int) (by omega) (by omega)
      have hl0 : ∀ j v, cs[j]? = some v → wr.cell? ((ad.add (kk * 3)).add j) = some v := fun j v hv => by rw [add_add]; exact hcell j v hv
      have HL := Aside0.mk hl0
      have HI := Aside0.mk (show (Tryz.prog.info? 40).map (·.size) = some cs.length by rw [hcl]; kernel_rfl)
      clear hl0
      have hcall : Calls Tryz.prog g (#[.agg cs.toArray] ++ lb) wr (fun e w' => e = .returned (.bool b) ∧ Below wr.heap.size wr w') := HP.out wr (l0.getD kk z40) cs b HB.out (by simpa using hK) hb0
      subst he
      have HC := Aside0.mk hcall
      clear hcall hcell hK hcl hdrop R hb0
      cases b with
      | true =>
        rw [if_pos rfl] at R2
        have R3 := Aside0.mk (Option.some.inj R2)
        clear R2
        go_wp2_with (first | (go_at_fn g; refine HC.out.mono ?_; rintro e w1 ⟨rfl, hb⟩; replace HB := Aside0.mk (below_step HB.out hb); clear hb) | ((with_reducible refine gate_dst (N := 15) rfl ?_); refine wpList_load_agg rfl 40 (.tmp 14) rfl _ rfl _ Tryz.underlying40 rfl cs HI.out HL.out ?_))
        go_ret
        exact ⟨by rw [← R3.out]; rfl, HB.out⟩
      | false =>
        rw [if_neg (by simp)] at R2
        have R3 := Aside0.mk R2
        clear R2
        go_wp2_with (first | (go_at_fn g; refine HC.out.mono ?_; rintro e w1 ⟨rfl, hb⟩; replace HB := Aside0.mk (below_step HB.out hb); clear hb) | ((with_reducible refine gate_dst (N := 15) rfl ?_); refine wpList_load_agg rfl 40 (.tmp 14) rfl _ rfl _ Tryz.underlying40 rfl cs HI.out HL.out ?_))
        go_roundg (l0.length - (kk + 1))
        case measure => omega
        case rel => exact ⟨kk + 1, by omega, by omega, by go_num, HB, ⟨by rw [← R3.out]; rfl⟩⟩
    · have hltz : ¬ (kk : Int) < (l0.length : Int) := by omega
      have hke : kk = l0.length := by omega
      have R2 : r = -1 := by have h2 := R.out; rw [hke, List.drop_length] at h2; exact (Option.some.inj h2).symm
      clear R
      subst R2
      subst hke
      go_wp2
      go_ret
      exact ⟨rfl, HB.out⟩

def contains40.f (l0 : List (S40)) (p1 : S40 → Option Bool) : Option Bool := anyO p1 l0
set_option maxHeartbeats 400000 in
theorem contains40.calls (A0 : Option Addr) (c0 : Nat) (l0 : List (S40)) (V1 : Value) (p1 : S40 → Option Bool) (r : Bool) (w : World) (hr0 : Kd.C k40 w A0 l0.length l0) (hc0 : l0.length ≤ c0) (hf1 : FnE Tryz.prog k40 vAgg Value.bool V1 p1 w) (h : contains40.f l0 p1 = some r) :
    Calls Tryz.prog 146 #[.slice A0 l0.length c0, V1] w fun e w' => e = .returned (.bool r) ∧ Below w.heap.size w w' := by
  obtain ⟨j, hj, he⟩ := anyO_idx p1 l0 0 r (by omega) h
  have HC := Aside0.mk (index40.calls A0 c0 l0 V1 p1 j w hr0 hc0 hf1 hj)
  have HF := Aside0.mk he
  obtain ⟨g, lb, rfl, eg, hp⟩ := hf1
  clear hr0 hc0 hp h hj he eg
  go_enter Tryz.func146, Tryz.ntmps146
  go_wp2_with (go_at_call 174; refine HC.out.mono ?_; rintro e w1 ⟨rfl, hb⟩; have HB := Aside0.mk hb; clear hb)
  go_ret
  exact ⟨by rw [← HF.out]; rfl, HB.out⟩
end Go.Proofs.YtkdbcaegeeeiaaaGreat.Hof
