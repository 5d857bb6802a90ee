import Derived.Test.YtkdbcaegeeeiaaaGreatKs
import Derived.Test.YtkdbcaegeeeiaaaGreatPx12
import Derived.Test.YtkdbcaegeeeiaaaGreatPAlone
set_option linter.unusedVariables false
set_option linter.unusedSimpArgs false
namespace Go.Proofs.YtkdbcaegeeeiaaaGreat.Pure
open Go.RowKit Go.Proofs.YtkdbcaegeeeiaaaGreatW.PrintWords Go.Proofs.YtkdbcaegeeeiaaaGreatW.PrintLast Go.Proofs.YtkdbcaegeeeiaaaGreat.P Go.Proofs.YtkdbcaegeeeiaaaGreat.Open Go.Proofs.YtkdbcaegeeeiaaaGreat.Ks Go.Proofs.YtkdbcaegeeeiaaaGreat.Rnd Go.Proofs.YtkdbcaegeeeiaaaGreat.Tails Go.Proofs.YtkdbcaegeeeiaaaGreat.Chain Go.Proofs.YtkdbcaegeeeiaaaGreat.JCheck Go.Proofs.YtkdbcaegeeeiaaaGreat.PCheck Go.Proofs.YtkdbcaegeeeiaaaGreat.PAlone Go.Proofs.YtkdbcaegeeeiaaaGreat.Awk
def S : List JCheck.Sp → Int
  | [] => 0
  | x :: xs => (x.f1 + x.f2) + S xs
theorem S_app : ∀ a b, S (a ++ b) = S a + S b
  | [], b => by simp [S]
  | x :: a, b => by simp only [List.cons_append, S, S_app a b]; omega
def Okay (s : JCheck.Sp) : Prop := 1 ≤ s.f1 ∧ s.f1 ≤ 1000000 ∧ 0 ≤ s.f2 ∧ s.f2 ≤ 1000000
theorem S_bound : ∀ l : List JCheck.Sp, (∀ s ∈ l, Okay s) → 0 ≤ S l ∧ S l ≤ 2000000 * (l.length : Int)
  | [], _ => by simp [S]
  | x :: xs, h => by
    have h1 := S_bound xs (fun s hs => h s (List.mem_cons_of_mem _ hs))
    have h2 := h x (List.mem_cons_self)
    unfold Okay at h2
    simp only [S, List.length_cons]
    omega
theorem tl_eq : ∀ l : List JCheck.Sp, (∀ s ∈ l, Okay s) → l.length ≤ 20 → (tl l).1 = S l ∧ ∀ i, i < l.length → (tl l).2.getD i 0 = (l.getD i z40).f2 + S (l.drop (i + 1))
  | [], _, _ => ⟨rfl, fun i h => by simp at h⟩
  | x :: xs, h, hl => by
    have hxs : ∀ s ∈ xs, Okay s := fun s hs => h s (List.mem_cons_of_mem _ hs)
    have hlen : xs.length ≤ 20 := by simp at hl; omega
    obtain ⟨h1, h2⟩ := tl_eq xs hxs hlen
    have hb := S_bound xs hxs
    have hx := h x (List.mem_cons_self)
    unfold Okay at hx
    have e1 : wrap64 (x.f1 + x.f2) = x.f1 + x.f2 := wrap_mid _ (by omega) (by omega)
    refine ⟨?_, fun i hi => ?_⟩
    · simp only [tl, S, h1, e1]
      rw [wrap_mid _ (by omega) (by omega)]; omega
    · cases i with
      | zero =>
        simp only [tl, h1, List.getD_cons_zero, List.drop_succ_cons, List.drop_zero]
        rw [wrap_mid _ (by omega) (by omega)]; omega
      | succ i =>
        simp only [tl, List.getD_cons_succ, List.drop_succ_cons]
        exact h2 i (by simpa using hi)
section
variable (j : JCheck.Jb)
theorem take_S (l : List JCheck.Sp) (i : Nat) (h : i < l.length) : S (l.take (i + 1)) = S (l.take i) + (l[i].f1 + l[i].f2) := by
  rw [List.take_succ_eq_append_getElem h, S_app]; simp [S]
theorem split_S (l : List JCheck.Sp) (i : Nat) (h : i < l.length) : S l = S (l.take i) + (l[i].f1 + l[i].f2) + S (l.drop (i + 1)) := by
  have e : l = l.take i ++ (l[i] :: l.drop (i + 1)) := by rw [← List.drop_eq_getElem_cons h, List.take_append_drop]
  have := congrArg S e
  rw [S_app] at this
  simp only [S] at this
  omega
structure Good : Prop where
  n0 : 0 < j.f1.length
  n1 : j.f1.length ≤ 16
  r0 : 0 ≤ j.f2
  r1 : j.f2 ≤ 1000000
  ok : ∀ s ∈ j.f1, Okay s
theorem good (h : W j = 0) : Good j := by
  unfold W at h
  cases hl : long j <;> simp only [hl, if_true, if_false, Bool.false_eq_true] at h <;> try (exact absurd h (by decide))
  cases hn : badNJ j <;> simp only [hn, if_true, if_false, Bool.false_eq_true] at h <;> try (exact absurd h (by decide))
  cases hs : j.f1.any badNS <;> simp only [hs, if_true, if_false, Bool.false_eq_true] at h <;> try (exact absurd h (by decide))
  cases hr : badRJ j <;> simp only [hr, if_true, if_false, Bool.false_eq_true] at h <;> try (exact absurd h (by decide))
  cases ht : j.f1.any badRS <;> simp only [ht, if_true, if_false, Bool.false_eq_true] at h <;> try (exact absurd h (by decide))
  cases hb : bare j <;> simp only [hb, if_true, if_false, Bool.false_eq_true] at h <;> try (exact absurd h (by decide))
  unfold long at hl
  unfold bare at hb
  unfold badRJ inB at hr
  have hl' := of_decide_eq_false hl
  have hb' : ¬ (j.f1.length : Int) = 0 := by simpa using hb
  have hr' : (0 ≤ j.f2 ∧ j.f2 ≤ 1000000) := by simp at hr; omega
  refine ⟨by omega, by omega, hr'.1, hr'.2, fun s hs2 => ?_⟩
  have h2 := List.any_eq_false.1 ht s hs2
  unfold badRS inB at h2
  unfold Okay
  simp at h2
  omega
theorem take_bound (G : Good j) (i : Nat) (h : i ≤ j.f1.length) : 0 ≤ S (j.f1.take i) ∧ S (j.f1.take i) ≤ 32000000 := by
  have hb := S_bound (j.f1.take i) (fun s hs => G.ok s (List.mem_of_mem_take hs))
  have hn := G.n1
  have e : (j.f1.take i).length ≤ 16 := by rw [List.length_take]; omega
  omega
theorem drop_bound (G : Good j) (i : Nat) : 0 ≤ S (j.f1.drop i) ∧ S (j.f1.drop i) ≤ 32000000 := by
  have hb := S_bound (j.f1.drop i) (fun s hs => G.ok s (List.mem_of_mem_drop hs))
  have hn := G.n1
  have e : (j.f1.drop i).length ≤ 16 := by rw [List.length_drop]; omega
  omega
def HL (n : Nat) : List Int := (List.range n).map (fun i => j.f2 + S (j.f1.take i))
theorem heads_ev (G : Good j) : Evt (fun k => critical_heads.f k j.f0 j.f1 j.f2 j.f3 j.f4) (HL j j.f1.length) := by
  have key : ∀ n, n ≤ j.f1.length → Evt (fun k => critical_heads.l0 k (HL j n) (j.f2 + S (j.f1.take n)) j.f1 (j.f1.length : Int) n) (HL j j.f1.length) := by
    refine down ?_ ?_
    · refine Evt.succ (g := fun _ => some (HL j j.f1.length)) (Evt.pure _) (fun k => ?_)
      simp only [critical_heads.l0]
      rw [if_neg (by omega)]
    · intro n hn ih
      refine Evt.succ ih (fun k => ?_)
      have hb := take_bound j G n (by omega)
      have ho := G.ok _ (List.getElem_mem hn)
      unfold Okay at ho
      have h0 := G.r0
      have h1 := G.r1
      have hln : (HL j n).length = n := by simp [HL]
      have hn1 := G.n1
      simp only [critical_heads.l0, rdS_at _ n hn]
      rw [if_pos (by omega), if_pos (by omega), if_pos (by omega), if_pos (by omega), wrap_up n _ hn (by omega), take_S _ n hn]
      have e1 : wrap64 (j.f1[n].f1 + j.f1[n].f2) = j.f1[n].f1 + j.f1[n].f2 := wrap_mid _ (by omega) (by omega)
      rw [e1, wrap_mid (j.f2 + S (j.f1.take n) + (j.f1[n].f1 + j.f1[n].f2)) (by omega) (by omega)]
      have e2 : HL j (n + 1) = HL j n ++ [j.f2 + S (j.f1.take n)] := by unfold HL; rw [List.range_succ, List.map_append]; rfl
      rw [e2, Int.add_assoc]
  have h := key 0 (Nat.zero_le _)
  have e : j.f2 + S (j.f1.take 0) = j.f2 := by simp [S]
  rw [e] at h
  exact h
theorem Head_ev (G : Good j) (i : Nat) (hi : i ≤ j.f1.length) : Evt (fun k => gangsawref52_Head.f k j.f0 j.f1 j.f2 j.f3 j.f4 i) (j.f2 + S (j.f1.take i)) := by
  have key : ∀ n, n ≤ i → Evt (fun k => gangsawref52_Head.l0 k i (j.f2 + S (j.f1.take n)) n j.f0 j.f1 j.f2 j.f3 j.f4) (j.f2 + S (j.f1.take i)) := by
    refine down ?_ ?_
    · refine Evt.succ (g := fun _ => some (j.f2 + S (j.f1.take i))) (Evt.pure _) (fun k => ?_)
      simp only [gangsawref52_Head.l0]
      rw [if_neg (by omega)]
    · intro n hni ih
      have hn : n < j.f1.length := by omega
      refine Evt.succ ih (fun k => ?_)
      have hb := take_bound j G n (by omega)
      have ho := G.ok _ (List.getElem_mem hn)
      unfold Okay at ho
      have h0 := G.r0
      have h1 := G.r1
      have hn1 := G.n1
      simp only [gangsawref52_Head.l0, rdS_at _ n hn]
      rw [if_pos (by omega), if_pos (by omega), if_pos (by omega), wrap_up n _ hn (by omega), take_S _ n hn]
      have e1 : wrap64 (j.f1[n].f1 + j.f1[n].f2) = j.f1[n].f1 + j.f1[n].f2 := wrap_mid _ (by omega) (by omega)
      rw [e1, wrap_mid (j.f2 + S (j.f1.take n) + (j.f1[n].f1 + j.f1[n].f2)) (by omega) (by omega), Int.add_assoc]
  have h := key 0 (Nat.zero_le _)
  have e : j.f2 + S (j.f1.take 0) = j.f2 := by simp [S]
  rw [e] at h
  exact h
theorem drop_S (l : List JCheck.Sp) (i : Nat) (h : i < l.length) : S (l.drop i) = (l[i].f1 + l[i].f2) + S (l.drop (i + 1)) := by
  rw [List.drop_eq_getElem_cons h]; rfl
theorem Tail_ev (G : Good j) (i : Nat) (hi : i < j.f1.length) : Evt (fun k => gangsawref52_Tail.f k j.f0 j.f1 j.f2 j.f3 j.f4 i) (j.f1[i].f2 + S (j.f1.drop (i + 1))) := by
  have hn1 := G.n1
  have hoi := G.ok _ (List.getElem_mem hi)
  unfold Okay at hoi
  have key : ∀ n, n ≤ j.f1.length → i + 1 ≤ n → Evt (fun k => gangsawref52_Tail.l0 k (j.f1[i].f2 + (S (j.f1.drop (i + 1)) - S (j.f1.drop n))) n j.f0 j.f1 j.f2 j.f3 j.f4) (j.f1[i].f2 + S (j.f1.drop (i + 1))) := by
    refine down ?_ ?_
    · intro _
      refine Evt.succ (g := fun _ => some (j.f1[i].f2 + S (j.f1.drop (i + 1)))) (Evt.pure _) (fun k => ?_)
      simp only [gangsawref52_Tail.l0]
      rw [if_neg (by omega), List.drop_length]; simp [S]
    · intro n hn ih hin
      refine Evt.succ (ih (by omega)) (fun k => ?_)
      have hb := drop_bound j G (i + 1)
      have hb2 := drop_bound j G n
      have hb3 := drop_bound j G (n + 1)
      have ho := G.ok _ (List.getElem_mem hn)
      unfold Okay at ho
      simp only [gangsawref52_Tail.l0, rdS_at _ n hn]
      have hd := drop_S j.f1 n hn
      have e1 : wrap64 (j.f1[n].f1 + j.f1[n].f2) = j.f1[n].f1 + j.f1[n].f2 := wrap_mid _ (by omega) (by omega)
      rw [if_pos (by omega), if_pos (by omega), wrap_up n _ hn (by omega), e1, wrap_mid _ (by omega) (by omega)]
      congr 1
      omega
  unfold gangsawref52_Tail.f
  simp only [rdS_at _ i hi]
  rw [show wrap64 ((i : Int) + 1) = ((i + 1 : Nat) : Int) from wrap_up i _ hi (by omega)]
  have h := key (i + 1) (by omega) (Nat.le_refl _)
  rw [Int.sub_self, Int.add_zero] at h
  simp only [if_pos (show (0 : Int) ≤ (i : Int) by omega), if_pos (show (i : Int) < (j.f1.length : Int) by omega)]
  exact h
theorem chain_eq (G : Good j) : critical_chain.f j.f0 j.f1 j.f2 j.f3 j.f4 = some (j.f2 + S j.f1) := by
  have h0 := G.n0
  have hn1 := G.n1
  obtain ⟨_, h2⟩ := tl_eq j.f1 G.ok (by omega)
  have h3 := h2 0 h0
  have hlen := tl_len j.f1
  have ho := G.ok _ (List.getElem_mem h0)
  unfold Okay at ho
  have hb := drop_bound j G (0 + 1)
  have hs := split_S j.f1 0 h0
  have hr0 := G.r0
  have hr1 := G.r1
  unfold critical_chain.f critical_tails.f
  rw [if_pos (by omega), if_pos (by omega)]
  simp only [Option.bind_some]
  rw [if_pos (by omega)]
  have e0 : rd_T40 j.f1 0 = j.f1[0] := rdS_at j.f1 0 h0
  have e1 : rd (tl j.f1).2 0 = (tl j.f1).2.getD 0 0 := rfl
  rw [getD_nat _ _ _ h0] at h3
  rw [e0, e1, h3, wrap_mid (j.f2 + j.f1[0].f1) (by omega) (by omega)]
  have e2 : S (j.f1.take 0) = 0 := by simp [S]
  rw [wrap_mid _ (by omega) (by omega)]
  congr 1
  omega
theorem Chain_ev (G : Good j) : Evt (fun k => gangsawref52_Chain.f k j.f0 j.f1 j.f2 j.f3 j.f4) (j.f2 + S j.f1) := by
  have h0 := G.n0
  have hn1 := G.n1
  have ho := G.ok _ (List.getElem_mem h0)
  unfold Okay at ho
  have hb := drop_bound j G (0 + 1)
  have hs := split_S j.f1 0 h0
  have hr0 := G.r0
  have hr1 := G.r1
  have e2 : S (j.f1.take 0) = 0 := by simp [S]
  refine Evt.bind (Head_ev j G 0 (Nat.zero_le _)) ?_
  simp only [if_pos (show (0 : Int) < (j.f1.length : Int) by omega)]
  refine Evt.bind (Tail_ev j G 0 h0) ?_
  refine Evt.const (fun k => ?_)
  have e0 : rd_T40 j.f1 0 = j.f1[0] := rdS_at j.f1 0 h0
  rw [e0, e2, Int.add_zero, wrap_mid (j.f2 + j.f1[0].f1) (by omega) (by omega), wrap_mid _ (by omega) (by omega)]
  congr 1
  omega
theorem law_l0 (G : Good j) : Evt (fun k => gangsawlaw52_CriticalSteps.l0 k (HL j j.f1.length) (tl j.f1).2 (j.f2 + S j.f1) 0 j.f0 j.f1 j.f2 j.f3 j.f4) true := by
  have hn1 := G.n1
  have hlen := tl_len j.f1
  have hln : (HL j j.f1.length).length = j.f1.length := by simp [HL]
  obtain ⟨_, ht⟩ := tl_eq j.f1 G.ok (by omega)
  have key : ∀ n, n ≤ j.f1.length → Evt (fun k => gangsawlaw52_CriticalSteps.l0 k (HL j j.f1.length) (tl j.f1).2 (j.f2 + S j.f1) n j.f0 j.f1 j.f2 j.f3 j.f4) true := by
    refine down ?_ ?_
    · refine Evt.succ (g := fun _ => some true) (Evt.pure _) (fun k => ?_)
      simp only [gangsawlaw52_CriticalSteps.l0]
      rw [if_neg (by omega)]; rfl
    · intro n hn ih
      have hb1 := take_bound j G n (by omega)
      have hb2 := drop_bound j G (n + 1)
      have ho := G.ok _ (List.getElem_mem hn)
      unfold Okay at ho
      have hr0 := G.r0
      have hr1 := G.r1
      have hs := split_S j.f1 n hn
      have e1 : rd (HL j j.f1.length) (n : Int) = j.f2 + S (j.f1.take n) := by
        show (HL j j.f1.length).getD (n : Int).toNat 0 = _
        rw [getD_at _ _ n (by omega)]
        simp [HL]
      have e2 : rd (tl j.f1).2 (n : Int) = j.f1[n].f2 + S (j.f1.drop (n + 1)) := by
        show (tl j.f1).2.getD (n : Int).toNat 0 = _
        rw [Int.toNat_natCast, ht n hn, getD_nat _ _ _ hn]
      refine Evt.succ (g := fun k => (gangsawref52_Head.f k j.f0 j.f1 j.f2 j.f3 j.f4 n).bind fun a => if j.f2 + S (j.f1.take n) = a then ((gangsawref52_Tail.f k j.f0 j.f1 j.f2 j.f3 j.f4 n).bind fun b => if j.f1[n].f2 + S (j.f1.drop (n + 1)) = b then gangsawlaw52_CriticalSteps.l0 k (HL j j.f1.length) (tl j.f1).2 (j.f2 + S j.f1) ((n + 1 : Nat) : Int) j.f0 j.f1 j.f2 j.f3 j.f4 else some false) else some false) (Evt.bind (Head_ev j G n (by omega)) ?_) (fun k => ?_)
      · simp only [if_true]
        refine Evt.bind (Tail_ev j G n hn) ?_
        simp only [if_true]
        exact ih
      · simp only [gangsawlaw52_CriticalSteps.l0, e1, e2, rdS_at _ n hn]
        have e3 : wrap64 (wrap64 (j.f2 + S (j.f1.take n) + j.f1[n].f1) + (j.f1[n].f2 + S (j.f1.drop (n + 1)))) = j.f2 + S j.f1 := by
          rw [wrap_mid (j.f2 + S (j.f1.take n) + j.f1[n].f1) (by omega) (by omega), wrap_mid _ (by omega) (by omega)]; omega
        have c1 : (n : Int) < ((HL j j.f1.length).length : Int) := by omega
        have c2 : (n : Int) < ((tl j.f1).2.length : Int) := by omega
        have c3 : (n : Int) < (j.f1.length : Int) := by omega
        have c4 : (0 : Int) ≤ (n : Int) := by omega
        simp only [e3, if_pos c1, if_pos c2, if_pos c3, if_pos c4, if_true, wrap_up n j.f1.length hn (by omega)]
  exact key 0 (Nat.zero_le _)
theorem CriticalSteps : ∀ (x0 : S38), G38 x0 → ∃ k, gangsawlaw52_CriticalSteps.f k x0.f0 x0.f1 x0.f2 x0.f3 x0.f4 = some true := by
  intro j g
  refine Evt.exists_ (v := true) (f := fun k => gangsawlaw52_CriticalSteps.f k j.f0 j.f1 j.f2 j.f3 j.f4) ?_
  unfold gangsawlaw52_CriticalSteps.f
  by_cases c : (j.f1.length : Int) > 20
  · simp only [if_pos c]
    exact Evt.const (fun k => rfl)
  simp only [if_neg c]
  have hl : j.f1.length ≤ 20 := by omega
  have ha := alone_ev j hl
  have hr := alone_ref_ev j hl g.1 (fun s hs => (g.2.1.2 s hs).1)
  by_cases hW : W j = 0
  · have G := good j hW
    have hn1 := G.n1
    rw [hW] at ha hr
    have h1 : Evt (fun k => critical_Heads.f k j.f0 j.f1 j.f2 j.f3 j.f4) (HL j j.f1.length, 0) := Evt.bind ha (by simp only [if_true]; exact Evt.bind (heads_ev j G) (Evt.pure _))
    have h2 : Evt (fun k => critical_Tails.f k j.f0 j.f1 j.f2 j.f3 j.f4) ((tl j.f1).2, 0) := Evt.bind ha (by
      simp only [if_true]
      refine Evt.bind0 (v := (tl j.f1).2) ?_ (Evt.pure _)
      unfold critical_tails.f; rw [if_pos (by omega)])
    have h3 : Evt (fun k => critical_Chain.f k j.f0 j.f1 j.f2 j.f3 j.f4) (j.f2 + S j.f1, 0) := Evt.bind ha (by simp only [if_true]; exact Evt.bind0 (chain_eq j G) (Evt.pure _))
    refine Evt.bind h1 (Evt.bind h2 (Evt.bind h3 (Evt.bind hr ?_)))
    simp only [if_true]
    have hln : (HL j j.f1.length).length = j.f1.length := by simp [HL]
    have hlen := tl_len j.f1
    refine Evt.succ (g := fun k => (gangsawref52_Chain.f k j.f0 j.f1 j.f2 j.f3 j.f4).bind fun t => gangsawlaw52_CriticalSteps.j1 k (HL j j.f1.length) (tl j.f1).2 (j.f2 + S j.f1) ((j.f2 + S j.f1) != t) j.f0 j.f1 j.f2 j.f3 j.f4) (Evt.bind (Chain_ev j G) ?_) (fun k => ?_)
    · refine Evt.succ (law_l0 j G) (fun k => ?_)
      simp only [gangsawlaw52_CriticalSteps.j1, bne_self_eq_false, Bool.false_eq_true, if_false]
    · simp only [gangsawlaw52_CriticalSteps.j0, bne_self_eq_false, Bool.false_eq_true, if_false, if_true, hln, hlen]
  · have h1 : Evt (fun k => critical_Heads.f k j.f0 j.f1 j.f2 j.f3 j.f4) (([] : List Int), W j) := Evt.bind ha (by simp only [if_neg hW]; exact Evt.pure _)
    have h2 : Evt (fun k => critical_Tails.f k j.f0 j.f1 j.f2 j.f3 j.f4) (([] : List Int), W j) := Evt.bind ha (by simp only [if_neg hW]; exact Evt.pure _)
    have h3 : Evt (fun k => critical_Chain.f k j.f0 j.f1 j.f2 j.f3 j.f4) (0, W j) := Evt.bind ha (by simp only [if_neg hW]; exact Evt.pure _)
    refine Evt.bind h1 (Evt.bind h2 (Evt.bind h3 (Evt.bind hr ?_)))
    simp only [if_true]
    refine Evt.succ (g := fun _ => some true) (Evt.pure _) (fun k => ?_)
    simp only [gangsawlaw52_CriticalSteps.j0, bne_self_eq_false, Bool.false_eq_true, if_false, if_neg hW]
    rfl
end
end Go.Proofs.YtkdbcaegeeeiaaaGreat.Pure
