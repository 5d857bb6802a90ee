/-
  boring.Check: a boring in a pit.
-/
import Derived.Test.YtfedmcehkpfciaaGreatFirst
import Derived.Test.YtfedmcehkpfciaaGreatSymC
import Derived.Test.YtfedmcehkpfciaaGreatM1
set_option linter.unusedVariables false
set_option linter.unusedSimpArgs false
namespace Go.Proofs.YtfedmcehkpfciaaGreat.Chk14
open Go.RowKit Go.Proofs.YtfedmcehkpfciaaGreatW.PrintWords Go.Proofs.YtfedmcehkpfciaaGreatW.PrintLast Go.Proofs.YtfedmcehkpfciaaGreatW.PrintMore Go.Proofs.YtfedmcehkpfciaaGreat.P Go.Proofs.YtfedmcehkpfciaaGreat.Hof Go.Proofs.YtfedmcehkpfciaaGreat.First Go.Proofs.YtfedmcehkpfciaaGreat.SymC
def boring_Check.f (a0_0 : ByteArray) (a0_1 a0_2 : Int) (l0_3 : List S48) (a1_0 a1_1 a1_2 a1_3 a1_4 a1_5 : Int) : Option Int :=
  (box_Check.f a1_0 a1_1 a1_2 a1_3 a1_4 a1_5).bind fun t => if t = 0 then (boring_within.f a1_0 a1_1 a1_2 a1_3 a1_4 a1_5).bind fun u => boring_first.f [(⟨a0_0, ⟨a0_1, a0_2⟩, l0_3⟩ : Brg)] u else some t
def boring_Check.T4 : Bool × List (List Nat × List Nat) := (true, [([], []), ([0], [0]), ([], []), ([2], [2]), ([1, 3, 3], [1, 3]), ([4, 4, 0, 1, 2, 3, 4], [4])])
def boring_Check.B4 : List Nat := [0, 1, 0, 4, 15, 31]
theorem boring_Check.tab4 : rtab .any (opsOf Tryz.f13 4) = boring_Check.T4 := by kernel_rfl
theorem boring_Check.bits4 : waitsOk boring_Check.T4.2 boring_Check.B4 = true := by kernel_rfl
section
variable {P : Program} {ops : Array Oper} {o : Oper} {a : Act} {Q : Exit → Act → World → Prop} {Kc : Act → World → Prop}
theorem lit_step {W : World} (hw : Region.wanted o (yielded ops a.tmps) = true) {N : Tmp} (_hd : o.dst = some N) {cs : Array Value} {t n : Nat}
    (hrun : (execOp a.eval o).run P W = .ok (.value (.slice (some ⟨W.heap.size, 0, none⟩) n n)) (W.alloc (.cells cs t (0, 0))))
    (h : ∀ g, g = W.heap.size → ∀ w1, w1.heap[g]? = some (.cells cs t (0, 0)) → Below W.heap.size W w1 → Kc (a.put o.dst (.slice (some ⟨g, 0, none⟩) n n)) w1) :
    if Region.wanted o (yielded ops a.tmps) = true then Oper.wp P o a W Kc Q else Kc (a.put o.dst undef) W :=
  event_step hw hrun (h _ rfl _ (blk_new W _) (below_alloc (Below.refl _ _) _))
end
theorem row1 (w : World) (g : Nat) (x : Brg) (A : Option Addr) (c : Nat) (hl : x.f2.length ≤ c) (hr : Kd.C k48 w A x.f2.length x.f2)
    (hb : w.heap[g]? = some (.cells #[.string x.f0, .int .i64 x.f1.f0, .int .i64 x.f1.f1, .slice A x.f2.length c] 33 (0, 0))) : Kd.C k33 w (some ⟨g, 0, none⟩) 1 [x] := by
  refine ⟨rfl, by decide, fun _ => ⟨⟨g, 0, none⟩, rfl, fun j p hj => ?_⟩⟩
  match j, hj with
  | 0, hj =>
    obtain rfl : x = p := by simpa using hj
    refine ⟨_, rfl, k33_mk w x hl hr, fun i u hi => ?_⟩
    have c_ : w.cell? ((⟨g, 0, none⟩ : Addr).add (0 * k33.sz + i)) = w.cell? ⟨g, i, none⟩ := by unfold Addr.add; split <;> simp_all
    rw [c_, blk_cell hb]
    simpa using hi
  | j + 1, hj => simp at hj
set_option maxHeartbeats 8000000 in
set_option maxRecDepth 100000 in
theorem boring_Check.calls (a0_0 : ByteArray) (a0_1 a0_2 : Int) (A0_3 : Option Addr) (c0_3 : Nat) (l0_3 : List S48) (a1_0 a1_1 a1_2 a1_3 a1_4 a1_5 : Int) (r : Int) (w : World)
    (hr0_3 : Kd.C k48 w A0_3 l0_3.length l0_3) (hc0_3 : l0_3.length ≤ c0_3) (h : boring_Check.f a0_0 a0_1 a0_2 l0_3 a1_0 a1_1 a1_2 a1_3 a1_4 a1_5 = some r) :
    Calls Tryz.prog 13 #[.agg #[.string a0_0, .int .i64 a0_1, .int .i64 a0_2, .slice A0_3 l0_3.length c0_3], .agg #[.int .i64 a1_0, .int .i64 a1_1, .int .i64 a1_2, .int .i64 a1_3, .int .i64 a1_4, .int .i64 a1_5]] w fun e w' => e = .returned (.int .i64 r) ∧ Below w.heap.size w w' := by
  obtain ⟨t, A, h⟩ := Option.bind_eq_some_iff.mp h
  have HBx := Aside0.mk (fun W => box_Check.calls a1_0 a1_1 a1_2 a1_3 a1_4 a1_5 t W A)
  have HR := Aside0.mk hr0_3
  have HC := Aside0.mk hc0_3
  have HB := Aside0.mk (Below.refl w.heap.size w)
  clear hr0_3 hc0_3 A
  by_cases ct : t = 0
  · subst ct
    rw [if_pos rfl] at h
    obtain ⟨u, hu, h⟩ := Option.bind_eq_some_iff.mp h
    have HU := Aside0.mk hu
    have HF := Aside0.mk h
    clear hu h
    go_enter Tryz.func13, Tryz.ntmps13
    try go_wp2_with (first | ((with_reducible refine gate_dst (N := 2) rfl ?_); refine box_event ?hg (N := 2) ?hd (cs := #[.string a0_0, .int .i64 a0_1, .int .i64 a0_2, .slice A0_3 l0_3.length c0_3]) (t := 33) ?hr ?_; (case hd => rfl); (case hg => rfl); (case hr => first | (go_simp; done) | (go_simp; rfl)); intro g2 hg w2 hbox hb; have HB2 := Aside0.mk hb; have BK2 := Aside0.mk hbox; clear hb hbox hg) | ((with_reducible refine gate_dst (N := 3) rfl ?_); refine box_event ?hg (N := 3) ?hd (cs := #[.int .i64 a1_0, .int .i64 a1_1, .int .i64 a1_2, .int .i64 a1_3, .int .i64 a1_4, .int .i64 a1_5]) (t := 26) ?hr ?_; (case hd => rfl); (case hg => rfl); (case hr => first | (go_simp; done) | (go_simp; rfl)); intro g3 hg w3 hbox hb; have HB3 := Aside0.mk (below_step HB2.out hb); have BK23 := Aside0.mk (blk_below BK2.out hb); have BK3 := Aside0.mk hbox; have hz0 := (blk_cell BK3.out 0).trans rfl; have hz1 := (blk_cell BK3.out 1).trans rfl; have hz2 := (blk_cell BK3.out 2).trans rfl; have hz3 := (blk_cell BK3.out 3).trans rfl; have hz4 := (blk_cell BK3.out 4).trans rfl; have hz5 := (blk_cell BK3.out 5).trans rfl; clear hb hbox hg) | (go_at_call 39; refine (HBx.out _).mono ?_; rintro e w5 ⟨rfl, hb⟩; have HB5 := Aside0.mk (below_step HB3.out hb); have BK25 := Aside0.mk (blk_below BK23.out hb); have BK35 := Aside0.mk (blk_below BK3.out hb); clear hb))
    have n0 := Aside0.mk (below_drew1 HB5.out)
    have n1 := Aside0.mk (blk_drew BK25.out)
    have n2 := Aside0.mk (blk_drew BK35.out)
    refine start_ (n := 6) (S := fun w' => True) (ds := []) #[false, false, false, false, false, false] (by kernel_rfl) rfl rfl trivial (fun hHeld => ?_); refine with_tabW boring_Check.tab4 boring_Check.bits4 (fun HT_ HW_ => ?_)
    generalize w5.drew = w6 at n0 n1 n2 hHeld ⊢
    refine inv_at [0, 1, 2, 3, 4, 5] (fun a0_ b a w' => ∃ (v12 v14 : Value), a = putSel a0_ b [(0, 11, .agg #[.string a0_0, .int .i64 a0_1, .int .i64 a0_2, .slice A0_3 l0_3.length c0_3]), (1, 12, v12), (2, 13, .agg #[.int .i64 a1_0, .int .i64 a1_1, .int .i64 a1_2, .int .i64 a1_3, .int .i64 a1_4, .int .i64 a1_5]), (3, 14, v14), (4, 15, .int .i64 r), (5, 4, .int .i64 r)] ∧ (w'.heap[g2]? = some (.cells #[.string a0_0, .int .i64 a0_1, .int .i64 a0_2, .slice A0_3 l0_3.length c0_3] 33 (0, 0))) ∧ (w'.heap[g3]? = some (.cells #[.int .i64 a1_0, .int .i64 a1_1, .int .i64 a1_2, .int .i64 a1_3, .int .i64 a1_4, .int .i64 a1_5] 26 (0, 0))) ∧ (Below w.heap.size w w') ∧ (b 1 = true → ∃ g, v12 = .slice (some ⟨g, 0, none⟩) 1 1 ∧ Kd.C k33 w' (some ⟨g, 0, none⟩) 1 [(⟨a0_0, ⟨a0_1, a0_2⟩, l0_3⟩ : Brg)]) ∧ (b 3 = true → FnET Tryz.prog v14 u w')) HT_.out HW_.out (by kernel_rfl) (by kernel_rfl) ?_ ?_ ?_
    · exact ⟨.bool false, .bool false, by simp only [putSel, Bool.false_eq_true, if_false], n1.out, n2.out, n0.out, fun h_ => absurd h_ (by decide), fun h_ => absurd h_ (by decide)⟩
    · skip
      clear BK2 BK23 BK25 BK3 BK35 HB2 HB3 HB5 n0 n1 n2 hHeld
      refine steps_cons ?_ ?_
      · rintro b a w' ⟨v12, v14, ha, Q2, Q3, QB, Q12, Q14⟩ hb_ hon hoff
        refine ⟨_, rfl, fun K hK => ?_⟩
        have e2 : a.tmps[2]? = some (.pointer (some ⟨g2, 0, none⟩)) := by rw [ha]; exact (putSel_off rfl).trans rfl
        replace ha := Aside0.mk ha
        have hc0_ : w'.cell? ⟨g2, 0, none⟩ = some (.string a0_0) := (blk_cell Q2 0).trans rfl
        have hc1_ : w'.cell? ⟨g2, 1, none⟩ = some (.int .i64 a0_1) := (blk_cell Q2 1).trans rfl
        have hc2_ : w'.cell? ⟨g2, 2, none⟩ = some (.int .i64 a0_2) := (blk_cell Q2 2).trans rfl
        have hc3_ : w'.cell? ⟨g2, 3, none⟩ = some (.slice A0_3 l0_3.length c0_3) := (blk_cell Q2 3).trans rfl
        refine value_ (w1 := w') (v := .agg #[.string a0_0, .int .i64 a0_1, .int .i64 a0_2, .slice A0_3 l0_3.length c0_3]) (by rfl) rfl ?_ ?_
        · go_simp
          (try simp only [i64_w])
          try rfl
        refine hK.out _ _ ⟨v12, v14, (by rw [ha.out]; exact putSel_upk 0 hb_ rfl rfl rfl), Q2, Q3, QB, fun h0_ => absurd ((hoff 1 (by kernel_rfl)).symm.trans h0_) (by decide), Q14⟩
      refine steps_cons ?_ ?_
      · rintro b a w' ⟨v12, v14, ha, Q2, Q3, QB, Q12, Q14⟩ hb_ hon hoff
        refine ⟨_, rfl, fun K hK => ?_⟩
        have e11 : a.tmps[11]? = some (.agg #[.string a0_0, .int .i64 a0_1, .int .i64 a0_2, .slice A0_3 l0_3.length c0_3]) := by rw [ha]; exact putSel_on (e := (0, 11, .agg #[.string a0_0, .int .i64 a0_1, .int .i64 a0_2, .slice A0_3 l0_3.length c0_3])) 0 rfl rfl (hon 0 (by kernel_rfl)) rfl
        replace ha := Aside0.mk ha
        refine lit_step (n := 1) (N := 12) ?hw ?hd (cs := #[.string a0_0, .int .i64 a0_1, .int .i64 a0_2, .slice A0_3 l0_3.length c0_3]) (t := 33) ?hr ?_
        case hw => rfl
        case hd => rfl
        case hr => first | (go_simp; done) | (go_simp; rfl)
        intro g hg w7 hbox hb
        clear hg
        refine hK.out _ _ ⟨.slice (some ⟨g, 0, none⟩) 1 1, v14, (by rw [ha.out]; exact putSel_upk 1 hb_ rfl rfl rfl), blk_below Q2 hb, blk_below Q3 hb, below_step QB hb, fun _ => ⟨g, rfl, row1 w7 g ⟨a0_0, ⟨a0_1, a0_2⟩, l0_3⟩ A0_3 c0_3 HC.out (Kd.C_below HR.out (below_step QB hb)) hbox⟩, fun h0_ => (Q14 h0_).below hb⟩
      refine steps_cons ?_ ?_
      · rintro b a w' ⟨v12, v14, ha, Q2, Q3, QB, Q12, Q14⟩ hb_ hon hoff
        refine ⟨_, rfl, fun K hK => ?_⟩
        have e3 : a.tmps[3]? = some (.pointer (some ⟨g3, 0, none⟩)) := by rw [ha]; exact (putSel_off rfl).trans rfl
        replace ha := Aside0.mk ha
        have hc0_ : w'.cell? ⟨g3, 0, none⟩ = some (.int .i64 a1_0) := (blk_cell Q3 0).trans rfl
        have hc1_ : w'.cell? ⟨g3, 1, none⟩ = some (.int .i64 a1_1) := (blk_cell Q3 1).trans rfl
        have hc2_ : w'.cell? ⟨g3, 2, none⟩ = some (.int .i64 a1_2) := (blk_cell Q3 2).trans rfl
        have hc3_ : w'.cell? ⟨g3, 3, none⟩ = some (.int .i64 a1_3) := (blk_cell Q3 3).trans rfl
        have hc4_ : w'.cell? ⟨g3, 4, none⟩ = some (.int .i64 a1_4) := (blk_cell Q3 4).trans rfl
        have hc5_ : w'.cell? ⟨g3, 5, none⟩ = some (.int .i64 a1_5) := (blk_cell Q3 5).trans rfl
        refine value_ (w1 := w') (v := .agg #[.int .i64 a1_0, .int .i64 a1_1, .int .i64 a1_2, .int .i64 a1_3, .int .i64 a1_4, .int .i64 a1_5]) (by rfl) rfl ?_ ?_
        · go_simp
          (try simp only [i64_w])
          try rfl
        refine hK.out _ _ ⟨v12, v14, (by rw [ha.out]; exact putSel_upk 2 hb_ rfl rfl rfl), Q2, Q3, QB, Q12, Q14⟩
      refine steps_cons ?_ ?_
      · rintro b a w' ⟨v12, v14, ha, Q2, Q3, QB, Q12, Q14⟩ hb_ hon hoff
        refine ⟨_, rfl, fun K hK => ?_⟩
        have e13 : a.tmps[13]? = some (.agg #[.int .i64 a1_0, .int .i64 a1_1, .int .i64 a1_2, .int .i64 a1_3, .int .i64 a1_4, .int .i64 a1_5]) := by rw [ha]; exact putSel_on (e := (2, 13, .agg #[.int .i64 a1_0, .int .i64 a1_1, .int .i64 a1_2, .int .i64 a1_3, .int .i64 a1_4, .int .i64 a1_5])) 2 rfl rfl (hon 2 (by kernel_rfl)) rfl
        replace ha := Aside0.mk ha
        refine goes_ Tryz.func41 (by kernel_rfl) rfl #[.agg #[.int .i64 a1_0, .int .i64 a1_1, .int .i64 a1_2, .int .i64 a1_3, .int .i64 a1_4, .int .i64 a1_5]] (by rfl) rfl rfl (by first | (simp only [List.map_toArray, List.map_cons, List.map_nil, Act.eval, Array.getD_eq_getD_getElem?, Option.getD_some, e13]; done) | (simp only [List.map_toArray, List.map_cons, List.map_nil, Act.eval, Array.getD_eq_getD_getElem?, Option.getD_some, e13]; rfl)) ?_
        with_reducible refine (boring_within.calls a1_0 a1_1 a1_2 a1_3 a1_4 a1_5 u _ HU.out).mono ?_
        rintro e w13 ⟨v, rfl, hT, hb⟩
        refine ⟨_, rfl, ?_⟩
        refine hK.out _ _ ⟨v12, v, (by rw [ha.out]; exact putSel_upk 3 hb_ rfl rfl rfl), blk_below Q2 hb, blk_below Q3 hb, below_step QB hb, fun h0_ => (Q12 h0_).elim fun g hg => ⟨g, hg.1, Kd.C_below hg.2 hb⟩, fun _ => hT⟩
      refine steps_cons ?_ ?_
      · rintro b a w' ⟨v12, v14, ha, Q2, Q3, QB, Q12, Q14⟩ hb_ hon hoff
        refine ⟨_, rfl, fun K hK => ?_⟩
        obtain ⟨g, rfl, hrow⟩ := Q12 (hon 1 (by kernel_rfl))
        have hT := Q14 (hon 3 (by kernel_rfl))
        have e12 : a.tmps[12]? = some (.slice (some ⟨g, 0, none⟩) 1 1) := by rw [ha]; exact putSel_on (e := (1, 12, .slice (some ⟨g, 0, none⟩) 1 1)) 1 rfl rfl (hon 1 (by kernel_rfl)) rfl
        have e14 : a.tmps[14]? = some v14 := by rw [ha]; exact putSel_on (e := (3, 14, v14)) 3 rfl rfl (hon 3 (by kernel_rfl)) rfl
        replace ha := Aside0.mk ha
        refine goes_ Tryz.func40 (by kernel_rfl) rfl #[.slice (some ⟨g, 0, none⟩) 1 1, v14] (by rfl) rfl rfl (by first | (simp only [List.map_toArray, List.map_cons, List.map_nil, Act.eval, Array.getD_eq_getD_getElem?, Option.getD_some, e12, e14]; done) | (simp only [List.map_toArray, List.map_cons, List.map_nil, Act.eval, Array.getD_eq_getD_getElem?, Option.getD_some, e12, e14]; rfl)) ?_
        refine (boring_first.calls (some ⟨g, 0, none⟩) 1 [(⟨a0_0, ⟨a0_1, a0_2⟩, l0_3⟩ : Brg)] v14 u r _ hrow (Nat.le_refl _) hT HF.out).mono ?_
        rintro e w18 ⟨rfl, hb⟩
        refine ⟨_, rfl, ?_⟩
        refine hK.out _ _ ⟨.slice (some ⟨g, 0, none⟩) 1 1, v14, (by rw [ha.out]; exact putSel_upk 4 hb_ rfl rfl rfl), blk_below Q2 hb, blk_below Q3 hb, below_step QB hb, fun _ => ⟨g, rfl, Kd.C_below hrow hb⟩, fun _ => hT.below hb⟩
      refine steps_cons ?_ ?_
      · rintro b a w' ⟨v12, v14, ha, Q2, Q3, QB, Q12, Q14⟩ hb_ hon hoff
        refine ⟨_, rfl, fun K hK => ?_⟩
        have e15 : a.tmps[15]? = some (.int .i64 r) := by rw [ha]; exact putSel_on (e := (4, 15, .int .i64 r)) 4 rfl rfl (hon 4 (by kernel_rfl)) rfl
        replace ha := Aside0.mk ha
        refine value_ (w1 := w') (v := .int .i64 r) (by rfl) rfl ?_ ?_
        · go_simp
          (try simp only [i64_w])
          try rfl
        refine hK.out _ _ ⟨v12, v14, (by rw [ha.out]; exact putSel_upk 5 hb_ rfl rfl rfl), Q2, Q3, QB, Q12, Q14⟩
      exact steps_nil
    rintro b a w18 hall ⟨v12, v14, ha, Q2, Q3, QB, Q12, Q14⟩
    clear BK2 BK23 BK25 BK3 BK35 HB2 HB3 HB5 n0 n1 n2
    have hb0_ := hall 0 (by kernel_rfl)
    have hb1_ := hall 1 (by kernel_rfl)
    have hb2_ := hall 2 (by kernel_rfl)
    have hb3_ := hall 3 (by kernel_rfl)
    have hb4_ := hall 4 (by kernel_rfl)
    have hb5_ := hall 5 (by kernel_rfl)
    subst ha
    simp only [putSel, hb0_, hb1_, hb2_, hb3_, hb4_, hb5_, if_true, Act.put, List.setIfInBounds_toArray, List.set_cons_zero, List.set_cons_succ]
    have HZ := Aside0.mk QB
    clear Q2 Q3 QB Q12 Q14 hall hb0_ hb1_ hb2_ hb3_ hb4_ hb5_
    try go_wp2
    go_ret
    exact ⟨by first | rfl | (simp; done), HZ.out⟩
  · rw [if_neg ct] at h
    have c4b0 : (t == 0) = false := beq_eq_false_iff_ne.mpr ct
    have c4b1 : (t != 0) = true := bne_iff_ne.mpr ct
    obtain rfl := Option.some.inj h
    clear ct h
    go_enter Tryz.func13, Tryz.ntmps13
    go_wp2_with (first | ((with_reducible refine gate_dst (N := 2) rfl ?_); refine box_event ?hg (N := 2) ?hd (cs := #[.string a0_0, .int .i64 a0_1, .int .i64 a0_2, .slice A0_3 l0_3.length c0_3]) (t := 33) ?hr ?_; (case hd => rfl); (case hg => rfl); (case hr => first | (go_simp; done) | (go_simp; rfl)); intro g2 hg w2 hbox hb; have HB2 := Aside0.mk hb; clear hb hbox hg) | ((with_reducible refine gate_dst (N := 3) rfl ?_); refine box_event ?hg (N := 3) ?hd (cs := #[.int .i64 a1_0, .int .i64 a1_1, .int .i64 a1_2, .int .i64 a1_3, .int .i64 a1_4, .int .i64 a1_5]) (t := 26) ?hr ?_; (case hd => rfl); (case hg => rfl); (case hr => first | (go_simp; done) | (go_simp; rfl)); intro g3 hg w3 hbox hb; have HB3 := Aside0.mk (below_step HB2.out hb); have BK3 := Aside0.mk hbox; have hz0 := (blk_cell BK3.out 0).trans rfl; have hz1 := (blk_cell BK3.out 1).trans rfl; have hz2 := (blk_cell BK3.out 2).trans rfl; have hz3 := (blk_cell BK3.out 3).trans rfl; have hz4 := (blk_cell BK3.out 4).trans rfl; have hz5 := (blk_cell BK3.out 5).trans rfl; clear hb hbox hg) | (go_at_call 39; refine (HBx.out _).mono ?_; rintro e w5 ⟨rfl, hb⟩; have HB5 := Aside0.mk (below_step HB3.out hb); clear hb))
    go_ret
    exact ⟨rfl, HB5.out⟩
end Go.Proofs.YtfedmcehkpfciaaGreat.Chk14
