/-
  boring.first and boring.within: the tests of borings, as a list of errors with what is asked; the first test that some boring fails.
-/
import Derived.Test.YtfedmcehkpfciaaGreatHof
import Derived.Test.YtfedmcehkpfciaaGreatM1
import Derived.KernelRfl
import Derived.Test.YtfedmcehkpfciaaGreatPx4
import Derived.Test.YtfedmcehkpfciaaGreatPx5
set_option linter.unusedVariables false
set_option linter.unusedSimpArgs false
namespace Go.Proofs.YtfedmcehkpfciaaGreat.First
open Go.RowKit Go.Proofs.YtfedmcehkpfciaaGreatW.PrintWords Go.Proofs.YtfedmcehkpfciaaGreatW.PrintLast Go.Proofs.YtfedmcehkpfciaaGreatW.PrintMore Go.Proofs.YtfedmcehkpfciaaGreat.P Go.Proofs.YtfedmcehkpfciaaGreat.Hof
abbrev Brg := S33
abbrev Tests := List (Int × (Brg → Option Bool))
def PB (V : Value) (p : Brg → Option Bool) (w : World) : Prop := FnE Tryz.prog k33 vAgg Value.bool V p w
def TestsAt (w : World) (ad : Addr) : Nat → Tests → Prop
  | _, [] => True
  | j, (e, p) :: ts => (w.cell? (ad.add (j * 2)) = some (.int .i64 e) ∧ ∃ V, w.cell? (ad.add (j * 2 + 1)) = some V ∧ PB V p w) ∧ TestsAt w ad (j + 1) ts
def FnET (P : Program) (V : Value) (t : Tests) (w : World) : Prop :=
  ∃ (gf : Option Addr) (lf : Unit), V = .slice gf 5 5 ∧ t.length = 5 ∧ ∃ ad, gf = some ad ∧ TestsAt w ad 0 t
theorem TestsAt.below {w w1 : World} {ad : Addr} (hb : Below w.heap.size w w1) : ∀ {j : Nat} {ts : Tests}, TestsAt w ad j ts → TestsAt w1 ad j ts
  | _, [], _ => trivial
  | j, (e, p) :: ts, h => ⟨⟨pw_cell_below hb h.1.1, h.1.2.elim fun V hV => ⟨V, pw_cell_below hb hV.1, FnE.below hV.2 hb⟩⟩, TestsAt.below hb h.2⟩
theorem FnET.below {P : Program} {V : Value} {t : Tests} {w w1 : World} (h : FnET P V t w) (hb : Below w.heap.size w w1) : FnET P V t w1 := by
  obtain ⟨gf, lf, e, hl, ad, ea, hT⟩ := h
  exact ⟨gf, lf, e, hl, ad, ea, hT.below hb⟩
def firstO (l : List Brg) : Tests → Option Int
  | [] => some 0
  | (e, p) :: ts => (anyO (fun x => (p x).bind fun b => some (!b)) l).bind fun b => if b = true then some e else firstO l ts
def boring_first.f (l0 : List Brg) (p1 : Tests) : Option Int := firstO l0 p1
def boring_within.f (a0 a1 a2 a3 a4 a5 : Int) : Option Tests :=
  some [(4, fun x => boring_checks_1.f x.f0 x.f1.f0 x.f1.f1 x.f2), (7, fun x => boring_checks_2.f x.f0 x.f1.f0 x.f1.f1 x.f2), (1, fun x => boring_checks_3.f x.f0 x.f1.f0 x.f1.f1 x.f2),
    (12, fun x => boring_within_1.f x.f0 x.f1.f0 x.f1.f1 x.f2 a0 a1 a2 a3 a4 a5), (11, fun x => boring_increasing.f (x.f2.length + 2) x.f0 x.f1.f0 x.f1.f1 x.f2)]
set_option maxHeartbeats 4000000 in
theorem first_1.fn (gb : Nat) (e : Int) (V : Value) (p : Brg → Option Bool) (w : World) (hx : w.heap[gb]? = some (.cells #[.int .i64 e, V] 134 (0, 0))) (hf : PB V p w) :
    FnE Tryz.prog k33 vAgg Value.bool (.func (.func 85) #[] #[.pointer (some ⟨gb, 0, none⟩)]) (fun x => (p x).bind fun b => some (!b)) w := by
  refine ⟨85, _, rfl, enters_of Tryz.func85 (by kernel_rfl) rfl, fun W x cs r hW hk0 h => ?_⟩
  obtain ⟨b, hb, h⟩ := Option.bind_eq_some_iff.mp h
  obtain rfl := Option.some.inj h
  obtain ⟨g, lb, rfl, eg, hp⟩ := hf
  have HP := Aside0.mk (fun W2 hW2 hK => hp W2 x cs b (below_step hW hW2) hK hb)
  have HX := Aside0.mk (blk_below hx hW)
  have HK := Aside0.mk hk0
  obtain ⟨Z0_3, z0_3, rfl, zl0_3, zg0_3⟩ := k33_open hk0
  have HKb : Aside0 (∀ W2, Below W.heap.size W W2 → k33.K W2 x [.string x.f0, .int .i64 x.f1.f0, .int .i64 x.f1.f1, .slice Z0_3 x.f2.length z0_3]) := ⟨fun W2 hW2 => k33_mk W2 x zl0_3 (Kd.C_below zg0_3 hW2)⟩
  clear hp hx hk0 h hb zg0_3 zl0_3 HK
  have HB := Aside0.mk (Below.refl W.heap.size W)
  show Calls _ _ #[.agg #[.string x.f0, .int .i64 x.f1.f0, .int .i64 x.f1.f1, .slice Z0_3 x.f2.length z0_3], .pointer (some ⟨gb, 0, none⟩)] W _
  go_enter Tryz.func85, Tryz.ntmps85
  go_wp2_with (first | ((with_reducible refine gate_dst (N := 2) rfl ?_); refine box_event ?hg (N := 2) ?hd (cs := #[.string x.f0, .int .i64 x.f1.f0, .int .i64 x.f1.f1, .slice Z0_3 x.f2.length z0_3]) (t := 33) ?hr ?_; (case hd => rfl); (case hg => rfl); (case hr => first | (go_simp; done) | (go_simp; rfl)); intro g3 hg w3 hbox hb; have HB3 := Aside0.mk (below_step HB.out hb); have BK := Aside0.mk hbox; have HX3 := Aside0.mk (blk_below HX.out hb); clear hb hg hbox; have hz0 := (blk_cell BK.out 0).trans rfl; have hz1 := (blk_cell BK.out 1).trans rfl; have hz2 := (blk_cell BK.out 2).trans rfl; have hz3 := (blk_cell BK.out 3).trans rfl; have hy1 : w3.cell? ⟨gb, 1, none⟩ = some (.func (.func g) #[] lb) := (blk_cell HX3.out 1).trans rfl) | (go_at_fn g; refine (HP.out _ HB3.out (HKb.out _ HB3.out)).mono ?_; rintro e w1 ⟨rfl, hb⟩; have HB4 := Aside0.mk (below_step HB3.out hb); clear hb))
  go_ret
  exact ⟨rfl, HB4.out⟩
set_option maxHeartbeats 4000000 in
theorem boring_first.calls (A0 : Option Addr) (c0 : Nat) (l0 : List Brg) (V1 : Value) (p1 : Tests) (r : Int) (w : World) (hr0 : Kd.C k33 w A0 l0.length l0) (hc0 : l0.length ≤ c0) (hf1 : FnET Tryz.prog V1 p1 w) (h : boring_first.f l0 p1 = some r) :
    Calls Tryz.prog 40 #[.slice A0 l0.length c0, V1] w fun e w' => e = .returned (.int .i64 r) ∧ Below w.heap.size w w' := by
  have HR := Aside0.mk hr0
  have HC := Aside0.mk hc0
  obtain ⟨gf, lf, rfl, hlen, ad, rfl, hT⟩ := hf1
  have HT0 := Aside0.mk hT
  have R0 : Aside0 (firstO l0 (p1.drop 0) = some r) := ⟨h⟩
  clear hr0 hc0 hT h
  go_enter Tryz.func40, Tryz.ntmps40
  go_wp2
  go_loopg [6, 9] 5 (fun gg _ s9 wr => ∃ kk : Nat, kk ≤ 5 ∧ 5 - kk ≤ gg ∧ s9 = .int .i64 kk ∧ Aside0 (Below w.heap.size w wr) ∧ Aside0 (TestsAt wr ad kk (p1.drop kk)) ∧ Aside0 (firstO l0 (p1.drop kk) = some r))
  case atStart => exact ⟨0, by omega, by omega, rfl, ⟨Below.refl _ _⟩, HT0, R0⟩
  case round =>
    clear R0 HT0
    obtain ⟨kk, hkk, hg, rfl, HB, HT, R⟩ := hrel
    by_cases hlt : kk < 5
    · have hltz : (kk : Int) < 5 := by omega
      have hd : p1.drop kk = p1[kk]'(by omega) :: p1.drop (kk + 1) := List.drop_eq_getElem_cons (by omega)
      generalize p1[kk]'(by omega) = x at hd
      obtain ⟨e, p⟩ := x
      have hT := HT.out
      rw [hd] at hT
      obtain ⟨⟨he, V, hV, hPB⟩, hT2⟩ := hT
      have R2 := R.out
      rw [hd, firstO] at R2
      obtain ⟨b, hb0, R2⟩ := Option.bind_eq_some_iff.mp R2
      obtain ⟨g, lb, rfl, eg, hp⟩ := id hPB
      have hl0 : ∀ j v, [.int .i64 e, .func (.func g) #[] lb][j]? = some v → wr.cell? ((ad.add (kk * 2)).add j) = some v := fun j v hv => by
        rw [add_add]
        match j, hv with
        | 0, hv => simp at hv; subst hv; exact he
        | 1, hv => simp at hv; subst hv; exact hV
      have HL := Aside0.mk hl0
      have HI : Aside0 ((Tryz.prog.info? 134).map (·.size) = some [Value.int .i64 e, .func (.func g) #[] lb].length) := ⟨by kernel_rfl⟩
      have HPB := Aside0.mk hPB
      have HTn := Aside0.mk hT2
      have HA := Aside0.mk hb0
      clear hl0 hT2 hPB he hV hp eg HT hd hb0 R
      cases b with
      | true =>
        rw [if_pos rfl] at R2
        have R3 := Aside0.mk (Option.some.inj R2)
        clear R2
        go_wp2_with (first | ((with_reducible refine gate_dst (N := 12) rfl ?_); refine wpList_load_agg rfl 134 (.tmp 11) rfl _ rfl _ Tryz.underlying134 rfl _ HI.out HL.out ?_) | ((with_reducible refine gate_dst (N := 6) rfl ?_); refine box_event ?hg (N := 6) ?hd (cs := #[.int .i64 0, .nilFunc]) (t := 134) ?hr ?_; (case hd => rfl); (case hg => rfl); (case hr => first | (go_simp; done) | (go_simp; rfl)); intro g3 hg3 w3 hbox hb; have GE := Aside0.mk (show w.heap.size ≤ g3 from hg3 ▸ HB.out.size); have GW := Aside0.mk (show wr.heap.size ≤ g3 from hg3 ▸ Nat.le_refl _); have BK := Aside0.mk hbox; have HBw := Aside0.mk hb; clear hb hg3 hbox; have hz0 := (blk_cell BK.out 0).trans rfl; have hz1 := (blk_cell BK.out 1).trans rfl; have hf0 := blk_frozen BK.out 0; have hf1 := blk_frozen BK.out 1) | ((with_reducible refine gate_store (t := 134) (p := 6) rfl ?_); refine store_event (t := 134) (p := 6) (v := ?vo_) (w1 := (w3.setCell ⟨g3, 0, none⟩ (.int .i64 e)).setCell ⟨g3, 1, none⟩ (.func (.func g) #[] lb)) ?hg ?ho ?hn ?hr ?_; (case ho => rfl); (case hg => rfl); (case hn => rfl); (case hr => first | (go_simp; done) | (go_simp; rfl)); intro w4 hw; have BK4 : Aside0 (w4.heap[g3]? = some (.cells #[.int .i64 e, .func (.func g) #[] lb] 134 (0, 0))) := ⟨by rw [hw]; exact blk_put (cs := #[.int .i64 e, .nilFunc]) (blk_put BK.out 0 _ rfl) 1 _ rfl⟩; have HW4 : Aside0 (Below wr.heap.size wr w4) := ⟨by rw [hw]; exact below_set (below_set HBw.out GW.out) GW.out⟩; have HCt := Aside0.mk (contains33.calls A0 c0 l0 _ _ true w4 (Kd.C_below HR.out (below_step HB.out HW4.out)) HC.out (first_1.fn g3 e _ p w4 BK4.out (FnE.below HPB.out HW4.out)) HA.out); clear hw hz0 hz1 hf0 hf1 BK) | (go_at_call 44; refine HCt.out.mono ?_; rintro e w5 ⟨rfl, hb⟩; have HB5 := Aside0.mk (below_step HW4.out hb); have BK5 := Aside0.mk (blk_below BK4.out hb); clear hb; have hq0 := (blk_cell BK5.out 0).trans rfl))
        go_ret
        exact ⟨by rw [← R3.out]; rfl, below_step HB.out HB5.out⟩
      | false =>
        rw [if_neg (by simp)] at R2
        have R3 := Aside0.mk R2
        clear R2
        go_wp2_with (first | ((with_reducible refine gate_dst (N := 12) rfl ?_); refine wpList_load_agg rfl 134 (.tmp 11) rfl _ rfl _ Tryz.underlying134 rfl _ HI.out HL.out ?_) | ((with_reducible refine gate_dst (N := 6) rfl ?_); refine box_event ?hg (N := 6) ?hd (cs := #[.int .i64 0, .nilFunc]) (t := 134) ?hr ?_; (case hd => rfl); (case hg => rfl); (case hr => first | (go_simp; done) | (go_simp; rfl)); intro g3 hg3 w3 hbox hb; have GE := Aside0.mk (show w.heap.size ≤ g3 from hg3 ▸ HB.out.size); have GW := Aside0.mk (show wr.heap.size ≤ g3 from hg3 ▸ Nat.le_refl _); have BK := Aside0.mk hbox; have HBw := Aside0.mk hb; clear hb hg3 hbox; have hz0 := (blk_cell BK.out 0).trans rfl; have hz1 := (blk_cell BK.out 1).trans rfl; have hf0 := blk_frozen BK.out 0; have hf1 := blk_frozen BK.out 1) | ((with_reducible refine gate_store (t := 134) (p := 6) rfl ?_); refine store_event (t := 134) (p := 6) (v := ?vo_) (w1 := (w3.setCell ⟨g3, 0, none⟩ (.int .i64 e)).setCell ⟨g3, 1, none⟩ (.func (.func g) #[] lb)) ?hg ?ho ?hn ?hr ?_; (case ho => rfl); (case hg => rfl); (case hn => rfl); (case hr => first | (go_simp; done) | (go_simp; rfl)); intro w4 hw; have BK4 : Aside0 (w4.heap[g3]? = some (.cells #[.int .i64 e, .func (.func g) #[] lb] 134 (0, 0))) := ⟨by rw [hw]; exact blk_put (cs := #[.int .i64 e, .nilFunc]) (blk_put BK.out 0 _ rfl) 1 _ rfl⟩; have HW4 : Aside0 (Below wr.heap.size wr w4) := ⟨by rw [hw]; exact below_set (below_set HBw.out GW.out) GW.out⟩; have HCt := Aside0.mk (contains33.calls A0 c0 l0 _ _ false w4 (Kd.C_below HR.out (below_step HB.out HW4.out)) HC.out (first_1.fn g3 e _ p w4 BK4.out (FnE.below HPB.out HW4.out)) HA.out); clear hw hz0 hz1 hf0 hf1 BK) | (go_at_call 44; refine HCt.out.mono ?_; rintro e w5 ⟨rfl, hb⟩; have HB5 := Aside0.mk (below_step HW4.out hb); clear hb))
        go_roundg (5 - (kk + 1))
        case measure => omega
        case rel => exact ⟨kk + 1, by omega, by omega, by go_num, ⟨below_step HB.out HB5.out⟩, ⟨HTn.out.below HB5.out⟩, R3⟩
    · have hltz : ¬ (kk : Int) < 5 := by omega
      have hke : kk = 5 := by omega
      have R2 : r = 0 := by have h2 := R.out; rw [hke, ← hlen, List.drop_length] at h2; exact (Option.some.inj h2).symm
      clear R
      subst R2
      subst hke
      go_wp2
      go_ret
      exact ⟨rfl, HB.out⟩
theorem PB_pick {f : Nat} {P : Brg → Nat → Option Bool} {w : World} (n : Brg → Nat) (eg : ∀ args w, (callFunc f args).run Tryz.prog w = .ok (.enter f args) w) (h : ∀ k, PB (.func (.func f) #[] #[]) (fun x => P x k) w) : PB (.func (.func f) #[] #[]) (fun x => P x (n x)) w :=
  ⟨f, _, rfl, eg, fun W x cs r hW hk hr => by
    obtain ⟨g, lb, e, _, hp⟩ := h (n x)
    injection e with e1 _ e2
    injection e1 with e1
    subst e1 e2
    exact hp W x cs r hW hk hr⟩
section
variable {P : Program} {ops : Array Oper} {rest : List Oper} {o : Oper} {a : Act} {Q : Exit → Act → World → Prop}
theorem lit_event {W : World} (hgd : o.guard = none) {N : Tmp} (_hd : o.dst = some N) {cs : Array Value} {t n : Nat}
    (hrun : (execOp a.eval o).run P W = .ok (.value (.slice (some ⟨W.heap.size, 0, none⟩) n n)) (W.alloc (.cells cs t (0, 0))))
    (h : ∀ g, g = W.heap.size → ∀ w1, w1.heap[g]? = some (.cells cs t (0, 0)) → Below W.heap.size W w1 → wpList P ops Q rest (a.put o.dst (.slice (some ⟨g, 0, none⟩) n n)) w1) : wpList P ops Q (o :: rest) a W :=
  Kd.event_run hgd hrun (h _ rfl _ (blk_new W _) (below_alloc (Below.refl _ _) _))
end
def testsOf (e : Int) (p : Brg → Option Bool) : Tests :=
  [(4, fun x => boring_checks_1.f x.f0 x.f1.f0 x.f1.f1 x.f2), (7, fun x => boring_checks_2.f x.f0 x.f1.f0 x.f1.f1 x.f2), (1, fun x => boring_checks_3.f x.f0 x.f1.f0 x.f1.f1 x.f2),
    (e, p), (11, fun x => boring_increasing.f (x.f2.length + 2) x.f0 x.f1.f0 x.f1.f1 x.f2)]
set_option maxHeartbeats 4000000 in
theorem checks.calls (e : Int) (V : Value) (p : Brg → Option Bool) (w : World) (hf : PB V p w) :
    Calls Tryz.prog 86 #[.int .i64 e, V] w fun en w' => ∃ v, en = .returned v ∧ FnET Tryz.prog v (testsOf e p) w' ∧ Below w.heap.size w w' := by
  obtain ⟨g, lb, rfl, eg, hp⟩ := id hf
  have HF := Aside0.mk hf
  clear hf eg hp
  go_enter Tryz.func86, Tryz.ntmps86
  go_wp2_with ((with_reducible refine gate_dst (N := 12) rfl ?_); refine lit_event ?hg (N := 12) ?hd (cs := #[.int .i64 4, .func (.func 128) #[] #[], .int .i64 7, .func (.func 129) #[] #[], .int .i64 1, .func (.func 130) #[] #[], .int .i64 e, .func (.func g) #[] lb, .int .i64 11, .func (.func 52) #[] #[]]) (t := 134) (n := 5) ?hr ?_; (case hd => rfl); (case hg => rfl); (case hr => first | (go_simp; done) | (go_simp; rfl)); intro g3 hg3 w3 hbox hb; have BK := Aside0.mk hbox; have HB := Aside0.mk hb; clear hg3 hbox hb)
  go_ret
  have c : ∀ j : Nat, w3.cell? ((⟨g3, 0, none⟩ : Addr).add j) = w3.cell? ⟨g3, j, none⟩ := fun j => by unfold Addr.add; split <;> simp_all
  refine ⟨_, rfl, ⟨some ⟨g3, 0, none⟩, (), rfl, rfl, _, rfl, ?_⟩, HB.out⟩
  refine ⟨⟨(c _).trans ((blk_cell BK.out 0).trans rfl), _, (c _).trans ((blk_cell BK.out 1).trans rfl), boring_checks_1.fn w3⟩, ⟨(c _).trans ((blk_cell BK.out 2).trans rfl), _, (c _).trans ((blk_cell BK.out 3).trans rfl), boring_checks_2.fn w3⟩, ⟨(c _).trans ((blk_cell BK.out 4).trans rfl), _, (c _).trans ((blk_cell BK.out 5).trans rfl), boring_checks_3.fn w3⟩, ⟨(c _).trans ((blk_cell BK.out 6).trans rfl), _, (c _).trans ((blk_cell BK.out 7).trans rfl), FnE.below HF.out HB.out⟩, ⟨(c _).trans ((blk_cell BK.out 8).trans rfl), _, (c _).trans ((blk_cell BK.out 9).trans rfl), ?_⟩, trivial⟩
  show PB (.func (.func 52) #[] #[]) _ w3
  exact PB_pick (P := fun x k => boring_increasing.f k x.f0 x.f1.f0 x.f1.f1 x.f2) (fun x => x.f2.length + 2) (enters_of Tryz.func52 (by kernel_rfl) rfl) (fun k => boring_increasing.fn k w3)
set_option maxHeartbeats 4000000 in
theorem boring_within.calls (a0 a1 a2 a3 a4 a5 : Int) (r : Tests) (w : World) (h : boring_within.f a0 a1 a2 a3 a4 a5 = some r) :
    Calls Tryz.prog 41 #[.agg #[.int .i64 a0, .int .i64 a1, .int .i64 a2, .int .i64 a3, .int .i64 a4, .int .i64 a5]] w fun e w' => ∃ v0_ : Value, e = .returned v0_ ∧ FnET Tryz.prog v0_ r w' ∧ Below w.heap.size w w' := by
  obtain rfl := Option.some.inj h
  clear h
  have HB := Aside0.mk (Below.refl w.heap.size w)
  go_enter Tryz.func41, Tryz.ntmps41
  go_wp2_with (first | ((with_reducible refine gate_dst (N := 1) rfl ?_); refine box_event ?hg (N := 1) ?hd (cs := #[.int .i64 a0, .int .i64 a1, .int .i64 a2, .int .i64 a3, .int .i64 a4, .int .i64 a5]) (t := 26) ?hr ?_; (case hd => rfl); (case hg => rfl); (case hr => first | (go_simp; done) | (go_simp; rfl)); intro g3 hg3 w3 hbox hb; have HB3 := Aside0.mk hb; have HC := Aside0.mk (checks.calls 12 _ _ w3 (boring_within_1.fn g3 a0 a1 a2 a3 a4 a5 w3 hbox)); clear hg3 hbox hb) | (go_at_call 86; refine HC.out.mono ?_; rintro e w4 ⟨v, rfl, hT, hb⟩; have HT := Aside0.mk hT; have HB4 := Aside0.mk (below_step HB3.out hb); clear hT hb))
  go_ret
  exact ⟨_, rfl, HT.out, HB4.out⟩
end Go.Proofs.YtfedmcehkpfciaaGreat.First
