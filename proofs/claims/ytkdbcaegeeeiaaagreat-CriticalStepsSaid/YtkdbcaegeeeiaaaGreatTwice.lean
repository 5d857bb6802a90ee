/-
  Walks over lists of machines and of jobs by a predicate that turns memory of the caller's own; jobshop.twice.
-/
import Derived.Test.YtkdbcaegeeeiaaaGreatHof
import Derived.Test.YtkdbcaegeeeiaaaGreatSm
import Derived.Test.YtkdbcaegeeeiaaaGreatM1
import Derived.KernelRfl
set_option linter.unusedVariables false
set_option linter.unusedSimpArgs false
namespace Go.Proofs.YtkdbcaegeeeiaaaGreat.Twice
open Go.RowKit Go.Proofs.YtkdbcaegeeeiaaaGreatW.PrintWords Go.Proofs.YtkdbcaegeeeiaaaGreatW.PrintLast Go.Proofs.YtkdbcaegeeeiaaaGreatW.PrintMore Go.Proofs.YtkdbcaegeeeiaaaGreat.P Go.Proofs.YtkdbcaegeeeiaaaGreat.Hof

/-- A walk over a list that turns memory of the caller's own: what a round says. -/
def RoundsM (g : Nat) (lb : Array Value) (I : Nat → World → Prop) (rs : Nat → Bool) (w0 : World) (l0 : List S42) : Prop :=
  ∀ kk (h : kk < l0.length) (W : World) (cs : List Value), Below w0.heap.size w0 W → I kk W → k42.K W l0[kk] cs → Calls Tryz.prog g (#[vAgg cs] ++ lb) W fun e w' => e = .returned (.bool (rs kk)) ∧ Below w0.heap.size w0 w' ∧ I (kk + 1) w'
set_option maxHeartbeats 4000000 in
theorem idxM (A0 : Option Addr) (c0 : Nat) (l0 : List S42) (g : Nat) (lb : Array Value) (eg : ∀ args w, (callFunc g args).run Tryz.prog w = .ok (.enter g args) w) (I : Nat → World → Prop) (rs : Nat → Bool) (w0 w : World) (hB : Below w0.heap.size w0 w) (hr0 : Kd.C k42 w0 A0 l0.length l0) (hc0 : l0.length ≤ c0) (hI : I 0 w) (hst : RoundsM g lb I rs w0 l0) :
    Calls Tryz.prog 108 #[.slice A0 l0.length c0, .func (.func g) #[] lb] w fun e w' => ∃ j : Int, e = .returned (.int .i64 j) ∧ Below w0.heap.size w0 w' ∧ decide (0 ≤ j) = (List.range l0.length).any rs := by
  have HR := Aside0.mk hr0
  have hlen : l0.length ≤ 9223372036854775807 := hr0.2.1
  have HS := Aside0.mk hst
  have HB0 := Aside0.mk hB
  have HI0 := Aside0.mk hI
  clear hr0 hc0 hst hB hI
  go_enter Tryz.func108, Tryz.ntmps108
  go_wp2
  go_loopg [5, 8] l0.length (fun gg _ s8 wr => ∃ kk : Nat, kk ≤ l0.length ∧ l0.length - kk ≤ gg ∧ s8 = .int .i64 kk ∧ Aside0 (Below w0.heap.size w0 wr) ∧ Aside0 (I kk wr) ∧ Aside0 (∀ i, i < kk → rs i = false))
  case atStart => exact ⟨0, Nat.zero_le _, by omega, rfl, HB0, HI0, ⟨fun i hi => absurd hi (by omega)⟩⟩
  case round =>
    obtain ⟨kk, hkk, hg, rfl, HB, HI, R⟩ := hrel
    clear HB0 HI0
    by_cases hlt : kk < l0.length
    · have hltz : (kk : Int) < (l0.length : Int) := by omega
      obtain ⟨ad, cs, he, hcl, hK, hcell⟩ := Kd.C_get (Kd.C_below HR.out HB.out) z42 (kk : Int) (by omega) (by omega)
      have hK2 : k42.K wr l0[kk] cs := by simpa [List.getD_eq_getElem?_getD, hlt] using hK
      have hl0 : ∀ j v, cs[j]? = some v → wr.cell? ((ad.add (kk * k42.sz)).add j) = some v := fun j v hv => by rw [add_add]; exact hcell j v hv
      have HL := Aside0.mk hl0
      have HIn := Aside0.mk (show (Tryz.prog.info? 42).map (·.size) = some cs.length by rw [hcl]; kernel_rfl)
      clear hl0
      have hcall := HS.out kk hlt wr cs HB.out HI.out hK2
      subst he
      have HC := Aside0.mk hcall
      clear hcall hcell hK hcl hK2
      cases hb : rs kk with
      | true =>
        rw [hb] at HC
        have Hb := Aside0.mk hb
        clear hb
        go_wp2_with (first | (go_at_fn g; refine HC.out.mono ?_; rintro e w1 ⟨rfl, hb, hi⟩; have HB1 := Aside0.mk hb; clear hb hi) | ((with_reducible refine gate_dst (N := 15) rfl ?_); refine wpList_load_agg rfl 42 (.tmp 14) rfl _ rfl _ Tryz.underlying42 rfl cs HIn.out HL.out ?_))
        go_ret
        exact ⟨(kk : Int), rfl, HB1.out, by rw [decide_eq_true (by omega), eq_comm, List.any_eq_true]; exact ⟨kk, List.mem_range.2 hlt, Hb.out⟩⟩
      | false =>
        rw [hb] at HC
        have Hb := Aside0.mk hb
        clear hb
        go_wp2_with (first | (go_at_fn g; refine HC.out.mono ?_; rintro e w1 ⟨rfl, hb, hi⟩; have HB1 := Aside0.mk hb; have HI1 := Aside0.mk hi; clear hb hi) | ((with_reducible refine gate_dst (N := 15) rfl ?_); refine wpList_load_agg rfl 42 (.tmp 14) rfl _ rfl _ Tryz.underlying42 rfl cs HIn.out HL.out ?_))
        go_roundg (l0.length - (kk + 1))
        case measure => omega
        case rel => exact ⟨kk + 1, by omega, by omega, by go_num, HB1, HI1, ⟨fun i hi => by rcases Nat.lt_succ_iff_lt_or_eq.1 hi with h | rfl; exact R.out i h; exact Hb.out⟩⟩
    · have hltz : ¬ (kk : Int) < (l0.length : Int) := by omega
      have hke : kk = l0.length := by omega
      subst hke
      go_wp2
      go_ret
      exact ⟨-1, rfl, HB.out, by
        rw [decide_eq_false (by omega), eq_comm, List.any_eq_false]
        intro i hi
        rw [R.out i (List.mem_range.1 hi)]; simp⟩
set_option maxHeartbeats 4000000 in
theorem someM (A0 : Option Addr) (c0 : Nat) (l0 : List S42) (g : Nat) (lb : Array Value) (eg : ∀ args w, (callFunc g args).run Tryz.prog w = .ok (.enter g args) w) (I : Nat → World → Prop) (rs : Nat → Bool) (w0 w : World) (hB : Below w0.heap.size w0 w) (hr0 : Kd.C k42 w0 A0 l0.length l0) (hc0 : l0.length ≤ c0) (hI : I 0 w) (hst : RoundsM g lb I rs w0 l0) :
    Calls Tryz.prog 67 #[.slice A0 l0.length c0, .func (.func g) #[] lb] w fun e w' => e = .returned (.bool ((List.range l0.length).any rs)) ∧ Below w0.heap.size w0 w' := by
  have con : Calls Tryz.prog 147 #[.slice A0 l0.length c0, .func (.func g) #[] lb] w fun e w' => e = .returned (.bool ((List.range l0.length).any rs)) ∧ Below w0.heap.size w0 w' := by
    have HC := Aside0.mk (idxM A0 c0 l0 g lb eg I rs w0 w hB hr0 hc0 hI hst)
    clear hr0 hc0 hst hB hI eg
    go_enter Tryz.func147, Tryz.ntmps147
    go_wp2_with (go_at_call 108; refine HC.out.mono ?_; rintro e w1 ⟨j, rfl, hb, hj⟩; have HB := Aside0.mk hb; have HJ := Aside0.mk hj; clear hb hj)
    go_ret
    exact ⟨by rw [← HJ.out]; rfl, HB.out⟩
  have HC := Aside0.mk con
  clear con hr0 hc0 hst hB hI eg
  go_enter Tryz.func67, Tryz.ntmps67
  go_wp2_with (go_at_call 147; refine HC.out.mono ?_; rintro e w1 ⟨rfl, hb⟩; have HB := Aside0.mk hb; clear hb)
  go_ret
  exact ⟨rfl, HB.out⟩

/-- A walk over a list that turns memory of the caller's own: what a round says. -/
def RoundsJ (g : Nat) (lb : Array Value) (I : Nat → World → Prop) (rs : Nat → Bool) (w0 : World) (l0 : List S38) : Prop :=
  ∀ kk (h : kk < l0.length) (W : World) (cs : List Value), Below w0.heap.size w0 W → I kk W → k38.K W l0[kk] cs → Calls Tryz.prog g (#[vAgg cs] ++ lb) W fun e w' => e = .returned (.bool (rs kk)) ∧ Below w0.heap.size w0 w' ∧ I (kk + 1) w'
set_option maxHeartbeats 4000000 in
theorem idxJ (A0 : Option Addr) (c0 : Nat) (l0 : List S38) (g : Nat) (lb : Array Value) (eg : ∀ args w, (callFunc g args).run Tryz.prog w = .ok (.enter g args) w) (I : Nat → World → Prop) (rs : Nat → Bool) (w0 w : World) (hB : Below w0.heap.size w0 w) (hr0 : Kd.C k38 w0 A0 l0.length l0) (hc0 : l0.length ≤ c0) (hI : I 0 w) (hst : RoundsJ g lb I rs w0 l0) :
    Calls Tryz.prog 134 #[.slice A0 l0.length c0, .func (.func g) #[] lb] w fun e w' => ∃ j : Int, e = .returned (.int .i64 j) ∧ Below w0.heap.size w0 w' ∧ decide (0 ≤ j) = (List.range l0.length).any rs := by
  have HR := Aside0.mk hr0
  have hlen : l0.length ≤ 9223372036854775807 := hr0.2.1
  have HS := Aside0.mk hst
  have HB0 := Aside0.mk hB
  have HI0 := Aside0.mk hI
  clear hr0 hc0 hst hB hI
  go_enter Tryz.func134, Tryz.ntmps134
  go_wp2
  go_loopg [5, 8] l0.length (fun gg _ s8 wr => ∃ kk : Nat, kk ≤ l0.length ∧ l0.length - kk ≤ gg ∧ s8 = .int .i64 kk ∧ Aside0 (Below w0.heap.size w0 wr) ∧ Aside0 (I kk wr) ∧ Aside0 (∀ i, i < kk → rs i = false))
  case atStart => exact ⟨0, Nat.zero_le _, by omega, rfl, HB0, HI0, ⟨fun i hi => absurd hi (by omega)⟩⟩
  case round =>
    obtain ⟨kk, hkk, hg, rfl, HB, HI, R⟩ := hrel
    clear HB0 HI0
    by_cases hlt : kk < l0.length
    · have hltz : (kk : Int) < (l0.length : Int) := by omega
      obtain ⟨ad, cs, he, hcl, hK, hcell⟩ := Kd.C_get (Kd.C_below HR.out HB.out) z38 (kk : Int) (by omega) (by omega)
      have hK2 : k38.K wr l0[kk] cs := by simpa [List.getD_eq_getElem?_getD, hlt] using hK
      have hl0 : ∀ j v, cs[j]? = some v → wr.cell? ((ad.add (kk * k38.sz)).add j) = some v := fun j v hv => by rw [add_add]; exact hcell j v hv
      have HL := Aside0.mk hl0
      have HIn := Aside0.mk (show (Tryz.prog.info? 38).map (·.size) = some cs.length by rw [hcl]; kernel_rfl)
      clear hl0
      have hcall := HS.out kk hlt wr cs HB.out HI.out hK2
      subst he
      have HC := Aside0.mk hcall
      clear hcall hcell hK hcl hK2
      cases hb : rs kk with
      | true =>
        rw [hb] at HC
        have Hb := Aside0.mk hb
        clear hb
        go_wp2_with (first | (go_at_fn g; refine HC.out.mono ?_; rintro e w1 ⟨rfl, hb, hi⟩; have HB1 := Aside0.mk hb; clear hb hi) | ((with_reducible refine gate_dst (N := 15) rfl ?_); refine wpList_load_agg rfl 38 (.tmp 14) rfl _ rfl _ Tryz.underlying38 rfl cs HIn.out HL.out ?_))
        go_ret
        exact ⟨(kk : Int), rfl, HB1.out, by rw [decide_eq_true (by omega), eq_comm, List.any_eq_true]; exact ⟨kk, List.mem_range.2 hlt, Hb.out⟩⟩
      | false =>
        rw [hb] at HC
        have Hb := Aside0.mk hb
        clear hb
        go_wp2_with (first | (go_at_fn g; refine HC.out.mono ?_; rintro e w1 ⟨rfl, hb, hi⟩; have HB1 := Aside0.mk hb; have HI1 := Aside0.mk hi; clear hb hi) | ((with_reducible refine gate_dst (N := 15) rfl ?_); refine wpList_load_agg rfl 38 (.tmp 14) rfl _ rfl _ Tryz.underlying38 rfl cs HIn.out HL.out ?_))
        go_roundg (l0.length - (kk + 1))
        case measure => omega
        case rel => exact ⟨kk + 1, by omega, by omega, by go_num, HB1, HI1, ⟨fun i hi => by rcases Nat.lt_succ_iff_lt_or_eq.1 hi with h | rfl; exact R.out i h; exact Hb.out⟩⟩
    · have hltz : ¬ (kk : Int) < (l0.length : Int) := by omega
      have hke : kk = l0.length := by omega
      subst hke
      go_wp2
      go_ret
      exact ⟨-1, rfl, HB.out, by
        rw [decide_eq_false (by omega), eq_comm, List.any_eq_false]
        intro i hi
        rw [R.out i (List.mem_range.1 hi)]; simp⟩
set_option maxHeartbeats 4000000 in
theorem someJ (A0 : Option Addr) (c0 : Nat) (l0 : List S38) (g : Nat) (lb : Array Value) (eg : ∀ args w, (callFunc g args).run Tryz.prog w = .ok (.enter g args) w) (I : Nat → World → Prop) (rs : Nat → Bool) (w0 w : World) (hB : Below w0.heap.size w0 w) (hr0 : Kd.C k38 w0 A0 l0.length l0) (hc0 : l0.length ≤ c0) (hI : I 0 w) (hst : RoundsJ g lb I rs w0 l0) :
    Calls Tryz.prog 63 #[.slice A0 l0.length c0, .func (.func g) #[] lb] w fun e w' => e = .returned (.bool ((List.range l0.length).any rs)) ∧ Below w0.heap.size w0 w' := by
  have con : Calls Tryz.prog 145 #[.slice A0 l0.length c0, .func (.func g) #[] lb] w fun e w' => e = .returned (.bool ((List.range l0.length).any rs)) ∧ Below w0.heap.size w0 w' := by
    have HC := Aside0.mk (idxJ A0 c0 l0 g lb eg I rs w0 w hB hr0 hc0 hI hst)
    clear hr0 hc0 hst hB hI eg
    go_enter Tryz.func145, Tryz.ntmps145
    go_wp2_with (go_at_call 134; refine HC.out.mono ?_; rintro e w1 ⟨j, rfl, hb, hj⟩; have HB := Aside0.mk hb; have HJ := Aside0.mk hj; clear hb hj)
    go_ret
    exact ⟨by rw [← HJ.out]; rfl, HB.out⟩
  have HC := Aside0.mk con
  clear con hr0 hc0 hst hB hI eg
  go_enter Tryz.func63, Tryz.ntmps63
  go_wp2_with (go_at_call 145; refine HC.out.mono ?_; rintro e w1 ⟨rfl, hb⟩; have HB := Aside0.mk hb; clear hb)
  go_ret
  exact ⟨rfl, HB.out⟩

section
variable {P : Program} {ops : Array Oper} {oi o : Oper} {a : Act} {Q : Exit → Act → World → Prop}
theorem skip_ {w w1 : World} {K : Act → World → Prop} (hw : Region.wanted oi (yielded ops a.tmps) = true) (hN : oi.dst = none) (hrun : (execOp a.eval oi).run P w = .ok .skip w1) (h : K (a.put none undef) w1) :
    if Region.wanted oi (yielded ops a.tmps) = true then Oper.wp P oi a w K Q else K (a.put none undef) w := by
  rw [if_pos hw]
  unfold Oper.wp
  rw [hrun]
  show K (a.put oi.dst undef) w1
  rw [hN]
  exact h
theorem valcall_ {w : World} {t : Tmp} {x : Operand} {ts : Array TypeId} {g : Nat} {lb : Array Value} {v : Value} (hop : oi.op = .call { callee := .value (.tmp t), args := #[x], argTypes := ts }) (hv : a.eval (.tmp t) = .func (.func g) #[] lb) (hx : a.eval x = v)
    (eg : (callFunc g (#[v] ++ lb)).run P w = .ok (.enter g (#[v] ++ lb)) w) : (execOp a.eval oi).run P w = .ok (.enter g (#[v] ++ lb)) w := by
  unfold execOp
  simp only [hop, resolve, Deferred.ofValue, hv, invoke, hx]
  simp [invoke, hx, eg]
theorem look_run {κ β : Type} {ke : κ → Value} {ve : β → Value} [BEq κ] {t kt et : TypeId} (x ix : Operand) (ho : o.op = .lookup t x ix false) (ht : P.underlying t = some (.map kt et)) (hk : Sm.SM.Key P kt ke) {z : β} (hz : ∀ w, (zeroValue et).run P w = .ok (ve z) w) {W : World} {g : Nat} {m : Sm.SM κ β} (k : κ)
    (hx : a.eval x = .map (some g)) (hi : a.eval ix = ke k) (hb : W.heap[g]? = some (Sm.SM.obj ke ve m)) : (execOp a.eval o).run P W = .ok (.value (ve (m.at_ k z))) W := by
  have h1 := (Sm.SM.run_look ht hk (hz W) hb k).1
  have h2 : ((m.get k).map ve).getD (ve z) = ve ((m.get k).getD z) := by cases m.get k <;> rfl
  rw [h2] at h1
  unfold execOp
  rw [ho]
  simp only [hx, hi]
  simp only [Sem.run_bind, h1, Result.andThen]
  rfl
theorem mput_step {κ β : Type} {ke : κ → Value} {ve : β → Value} [BEq κ] {t kt et : TypeId} {x y v : Operand} {W : World} {K : Act → World → Prop} (hw : Region.wanted oi (yielded ops a.tmps) = true) (hN : oi.dst = none) (ho : oi.op = .mapUpdate t x y v) (ht : P.underlying t = some (.map kt et)) (hk : Sm.SM.Key P kt ke) {g : Nat} {m : Sm.SM κ β} (k : κ) (u : β)
    (hx : a.eval x = .map (some g)) (hy : a.eval y = ke k) (hv : a.eval v = ve u) (hb : W.heap[g]? = some (Sm.SM.obj ke ve m))
    (h : ∀ w1, w1.heap[g]? = some (Sm.SM.obj ke ve (m.put k u)) → W.grownBy w1 (some g) → K (a.put none undef) w1) : if Region.wanted oi (yielded ops a.tmps) = true then Oper.wp P oi a W K Q else K (a.put none undef) W := by
  obtain ⟨w1, h1, h2, h3⟩ := Sm.SM.run_put ht hk hb k u
  refine skip_ hw hN ?_ (h w1 h2 h3)
  unfold execOp
  rw [ho]
  simp only [hx, hy, hv]
  simp only [Sem.run_bind, h1, Result.andThen]
  rfl
end
theorem neM {w : World} {g g' : Nat} {cs : Array Value} {t : TypeId} {m : Sm.SM ByteArray Bool} (h : w.heap[g]? = some (.cells cs t (0, 0))) (h' : w.heap[g']? = some (Sm.SM.obj Value.string Value.bool m)) : some g ≠ some g' := by
  rintro e
  injection e with e
  subst e
  rw [h] at h'
  unfold Sm.SM.obj at h'
  injection h' with h'
  cases h'
def twB1 : List Nat := [0, 0, 0, 6, 15, 31]
def twB2 : List Nat := [0, 0, 0, 6, 15]
def twt1 : Bool × List (List Nat × List Nat) := (true, [([], []), ([], []), ([], []), ([1, 2], [1, 2]), ([0, 3], [0, 3]), ([4, 3, 0, 1, 2, 3, 4], [4])])
def twt2 : Bool × List (List Nat × List Nat) := (true, [([], []), ([], []), ([], []), ([1, 2], [1, 2]), ([0, 3, 3, 0, 1, 2, 3], [0, 3])])
theorem twW1 : waitsOk twt1.2 twB1 = true := by kernel_rfl
theorem twW2 : waitsOk twt2.2 twB2 = true := by kernel_rfl
theorem twT1M : rtab .any (opsOf Tryz.f151 1) = twt1 := by kernel_rfl
theorem twT2M : rtab .any (opsOf Tryz.f151 2) = twt2 := by kernel_rfl
theorem twT1J : rtab .any (opsOf Tryz.f152 1) = twt1 := by kernel_rfl
theorem twT2J : rtab .any (opsOf Tryz.f152 2) = twt2 := by kernel_rfl

set_option maxHeartbeats 8000000 in
set_option maxRecDepth 100000 in
theorem twM_1 (gs gn gm : Nat) (Vn : Value) (p : S42 → Option ByteArray) (x : S42) (nm : ByteArray) (m : Sm.SM ByteArray Bool) (w0 w : World) (cs : List Value) (hB : Below w0.heap.size w0 w) (hgm : w0.heap.size ≤ gm)
    (hs : w.heap[gs]? = some (.cells #[.map (some gm)] 87 (0, 0))) (hn : w.heap[gn]? = some (.cells #[Vn] 92 (0, 0))) (hm : w.heap[gm]? = some (Sm.SM.obj Value.string Value.bool m))
    (hf : FnE Tryz.prog k42 vAgg Value.string Vn p w0) (hp : p x = some nm) (hk : k42.K w x cs) :
    Calls Tryz.prog 151 (#[vAgg cs] ++ #[.pointer (some ⟨gs, 0, none⟩), .pointer (some ⟨gn, 0, none⟩)]) w fun e w' => e = .returned (.bool (m.at_ nm false)) ∧ Below w0.heap.size w0 w' ∧
      w'.heap[gs]? = some (.cells #[.map (some gm)] 87 (0, 0)) ∧ w'.heap[gn]? = some (.cells #[Vn] 92 (0, 0)) ∧ w'.heap[gm]? = some (Sm.SM.obj Value.string Value.bool (m.put nm true)) := by
  obtain rfl := k42_open hk
  obtain ⟨g, lb, rfl, eg, hq⟩ := hf
  have HQ : Aside0 (∀ W2, Below w0.heap.size w0 W2 → Below w.heap.size w W2 ∨ True → k42.K W2 x [.string x.f0, .string x.f1, .int .i64 x.f2] → Calls Tryz.prog g (#[.agg #[.string x.f0, .string x.f1, .int .i64 x.f2]] ++ lb) W2 fun e w' => e = .returned (.string nm) ∧ Below W2.heap.size W2 w') := ⟨fun W2 h2 _ h3 => hq W2 x _ nm h2 h3 hp⟩
  have HKx : Aside0 (∀ W2, Below w.heap.size w W2 → k42.K W2 x [.string x.f0, .string x.f1, .int .i64 x.f2]) := ⟨fun W2 hW2 => k42_mk W2 x⟩
  have HB := Aside0.mk hB
  have HS := Aside0.mk hs
  have HN := Aside0.mk hn
  have HM := Aside0.mk hm
  have EG := Aside0.mk eg
  clear hB hs hn hm hq hp hk eg 
  show Calls _ _ #[.agg #[.string x.f0, .string x.f1, .int .i64 x.f2], .pointer (some ⟨gs, 0, none⟩), .pointer (some ⟨gn, 0, none⟩)] w _
  go_enter Tryz.func151, Tryz.ntmps151
  go_wp2_with ((with_reducible refine gate_dst (N := 3) rfl ?_); refine box_event ?hg (N := 3) ?hd (cs := #[.string x.f0, .string x.f1, .int .i64 x.f2]) (t := 42) ?hr ?_; (case hd => rfl); (case hg => rfl); (case hr => first | (go_simp; done) | (go_simp; rfl)); intro gx hg w1 hbox hb; have HBx := Aside0.mk hb; have HX := Aside0.mk hbox; clear hb hbox hg)
  have n0 : Aside0 (Below w.heap.size w w1.drew) := ⟨below_drew1 HBx.out⟩
  have n1 := Aside0.mk (blk_drew (blk_below HS.out HBx.out))
  have n2 := Aside0.mk (blk_drew (blk_below HN.out HBx.out))
  have n3 := Aside0.mk (blk_drew HX.out)
  have n4 := Aside0.mk (blk_drew (blk_below HM.out HBx.out))
  refine start_ (n := 6) (S := fun w' => True) (ds := []) #[false, false, false, false, false, false] (by kernel_rfl) rfl rfl trivial (fun hHeld => ?_); refine with_tabW twT1M twW1 (fun HT_ HW_ => ?_)
  generalize w1.drew = w2 at n0 n1 n2 n3 n4 hHeld ⊢
  clear HS HN HM HBx HX
  refine inv_at [0, 1, 2, 3, 4, 5] (fun a0_ b a w' => a = putSel a0_ b [(0, 6, .map (some gm)), (1, 7, .func (.func g) #[] lb), (2, 8, .agg #[.string x.f0, .string x.f1, .int .i64 x.f2]), (3, 9, .string nm), (4, 10, .bool (m.at_ nm false)), (5, 5, .bool (m.at_ nm false))] ∧ Below w.heap.size w w' ∧ (w'.heap[gs]? = some (.cells #[.map (some gm)] 87 (0, 0))) ∧ (w'.heap[gn]? = some (.cells #[.func (.func g) #[] lb] 92 (0, 0))) ∧ (w'.heap[gx]? = some (.cells #[.string x.f0, .string x.f1, .int .i64 x.f2] 42 (0, 0))) ∧ (w'.heap[gm]? = some (Sm.SM.obj Value.string Value.bool m))) HT_.out HW_.out (by kernel_rfl) (by kernel_rfl) ?_ ?_ ?_
  · exact ⟨by simp only [putSel, Bool.false_eq_true, if_false], n0.out, n1.out, n2.out, n3.out, n4.out⟩
  · clear n0 n1 n2 n3 n4 hHeld
    refine steps_cons ?_ ?_
    · rintro b a w' ⟨ha, QB, QS, QN, QX, QM⟩ hb_ hon hoff
      refine ⟨_, rfl, fun K hK => ?_⟩
      have e1 : a.tmps[1]? = some (.pointer (some ⟨gs, 0, none⟩)) := by rw [ha]; exact (putSel_off rfl).trans rfl
      replace ha := Aside0.mk ha
      have hc0_ : w'.cell? ⟨gs, 0, none⟩ = some (.map (some gm)) := (blk_cell QS 0).trans rfl
      refine value_ (w1 := w') (v := .map (some gm)) (by rfl) rfl ?_ ?_
      · go_simp
        try rfl
      exact hK.out _ _ ⟨(by rw [ha.out]; exact putSel_upk 0 hb_ rfl rfl rfl), QB, QS, QN, QX, QM⟩
    refine steps_cons ?_ ?_
    · rintro b a w' ⟨ha, QB, QS, QN, QX, QM⟩ hb_ hon hoff
      refine ⟨_, rfl, fun K hK => ?_⟩
      have e1 : a.tmps[2]? = some (.pointer (some ⟨gn, 0, none⟩)) := by rw [ha]; exact (putSel_off rfl).trans rfl
      replace ha := Aside0.mk ha
      have hc0_ : w'.cell? ⟨gn, 0, none⟩ = some (.func (.func g) #[] lb) := (blk_cell QN 0).trans rfl
      refine value_ (w1 := w') (v := .func (.func g) #[] lb) (by rfl) rfl ?_ ?_
      · go_simp
        try rfl
      exact hK.out _ _ ⟨(by rw [ha.out]; exact putSel_upk 1 hb_ rfl rfl rfl), QB, QS, QN, QX, QM⟩
    refine steps_cons ?_ ?_
    · rintro b a w' ⟨ha, QB, QS, QN, QX, QM⟩ hb_ hon hoff
      refine ⟨_, rfl, fun K hK => ?_⟩
      have e1 : a.tmps[3]? = some (.pointer (some ⟨gx, 0, none⟩)) := by rw [ha]; exact (putSel_off rfl).trans rfl
      replace ha := Aside0.mk ha
      have hx0_ : w'.cell? ⟨gx, 0, none⟩ = some (.string x.f0) := (blk_cell QX 0).trans rfl
      have hx1_ : w'.cell? ⟨gx, 1, none⟩ = some (.string x.f1) := (blk_cell QX 1).trans rfl
      have hx2_ : w'.cell? ⟨gx, 2, none⟩ = some (.int .i64 x.f2) := (blk_cell QX 2).trans rfl
      refine value_ (w1 := w') (v := .agg #[.string x.f0, .string x.f1, .int .i64 x.f2]) (by rfl) rfl ?_ ?_
      · go_simp
        try rfl
      exact hK.out _ _ ⟨(by rw [ha.out]; exact putSel_upk 2 hb_ rfl rfl rfl), QB, QS, QN, QX, QM⟩
    refine steps_cons ?_ ?_
    · rintro b a w' ⟨ha, QB, QS, QN, QX, QM⟩ hb_ hon hoff
      refine ⟨_, rfl, fun K hK => ?_⟩
      have e7 : a.tmps[7]? = some (.func (.func g) #[] lb) := by rw [ha]; exact putSel_on (e := (1, 7, .func (.func g) #[] lb)) 1 rfl rfl (hon 1 (by kernel_rfl)) rfl
      have e8 : a.tmps[8]? = some (.agg #[.string x.f0, .string x.f1, .int .i64 x.f2]) := by rw [ha]; exact putSel_on (e := (2, 8, .agg #[.string x.f0, .string x.f1, .int .i64 x.f2])) 2 rfl rfl (hon 2 (by kernel_rfl)) rfl
      replace ha := Aside0.mk ha
      refine call_ g (#[.agg #[.string x.f0, .string x.f1, .int .i64 x.f2]] ++ lb) (by rfl) rfl (valcall_ rfl (by simp [Act.eval, e7]) (by simp [Act.eval, e8]) (EG.out _ _)) ?_
      refine (HQ.out w' (below_step HB.out QB) (.inr trivial) (HKx.out w' QB)).mono ?_
      rintro e w3 ⟨rfl, hb⟩
      exact ⟨_, rfl, hK.out _ _ ⟨(by rw [ha.out]; exact putSel_upk 3 hb_ rfl rfl rfl), below_step QB hb, blk_below QS hb, blk_below QN hb, blk_below QX hb, blk_below QM hb⟩⟩
    refine steps_cons ?_ ?_
    · rintro b a w' ⟨ha, QB, QS, QN, QX, QM⟩ hb_ hon hoff
      refine ⟨_, rfl, fun K hK => ?_⟩
      have e6 : a.tmps[6]? = some (.map (some gm)) := by rw [ha]; exact putSel_on (e := (0, 6, .map (some gm))) 0 rfl rfl (hon 0 (by kernel_rfl)) rfl
      have e9 : a.tmps[9]? = some (.string nm) := by rw [ha]; exact putSel_on (e := (3, 9, .string nm)) 3 rfl rfl (hon 3 (by kernel_rfl)) rfl
      replace ha := Aside0.mk ha
      refine value_ (w1 := w') (v := .bool (m.at_ nm false)) (by rfl) rfl (look_run (ve := Value.bool) (z := false) _ _ rfl Tryz.underlying87 (Sm.SM.key_str Tryz.underlying9) (fun w_ => Sm.zero_run (by kernel_rfl) w_) nm (by simp [Act.eval, e6]) (by simp [Act.eval, e9]) QM) ?_
      exact hK.out _ _ ⟨(by rw [ha.out]; exact putSel_upk 4 hb_ rfl rfl rfl), QB, QS, QN, QX, QM⟩
    refine steps_cons ?_ ?_
    · rintro b a w' ⟨ha, QB, QS, QN, QX, QM⟩ hb_ hon hoff
      refine ⟨_, rfl, fun K hK => ?_⟩
      have e10 : a.tmps[10]? = some (.bool (m.at_ nm false)) := by rw [ha]; exact putSel_on (e := (4, 10, .bool (m.at_ nm false))) 4 rfl rfl (hon 4 (by kernel_rfl)) rfl
      replace ha := Aside0.mk ha
      refine value_ (w1 := w') (v := .bool (m.at_ nm false)) (by rfl) rfl ?_ ?_
      · go_simp
        try rfl
      exact hK.out _ _ ⟨(by rw [ha.out]; exact putSel_upk 5 hb_ rfl rfl rfl), QB, QS, QN, QX, QM⟩
    exact steps_nil
  rintro b a w3 hall ⟨ha, QB, QS, QN, QX, QM⟩
  clear n0 n1 n2 n3 n4 hHeld HT_ HW_
  have hb0_ := hall 0 (by kernel_rfl)
  have hb1_ := hall 1 (by kernel_rfl)
  have hb2_ := hall 2 (by kernel_rfl)
  have hb3_ := hall 3 (by kernel_rfl)
  have hb4_ := hall 4 (by kernel_rfl)
  have hb5_ := hall 5 (by kernel_rfl)
  subst ha
  simp only [putSel, hb0_, hb1_, hb2_, hb3_, hb4_, hb5_, if_true, Act.put, List.setIfInBounds_toArray, List.set_cons_zero, List.set_cons_succ]
  clear hall hb0_ hb1_ hb2_ hb3_ hb4_ hb5_
  have n0 : Aside0 (Below w.heap.size w w3.drew) := ⟨below_drew1 QB⟩
  have n1 := Aside0.mk (blk_drew QS)
  have n2 := Aside0.mk (blk_drew QN)
  have n3 := Aside0.mk (blk_drew QX)
  have n4 := Aside0.mk (blk_drew QM)
  clear QB QS QN QX QM
  try go_wp2
  refine start_ (n := 5) (S := fun w' => True) (ds := []) #[false, false, false, false, false] (by kernel_rfl) rfl rfl trivial (fun hHeld => ?_); refine with_tabW twT2M twW2 (fun HT_ HW_ => ?_)
  generalize w3.drew = w4 at n0 n1 n2 n3 n4 hHeld ⊢
  refine inv_at [0, 1, 2, 3, 4] (fun a0_ b a w' => a = putSel a0_ b [(0, 11, .map (some gm)), (1, 12, .func (.func g) #[] lb), (2, 13, .agg #[.string x.f0, .string x.f1, .int .i64 x.f2]), (3, 14, .string nm)] ∧ Below w0.heap.size w0 w' ∧ (b 4 = false → Below w.heap.size w w') ∧ (w'.heap[gs]? = some (.cells #[.map (some gm)] 87 (0, 0))) ∧ (w'.heap[gn]? = some (.cells #[.func (.func g) #[] lb] 92 (0, 0))) ∧ (w'.heap[gx]? = some (.cells #[.string x.f0, .string x.f1, .int .i64 x.f2] 42 (0, 0))) ∧ (w'.heap[gm]? = some (Sm.SM.obj Value.string Value.bool (if b 4 = true then m.put nm true else m)))) HT_.out HW_.out (by kernel_rfl) (by kernel_rfl) ?_ ?_ ?_
  · exact ⟨by simp only [putSel, Bool.false_eq_true, if_false], below_step HB.out n0.out, fun _ => n0.out, n1.out, n2.out, n3.out, n4.out⟩
  · clear n0 n1 n2 n3 n4 hHeld
    refine steps_cons ?_ ?_
    · rintro b a w' ⟨ha, QB0, QB, QS, QN, QX, QM⟩ hb_ hon hoff
      refine ⟨_, rfl, fun K hK => ?_⟩
      have h4 := hoff 4 (by kernel_rfl)
      have e1 : a.tmps[1]? = some (.pointer (some ⟨gs, 0, none⟩)) := by rw [ha]; exact (putSel_off rfl).trans rfl
      replace ha := Aside0.mk ha
      have hc0_ : w'.cell? ⟨gs, 0, none⟩ = some (.map (some gm)) := (blk_cell QS 0).trans rfl
      refine value_ (w1 := w') (v := .map (some gm)) (by rfl) rfl ?_ ?_
      · go_simp
        try rfl
      exact hK.out _ _ ⟨(by rw [ha.out]; exact putSel_upk 0 hb_ rfl rfl rfl), QB0, fun _ => QB h4, QS, QN, QX, QM⟩
    refine steps_cons ?_ ?_
    · rintro b a w' ⟨ha, QB0, QB, QS, QN, QX, QM⟩ hb_ hon hoff
      refine ⟨_, rfl, fun K hK => ?_⟩
      have h4 := hoff 4 (by kernel_rfl)
      have e1 : a.tmps[2]? = some (.pointer (some ⟨gn, 0, none⟩)) := by rw [ha]; exact (putSel_off rfl).trans rfl
      replace ha := Aside0.mk ha
      have hc0_ : w'.cell? ⟨gn, 0, none⟩ = some (.func (.func g) #[] lb) := (blk_cell QN 0).trans rfl
      refine value_ (w1 := w') (v := .func (.func g) #[] lb) (by rfl) rfl ?_ ?_
      · go_simp
        try rfl
      exact hK.out _ _ ⟨(by rw [ha.out]; exact putSel_upk 1 hb_ rfl rfl rfl), QB0, fun _ => QB h4, QS, QN, QX, QM⟩
    refine steps_cons ?_ ?_
    · rintro b a w' ⟨ha, QB0, QB, QS, QN, QX, QM⟩ hb_ hon hoff
      refine ⟨_, rfl, fun K hK => ?_⟩
      have h4 := hoff 4 (by kernel_rfl)
      have e1 : a.tmps[3]? = some (.pointer (some ⟨gx, 0, none⟩)) := by rw [ha]; exact (putSel_off rfl).trans rfl
      replace ha := Aside0.mk ha
      have hx0_ : w'.cell? ⟨gx, 0, none⟩ = some (.string x.f0) := (blk_cell QX 0).trans rfl
      have hx1_ : w'.cell? ⟨gx, 1, none⟩ = some (.string x.f1) := (blk_cell QX 1).trans rfl
      have hx2_ : w'.cell? ⟨gx, 2, none⟩ = some (.int .i64 x.f2) := (blk_cell QX 2).trans rfl
      refine value_ (w1 := w') (v := .agg #[.string x.f0, .string x.f1, .int .i64 x.f2]) (by rfl) rfl ?_ ?_
      · go_simp
        try rfl
      exact hK.out _ _ ⟨(by rw [ha.out]; exact putSel_upk 2 hb_ rfl rfl rfl), QB0, fun _ => QB h4, QS, QN, QX, QM⟩
    refine steps_cons ?_ ?_
    · rintro b a w' ⟨ha, QB0, QB, QS, QN, QX, QM⟩ hb_ hon hoff
      refine ⟨_, rfl, fun K hK => ?_⟩
      have h4 := hoff 4 (by kernel_rfl)
      have e7 : a.tmps[12]? = some (.func (.func g) #[] lb) := by rw [ha]; exact putSel_on (e := (1, 12, .func (.func g) #[] lb)) 1 rfl rfl (hon 1 (by kernel_rfl)) rfl
      have e8 : a.tmps[13]? = some (.agg #[.string x.f0, .string x.f1, .int .i64 x.f2]) := by rw [ha]; exact putSel_on (e := (2, 13, .agg #[.string x.f0, .string x.f1, .int .i64 x.f2])) 2 rfl rfl (hon 2 (by kernel_rfl)) rfl
      replace ha := Aside0.mk ha
      refine call_ g (#[.agg #[.string x.f0, .string x.f1, .int .i64 x.f2]] ++ lb) (by rfl) rfl (valcall_ rfl (by simp [Act.eval, e7]) (by simp [Act.eval, e8]) (EG.out _ _)) ?_
      refine (HQ.out w' QB0 (.inr trivial) (HKx.out w' (QB h4))).mono ?_
      rintro e w5 ⟨rfl, hb⟩
      exact ⟨_, rfl, hK.out _ _ ⟨(by rw [ha.out]; exact putSel_upk 3 hb_ rfl rfl rfl), below_step QB0 hb, fun _ => below_step (QB h4) hb, blk_below QS hb, blk_below QN hb, blk_below QX hb, blk_below QM hb⟩⟩
    refine steps_cons ?_ ?_
    · rintro b a w' ⟨ha, QB0, QB, QS, QN, QX, QM⟩ hb_ hon hoff
      refine ⟨_, rfl, fun K hK => ?_⟩
      have e6 : a.tmps[11]? = some (.map (some gm)) := by rw [ha]; exact putSel_on (e := (0, 11, .map (some gm))) 0 rfl rfl (hon 0 (by kernel_rfl)) rfl
      have e9 : a.tmps[14]? = some (.string nm) := by rw [ha]; exact putSel_on (e := (3, 14, .string nm)) 3 rfl rfl (hon 3 (by kernel_rfl)) rfl
      replace ha := Aside0.mk ha
      rw [hb_, if_neg (by decide)] at QM
      refine mput_step (ve := Value.bool) (by rfl) rfl rfl Tryz.underlying87 (Sm.SM.key_str Tryz.underlying9) nm true (by simp [Act.eval, e6]) (by simp [Act.eval, e9]) (by simp [Act.eval]) QM ?_
      intro w5 hm5 hg5
      exact hK.out _ _ ⟨(by rw [ha.out]; exact putSel_none rfl), Sm.below_map QB0 hg5 QB0.size hgm, fun h_ => absurd h_ (by simp [up]), blk_grown QS hg5 (neM QS QM), blk_grown QN hg5 (neM QN QM), blk_grown QX hg5 (neM QX QM), by simpa [up] using hm5⟩
    exact steps_nil
  rintro b a w5 hall ⟨ha, QB0, QB, QS, QN, QX, QM⟩
  clear n0 n1 n2 n3 n4 hHeld HT_ HW_
  have hb0_ := hall 0 (by kernel_rfl)
  have hb1_ := hall 1 (by kernel_rfl)
  have hb2_ := hall 2 (by kernel_rfl)
  have hb3_ := hall 3 (by kernel_rfl)
  have hb4_ := hall 4 (by kernel_rfl)
  rw [hb4_, if_pos rfl] at QM
  subst ha
  simp only [putSel, hb0_, hb1_, hb2_, hb3_, if_true, Act.put, List.setIfInBounds_toArray, List.set_cons_zero, List.set_cons_succ]
  have R0 := Aside0.mk QB0
  have R1 := Aside0.mk QS
  have R2 := Aside0.mk QN
  have R3 := Aside0.mk QM
  clear hall hb0_ hb1_ hb2_ hb3_ hb4_ QB0 QB QS QN QX QM
  try go_wp2
  go_ret
  exact ⟨rfl, R0.out, R1.out, R2.out, R3.out⟩

set_option maxHeartbeats 8000000 in
set_option maxRecDepth 100000 in
theorem twJ_1 (gs gn gm : Nat) (Vn : Value) (p : S38 → Option ByteArray) (x : S38) (nm : ByteArray) (m : Sm.SM ByteArray Bool) (w0 w : World) (cs : List Value) (hB : Below w0.heap.size w0 w) (hgm : w0.heap.size ≤ gm)
    (hs : w.heap[gs]? = some (.cells #[.map (some gm)] 87 (0, 0))) (hn : w.heap[gn]? = some (.cells #[Vn] 94 (0, 0))) (hm : w.heap[gm]? = some (Sm.SM.obj Value.string Value.bool m))
    (hf : FnE Tryz.prog k38 vAgg Value.string Vn p w0) (hp : p x = some nm) (hk : k38.K w x cs) :
    Calls Tryz.prog 152 (#[vAgg cs] ++ #[.pointer (some ⟨gs, 0, none⟩), .pointer (some ⟨gn, 0, none⟩)]) w fun e w' => e = .returned (.bool (m.at_ nm false)) ∧ Below w0.heap.size w0 w' ∧
      w'.heap[gs]? = some (.cells #[.map (some gm)] 87 (0, 0)) ∧ w'.heap[gn]? = some (.cells #[Vn] 94 (0, 0)) ∧ w'.heap[gm]? = some (Sm.SM.obj Value.string Value.bool (m.put nm true)) := by
  obtain ⟨Z1, z1, rfl, zl1, zg1⟩ := k38_open hk
  obtain ⟨g, lb, rfl, eg, hq⟩ := hf
  have HQ : Aside0 (∀ W2, Below w0.heap.size w0 W2 → Below w.heap.size w W2 ∨ True → k38.K W2 x [.string x.f0, .slice Z1 x.f1.length z1, .int .i64 x.f2, .int .i64 x.f3, .int .i64 x.f4] → Calls Tryz.prog g (#[.agg #[.string x.f0, .slice Z1 x.f1.length z1, .int .i64 x.f2, .int .i64 x.f3, .int .i64 x.f4]] ++ lb) W2 fun e w' => e = .returned (.string nm) ∧ Below W2.heap.size W2 w') := ⟨fun W2 h2 _ h3 => hq W2 x _ nm h2 h3 hp⟩
  have HKx : Aside0 (∀ W2, Below w.heap.size w W2 → k38.K W2 x [.string x.f0, .slice Z1 x.f1.length z1, .int .i64 x.f2, .int .i64 x.f3, .int .i64 x.f4]) := ⟨fun W2 hW2 => k38_mk W2 x zl1 (Kd.C_below zg1 hW2)⟩
  have HB := Aside0.mk hB
  have HS := Aside0.mk hs
  have HN := Aside0.mk hn
  have HM := Aside0.mk hm
  have EG := Aside0.mk eg
  clear hB hs hn hm hq hp hk eg zl1 zg1
  show Calls _ _ #[.agg #[.string x.f0, .slice Z1 x.f1.length z1, .int .i64 x.f2, .int .i64 x.f3, .int .i64 x.f4], .pointer (some ⟨gs, 0, none⟩), .pointer (some ⟨gn, 0, none⟩)] w _
  go_enter Tryz.func152, Tryz.ntmps152
  go_wp2_with ((with_reducible refine gate_dst (N := 3) rfl ?_); refine box_event ?hg (N := 3) ?hd (cs := #[.string x.f0, .slice Z1 x.f1.length z1, .int .i64 x.f2, .int .i64 x.f3, .int .i64 x.f4]) (t := 38) ?hr ?_; (case hd => rfl); (case hg => rfl); (case hr => first | (go_simp; done) | (go_simp; rfl)); intro gx hg w1 hbox hb; have HBx := Aside0.mk hb; have HX := Aside0.mk hbox; clear hb hbox hg)
  have n0 : Aside0 (Below w.heap.size w w1.drew) := ⟨below_drew1 HBx.out⟩
  have n1 := Aside0.mk (blk_drew (blk_below HS.out HBx.out))
  have n2 := Aside0.mk (blk_drew (blk_below HN.out HBx.out))
  have n3 := Aside0.mk (blk_drew HX.out)
  have n4 := Aside0.mk (blk_drew (blk_below HM.out HBx.out))
  refine start_ (n := 6) (S := fun w' => True) (ds := []) #[false, false, false, false, false, false] (by kernel_rfl) rfl rfl trivial (fun hHeld => ?_); refine with_tabW twT1J twW1 (fun HT_ HW_ => ?_)
  generalize w1.drew = w2 at n0 n1 n2 n3 n4 hHeld ⊢
  clear HS HN HM HBx HX
  refine inv_at [0, 1, 2, 3, 4, 5] (fun a0_ b a w' => a = putSel a0_ b [(0, 6, .map (some gm)), (1, 7, .func (.func g) #[] lb), (2, 8, .agg #[.string x.f0, .slice Z1 x.f1.length z1, .int .i64 x.f2, .int .i64 x.f3, .int .i64 x.f4]), (3, 9, .string nm), (4, 10, .bool (m.at_ nm false)), (5, 5, .bool (m.at_ nm false))] ∧ Below w.heap.size w w' ∧ (w'.heap[gs]? = some (.cells #[.map (some gm)] 87 (0, 0))) ∧ (w'.heap[gn]? = some (.cells #[.func (.func g) #[] lb] 94 (0, 0))) ∧ (w'.heap[gx]? = some (.cells #[.string x.f0, .slice Z1 x.f1.length z1, .int .i64 x.f2, .int .i64 x.f3, .int .i64 x.f4] 38 (0, 0))) ∧ (w'.heap[gm]? = some (Sm.SM.obj Value.string Value.bool m))) HT_.out HW_.out (by kernel_rfl) (by kernel_rfl) ?_ ?_ ?_
  · exact ⟨by simp only [putSel, Bool.false_eq_true, if_false], n0.out, n1.out, n2.out, n3.out, n4.out⟩
  · clear n0 n1 n2 n3 n4 hHeld
    refine steps_cons ?_ ?_
    · rintro b a w' ⟨ha, QB, QS, QN, QX, QM⟩ hb_ hon hoff
      refine ⟨_, rfl, fun K hK => ?_⟩
      have e1 : a.tmps[1]? = some (.pointer (some ⟨gs, 0, none⟩)) := by rw [ha]; exact (putSel_off rfl).trans rfl
      replace ha := Aside0.mk ha
      have hc0_ : w'.cell? ⟨gs, 0, none⟩ = some (.map (some gm)) := (blk_cell QS 0).trans rfl
      refine value_ (w1 := w') (v := .map (some gm)) (by rfl) rfl ?_ ?_
      · go_simp
        try rfl
      exact hK.out _ _ ⟨(by rw [ha.out]; exact putSel_upk 0 hb_ rfl rfl rfl), QB, QS, QN, QX, QM⟩
    refine steps_cons ?_ ?_
    · rintro b a w' ⟨ha, QB, QS, QN, QX, QM⟩ hb_ hon hoff
      refine ⟨_, rfl, fun K hK => ?_⟩
      have e1 : a.tmps[2]? = some (.pointer (some ⟨gn, 0, none⟩)) := by rw [ha]; exact (putSel_off rfl).trans rfl
      replace ha := Aside0.mk ha
      have hc0_ : w'.cell? ⟨gn, 0, none⟩ = some (.func (.func g) #[] lb) := (blk_cell QN 0).trans rfl
      refine value_ (w1 := w') (v := .func (.func g) #[] lb) (by rfl) rfl ?_ ?_
      · go_simp
        try rfl
      exact hK.out _ _ ⟨(by rw [ha.out]; exact putSel_upk 1 hb_ rfl rfl rfl), QB, QS, QN, QX, QM⟩
    refine steps_cons ?_ ?_
    · rintro b a w' ⟨ha, QB, QS, QN, QX, QM⟩ hb_ hon hoff
      refine ⟨_, rfl, fun K hK => ?_⟩
      have e1 : a.tmps[3]? = some (.pointer (some ⟨gx, 0, none⟩)) := by rw [ha]; exact (putSel_off rfl).trans rfl
      replace ha := Aside0.mk ha
      have hx0_ : w'.cell? ⟨gx, 0, none⟩ = some (.string x.f0) := (blk_cell QX 0).trans rfl
      have hx1_ : w'.cell? ⟨gx, 1, none⟩ = some (.slice Z1 x.f1.length z1) := (blk_cell QX 1).trans rfl
      have hx2_ : w'.cell? ⟨gx, 2, none⟩ = some (.int .i64 x.f2) := (blk_cell QX 2).trans rfl
      have hx3_ : w'.cell? ⟨gx, 3, none⟩ = some (.int .i64 x.f3) := (blk_cell QX 3).trans rfl
      have hx4_ : w'.cell? ⟨gx, 4, none⟩ = some (.int .i64 x.f4) := (blk_cell QX 4).trans rfl
      refine value_ (w1 := w') (v := .agg #[.string x.f0, .slice Z1 x.f1.length z1, .int .i64 x.f2, .int .i64 x.f3, .int .i64 x.f4]) (by rfl) rfl ?_ ?_
      · go_simp
        try rfl
      exact hK.out _ _ ⟨(by rw [ha.out]; exact putSel_upk 2 hb_ rfl rfl rfl), QB, QS, QN, QX, QM⟩
    refine steps_cons ?_ ?_
    · rintro b a w' ⟨ha, QB, QS, QN, QX, QM⟩ hb_ hon hoff
      refine ⟨_, rfl, fun K hK => ?_⟩
      have e7 : a.tmps[7]? = some (.func (.func g) #[] lb) := by rw [ha]; exact putSel_on (e := (1, 7, .func (.func g) #[] lb)) 1 rfl rfl (hon 1 (by kernel_rfl)) rfl
      have e8 : a.tmps[8]? = some (.agg #[.string x.f0, .slice Z1 x.f1.length z1, .int .i64 x.f2, .int .i64 x.f3, .int .i64 x.f4]) := by rw [ha]; exact putSel_on (e := (2, 8, .agg #[.string x.f0, .slice Z1 x.f1.length z1, .int .i64 x.f2, .int .i64 x.f3, .int .i64 x.f4])) 2 rfl rfl (hon 2 (by kernel_rfl)) rfl
      replace ha := Aside0.mk ha
      refine call_ g (#[.agg #[.string x.f0, .slice Z1 x.f1.length z1, .int .i64 x.f2, .int .i64 x.f3, .int .i64 x.f4]] ++ lb) (by rfl) rfl (valcall_ rfl (by simp [Act.eval, e7]) (by simp [Act.eval, e8]) (EG.out _ _)) ?_
      refine (HQ.out w' (below_step HB.out QB) (.inr trivial) (HKx.out w' QB)).mono ?_
      rintro e w3 ⟨rfl, hb⟩
      exact ⟨_, rfl, hK.out _ _ ⟨(by rw [ha.out]; exact putSel_upk 3 hb_ rfl rfl rfl), below_step QB hb, blk_below QS hb, blk_below QN hb, blk_below QX hb, blk_below QM hb⟩⟩
    refine steps_cons ?_ ?_
    · rintro b a w' ⟨ha, QB, QS, QN, QX, QM⟩ hb_ hon hoff
      refine ⟨_, rfl, fun K hK => ?_⟩
      have e6 : a.tmps[6]? = some (.map (some gm)) := by rw [ha]; exact putSel_on (e := (0, 6, .map (some gm))) 0 rfl rfl (hon 0 (by kernel_rfl)) rfl
      have e9 : a.tmps[9]? = some (.string nm) := by rw [ha]; exact putSel_on (e := (3, 9, .string nm)) 3 rfl rfl (hon 3 (by kernel_rfl)) rfl
      replace ha := Aside0.mk ha
      refine value_ (w1 := w') (v := .bool (m.at_ nm false)) (by rfl) rfl (look_run (ve := Value.bool) (z := false) _ _ rfl Tryz.underlying87 (Sm.SM.key_str Tryz.underlying9) (fun w_ => Sm.zero_run (by kernel_rfl) w_) nm (by simp [Act.eval, e6]) (by simp [Act.eval, e9]) QM) ?_
      exact hK.out _ _ ⟨(by rw [ha.out]; exact putSel_upk 4 hb_ rfl rfl rfl), QB, QS, QN, QX, QM⟩
    refine steps_cons ?_ ?_
    · rintro b a w' ⟨ha, QB, QS, QN, QX, QM⟩ hb_ hon hoff
      refine ⟨_, rfl, fun K hK => ?_⟩
      have e10 : a.tmps[10]? = some (.bool (m.at_ nm false)) := by rw [ha]; exact putSel_on (e := (4, 10, .bool (m.at_ nm false))) 4 rfl rfl (hon 4 (by kernel_rfl)) rfl
      replace ha := Aside0.mk ha
      refine value_ (w1 := w') (v := .bool (m.at_ nm false)) (by rfl) rfl ?_ ?_
      · go_simp
        try rfl
      exact hK.out _ _ ⟨(by rw [ha.out]; exact putSel_upk 5 hb_ rfl rfl rfl), QB, QS, QN, QX, QM⟩
    exact steps_nil
  rintro b a w3 hall ⟨ha, QB, QS, QN, QX, QM⟩
  clear n0 n1 n2 n3 n4 hHeld HT_ HW_
  have hb0_ := hall 0 (by kernel_rfl)
  have hb1_ := hall 1 (by kernel_rfl)
  have hb2_ := hall 2 (by kernel_rfl)
  have hb3_ := hall 3 (by kernel_rfl)
  have hb4_ := hall 4 (by kernel_rfl)
  have hb5_ := hall 5 (by kernel_rfl)
  subst ha
  simp only [putSel, hb0_, hb1_, hb2_, hb3_, hb4_, hb5_, if_true, Act.put, List.setIfInBounds_toArray, List.set_cons_zero, List.set_cons_succ]
  clear hall hb0_ hb1_ hb2_ hb3_ hb4_ hb5_
  have n0 : Aside0 (Below w.heap.size w w3.drew) := ⟨below_drew1 QB⟩
  have n1 := Aside0.mk (blk_drew QS)
  have n2 := Aside0.mk (blk_drew QN)
  have n3 := Aside0.mk (blk_drew QX)
  have n4 := Aside0.mk (blk_drew QM)
  clear QB QS QN QX QM
  try go_wp2
  refine start_ (n := 5) (S := fun w' => True) (ds := []) #[false, false, false, false, false] (by kernel_rfl) rfl rfl trivial (fun hHeld => ?_); refine with_tabW twT2J twW2 (fun HT_ HW_ => ?_)
  generalize w3.drew = w4 at n0 n1 n2 n3 n4 hHeld ⊢
  refine inv_at [0, 1, 2, 3, 4] (fun a0_ b a w' => a = putSel a0_ b [(0, 11, .map (some gm)), (1, 12, .func (.func g) #[] lb), (2, 13, .agg #[.string x.f0, .slice Z1 x.f1.length z1, .int .i64 x.f2, .int .i64 x.f3, .int .i64 x.f4]), (3, 14, .string nm)] ∧ Below w0.heap.size w0 w' ∧ (b 4 = false → Below w.heap.size w w') ∧ (w'.heap[gs]? = some (.cells #[.map (some gm)] 87 (0, 0))) ∧ (w'.heap[gn]? = some (.cells #[.func (.func g) #[] lb] 94 (0, 0))) ∧ (w'.heap[gx]? = some (.cells #[.string x.f0, .slice Z1 x.f1.length z1, .int .i64 x.f2, .int .i64 x.f3, .int .i64 x.f4] 38 (0, 0))) ∧ (w'.heap[gm]? = some (Sm.SM.obj Value.string Value.bool (if b 4 = true then m.put nm true else m)))) HT_.out HW_.out (by kernel_rfl) (by kernel_rfl) ?_ ?_ ?_
  · exact ⟨by simp only [putSel, Bool.false_eq_true, if_false], below_step HB.out n0.out, fun _ => n0.out, n1.out, n2.out, n3.out, n4.out⟩
  · clear n0 n1 n2 n3 n4 hHeld
    refine steps_cons ?_ ?_
    · rintro b a w' ⟨ha, QB0, QB, QS, QN, QX, QM⟩ hb_ hon hoff
      refine ⟨_, rfl, fun K hK => ?_⟩
      have h4 := hoff 4 (by kernel_rfl)
      have e1 : a.tmps[1]? = some (.pointer (some ⟨gs, 0, none⟩)) := by rw [ha]; exact (putSel_off rfl).trans rfl
      replace ha := Aside0.mk ha
      have hc0_ : w'.cell? ⟨gs, 0, none⟩ = some (.map (some gm)) := (blk_cell QS 0).trans rfl
      refine value_ (w1 := w') (v := .map (some gm)) (by rfl) rfl ?_ ?_
      · go_simp
        try rfl
      exact hK.out _ _ ⟨(by rw [ha.out]; exact putSel_upk 0 hb_ rfl rfl rfl), QB0, fun _ => QB h4, QS, QN, QX, QM⟩
    refine steps_cons ?_ ?_
    · rintro b a w' ⟨ha, QB0, QB, QS, QN, QX, QM⟩ hb_ hon hoff
      refine ⟨_, rfl, fun K hK => ?_⟩
      have h4 := hoff 4 (by kernel_rfl)
      have e1 : a.tmps[2]? = some (.pointer (some ⟨gn, 0, none⟩)) := by rw [ha]; exact (putSel_off rfl).trans rfl
      replace ha := Aside0.mk ha
      have hc0_ : w'.cell? ⟨gn, 0, none⟩ = some (.func (.func g) #[] lb) := (blk_cell QN 0).trans rfl
      refine value_ (w1 := w') (v := .func (.func g) #[] lb) (by rfl) rfl ?_ ?_
      · go_simp
        try rfl
      exact hK.out _ _ ⟨(by rw [ha.out]; exact putSel_upk 1 hb_ rfl rfl rfl), QB0, fun _ => QB h4, QS, QN, QX, QM⟩
    refine steps_cons ?_ ?_
    · rintro b a w' ⟨ha, QB0, QB, QS, QN, QX, QM⟩ hb_ hon hoff
      refine ⟨_, rfl, fun K hK => ?_⟩
      have h4 := hoff 4 (by kernel_rfl)
      have e1 : a.tmps[3]? = some (.pointer (some ⟨gx, 0, none⟩)) := by rw [ha]; exact (putSel_off rfl).trans rfl
      replace ha := Aside0.mk ha
      have hx0_ : w'.cell? ⟨gx, 0, none⟩ = some (.string x.f0) := (blk_cell QX 0).trans rfl
      have hx1_ : w'.cell? ⟨gx, 1, none⟩ = some (.slice Z1 x.f1.length z1) := (blk_cell QX 1).trans rfl
      have hx2_ : w'.cell? ⟨gx, 2, none⟩ = some (.int .i64 x.f2) := (blk_cell QX 2).trans rfl
      have hx3_ : w'.cell? ⟨gx, 3, none⟩ = some (.int .i64 x.f3) := (blk_cell QX 3).trans rfl
      have hx4_ : w'.cell? ⟨gx, 4, none⟩ = some (.int .i64 x.f4) := (blk_cell QX 4).trans rfl
      refine value_ (w1 := w') (v := .agg #[.string x.f0, .slice Z1 x.f1.length z1, .int .i64 x.f2, .int .i64 x.f3, .int .i64 x.f4]) (by rfl) rfl ?_ ?_
      · go_simp
        try rfl
      exact hK.out _ _ ⟨(by rw [ha.out]; exact putSel_upk 2 hb_ rfl rfl rfl), QB0, fun _ => QB h4, QS, QN, QX, QM⟩
    refine steps_cons ?_ ?_
    · rintro b a w' ⟨ha, QB0, QB, QS, QN, QX, QM⟩ hb_ hon hoff
      refine ⟨_, rfl, fun K hK => ?_⟩
      have h4 := hoff 4 (by kernel_rfl)
      have e7 : a.tmps[12]? = some (.func (.func g) #[] lb) := by rw [ha]; exact putSel_on (e := (1, 12, .func (.func g) #[] lb)) 1 rfl rfl (hon 1 (by kernel_rfl)) rfl
      have e8 : a.tmps[13]? = some (.agg #[.string x.f0, .slice Z1 x.f1.length z1, .int .i64 x.f2, .int .i64 x.f3, .int .i64 x.f4]) := by rw [ha]; exact putSel_on (e := (2, 13, .agg #[.string x.f0, .slice Z1 x.f1.length z1, .int .i64 x.f2, .int .i64 x.f3, .int .i64 x.f4])) 2 rfl rfl (hon 2 (by kernel_rfl)) rfl
      replace ha := Aside0.mk ha
      refine call_ g (#[.agg #[.string x.f0, .slice Z1 x.f1.length z1, .int .i64 x.f2, .int .i64 x.f3, .int .i64 x.f4]] ++ lb) (by rfl) rfl (valcall_ rfl (by simp [Act.eval, e7]) (by simp [Act.eval, e8]) (EG.out _ _)) ?_
      refine (HQ.out w' QB0 (.inr trivial) (HKx.out w' (QB h4))).mono ?_
      rintro e w5 ⟨rfl, hb⟩
      exact ⟨_, rfl, hK.out _ _ ⟨(by rw [ha.out]; exact putSel_upk 3 hb_ rfl rfl rfl), below_step QB0 hb, fun _ => below_step (QB h4) hb, blk_below QS hb, blk_below QN hb, blk_below QX hb, blk_below QM hb⟩⟩
    refine steps_cons ?_ ?_
    · rintro b a w' ⟨ha, QB0, QB, QS, QN, QX, QM⟩ hb_ hon hoff
      refine ⟨_, rfl, fun K hK => ?_⟩
      have e6 : a.tmps[11]? = some (.map (some gm)) := by rw [ha]; exact putSel_on (e := (0, 11, .map (some gm))) 0 rfl rfl (hon 0 (by kernel_rfl)) rfl
      have e9 : a.tmps[14]? = some (.string nm) := by rw [ha]; exact putSel_on (e := (3, 14, .string nm)) 3 rfl rfl (hon 3 (by kernel_rfl)) rfl
      replace ha := Aside0.mk ha
      rw [hb_, if_neg (by decide)] at QM
      refine mput_step (ve := Value.bool) (by rfl) rfl rfl Tryz.underlying87 (Sm.SM.key_str Tryz.underlying9) nm true (by simp [Act.eval, e6]) (by simp [Act.eval, e9]) (by simp [Act.eval]) QM ?_
      intro w5 hm5 hg5
      exact hK.out _ _ ⟨(by rw [ha.out]; exact putSel_none rfl), Sm.below_map QB0 hg5 QB0.size hgm, fun h_ => absurd h_ (by simp [up]), blk_grown QS hg5 (neM QS QM), blk_grown QN hg5 (neM QN QM), blk_grown QX hg5 (neM QX QM), by simpa [up] using hm5⟩
    exact steps_nil
  rintro b a w5 hall ⟨ha, QB0, QB, QS, QN, QX, QM⟩
  clear n0 n1 n2 n3 n4 hHeld HT_ HW_
  have hb0_ := hall 0 (by kernel_rfl)
  have hb1_ := hall 1 (by kernel_rfl)
  have hb2_ := hall 2 (by kernel_rfl)
  have hb3_ := hall 3 (by kernel_rfl)
  have hb4_ := hall 4 (by kernel_rfl)
  rw [hb4_, if_pos rfl] at QM
  subst ha
  simp only [putSel, hb0_, hb1_, hb2_, hb3_, if_true, Act.put, List.setIfInBounds_toArray, List.set_cons_zero, List.set_cons_succ]
  have R0 := Aside0.mk QB0
  have R1 := Aside0.mk QS
  have R2 := Aside0.mk QN
  have R3 := Aside0.mk QM
  clear hall hb0_ hb1_ hb2_ hb3_ hb4_ QB0 QB QS QN QX QM
  try go_wp2
  go_ret
  exact ⟨rfl, R0.out, R1.out, R2.out, R3.out⟩

def mkM (nm : S42 → ByteArray) (l : List S42) : Sm.SM ByteArray Bool := l.foldl (fun m x => m.put (nm x) true) Sm.SM.new
def dupM (nm : S42 → ByteArray) (l : List S42) (i : Nat) : Bool := (mkM nm (l.take i)).at_ (nm (l.getD i z42)) false

def mkJ (nm : S38 → ByteArray) (l : List S38) : Sm.SM ByteArray Bool := l.foldl (fun m x => m.put (nm x) true) Sm.SM.new
def dupJ (nm : S38 → ByteArray) (l : List S38) (i : Nat) : Bool := (mkJ nm (l.take i)).at_ (nm (l.getD i z38)) false

theorem roundsM (gs gn gm : Nat) (Vn : Value) (p : S42 → Option ByteArray) (nm : S42 → ByteArray) (w0 : World) (l0 : List S42) (hgm : w0.heap.size ≤ gm) (hf : FnE Tryz.prog k42 vAgg Value.string Vn p w0) (hp : ∀ x ∈ l0, p x = some (nm x)) :
    RoundsM 151 #[.pointer (some ⟨gs, 0, none⟩), .pointer (some ⟨gn, 0, none⟩)] (fun kk W => W.heap[gs]? = some (.cells #[.map (some gm)] 87 (0, 0)) ∧ W.heap[gn]? = some (.cells #[Vn] 92 (0, 0)) ∧ W.heap[gm]? = some (Sm.SM.obj Value.string Value.bool (mkM nm (l0.take kk)))) (dupM nm l0) w0 l0 := by
  intro kk h W cs hB hI hK
  have hx := hp _ (List.getElem_mem h)
  refine (twM_1 gs gn gm Vn p l0[kk] (nm l0[kk]) (mkM nm (l0.take kk)) w0 W cs hB hgm hI.1 hI.2.1 hI.2.2 hf hx hK).mono ?_
  rintro e w' ⟨rfl, h1, h2, h3, h4⟩
  refine ⟨?_, h1, h2, h3, ?_⟩
  · unfold dupM
    rw [List.getD_eq_getElem?_getD, List.getElem?_eq_getElem h]; rfl
  · rw [h4]
    congr 2
    unfold mkM
    rw [List.take_succ_eq_append_getElem h, List.foldl_append]; rfl

theorem roundsJ (gs gn gm : Nat) (Vn : Value) (p : S38 → Option ByteArray) (nm : S38 → ByteArray) (w0 : World) (l0 : List S38) (hgm : w0.heap.size ≤ gm) (hf : FnE Tryz.prog k38 vAgg Value.string Vn p w0) (hp : ∀ x ∈ l0, p x = some (nm x)) :
    RoundsJ 152 #[.pointer (some ⟨gs, 0, none⟩), .pointer (some ⟨gn, 0, none⟩)] (fun kk W => W.heap[gs]? = some (.cells #[.map (some gm)] 87 (0, 0)) ∧ W.heap[gn]? = some (.cells #[Vn] 94 (0, 0)) ∧ W.heap[gm]? = some (Sm.SM.obj Value.string Value.bool (mkJ nm (l0.take kk)))) (dupJ nm l0) w0 l0 := by
  intro kk h W cs hB hI hK
  have hx := hp _ (List.getElem_mem h)
  refine (twJ_1 gs gn gm Vn p l0[kk] (nm l0[kk]) (mkJ nm (l0.take kk)) w0 W cs hB hgm hI.1 hI.2.1 hI.2.2 hf hx hK).mono ?_
  rintro e w' ⟨rfl, h1, h2, h3, h4⟩
  refine ⟨?_, h1, h2, h3, ?_⟩
  · unfold dupJ
    rw [List.getD_eq_getElem?_getD, List.getElem?_eq_getElem h]; rfl
  · rw [h4]
    congr 2
    unfold mkJ
    rw [List.take_succ_eq_append_getElem h, List.foldl_append]; rfl
set_option maxHeartbeats 4000000 in
theorem twM (A0 : Option Addr) (c0 : Nat) (l0 : List S42) (Vn : Value) (p : S42 → Option ByteArray) (nm : S42 → ByteArray) (w : World) (hr0 : Kd.C k42 w A0 l0.length l0) (hc0 : l0.length ≤ c0) (hf : FnE Tryz.prog k42 vAgg Value.string Vn p w) (hp : ∀ x ∈ l0, p x = some (nm x)) :
    Calls Tryz.prog 77 #[.slice A0 l0.length c0, Vn] w fun e w' => e = .returned (.bool ((List.range l0.length).any (dupM nm l0))) ∧ Below w.heap.size w w' := by
  have HF := Aside0.mk hf
  have HP := Aside0.mk hp
  have HR := Aside0.mk hr0
  have HC := Aside0.mk hc0
  have HB := Aside0.mk (Below.refl w.heap.size w)
  obtain ⟨g, lb, rfl, eg, hq⟩ := hf
  clear hr0 hc0 hq hp eg
  go_enter Tryz.func77, Tryz.ntmps77
  go_wp2_with (first | ((with_reducible refine gate_dst (N := 3) rfl ?_); refine box_event ?hg (N := 3) ?hd (cs := #[.func (.func g) #[] lb]) (t := 92) ?hr ?_; (case hd => rfl); (case hg => rfl); (case hr => first | (go_simp; done) | (go_simp; rfl)); intro gn hg w1 hbox hb; have B1 := Aside0.mk hb; have N1 := Aside0.mk hbox; clear hb hbox hg) | ((with_reducible refine gate_dst (N := 6) rfl ?_); refine Sm.newmap_event (κ := ByteArray) (β := Bool) (ke := Value.string) (ve := Value.bool) ?hg (N := 6) ?hd (t := 87) ?ho ?_; (case hg => rfl); (case hd => rfl); (case ho => rfl); intro gm hg w2 hbox hb; have B2 := Aside0.mk (below_step B1.out hb); have N2 := Aside0.mk (blk_below N1.out hb); have M2 := Aside0.mk hbox; have GM := Aside0.mk (show w.heap.size ≤ gm from hg ▸ B1.out.size); clear hb hbox hg) | ((with_reducible refine gate_dst (N := 5) rfl ?_); refine box_event ?hg (N := 5) ?hd (cs := #[.map none]) (t := 87) ?hr ?_; (case hd => rfl); (case hg => rfl); (case hr => first | (go_simp; done) | (go_simp; rfl)); intro gs hg w3 hbox hb; have B3 := Aside0.mk (below_step B2.out hb); have N3 := Aside0.mk (blk_below N2.out hb); have M3 := Aside0.mk (blk_below M2.out hb); have S3 := Aside0.mk hbox; have GS := Aside0.mk (show w.heap.size ≤ gs from hg ▸ B2.out.size); have NE := Aside0.mk (show gn ≠ gs from fun h_ => by have := blk_lt N2.out; omega); have NEM := Aside0.mk (show gm ≠ gs from fun h_ => by have := blk_lt M2.out; omega); have hc0 := (blk_cell S3.out 0).trans rfl; have hf0 := blk_frozen S3.out 0; clear hb hbox hg) | ((with_reducible refine gate_store (t := 87) (p := 5) rfl ?_); refine store_event (t := 87) (p := 5) (v := ?vo_) (w1 := w3.setCell ⟨gs, 0, none⟩ (.map (some gm))) ?hg ?ho ?hn ?hr ?_; (case ho => rfl); (case hg => rfl); (case hn => rfl); (case hr => first | (go_simp; done) | (go_simp; rfl)); intro w4 hw; have B4 : Aside0 (Below w.heap.size w w4) := ⟨by rw [hw]; exact below_set B3.out GS.out⟩; have S4 : Aside0 (w4.heap[gs]? = some (.cells #[.map (some gm)] 87 (0, 0))) := ⟨by rw [hw]; exact blk_put S3.out 0 _ rfl⟩; have N4 : Aside0 (w4.heap[gn]? = some (.cells #[.func (.func g) #[] lb] 92 (0, 0))) := ⟨by rw [hw]; exact blk_far N3.out NE.out _⟩; have M4 : Aside0 (w4.heap[gm]? = some (Sm.SM.obj Value.string Value.bool (Sm.SM.new : Sm.SM ByteArray Bool))) := ⟨by rw [hw]; exact Sm.blk_farM M3.out NEM.out _⟩; clear hw hc0 hf0) | (go_at_call 67; refine (someM A0 c0 l0 151 #[.pointer (some ⟨gs, 0, none⟩), .pointer (some ⟨gn, 0, none⟩)] (enters_of Tryz.func151 (by kernel_rfl) rfl) (fun kk W => W.heap[gs]? = some (.cells #[.map (some gm)] 87 (0, 0)) ∧ W.heap[gn]? = some (.cells #[.func (.func g) #[] lb] 92 (0, 0)) ∧ W.heap[gm]? = some (Sm.SM.obj Value.string Value.bool (mkM nm (l0.take kk)))) (dupM nm l0) w w4 B4.out HR.out HC.out ⟨S4.out, N4.out, M4.out⟩ ?hst).mono ?_; (case hst => exact roundsM gs gn gm _ p nm w l0 GM.out HF.out HP.out); rintro e w5 ⟨rfl, hb⟩; have B5 := Aside0.mk hb; clear hb))
  go_ret
  exact ⟨rfl, B5.out⟩
set_option maxHeartbeats 4000000 in
theorem twJ (A0 : Option Addr) (c0 : Nat) (l0 : List S38) (Vn : Value) (p : S38 → Option ByteArray) (nm : S38 → ByteArray) (w : World) (hr0 : Kd.C k38 w A0 l0.length l0) (hc0 : l0.length ≤ c0) (hf : FnE Tryz.prog k38 vAgg Value.string Vn p w) (hp : ∀ x ∈ l0, p x = some (nm x)) :
    Calls Tryz.prog 79 #[.slice A0 l0.length c0, Vn] w fun e w' => e = .returned (.bool ((List.range l0.length).any (dupJ nm l0))) ∧ Below w.heap.size w w' := by
  have HF := Aside0.mk hf
  have HP := Aside0.mk hp
  have HR := Aside0.mk hr0
  have HC := Aside0.mk hc0
  have HB := Aside0.mk (Below.refl w.heap.size w)
  obtain ⟨g, lb, rfl, eg, hq⟩ := hf
  clear hr0 hc0 hq hp eg
  go_enter Tryz.func79, Tryz.ntmps79
  go_wp2_with (first | ((with_reducible refine gate_dst (N := 3) rfl ?_); refine box_event ?hg (N := 3) ?hd (cs := #[.func (.func g) #[] lb]) (t := 94) ?hr ?_; (case hd => rfl); (case hg => rfl); (case hr => first | (go_simp; done) | (go_simp; rfl)); intro gn hg w1 hbox hb; have B1 := Aside0.mk hb; have N1 := Aside0.mk hbox; clear hb hbox hg) | ((with_reducible refine gate_dst (N := 6) rfl ?_); refine Sm.newmap_event (κ := ByteArray) (β := Bool) (ke := Value.string) (ve := Value.bool) ?hg (N := 6) ?hd (t := 87) ?ho ?_; (case hg => rfl); (case hd => rfl); (case ho => rfl); intro gm hg w2 hbox hb; have B2 := Aside0.mk (below_step B1.out hb); have N2 := Aside0.mk (blk_below N1.out hb); have M2 := Aside0.mk hbox; have GM := Aside0.mk (show w.heap.size ≤ gm from hg ▸ B1.out.size); clear hb hbox hg) | ((with_reducible refine gate_dst (N := 5) rfl ?_); refine box_event ?hg (N := 5) ?hd (cs := #[.map none]) (t := 87) ?hr ?_; (case hd => rfl); (case hg => rfl); (case hr => first | (go_simp; done) | (go_simp; rfl)); intro gs hg w3 hbox hb; have B3 := Aside0.mk (below_step B2.out hb); have N3 := Aside0.mk (blk_below N2.out hb); have M3 := Aside0.mk (blk_below M2.out hb); have S3 := Aside0.mk hbox; have GS := Aside0.mk (show w.heap.size ≤ gs from hg ▸ B2.out.size); have NE := Aside0.mk (show gn ≠ gs from fun h_ => by have := blk_lt N2.out; omega); have NEM := Aside0.mk (show gm ≠ gs from fun h_ => by have := blk_lt M2.out; omega); have hc0 := (blk_cell S3.out 0).trans rfl; have hf0 := blk_frozen S3.out 0; clear hb hbox hg) | ((with_reducible refine gate_store (t := 87) (p := 5) rfl ?_); refine store_event (t := 87) (p := 5) (v := ?vo_) (w1 := w3.setCell ⟨gs, 0, none⟩ (.map (some gm))) ?hg ?ho ?hn ?hr ?_; (case ho => rfl); (case hg => rfl); (case hn => rfl); (case hr => first | (go_simp; done) | (go_simp; rfl)); intro w4 hw; have B4 : Aside0 (Below w.heap.size w w4) := ⟨by rw [hw]; exact below_set B3.out GS.out⟩; have S4 : Aside0 (w4.heap[gs]? = some (.cells #[.map (some gm)] 87 (0, 0))) := ⟨by rw [hw]; exact blk_put S3.out 0 _ rfl⟩; have N4 : Aside0 (w4.heap[gn]? = some (.cells #[.func (.func g) #[] lb] 94 (0, 0))) := ⟨by rw [hw]; exact blk_far N3.out NE.out _⟩; have M4 : Aside0 (w4.heap[gm]? = some (Sm.SM.obj Value.string Value.bool (Sm.SM.new : Sm.SM ByteArray Bool))) := ⟨by rw [hw]; exact Sm.blk_farM M3.out NEM.out _⟩; clear hw hc0 hf0) | (go_at_call 63; refine (someJ A0 c0 l0 152 #[.pointer (some ⟨gs, 0, none⟩), .pointer (some ⟨gn, 0, none⟩)] (enters_of Tryz.func152 (by kernel_rfl) rfl) (fun kk W => W.heap[gs]? = some (.cells #[.map (some gm)] 87 (0, 0)) ∧ W.heap[gn]? = some (.cells #[.func (.func g) #[] lb] 94 (0, 0)) ∧ W.heap[gm]? = some (Sm.SM.obj Value.string Value.bool (mkJ nm (l0.take kk)))) (dupJ nm l0) w w4 B4.out HR.out HC.out ⟨S4.out, N4.out, M4.out⟩ ?hst).mono ?_; (case hst => exact roundsJ gs gn gm _ p nm w l0 GM.out HF.out HP.out); rintro e w5 ⟨rfl, hb⟩; have B5 := Aside0.mk hb; clear hb))
  go_ret
  exact ⟨rfl, B5.out⟩
end Go.Proofs.YtkdbcaegeeeiaaaGreat.Twice
