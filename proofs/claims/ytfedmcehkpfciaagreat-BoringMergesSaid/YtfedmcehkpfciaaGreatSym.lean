/- What functions without slices return: the runner carries them out over symbols, path by path. -/
import Derived.Test.YtfedmcehkpfciaaGreatRunC
import Derived.Test.YtfedmcehkpfciaaGreatProg
import Derived.KernelRfl
import Derived.Test.YtfedmcehkpfciaaGreatM1
import Derived.Test.YtfedmcehkpfciaaGreatPx13
import Derived.Test.YtfedmcehkpfciaaGreatPx4
import Derived.Test.YtfedmcehkpfciaaGreatPx5
set_option linter.unusedVariables false
set_option linter.unusedSimpArgs false
namespace Go.Proofs.YtfedmcehkpfciaaGreat.Sym
open Go.RowKit Go.Proofs.YtfedmcehkpfciaaGreatW.PrintWords Go.Proofs.YtfedmcehkpfciaaGreatW.PrintMore Go.Proofs.YtfedmcehkpfciaaGreat.Run Go.Proofs.YtfedmcehkpfciaaGreat.RunC Go.Proofs.YtfedmcehkpfciaaGreat.P
theorem Cpin {α : Type} {d : Kd α} (flat : ∀ (w w' : World) x cs, d.K w x cs → d.K w' x cs) (hs : 0 < d.sz) {w : World} {A : Option Addr} {n : Nat} {xs : List α} (h : d.C w A n xs) : (∀ W : World, d.C W A n xs) ∨ ∃ ad o, A = some ad ∧ w.heap[ad.block]? = some o ∧ ∀ W : World, W.heap[ad.block]? = some o → d.C W A n xs := by
 obtain ⟨h1, h2, h3⟩ := h
 by_cases hn : 0 < n
 ·obtain ⟨ad, e, hc⟩ := h3 hn
  have hbk : ∀ j, (ad.add j).block = ad.block := fun j => by unfold Addr.add; split <;> rfl
  obtain ⟨p, hp⟩ : ∃ p, xs[0]? = some p := ⟨xs[0]'(by omega), List.getElem?_eq_getElem (by omega)⟩
  obtain ⟨c, c1, c2, c3⟩ := hc 0 p hp
  obtain ⟨u, hu⟩ : ∃ u, c[0]? = some u := ⟨c[0]'(by omega), List.getElem?_eq_getElem (by omega)⟩
  have h4 := c3 0 u hu
  have h5 : ∃ o, w.heap[ad.block]? = some o := by
   unfold World.cell? at h4
   rw [hbk] at h4
   cases ho : w.heap[ad.block]? with
   | none => rw [ho] at h4; cases h4
   | some o => exact ⟨o, rfl⟩
  obtain ⟨o, ho⟩ := h5
  refine .inr ⟨ad, o, e, ho, fun W hW => ⟨h1, h2, fun _ => ⟨ad, e, fun j p hj => ?_⟩⟩⟩
  obtain ⟨c, c1, c2, c3⟩ := hc j p hj
  refine ⟨c, c1, flat _ _ _ _ c2, fun i u hi => ?_⟩
  have := c3 i u hi
  unfold World.cell? at this ⊢
  rw [hbk] at this ⊢
  rw [hW, ← ho]
  exact this
 ·exact .inl fun W => ⟨h1, h2, fun h => absurd h hn⟩

def boring_formed.f (a0_0 : ByteArray) (a0_1 : Int) (a0_2 : Int) (l0_3 : List S48) : Option (Int) :=
 (boring_checks_1.f a0_0 a0_1 a0_2 l0_3).bind fun t1 => (if t1 = true then ((boring_checks_2.f a0_0 a0_1 a0_2 l0_3).bind fun t2 => (if t2 = true then ((boring_checks_3.f a0_0 a0_1 a0_2 l0_3).bind fun t3 => (if t3 = true then ((boring_formed_1.f a0_0 a0_1 a0_2 l0_3).bind fun t4 => (if t4 = true then ((boring_increasing.f (l0_3.length + 2) a0_0 a0_1 a0_2 l0_3).bind fun t5 => (if t5 = true then (some 0) else (some 11))) else (some 6))) else (some 1))) else (some 7))) else (some 4))
noncomputable def boring_formed.run (r : Row) : Bool := saysV (xcall Tryz.prog 0 10000 (orcOf r.1 r.2.1 r.2.2.1) 40 0 (.fn 46) [.agg ⟨[sy 0, sy 1, sy 2, sy 3]⟩] ⟨.leaf, 0⟩) r.2.2.2
def boring_formed.r0 : Row := ([(52, [.agg ⟨[sy 0, sy 1, sy 2, sy 3]⟩], .bool true), (93, [.agg ⟨[sy 0, sy 1, sy 2, sy 3]⟩], .bool true), (130, [.agg ⟨[sy 0, sy 1, sy 2, sy 3]⟩], .bool true), (129, [.agg ⟨[sy 0, sy 1, sy 2, sy 3]⟩], .bool true), (128, [.agg ⟨[sy 0, sy 1, sy 2, sy 3]⟩], .bool true)], [], [], .int .i64 0)
set_option maxRecDepth 1000000 in
theorem boring_formed.x0 : boring_formed.run boring_formed.r0 = true := by kernel_rfl
set_option maxRecDepth 1000000 in
theorem boring_formed.y0 : saysV (xcall Tryz.prog 0 10000 (orcF boring_formed.r0.1 boring_formed.r0.2.1) 40 1 (.fn 46) [.agg ⟨[sy 0, sy 1, sy 2, sy 3]⟩] ⟨Tr.put .leaf 0 .fixed, 1⟩) boring_formed.r0.2.2.2 = true := by kernel_rfl
def boring_formed.r1 : Row := ([(52, [.agg ⟨[sy 0, sy 1, sy 2, sy 3]⟩], .bool false), (93, [.agg ⟨[sy 0, sy 1, sy 2, sy 3]⟩], .bool true), (130, [.agg ⟨[sy 0, sy 1, sy 2, sy 3]⟩], .bool true), (129, [.agg ⟨[sy 0, sy 1, sy 2, sy 3]⟩], .bool true), (128, [.agg ⟨[sy 0, sy 1, sy 2, sy 3]⟩], .bool true)], [], [], .int .i64 11)
set_option maxRecDepth 1000000 in
theorem boring_formed.x1 : boring_formed.run boring_formed.r1 = true := by kernel_rfl
set_option maxRecDepth 1000000 in
theorem boring_formed.y1 : saysV (xcall Tryz.prog 0 10000 (orcF boring_formed.r1.1 boring_formed.r1.2.1) 40 1 (.fn 46) [.agg ⟨[sy 0, sy 1, sy 2, sy 3]⟩] ⟨Tr.put .leaf 0 .fixed, 1⟩) boring_formed.r1.2.2.2 = true := by kernel_rfl
def boring_formed.r2 : Row := ([(93, [.agg ⟨[sy 0, sy 1, sy 2, sy 3]⟩], .bool false), (130, [.agg ⟨[sy 0, sy 1, sy 2, sy 3]⟩], .bool true), (129, [.agg ⟨[sy 0, sy 1, sy 2, sy 3]⟩], .bool true), (128, [.agg ⟨[sy 0, sy 1, sy 2, sy 3]⟩], .bool true)], [], [], .int .i64 6)
set_option maxRecDepth 1000000 in
theorem boring_formed.x2 : boring_formed.run boring_formed.r2 = true := by kernel_rfl
set_option maxRecDepth 1000000 in
theorem boring_formed.y2 : saysV (xcall Tryz.prog 0 10000 (orcF boring_formed.r2.1 boring_formed.r2.2.1) 40 1 (.fn 46) [.agg ⟨[sy 0, sy 1, sy 2, sy 3]⟩] ⟨Tr.put .leaf 0 .fixed, 1⟩) boring_formed.r2.2.2.2 = true := by kernel_rfl
def boring_formed.r3 : Row := ([(130, [.agg ⟨[sy 0, sy 1, sy 2, sy 3]⟩], .bool false), (129, [.agg ⟨[sy 0, sy 1, sy 2, sy 3]⟩], .bool true), (128, [.agg ⟨[sy 0, sy 1, sy 2, sy 3]⟩], .bool true)], [], [], .int .i64 1)
set_option maxRecDepth 1000000 in
theorem boring_formed.x3 : boring_formed.run boring_formed.r3 = true := by kernel_rfl
set_option maxRecDepth 1000000 in
theorem boring_formed.y3 : saysV (xcall Tryz.prog 0 10000 (orcF boring_formed.r3.1 boring_formed.r3.2.1) 40 1 (.fn 46) [.agg ⟨[sy 0, sy 1, sy 2, sy 3]⟩] ⟨Tr.put .leaf 0 .fixed, 1⟩) boring_formed.r3.2.2.2 = true := by kernel_rfl
def boring_formed.r4 : Row := ([(129, [.agg ⟨[sy 0, sy 1, sy 2, sy 3]⟩], .bool false), (128, [.agg ⟨[sy 0, sy 1, sy 2, sy 3]⟩], .bool true)], [], [], .int .i64 7)
set_option maxRecDepth 1000000 in
theorem boring_formed.x4 : boring_formed.run boring_formed.r4 = true := by kernel_rfl
set_option maxRecDepth 1000000 in
theorem boring_formed.y4 : saysV (xcall Tryz.prog 0 10000 (orcF boring_formed.r4.1 boring_formed.r4.2.1) 40 1 (.fn 46) [.agg ⟨[sy 0, sy 1, sy 2, sy 3]⟩] ⟨Tr.put .leaf 0 .fixed, 1⟩) boring_formed.r4.2.2.2 = true := by kernel_rfl
def boring_formed.r5 : Row := ([(128, [.agg ⟨[sy 0, sy 1, sy 2, sy 3]⟩], .bool false)], [], [], .int .i64 4)
set_option maxRecDepth 1000000 in
theorem boring_formed.x5 : boring_formed.run boring_formed.r5 = true := by kernel_rfl
set_option maxRecDepth 1000000 in
theorem boring_formed.y5 : saysV (xcall Tryz.prog 0 10000 (orcF boring_formed.r5.1 boring_formed.r5.2.1) 40 1 (.fn 46) [.agg ⟨[sy 0, sy 1, sy 2, sy 3]⟩] ⟨Tr.put .leaf 0 .fixed, 1⟩) boring_formed.r5.2.2.2 = true := by kernel_rfl
set_option maxHeartbeats 8000000 in
set_option maxRecDepth 1000000 in
theorem boring_formed.calls (a0_0 : ByteArray) (a0_1 : Int) (a0_2 : Int) (A0_3 : Option Addr) (c0_3 : Nat) (l0_3 : List S48) (r : Int) (w : World) (hr0_3 : Kd.C k48 w A0_3 l0_3.length l0_3) (hc0_3 : l0_3.length ≤ c0_3) (h : boring_formed.f a0_0 a0_1 a0_2 l0_3 = some r) : Calls Tryz.prog 46 #[.agg #[.string a0_0, .int .i64 a0_1, .int .i64 a0_2, .slice A0_3 l0_3.length c0_3]] w fun e w' => e = .returned (.int .i64 r) ∧ Below w.heap.size w w' := by
 unfold boring_formed.f at h
 rw [Option.bind_eq_some_iff] at h
 obtain ⟨t1, h1, h⟩ := h
 cases t1 with
 | true =>
  rw [if_pos rfl] at h
  rw [Option.bind_eq_some_iff] at h
  obtain ⟨t2, h2, h⟩ := h
  cases t2 with
  | true =>
   rw [if_pos rfl] at h
   rw [Option.bind_eq_some_iff] at h
   obtain ⟨t3, h3, h⟩ := h
   cases t3 with
   | true =>
    rw [if_pos rfl] at h
    rw [Option.bind_eq_some_iff] at h
    obtain ⟨t4, h4, h⟩ := h
    cases t4 with
    | true =>
     rw [if_pos rfl] at h
     rw [Option.bind_eq_some_iff] at h
     obtain ⟨t5, h5, h⟩ := h
     cases t5 with
     | true =>
      rw [if_pos rfl] at h
      obtain rfl := Option.some.inj h
      rcases Cpin (d := k48) (fun w w' x cs h => by obtain rfl := k48_open h; exact k48_mk w' x) (by decide) hr0_3 with hR | ⟨ad, o, eA, ho, hR⟩
      ·letI : Syms := symsOf [.string a0_0, .int .i64 a0_1, .int .i64 a0_2, .slice A0_3 l0_3.length c0_3] rfl
       exact run_leaf (r := boring_formed.r0) RunC.follows RunC.noNum boring_formed.x0 ⟨(fun w  => (boring_increasing.calls (k := (l0_3.length + 2)) (a0_0 := a0_0) (a0_1 := a0_1) (a0_2 := a0_2) (A0_3 := A0_3) (c0_3 := c0_3) (l0_3 := l0_3) (hr0_3 := hR w) (hc0_3 := hc0_3) (r := true) (w := w) (h := h5)).mono fun _ _ h => h), (fun w  => (boring_formed_1.calls (a0_0 := a0_0) (a0_1 := a0_1) (a0_2 := a0_2) (A0_3 := A0_3) (c0_3 := c0_3) (l0_3 := l0_3) (hr0_3 := hR w) (hc0_3 := hc0_3) (r := true) (w := w) (h := h4)).mono fun _ _ h => h), (fun w  => (boring_checks_3.calls (a0_0 := a0_0) (a0_1 := a0_1) (a0_2 := a0_2) (A0_3 := A0_3) (c0_3 := c0_3) (l0_3 := l0_3) (hr0_3 := hR w) (hc0_3 := hc0_3) (r := true) (w := w) (h := h3)).mono fun _ _ h => h), (fun w  => (boring_checks_2.calls (a0_0 := a0_0) (a0_1 := a0_1) (a0_2 := a0_2) (A0_3 := A0_3) (c0_3 := c0_3) (l0_3 := l0_3) (hr0_3 := hR w) (hc0_3 := hc0_3) (r := true) (w := w) (h := h2)).mono fun _ _ h => h), (fun w  => (boring_checks_1.calls (a0_0 := a0_0) (a0_1 := a0_1) (a0_2 := a0_2) (A0_3 := A0_3) (c0_3 := c0_3) (l0_3 := l0_3) (hr0_3 := hR w) (hc0_3 := hc0_3) (r := true) (w := w) (h := h1)).mono fun _ _ h => h), trivial⟩ trivial trivial rfl rfl w
      ·letI : Syms := symsOfF [.string a0_0, .int .i64 a0_1, .int .i64 a0_2, .slice A0_3 l0_3.length c0_3] rfl ad.block o
       exact run_leafF (r := boring_formed.r0) RunC.follows RunC.noNum boring_formed.y0 ⟨(fun w hw => (boring_increasing.calls (k := (l0_3.length + 2)) (a0_0 := a0_0) (a0_1 := a0_1) (a0_2 := a0_2) (A0_3 := A0_3) (c0_3 := c0_3) (l0_3 := l0_3) (hr0_3 := hR w hw) (hc0_3 := hc0_3) (r := true) (w := w) (h := h5)).mono fun _ _ h => h), (fun w hw => (boring_formed_1.calls (a0_0 := a0_0) (a0_1 := a0_1) (a0_2 := a0_2) (A0_3 := A0_3) (c0_3 := c0_3) (l0_3 := l0_3) (hr0_3 := hR w hw) (hc0_3 := hc0_3) (r := true) (w := w) (h := h4)).mono fun _ _ h => h), (fun w hw => (boring_checks_3.calls (a0_0 := a0_0) (a0_1 := a0_1) (a0_2 := a0_2) (A0_3 := A0_3) (c0_3 := c0_3) (l0_3 := l0_3) (hr0_3 := hR w hw) (hc0_3 := hc0_3) (r := true) (w := w) (h := h3)).mono fun _ _ h => h), (fun w hw => (boring_checks_2.calls (a0_0 := a0_0) (a0_1 := a0_1) (a0_2 := a0_2) (A0_3 := A0_3) (c0_3 := c0_3) (l0_3 := l0_3) (hr0_3 := hR w hw) (hc0_3 := hc0_3) (r := true) (w := w) (h := h2)).mono fun _ _ h => h), (fun w hw => (boring_checks_1.calls (a0_0 := a0_0) (a0_1 := a0_1) (a0_2 := a0_2) (A0_3 := A0_3) (c0_3 := c0_3) (l0_3 := l0_3) (hr0_3 := hR w hw) (hc0_3 := hc0_3) (r := true) (w := w) (h := h1)).mono fun _ _ h => h), trivial⟩ trivial rfl rfl w ho
     | false =>
      rw [if_neg (by decide)] at h
      obtain rfl := Option.some.inj h
      rcases Cpin (d := k48) (fun w w' x cs h => by obtain rfl := k48_open h; exact k48_mk w' x) (by decide) hr0_3 with hR | ⟨ad, o, eA, ho, hR⟩
      ·letI : Syms := symsOf [.string a0_0, .int .i64 a0_1, .int .i64 a0_2, .slice A0_3 l0_3.length c0_3] rfl
       exact run_leaf (r := boring_formed.r1) RunC.follows RunC.noNum boring_formed.x1 ⟨(fun w  => (boring_increasing.calls (k := (l0_3.length + 2)) (a0_0 := a0_0) (a0_1 := a0_1) (a0_2 := a0_2) (A0_3 := A0_3) (c0_3 := c0_3) (l0_3 := l0_3) (hr0_3 := hR w) (hc0_3 := hc0_3) (r := false) (w := w) (h := h5)).mono fun _ _ h => h), (fun w  => (boring_formed_1.calls (a0_0 := a0_0) (a0_1 := a0_1) (a0_2 := a0_2) (A0_3 := A0_3) (c0_3 := c0_3) (l0_3 := l0_3) (hr0_3 := hR w) (hc0_3 := hc0_3) (r := true) (w := w) (h := h4)).mono fun _ _ h => h), (fun w  => (boring_checks_3.calls (a0_0 := a0_0) (a0_1 := a0_1) (a0_2 := a0_2) (A0_3 := A0_3) (c0_3 := c0_3) (l0_3 := l0_3) (hr0_3 := hR w) (hc0_3 := hc0_3) (r := true) (w := w) (h := h3)).mono fun _ _ h => h), (fun w  => (boring_checks_2.calls (a0_0 := a0_0) (a0_1 := a0_1) (a0_2 := a0_2) (A0_3 := A0_3) (c0_3 := c0_3) (l0_3 := l0_3) (hr0_3 := hR w) (hc0_3 := hc0_3) (r := true) (w := w) (h := h2)).mono fun _ _ h => h), (fun w  => (boring_checks_1.calls (a0_0 := a0_0) (a0_1 := a0_1) (a0_2 := a0_2) (A0_3 := A0_3) (c0_3 := c0_3) (l0_3 := l0_3) (hr0_3 := hR w) (hc0_3 := hc0_3) (r := true) (w := w) (h := h1)).mono fun _ _ h => h), trivial⟩ trivial trivial rfl rfl w
      ·letI : Syms := symsOfF [.string a0_0, .int .i64 a0_1, .int .i64 a0_2, .slice A0_3 l0_3.length c0_3] rfl ad.block o
       exact run_leafF (r := boring_formed.r1) RunC.follows RunC.noNum boring_formed.y1 ⟨(fun w hw => (boring_increasing.calls (k := (l0_3.length + 2)) (a0_0 := a0_0) (a0_1 := a0_1) (a0_2 := a0_2) (A0_3 := A0_3) (c0_3 := c0_3) (l0_3 := l0_3) (hr0_3 := hR w hw) (hc0_3 := hc0_3) (r := false) (w := w) (h := h5)).mono fun _ _ h => h), (fun w hw => (boring_formed_1.calls (a0_0 := a0_0) (a0_1 := a0_1) (a0_2 := a0_2) (A0_3 := A0_3) (c0_3 := c0_3) (l0_3 := l0_3) (hr0_3 := hR w hw) (hc0_3 := hc0_3) (r := true) (w := w) (h := h4)).mono fun _ _ h => h), (fun w hw => (boring_checks_3.calls (a0_0 := a0_0) (a0_1 := a0_1) (a0_2 := a0_2) (A0_3 := A0_3) (c0_3 := c0_3) (l0_3 := l0_3) (hr0_3 := hR w hw) (hc0_3 := hc0_3) (r := true) (w := w) (h := h3)).mono fun _ _ h => h), (fun w hw => (boring_checks_2.calls (a0_0 := a0_0) (a0_1 := a0_1) (a0_2 := a0_2) (A0_3 := A0_3) (c0_3 := c0_3) (l0_3 := l0_3) (hr0_3 := hR w hw) (hc0_3 := hc0_3) (r := true) (w := w) (h := h2)).mono fun _ _ h => h), (fun w hw => (boring_checks_1.calls (a0_0 := a0_0) (a0_1 := a0_1) (a0_2 := a0_2) (A0_3 := A0_3) (c0_3 := c0_3) (l0_3 := l0_3) (hr0_3 := hR w hw) (hc0_3 := hc0_3) (r := true) (w := w) (h := h1)).mono fun _ _ h => h), trivial⟩ trivial rfl rfl w ho
    | false =>
     rw [if_neg (by decide)] at h
     obtain rfl := Option.some.inj h
     rcases Cpin (d := k48) (fun w w' x cs h => by obtain rfl := k48_open h; exact k48_mk w' x) (by decide) hr0_3 with hR | ⟨ad, o, eA, ho, hR⟩
     ·letI : Syms := symsOf [.string a0_0, .int .i64 a0_1, .int .i64 a0_2, .slice A0_3 l0_3.length c0_3] rfl
      exact run_leaf (r := boring_formed.r2) RunC.follows RunC.noNum boring_formed.x2 ⟨(fun w  => (boring_formed_1.calls (a0_0 := a0_0) (a0_1 := a0_1) (a0_2 := a0_2) (A0_3 := A0_3) (c0_3 := c0_3) (l0_3 := l0_3) (hr0_3 := hR w) (hc0_3 := hc0_3) (r := false) (w := w) (h := h4)).mono fun _ _ h => h), (fun w  => (boring_checks_3.calls (a0_0 := a0_0) (a0_1 := a0_1) (a0_2 := a0_2) (A0_3 := A0_3) (c0_3 := c0_3) (l0_3 := l0_3) (hr0_3 := hR w) (hc0_3 := hc0_3) (r := true) (w := w) (h := h3)).mono fun _ _ h => h), (fun w  => (boring_checks_2.calls (a0_0 := a0_0) (a0_1 := a0_1) (a0_2 := a0_2) (A0_3 := A0_3) (c0_3 := c0_3) (l0_3 := l0_3) (hr0_3 := hR w) (hc0_3 := hc0_3) (r := true) (w := w) (h := h2)).mono fun _ _ h => h), (fun w  => (boring_checks_1.calls (a0_0 := a0_0) (a0_1 := a0_1) (a0_2 := a0_2) (A0_3 := A0_3) (c0_3 := c0_3) (l0_3 := l0_3) (hr0_3 := hR w) (hc0_3 := hc0_3) (r := true) (w := w) (h := h1)).mono fun _ _ h => h), trivial⟩ trivial trivial rfl rfl w
     ·letI : Syms := symsOfF [.string a0_0, .int .i64 a0_1, .int .i64 a0_2, .slice A0_3 l0_3.length c0_3] rfl ad.block o
      exact run_leafF (r := boring_formed.r2) RunC.follows RunC.noNum boring_formed.y2 ⟨(fun w hw => (boring_formed_1.calls (a0_0 := a0_0) (a0_1 := a0_1) (a0_2 := a0_2) (A0_3 := A0_3) (c0_3 := c0_3) (l0_3 := l0_3) (hr0_3 := hR w hw) (hc0_3 := hc0_3) (r := false) (w := w) (h := h4)).mono fun _ _ h => h), (fun w hw => (boring_checks_3.calls (a0_0 := a0_0) (a0_1 := a0_1) (a0_2 := a0_2) (A0_3 := A0_3) (c0_3 := c0_3) (l0_3 := l0_3) (hr0_3 := hR w hw) (hc0_3 := hc0_3) (r := true) (w := w) (h := h3)).mono fun _ _ h => h), (fun w hw => (boring_checks_2.calls (a0_0 := a0_0) (a0_1 := a0_1) (a0_2 := a0_2) (A0_3 := A0_3) (c0_3 := c0_3) (l0_3 := l0_3) (hr0_3 := hR w hw) (hc0_3 := hc0_3) (r := true) (w := w) (h := h2)).mono fun _ _ h => h), (fun w hw => (boring_checks_1.calls (a0_0 := a0_0) (a0_1 := a0_1) (a0_2 := a0_2) (A0_3 := A0_3) (c0_3 := c0_3) (l0_3 := l0_3) (hr0_3 := hR w hw) (hc0_3 := hc0_3) (r := true) (w := w) (h := h1)).mono fun _ _ h => h), trivial⟩ trivial rfl rfl w ho
   | false =>
    rw [if_neg (by decide)] at h
    obtain rfl := Option.some.inj h
    rcases Cpin (d := k48) (fun w w' x cs h => by obtain rfl := k48_open h; exact k48_mk w' x) (by decide) hr0_3 with hR | ⟨ad, o, eA, ho, hR⟩
    ·letI : Syms := symsOf [.string a0_0, .int .i64 a0_1, .int .i64 a0_2, .slice A0_3 l0_3.length c0_3] rfl
     exact run_leaf (r := boring_formed.r3) RunC.follows RunC.noNum boring_formed.x3 ⟨(fun w  => (boring_checks_3.calls (a0_0 := a0_0) (a0_1 := a0_1) (a0_2 := a0_2) (A0_3 := A0_3) (c0_3 := c0_3) (l0_3 := l0_3) (hr0_3 := hR w) (hc0_3 := hc0_3) (r := false) (w := w) (h := h3)).mono fun _ _ h => h), (fun w  => (boring_checks_2.calls (a0_0 := a0_0) (a0_1 := a0_1) (a0_2 := a0_2) (A0_3 := A0_3) (c0_3 := c0_3) (l0_3 := l0_3) (hr0_3 := hR w) (hc0_3 := hc0_3) (r := true) (w := w) (h := h2)).mono fun _ _ h => h), (fun w  => (boring_checks_1.calls (a0_0 := a0_0) (a0_1 := a0_1) (a0_2 := a0_2) (A0_3 := A0_3) (c0_3 := c0_3) (l0_3 := l0_3) (hr0_3 := hR w) (hc0_3 := hc0_3) (r := true) (w := w) (h := h1)).mono fun _ _ h => h), trivial⟩ trivial trivial rfl rfl w
    ·letI : Syms := symsOfF [.string a0_0, .int .i64 a0_1, .int .i64 a0_2, .slice A0_3 l0_3.length c0_3] rfl ad.block o
     exact run_leafF (r := boring_formed.r3) RunC.follows RunC.noNum boring_formed.y3 ⟨(fun w hw => (boring_checks_3.calls (a0_0 := a0_0) (a0_1 := a0_1) (a0_2 := a0_2) (A0_3 := A0_3) (c0_3 := c0_3) (l0_3 := l0_3) (hr0_3 := hR w hw) (hc0_3 := hc0_3) (r := false) (w := w) (h := h3)).mono fun _ _ h => h), (fun w hw => (boring_checks_2.calls (a0_0 := a0_0) (a0_1 := a0_1) (a0_2 := a0_2) (A0_3 := A0_3) (c0_3 := c0_3) (l0_3 := l0_3) (hr0_3 := hR w hw) (hc0_3 := hc0_3) (r := true) (w := w) (h := h2)).mono fun _ _ h => h), (fun w hw => (boring_checks_1.calls (a0_0 := a0_0) (a0_1 := a0_1) (a0_2 := a0_2) (A0_3 := A0_3) (c0_3 := c0_3) (l0_3 := l0_3) (hr0_3 := hR w hw) (hc0_3 := hc0_3) (r := true) (w := w) (h := h1)).mono fun _ _ h => h), trivial⟩ trivial rfl rfl w ho
  | false =>
   rw [if_neg (by decide)] at h
   obtain rfl := Option.some.inj h
   rcases Cpin (d := k48) (fun w w' x cs h => by obtain rfl := k48_open h; exact k48_mk w' x) (by decide) hr0_3 with hR | ⟨ad, o, eA, ho, hR⟩
   ·letI : Syms := symsOf [.string a0_0, .int .i64 a0_1, .int .i64 a0_2, .slice A0_3 l0_3.length c0_3] rfl
    exact run_leaf (r := boring_formed.r4) RunC.follows RunC.noNum boring_formed.x4 ⟨(fun w  => (boring_checks_2.calls (a0_0 := a0_0) (a0_1 := a0_1) (a0_2 := a0_2) (A0_3 := A0_3) (c0_3 := c0_3) (l0_3 := l0_3) (hr0_3 := hR w) (hc0_3 := hc0_3) (r := false) (w := w) (h := h2)).mono fun _ _ h => h), (fun w  => (boring_checks_1.calls (a0_0 := a0_0) (a0_1 := a0_1) (a0_2 := a0_2) (A0_3 := A0_3) (c0_3 := c0_3) (l0_3 := l0_3) (hr0_3 := hR w) (hc0_3 := hc0_3) (r := true) (w := w) (h := h1)).mono fun _ _ h => h), trivial⟩ trivial trivial rfl rfl w
   ·letI : Syms := symsOfF [.string a0_0, .int .i64 a0_1, .int .i64 a0_2, .slice A0_3 l0_3.length c0_3] rfl ad.block o
    exact run_leafF (r := boring_formed.r4) RunC.follows RunC.noNum boring_formed.y4 ⟨(fun w hw => (boring_checks_2.calls (a0_0 := a0_0) (a0_1 := a0_1) (a0_2 := a0_2) (A0_3 := A0_3) (c0_3 := c0_3) (l0_3 := l0_3) (hr0_3 := hR w hw) (hc0_3 := hc0_3) (r := false) (w := w) (h := h2)).mono fun _ _ h => h), (fun w hw => (boring_checks_1.calls (a0_0 := a0_0) (a0_1 := a0_1) (a0_2 := a0_2) (A0_3 := A0_3) (c0_3 := c0_3) (l0_3 := l0_3) (hr0_3 := hR w hw) (hc0_3 := hc0_3) (r := true) (w := w) (h := h1)).mono fun _ _ h => h), trivial⟩ trivial rfl rfl w ho
 | false =>
  rw [if_neg (by decide)] at h
  obtain rfl := Option.some.inj h
  rcases Cpin (d := k48) (fun w w' x cs h => by obtain rfl := k48_open h; exact k48_mk w' x) (by decide) hr0_3 with hR | ⟨ad, o, eA, ho, hR⟩
  ·letI : Syms := symsOf [.string a0_0, .int .i64 a0_1, .int .i64 a0_2, .slice A0_3 l0_3.length c0_3] rfl
   exact run_leaf (r := boring_formed.r5) RunC.follows RunC.noNum boring_formed.x5 ⟨(fun w  => (boring_checks_1.calls (a0_0 := a0_0) (a0_1 := a0_1) (a0_2 := a0_2) (A0_3 := A0_3) (c0_3 := c0_3) (l0_3 := l0_3) (hr0_3 := hR w) (hc0_3 := hc0_3) (r := false) (w := w) (h := h1)).mono fun _ _ h => h), trivial⟩ trivial trivial rfl rfl w
  ·letI : Syms := symsOfF [.string a0_0, .int .i64 a0_1, .int .i64 a0_2, .slice A0_3 l0_3.length c0_3] rfl ad.block o
   exact run_leafF (r := boring_formed.r5) RunC.follows RunC.noNum boring_formed.y5 ⟨(fun w hw => (boring_checks_1.calls (a0_0 := a0_0) (a0_1 := a0_1) (a0_2 := a0_2) (A0_3 := A0_3) (c0_3 := c0_3) (l0_3 := l0_3) (hr0_3 := hR w hw) (hc0_3 := hc0_3) (r := false) (w := w) (h := h1)).mono fun _ _ h => h), trivial⟩ trivial rfl rfl w ho
end Go.Proofs.YtfedmcehkpfciaaGreat.Sym
