/-
  How arguments that came in as data read as the print's kinds: one lemma a kind. Plain lemmas over any program.
-/
import Derived.Deep.Slices
import Derived.Lib.SmallJoins
import Derived.ProofKit
import Derived.ChangeOld
import Derived.Test.YtnaahepnabmibaaGreatDoorM1
set_option linter.unusedVariables false
set_option linter.unusedSimpArgs false
namespace Go.Proofs.YtnaahepnabmibaaGreatDoor.Open
open Go.ChangeShapes Go.WideShapes Go.Deep Go.RowKit Go.Proofs.YtnaahepnabmibaaGreatDoorW.PrintWords

def Opens (P : Program) (t : TypeId) {α : Type} (K : Kd α) (G : α → Prop) : Prop :=
  ∀ {H : Type} {enc : TypeId × Value → H} {w : World} {base : Nat} {spare : Nat → Bool} {held : Bool} {fuel : Nat} {cs : List Value} {x : DataW H × List MemPlace},
    DataW.trod enc P w base spare held fuel t cs = some x → ∃ a : α, K.K w a cs ∧ G a

def GInt (k : IntKind) (n : Int) : Prop := k.min ≤ n ∧ n ≤ k.max
def GStr (s : ByteArray) : Prop := s.size ≤ 9223372036854775807
def GPair {α β : Type} (G1 : α → Prop) (G2 : β → Prop) (p : α × β) : Prop := G1 p.1 ∧ G2 p.2

theorem opens_int {P : Program} {t : TypeId} {k : IntKind} (ht : P.underlying t = some (.int k)) : Opens P t (Kd.int k) (GInt k) := by
  intro H enc w base spare held fuel cs x h
  obtain ⟨n, rfl, _, hw⟩ := DataW.trod_int ht h
  refine ⟨n, rfl, ?_⟩
  simpa [Lit.wf, GInt] using hw
theorem opens_string {P : Program} {t : TypeId} (ht : P.underlying t = some .string) : Opens P t Kd.string GStr := by
  intro H enc w base spare held fuel cs x h
  obtain ⟨s, rfl, _, hs⟩ := DataW.trod_string ht h
  exact ⟨s, rfl, by simpa [maxLen, GStr] using hs⟩
def FOpen (P : Program) (fs : List Field) (off : Nat) {α : Type} (K : Kd α) (G : α → Prop) : Prop :=
  ∀ {H : Type} {enc : TypeId × Value → H} {w : World} {base : Nat} {spare : Nat → Bool} {held : Bool} {n : Nat} {cs : List Value},
    (∀ f ∈ fs, ∃ x, DataW.trod enc P w base spare held n f.type ((cs.drop f.offset).take (P.cellsOf f.type)) = some x) → cs.length = off + K.sz → ∃ a : α, K.K w a (cs.drop off) ∧ G a
theorem fopen_one {P : Program} {f : Field} {off : Nat} {α : Type} {K : Kd α} {G : α → Prop} (ho : f.offset = off) (hc : P.cellsOf f.type = K.sz) (h : Opens P f.type K G) : FOpen P [f] off K G := by
  intro H enc w base spare held n cs hx hl
  obtain ⟨x, hx⟩ := hx f (by simp)
  rw [ho, hc, List.take_of_length_le (by rw [List.length_drop]; omega)] at hx
  exact h hx
theorem fopen_cons {P : Program} {f : Field} {fs : List Field} {off : Nat} {α β : Type} {K : Kd α} {L : Kd β} {G : α → Prop} {G2 : β → Prop} (ho : f.offset = off) (hc : P.cellsOf f.type = K.sz) (h : Opens P f.type K G) (h2 : FOpen P fs (off + K.sz) L G2) :
    FOpen P (f :: fs) off (Kd.pair K L) (GPair G G2) := by
  intro H enc w base spare held n cs hx hl
  obtain ⟨x, hx1⟩ := hx f (by simp)
  rw [ho, hc] at hx1
  obtain ⟨a, ha, hG⟩ := h hx1
  obtain ⟨b, hb, hG2⟩ := h2 (fun f' hf' => hx f' (by simp [hf'])) (by rw [hl]; show off + (K.sz + L.sz) = _; omega)
  refine ⟨(a, b), ⟨_, _, ?_, ha, hb⟩, hG, hG2⟩
  rw [← List.drop_drop, List.take_append_drop]
theorem opens_struct {P : Program} {t : TypeId} {fs : Array Field} {α β : Type} {K : Kd α} {G : α → Prop} {pr : β → α} (mk : α → β) (hmk : ∀ p, pr (mk p) = p) (ht : P.underlying t = some (.struct fs)) (hc : P.cellsOf t = K.sz) (h : FOpen P fs.toList 0 K G) :
    Opens P t (Kd.iso K pr) (fun x => G (pr x)) := by
  intro H enc w base spare held fuel cs x hx
  obtain ⟨xs, n, _, _, hl, hlen, hf⟩ := DataW.trod_struct ht hx
  have hall : ∀ f ∈ fs.toList, ∃ x, DataW.trod enc P w base spare held n f.type ((cs.drop f.offset).take (P.cellsOf f.type)) = some x := by
    intro f hfm
    obtain ⟨i, hi⟩ := List.getElem?_of_mem hfm
    have hi' : fs[i]? = some f := by simpa using hi
    have hlt : i < fs.size := (Array.getElem?_eq_some_iff.1 hi').1
    exact ⟨xs[i]'(by omega), (hf i f hi').trans (List.getElem?_eq_getElem (by omega))⟩
  obtain ⟨a, ha, hG⟩ := h hall (by rw [hl, hc, Nat.zero_add])
  exact ⟨mk a, by show K.K w (pr (mk a)) cs; rw [hmk]; simpa using ha, by show G (pr (mk a)); rw [hmk]; exact hG⟩

/-- A value that came in, of a kind of one cell. -/
theorem trod_open {P : Program} {t : TypeId} {α : Type} {K : Kd α} {G : α → Prop} (h : Opens P t K G) {H : Type} {enc : TypeId × Value → H} {w : World} {base : Nat} {spare : Nat → Bool} {held : Bool} {v : Value} {d : DataW H} {ps : List MemPlace}
    (hd : DataW.Trod enc P w base spare held t v d ps) : ∃ a : α, K.K w a v.cells.toList ∧ G a := by
  obtain ⟨fuel, hf⟩ := hd
  exact h hf
theorem trod_lt {P : Program} {t : TypeId} {H : Type} {enc : TypeId × Value → H} {w : World} {base : Nat} {spare : Nat → Bool} {held : Bool} {v : Value} {d : DataW H} {ps : List MemPlace}
    (hd : DataW.Trod enc P w base spare held t v d ps) : ∀ x ∈ ps, x.block < w.heap.size := by
  obtain ⟨m, hm⟩ := hd
  exact DataW.trod_lt m _ _ _ hm
theorem open_agg {P : Program} {t : TypeId} {fs : Array Field} {α : Type} {K : Kd α} {G : α → Prop} (ht : P.underlying t = some (.struct fs)) (h : Opens P t K G) {H : Type} {enc : TypeId × Value → H} {w : World} {base : Nat} {spare : Nat → Bool} {held : Bool} {v : Value} {d : DataW H} {ps : List MemPlace} {r : Reach} {b0 : Nat}
    (hv : Value.okWide P w r b0 t v) (hd : DataW.Trod enc P w base spare held t v d ps) : ∃ (a : α) (cs : List Value), v = .agg cs.toArray ∧ K.K w a cs ∧ G a := by
  obtain ⟨cs, rfl, _⟩ := okWide_struct ht hv
  obtain ⟨a, hK, hG⟩ := trod_open h hd
  exact ⟨a, cs.toList, by simp, hK, hG⟩
theorem open_int1 {P : Program} {t : TypeId} {k : IntKind} (ht : P.underlying t = some (.int k)) {H : Type} {enc : TypeId × Value → H} {w : World} {base : Nat} {spare : Nat → Bool} {held : Bool} {v : Value} {d : DataW H} {ps : List MemPlace} {r : Reach} {b0 : Nat}
    (hv : Value.okWide P w r b0 t v) (hd : DataW.Trod enc P w base spare held t v d ps) : ∃ n : Int, v = .int k n ∧ GInt k n := by
  obtain ⟨n, rfl⟩ := okWide_int ht hv
  obtain ⟨m, hm, hG⟩ := trod_open (opens_int ht) hd
  have : Value.int k n = Value.int k m := by simpa [Value.cells, Kd.int, Kd.scalar] using hm
  exact ⟨m, this, hG⟩
end Go.Proofs.YtnaahepnabmibaaGreatDoor.Open
