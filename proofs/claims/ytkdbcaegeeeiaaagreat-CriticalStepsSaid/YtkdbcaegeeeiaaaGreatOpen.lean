/-
  How arguments that came in as data read as the print's kinds: one lemma a kind. Plain lemmas over any program.
-/
import Derived.Deep.Slices
import Derived.Lib.SmallJoins
import Derived.ProofKit
import Derived.ChangeOld
import Derived.Test.YtkdbcaegeeeiaaaGreatM1
set_option linter.unusedVariables false
set_option linter.unusedSimpArgs false
namespace Go.Proofs.YtkdbcaegeeeiaaaGreat.Open
open Go.ChangeShapes Go.WideShapes Go.Deep Go.RowKit Go.Proofs.YtkdbcaegeeeiaaaGreatW.PrintWords

def Opens (P : Program) (t : TypeId) {α : Type} (K : Kd α) (G : α → Prop) : Prop :=
  ∀ {H : Type} {enc : TypeId × Value → H} {w : World} {base : Nat} {spare : Nat → Bool} {held : Bool} {fuel : Nat} {cs : List Value} {x : DataW H × List MemPlace},
    DataW.trod enc P w base spare held fuel t cs = some x → ∃ a : α, K.K w a cs ∧ G a

def GInt (k : IntKind) (n : Int) : Prop := k.min ≤ n ∧ n ≤ k.max
def GStr (s : ByteArray) : Prop := s.size ≤ 9223372036854775807
def GList {α : Type} (G : α → Prop) (l : List α) : Prop := l.length ≤ 9223372036854775807 ∧ ∀ a ∈ l, G a
def GPair {α β : Type} (G1 : α → Prop) (G2 : β → Prop) (p : α × β) : Prop := G1 p.1 ∧ G2 p.2

theorem opens_int {P : Program} {t : TypeId} {k : IntKind} (ht : P.underlying t = some (.int k)) : Opens P t (Kd.int k) (GInt k) := by
  intro H enc w base spare held fuel cs x h
  obtain ⟨n, rfl, _, hw⟩ := DataW.trod_int ht h
  refine ⟨n, rfl, ?_⟩
  simpa [Lit.wf, GInt] using hw
theorem opens_string {P : Program} {t : TypeId} (ht : P.underlying t = some .string) : Opens P t Kd.string GStr := by
  intro H enc w base spare held fuel cs x h
  obtain ⟨s, rfl, _, hs⟩ := DataW.trod_string ht h
  exact ⟨s, rfl, by simpa [maxLen, GStr] using hs⟩
theorem list_of_fun {α : Type} {p : Nat → α → Prop} : ∀ n, (∀ i, i < n → ∃ a, p i a) → ∃ l : List α, l.length = n ∧ ∀ i a, l[i]? = some a → p i a := by
  intro n
  induction n with
  | zero => exact fun _ => ⟨[], rfl, fun i a h => by simp at h⟩
  | succ n ih =>
    intro h
    obtain ⟨l, hl, hp⟩ := ih fun i hi => h i (by omega)
    obtain ⟨a, ha⟩ := h n (by omega)
    refine ⟨l ++ [a], by simp [hl], fun i b hb => ?_⟩
    rcases Nat.lt_or_ge i n with hi | hi
    · rw [List.getElem?_append_left (by omega)] at hb; exact hp i b hb
    · have hlt := (List.getElem?_eq_some_iff.1 hb).1
      simp [hl] at hlt
      have : i = n := by omega
      subst this
      rw [List.getElem?_append_right (by omega)] at hb
      simp [hl] at hb
      exact hb ▸ ha
theorem opens_slice {P : Program} {t e : TypeId} {α : Type} {K : Kd α} {G : α → Prop} (ht : P.underlying t = some (.slice e)) (hc : P.cellsOf e = K.sz) (he : Opens P e K G) : Opens P t (Kd.slice e K) (GList G) := by
  intro H enc w base spare held fuel cs x h
  rcases open_slice ht h with ⟨rfl, _⟩ | ⟨a, len, cap, m, n, D, Pl, rfl, _, hlc, hcm, hm, _, hel⟩
  · exact ⟨[], ⟨none, 0, rfl, by simp, rfl, by simp, fun h => by simp at h⟩, by simp [GList]⟩
  · have hlm : len ≤ m := by rw [hm]; split <;> omega
    have hex : ∀ i, i < len → ∃ z : α, (∃ c, c.length = K.sz ∧ K.K w z c ∧ ∀ q u, c[q]? = some u → w.cell? (a.add (i * K.sz + q)) = some u) ∧ G z := by
      intro i hi
      obtain ⟨cs', hcells, ht'⟩ := hel i (by omega)
      obtain ⟨z, hK, hG⟩ := he ht'
      obtain ⟨_, hlen, hcell⟩ := World.cells?_some hcells
      refine ⟨z, ⟨cs', by rw [hlen, hc], hK, fun q u hq => ?_⟩, hG⟩
      have hql := (List.getElem?_eq_some_iff.1 hq).1
      have h2 := hcell q (by omega)
      rw [hq] at h2
      rw [← Go.Deep.add_add, ← hc]
      exact h2
    obtain ⟨l, hl, hp⟩ := list_of_fun len hex
    have hcm' : cap ≤ 9223372036854775807 := by simpa [maxLen] using hcm
    subst hl
    refine ⟨l, ⟨some a, cap, rfl, hlc, rfl, by omega, fun _ => ⟨a, rfl, fun j p hj => (hp j p hj).1⟩⟩, by omega, fun z hz => ?_⟩
    obtain ⟨i, hi⟩ := List.getElem?_of_mem hz
    exact (hp i z hi).2

def FOpen (P : Program) (fs : List Field) (off : Nat) {α : Type} (K : Kd α) (G : α → Prop) : Prop :=
  ∀ {H : Type} {enc : TypeId × Value → H} {w : World} {base : Nat} {spare : Nat → Bool} {held : Bool} {n : Nat} {cs : List Value},
    (∀ f ∈ fs, ∃ x, DataW.trod enc P w base spare held n f.type ((cs.drop f.offset).take (P.cellsOf f.type)) = some x) → cs.length = off + K.sz → ∃ a : α, K.K w a (cs.drop off) ∧ G a
theorem fopen_one {P : Program} {f : Field} {off : Nat} {α : Type} {K : Kd α} {G : α → Prop} (ho : f.offset = off) (hc : P.cellsOf f.type = K.sz) (h : Opens P f.type K G) : FOpen P [f] off K G := by
  intro H enc w base spare held n cs hx hl
  obtain ⟨x, hx⟩ := hx f (by simp)
  rw [ho, hc, List.take_of_length_le (by rw [List.length_drop]; omega)] at hx
  exact h hx
theorem fopen_cons {P : Program} {f : Field} {fs : List Field} {off : Nat} {α β : Type} {K : Kd α} {L : Kd β} {G : α → Prop} {G2 : β → Prop} (ho : f.offset = off) (hc : P.cellsOf f.type = K.sz) (h : Opens P f.type K G) (h2 : FOpen P fs (off + K.sz) L G2) :
    FOpen P (f :: fs) off (Kd.pair K L) (GPair G G2) := by
  intro H enc w base spare held n cs hx hl
  obtain ⟨x, hx1⟩ := hx f (by simp)
  rw [ho, hc] at hx1
  obtain ⟨a, ha, hG⟩ := h hx1
  obtain ⟨b, hb, hG2⟩ := h2 (fun f' hf' => hx f' (by simp [hf'])) (by rw [hl]; show off + (K.sz + L.sz) = _; omega)
  refine ⟨(a, b), ⟨_, _, ?_, ha, hb⟩, hG, hG2⟩
  rw [← List.drop_drop, List.take_append_drop]
theorem opens_struct {P : Program} {t : TypeId} {fs : Array Field} {α β : Type} {K : Kd α} {G : α → Prop} {pr : β → α} (mk : α → β) (hmk : ∀ p, pr (mk p) = p) (ht : P.underlying t = some (.struct fs)) (hc : P.cellsOf t = K.sz) (h : FOpen P fs.toList 0 K G) :
    Opens P t (Kd.iso K pr) (fun x => G (pr x)) := by
  intro H enc w base spare held fuel cs x hx
  obtain ⟨xs, n, _, _, hl, hlen, hf⟩ := DataW.trod_struct ht hx
  have hall : ∀ f ∈ fs.toList, ∃ x, DataW.trod enc P w base spare held n f.type ((cs.drop f.offset).take (P.cellsOf f.type)) = some x := by
    intro f hfm
    obtain ⟨i, hi⟩ := List.getElem?_of_mem hfm
    have hi' : fs[i]? = some f := by simpa using hi
    have hlt : i < fs.size := (Array.getElem?_eq_some_iff.1 hi').1
    exact ⟨xs[i]'(by omega), (hf i f hi').trans (List.getElem?_eq_getElem (by omega))⟩
  obtain ⟨a, ha, hG⟩ := h hall (by rw [hl, hc, Nat.zero_add])
  exact ⟨mk a, by show K.K w (pr (mk a)) cs; rw [hmk]; simpa using ha, by show G (pr (mk a)); rw [hmk]; exact hG⟩

/-- A value that came in, of a kind of one cell. -/
theorem trod_open {P : Program} {t : TypeId} {α : Type} {K : Kd α} {G : α → Prop} (h : Opens P t K G) {H : Type} {enc : TypeId × Value → H} {w : World} {base : Nat} {spare : Nat → Bool} {held : Bool} {v : Value} {d : DataW H} {ps : List MemPlace}
    (hd : DataW.Trod enc P w base spare held t v d ps) : ∃ a : α, K.K w a v.cells.toList ∧ G a := by
  obtain ⟨fuel, hf⟩ := hd
  exact h hf
theorem trod_lt {P : Program} {t : TypeId} {H : Type} {enc : TypeId × Value → H} {w : World} {base : Nat} {spare : Nat → Bool} {held : Bool} {v : Value} {d : DataW H} {ps : List MemPlace}
    (hd : DataW.Trod enc P w base spare held t v d ps) : ∀ x ∈ ps, x.block < w.heap.size := by
  obtain ⟨m, hm⟩ := hd
  exact DataW.trod_lt m _ _ _ hm
theorem open_agg {P : Program} {t : TypeId} {fs : Array Field} {α : Type} {K : Kd α} {G : α → Prop} (ht : P.underlying t = some (.struct fs)) (h : Opens P t K G) {H : Type} {enc : TypeId × Value → H} {w : World} {base : Nat} {spare : Nat → Bool} {held : Bool} {v : Value} {d : DataW H} {ps : List MemPlace} {r : Reach} {b0 : Nat}
    (hv : Value.okWide P w r b0 t v) (hd : DataW.Trod enc P w base spare held t v d ps) : ∃ (a : α) (cs : List Value), v = .agg cs.toArray ∧ K.K w a cs ∧ G a := by
  obtain ⟨cs, rfl, _⟩ := okWide_struct ht hv
  obtain ⟨a, hK, hG⟩ := trod_open h hd
  exact ⟨a, cs.toList, by simp, hK, hG⟩
end Go.Proofs.YtkdbcaegeeeiaaaGreat.Open
