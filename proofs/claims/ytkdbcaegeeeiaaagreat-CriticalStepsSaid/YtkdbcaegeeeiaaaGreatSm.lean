/-
  Maps that a call makes for itself, as pure data: keys, elements and when each entry was made; what a lookup and a store do with the map's block.
-/
import Derived.Test.YtkdbcaegeeeiaaaGreatM1
import Derived.OwnWalk
import Derived.Carry
set_option linter.unusedVariables false
set_option linter.unusedSimpArgs false
namespace Go.Proofs.YtkdbcaegeeeiaaaGreat.Sm
open Go.RowKit Go.Proofs.YtkdbcaegeeeiaaaGreatW.PrintWords

instance : LawfulBEq ByteArray where
  eq_of_beq {a b} h := by
    cases a with | mk a => cases b with | mk b =>
    have h' : (BEq.beq a b) = true := h
    simp at h'; simp [h']
  rfl {a} := by
    cases a with | mk a =>
    show (BEq.beq a a) = true
    simp
structure SM (κ β : Type) where
  es : List (κ × β × Nat)
  clock : Nat
namespace SM
variable {κ β : Type}
def new : SM κ β := ⟨[], 0⟩
def getL [BEq κ] : List (κ × β × Nat) → κ → Option β
  | [], _ => none
  | e :: l, k => if (k == e.1) = true then some e.2.1 else getL l k
def putL [BEq κ] : List (κ × β × Nat) → κ → β → Nat → List (κ × β × Nat)
  | [], k, v, c => [(k, v, c)]
  | e :: l, k, v, c => if (k == e.1) = true then (k, v, e.2.2) :: l else e :: putL l k v c
def get [BEq κ] (m : SM κ β) (k : κ) : Option β := getL m.es k
def has [BEq κ] (m : SM κ β) (k : κ) : Bool := (m.get k).isSome
/-- What a lookup yields. -/
def at_ [BEq κ] (m : SM κ β) (k : κ) (z : β) : β := (m.get k).getD z
def put [BEq κ] (m : SM κ β) (k : κ) (v : β) : SM κ β := ⟨putL m.es k v m.clock, if (m.get k).isSome then m.clock else m.clock + 1⟩
def obj (ke : κ → Value) (ve : β → Value) (m : SM κ β) : Obj := .map (m.es.map fun e => { key := ke e.1, val := ve e.2.1, born := e.2.2 }).toArray m.clock
theorem getL_put [BEq κ] [LawfulBEq κ] (l : List (κ × β × Nat)) (k k' : κ) (v : β) (c : Nat) : getL (putL l k v c) k' = if (k' == k) = true then some v else getL l k' := by
  induction l with
  | nil =>
    by_cases h : k' = k
    · subst h; simp [getL, putL]
    · simp [getL, putL, h]
  | cons p l ih =>
    simp only [putL]
    by_cases h1 : k = p.1
    · subst h1
      by_cases h2 : k' = p.1
      · simp [getL, h2]
      · simp [getL, h2]
    · have h1' : (k == p.1) = false := by simp [h1]
      rw [h1', if_neg (by simp)]
      by_cases h2 : k' = p.1
      · have h3 : ¬ k' = k := fun e => h1 (e.symm.trans h2)
        subst h2
        simp [getL, h3]
      · simp only [getL, beq_iff_eq, h2, if_false, ih]
theorem get_put [BEq κ] [LawfulBEq κ] (m : SM κ β) (k k' : κ) (v : β) : (m.put k v).get k' = if (k' == k) = true then some v else m.get k' := getL_put _ _ _ _ _
theorem putL_none [BEq κ] (l : List (κ × β × Nat)) (k : κ) (v : β) (c : Nat) (h : getL l k = none) : putL l k v c = l ++ [(k, v, c)] := by
  induction l with
  | nil => rfl
  | cons p l ih =>
    simp only [getL] at h
    split at h
    · exact absurd h (by simp)
    · rename_i hc; simp only [putL, if_neg hc, List.cons_append, ih h]

/-- What is asked of the keys. -/
structure Key [BEq κ] (P : Program) (kt : TypeId) (ke : κ → Value) : Prop where
  desc : ∃ d, P.underlying kt = some d ∧ (∀ a b, Instr.sameNow d (ke a) (ke b) = some (a == b)) ∧ ∀ (b : Bool) (n : Nat) (a : κ) (w : World), (Instr.checkKey b (n + 1) kt (ke a)).run P w = .ok () w
  bits : ∀ a b, (a == b) = true → ke a = ke b ∧ Instr.sameBits 10000 (ke a) (ke b) = true
theorem key_str {P : Program} {kt : TypeId} (h : P.underlying kt = some .string) : Key P kt Value.string where
  desc := ⟨_, h, fun _ _ => rfl, fun b n a w => by simp [Instr.checkKey, run_underlying h]⟩
  bits a b hab := by
    have := eq_of_beq hab
    subst this
    exact ⟨rfl, by simp [Instr.sameBits]⟩
section
variable [BEq κ] {P : Program} {kt et t : TypeId} {ke : κ → Value} {ve : β → Value}
theorem findNow_ {d : TypeDesc} (hs : ∀ a b, Instr.sameNow d (ke a) (ke b) = some (a == b)) (hb : ∀ a b : κ, (a == b) = true → ke a = ke b ∧ Instr.sameBits 10000 (ke a) (ke b) = true) (l : List (κ × β × Nat)) (k : κ) (i : Nat) :
    (getL l k = none ∧ Instr.findNow d (ke k) (l.map fun e => ({ key := ke e.1, val := ve e.2.1, born := e.2.2 } : MapEntry)) i = some none) ∨
    ∃ j v, getL l k = some v ∧ Instr.findNow d (ke k) (l.map fun e => ({ key := ke e.1, val := ve e.2.1, born := e.2.2 } : MapEntry)) i = some (some (i + j, ve v)) ∧
      (((l.map fun e => ({ key := ke e.1, val := ve e.2.1, born := e.2.2 } : MapEntry))[j]?).map (·.key)) = some (ke k) ∧
      ∀ u c, (l.map fun e => ({ key := ke e.1, val := ve e.2.1, born := e.2.2 } : MapEntry)).modify j (fun e => { e with key := ke k, val := ve u }) = (putL l k u c).map fun e => ({ key := ke e.1, val := ve e.2.1, born := e.2.2 } : MapEntry) := by
  induction l generalizing i with
  | nil => exact .inl ⟨rfl, rfl⟩
  | cons p l ih =>
    cases hc : (k == p.1) with
    | true =>
      right
      refine ⟨0, p.2.1, by simp [getL, hc], ?_, ?_, fun u c => ?_⟩
      · simp [Instr.findNow, hs, hc]
      · simp [(hb _ _ hc).1]
      · simp [putL, hc]
    | false =>
      have hf : Instr.findNow d (ke k) ((p :: l).map fun e => ({ key := ke e.1, val := ve e.2.1, born := e.2.2 } : MapEntry)) i = Instr.findNow d (ke k) (l.map fun e => ({ key := ke e.1, val := ve e.2.1, born := e.2.2 } : MapEntry)) (i + 1) := by
        simp [Instr.findNow, hs, hc]
      have hg : getL (p :: l) k = getL l k := by simp [getL, hc]
      rcases ih (i + 1) with ⟨h1, h2⟩ | ⟨j, v, h1, h2, h3, h4⟩
      · exact .inl ⟨hg.trans h1, hf.trans h2⟩
      · right
        refine ⟨j + 1, v, hg.trans h1, ?_, by simpa using h3, fun u c => ?_⟩
        · rw [hf, h2]; congr 3; omega
        · simp only [putL, hc, List.map_cons, List.modify_succ_cons, h4 u c]; rfl
/-- A lookup. -/
theorem run_look (ht : P.underlying t = some (.map kt et)) (hk : Key P kt ke) {z : Value} {w : World} (hz : (zeroValue et).run P w = .ok z w) {b : Nat} {m : SM κ β} (h : w.heap[b]? = some (obj ke ve m)) (k : κ) :
    (Instr.lookup t (.map (some b)) (ke k) false).run P w = .ok (((m.get k).map ve).getD z) w ∧ (Instr.lookup t (.map (some b)) (ke k) true).run P w = .ok (.tuple #[((m.get k).map ve).getD z, .bool (m.has k)]) w := by
  obtain ⟨d, hd, hs, hck⟩ := hk.desc
  rcases findNow_ (ve := ve) hs hk.bits m.es k 0 with ⟨h1, h2⟩ | ⟨j, v, h1, h2, _⟩
  · constructor <;> simp [Instr.lookup, run_underlying ht, run_underlying hd, getObj, Sem.run, h, obj, hck, Instr.findKey, h2, get, has, h1, hz, Result.andThen]
  · constructor <;> simp [Instr.lookup, run_underlying ht, run_underlying hd, getObj, Sem.run, h, obj, hck, Instr.findKey, h2, get, has, h1, hz, Result.andThen]
/-- A store: only the map's block turns. -/
theorem run_put (ht : P.underlying t = some (.map kt et)) (hk : Key P kt ke) {w : World} {b : Nat} {m : SM κ β} (h : w.heap[b]? = some (obj ke ve m)) (k : κ) (u : β) :
    ∃ w1, (Instr.mapUpdate t (.map (some b)) (ke k) (ve u)).run P w = .ok () w1 ∧ w1.heap[b]? = some (obj ke ve (m.put k u)) ∧ w.grownBy w1 (some b) := by
  obtain ⟨d, hd, hs, hck⟩ := hk.desc
  have hlt := blk_lt h
  have hset : ∀ o, ({ w with heap := w.heap.setIfInBounds b o } : World).heap[b]? = some o := fun o => by simp [Array.getElem?_setIfInBounds, hlt]
  have hgrow : ∀ o, w.grownBy { w with heap := w.heap.setIfInBounds b o } (some b) := fun o => ⟨rfl, rfl, rfl, by simp, fun i hi hne => Array.getElem?_setIfInBounds_ne (fun e => hne (by rw [e]))⟩
  have hbit := (hk.bits k k)
  refine ⟨{ w with heap := w.heap.setIfInBounds b (obj ke ve (m.put k u)) }, ?_, hset _, hgrow _⟩
  rcases findNow_ (ve := ve) hs hk.bits m.es k 0 with ⟨h1, h2⟩ | ⟨j, v, h1, h2, h3, h4⟩
  · have hp := putL_none m.es k u m.clock h1
    simp [Instr.mapUpdate, run_underlying ht, run_underlying hd, getObj, setObj, Sem.run, h, obj, hck, Instr.findKey, h2, Result.andThen, put, get, h1, hp]
  · have hkk : Instr.sameBits 10000 (ke k) (ke k) = true := by
      have : ∃ e ∈ m.es, (k == e.1) = true := by
        clear h2 h3 h4 h
        generalize m.es = l at h1
        induction l with
        | nil => simp [getL] at h1
        | cons p l ih =>
          by_cases hc : (k == p.1) = true
          · exact ⟨p, by simp, hc⟩
          · simp only [getL, if_neg hc] at h1
            obtain ⟨e, he, hh⟩ := ih h1
            exact ⟨e, by simp [he], hh⟩
      obtain ⟨e, _, hh⟩ := this
      obtain ⟨e1, e2⟩ := hk.bits _ _ hh
      rw [← e1] at e2
      exact e2
    have h5 := h4 u m.clock
    have hobj : obj ke ve (m.put k u) = .map ((putL m.es k u m.clock).map fun e => ({ key := ke e.1, val := ve e.2.1, born := e.2.2 } : MapEntry)).toArray m.clock := by simp [obj, put, get, h1]
    rw [hobj]
    have hm : obj ke ve m = .map (m.es.map fun e => ({ key := ke e.1, val := ve e.2.1, born := e.2.2 } : MapEntry)).toArray m.clock := rfl
    rw [hm] at h
    clear hobj hm h4
    rw [← h5]
    clear h5
    generalize (m.es.map fun e => ({ key := ke e.1, val := ve e.2.1, born := e.2.2 } : MapEntry)) = l at h h2 h3
    have h7 : (Option.map (fun (x : MapEntry) => x.key) (l[j]?)).getD (ke k) = ke k := by rw [h3]; rfl
    simp [Instr.mapUpdate, run_underlying ht, run_underlying hd, getObj, setObj, Sem.run, h, hck, Instr.findKey, h2, Result.andThen, Instr.keyThatStays, h7, hkk]
end
end SM
section
variable {κ β : Type} {P : Program} {ops : Array Oper} {rest : List Oper} {o : Oper} {a : Act} {Q : Exit → Act → World → Prop} {ke : κ → Value} {ve : β → Value}
theorem newmap_event {W : World} (hgd : o.guard = none) {N : Tmp} (_hd : o.dst = some N) {t : TypeId} (ho : o.op = .makeMap t none)
    (h : ∀ g, g = W.heap.size → ∀ w1, w1.heap[g]? = some (SM.obj ke ve (SM.new : SM κ β)) → Below W.heap.size W w1 → wpList P ops Q rest (a.put o.dst (.map (some g))) w1) : wpList P ops Q (o :: rest) a W := by
  refine Kd.event_run (w1 := W.alloc (SM.obj ke ve (SM.new : SM κ β))) hgd ?_ (h _ rfl _ (blk_new W _) (below_alloc (Below.refl _ _) _))
  unfold execOp
  rw [ho]
  rfl
theorem look_event [BEq κ] {t kt et : TypeId} (x ix : Operand) (ho : o.op = .lookup t x ix false) (hgd : o.guard = none) (ht : P.underlying t = some (.map kt et)) (hk : SM.Key P kt ke) {z : β} (hz : ∀ w, (zeroValue et).run P w = .ok (ve z) w) {W : World} {g : Nat} {m : SM κ β} (k : κ)
    (hx : a.eval x = .map (some g)) (hi : a.eval ix = ke k) (hb : W.heap[g]? = some (SM.obj ke ve m)) (h : wpList P ops Q rest (a.put o.dst (ve (m.at_ k z))) W) : wpList P ops Q (o :: rest) a W := by
  refine Kd.event_run hgd ?_ h
  have h1 := (SM.run_look ht hk (hz W) hb k).1
  have h2 : ((m.get k).map ve).getD (ve z) = ve ((m.get k).getD z) := by cases m.get k <;> rfl
  rw [h2] at h1
  unfold execOp
  rw [ho]
  simp only [hx, hi]
  simp only [Sem.run_bind, h1, Result.andThen]
  rfl
theorem mput_event [BEq κ] {t kt et : TypeId} (x y v : Operand) (ho : o.op = .mapUpdate t x y v) (hgd : o.guard = none) (hN : o.dst = none) (ht : P.underlying t = some (.map kt et)) (hk : SM.Key P kt ke) {W : World} {g : Nat} {m : SM κ β} (k : κ) (u : β)
    (hx : a.eval x = .map (some g)) (hy : a.eval y = ke k) (hv : a.eval v = ve u) (hb : W.heap[g]? = some (SM.obj ke ve m))
    (h : ∀ w1, w1.heap[g]? = some (SM.obj ke ve (m.put k u)) → W.grownBy w1 (some g) → wpList P ops Q rest a w1) : wpList P ops Q (o :: rest) a W := by
  obtain ⟨w1, h1, h2, h3⟩ := SM.run_put ht hk hb k u
  refine wpList_plain hgd fun K hK => ?_
  unfold Oper.wp
  have hrun : (execOp a.eval o).run P W = .ok .skip w1 := by
    unfold execOp
    rw [ho]
    simp only [hx, hy, hv]
    simp only [Sem.run_bind, h1, Result.andThen]
    rfl
  rw [hrun]
  show K (a.put o.dst undef) w1
  rw [hN]
  exact hK _ _ (h _ h2 h3)
end
theorem zero_run {P : Program} {t : TypeId} {z : Value} (h : (P.info? t).bind (fun i => i.zero) = some z) (w : World) : (zeroValue t).run P w = .ok z w := by
  cases hi : P.info? t with
  | none => rw [hi] at h; cases h
  | some i =>
    rw [hi] at h
    simp at h
    simp [zeroValue, typeInfo, hi, h, Result.andThen]
theorem blk_farM {w : World} {g : Nat} {o : Obj} (h : w.heap[g]? = some o) {p : Addr} (hp : g ≠ p.block) (u : Value) : (w.setCell p u).heap[g]? = some o := (Below.heap_setCell w p u g hp).trans h
theorem below_map {B : Nat} {a W w1 : World} {g : Nat} (h : Below B a W) (hg : W.grownBy w1 (some g)) (hB : B ≤ W.heap.size) (hr : B ≤ g) : Below B a w1 := h.grown hg hB (fun k e => by injection e with e; omega)
namespace Kd
variable {κ β α : Type} {ke : κ → Value} {ve : β → Value} {m : SM κ β} {d : Kd α} {e base g : Nat} {ok : Nat → Prop} {w : World} {v : Value} {xs : List α}
end Kd
namespace Kd
end Kd
end Go.Proofs.YtkdbcaegeeeiaaaGreat.Sm
