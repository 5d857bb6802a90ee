/-
  critical.tails, by hand: the range over slices.Backward (a range over a function), and what its body does to a row of its own.
-/
import Derived.Test.YtkdbcaegeeeiaaaGreatHof
import Derived.RangeFuncNested
import Derived.RangeFuncBound
import Derived.RangeFuncCalls
import Derived.RangeFuncLeaves
import Derived.Shelf.Abstract
import Derived.Shelf.RegionOpen
import Derived.WalkKit
import Derived.OwnWalkIn
import Derived.TacticsInMore
import Derived.LoopNIn
import Derived.LoopIn
set_option linter.unusedVariables false
set_option linter.unusedSimpArgs false
namespace Go.Proofs.YtkdbcaegeeeiaaaGreat.Tails
open Go.RowKit Go.Shelf Go.Proofs.YtkdbcaegeeeiaaaGreatW.PrintWords Go.Proofs.YtkdbcaegeeeiaaaGreatW.PrintLast Go.Proofs.YtkdbcaegeeeiaaaGreatW.PrintMore Go.Proofs.YtkdbcaegeeeiaaaGreat.P Go.Proofs.YtkdbcaegeeeiaaaGreat.Hof
attribute [local go_sem] Oper.semAt_some
abbrev Sp := S40
section
variable {F : Fence} {n : Nat} {P : Program} {ops : Array Oper} {rest : List Oper} {o : Oper} {a : Act} {Q : Exit → Act → World → Prop}
theorem wpListIn_load_agg {w : World} (hgd : o.guard = none) (ty : TypeId) (x : Operand) (ho : o.op = .load ty x) (ad : Addr) (hx : a.eval x = .pointer (some ad))
    (d : TypeDesc) (hu : P.underlying ty = some d) (hd : (match d with | .struct _ | .array _ _ => true | _ => false) = true) (cs : List Value) (hi : (P.info? ty).map (·.size) = some cs.length) (hc : ∀ j v, cs[j]? = some v → w.cell? (ad.add j) = some v)
    (h : wpListIn F n P ops Q rest (a.put o.dst (.agg cs.toArray)) w) : wpListIn F n P ops Q (o :: rest) a w := by
  refine wpListIn_plain hgd fun K hK' => ?_
  unfold Oper.wpIn
  refine ⟨?_, ?_⟩
  · simp [Oper.about, ho]
  · rw [Oper.semAt_plain F _ _ (by rw [ho]; intro c hc'; cases hc')]
    simp only [execOp, ho, hx, Instr.loadAt, Instr.sureAddr, Sem.run_bind, Sem.run_pure, Result.andThen_ok, hof_loadVar w ad ty cs d hu hd hi hc]
    exact hK' _ _ h
end
def back (n k : Nat) : List (Fin n) := ((List.finRange n).drop k).reverse
theorem back_all (n : Nat) : back n n = [] := by simp [back]
theorem back_succ {n k : Nat} (h : k < n) : back n k = back n (k + 1) ++ [⟨k, h⟩] := by
  unfold back
  rw [List.drop_eq_getElem_cons (by simpa using h), List.reverse_cons]
  simp
def stp (x : Sp) (s : Int × List Int) (i : Nat) : Int × List Int := (wrap64 (s.1 + wrap64 (x.f1 + x.f2)), s.2.set i (wrap64 (s.1 + x.f2)))
def st (l : List Sp) (is : List (Fin l.length)) : Int × List Int := is.foldl (fun s i => stp l[i.1] s i.1) (0, List.replicate l.length 0)
theorem st_snoc (l : List Sp) (is : List (Fin l.length)) (i : Fin l.length) : st l (is ++ [i]) = stp l[i.1] (st l is) i.1 := by simp [st]
theorem st_len (l : List Sp) : ∀ is : List (Fin l.length), (st l is).2.length = l.length := by
  intro is
  unfold st
  generalize hs : ((0 : Int), List.replicate l.length (0 : Int)) = s
  have h0 : s.2.length = l.length := by rw [← hs]; simp
  clear hs
  induction is generalizing s with
  | nil => exact h0
  | cons i is ih => exact ih _ (by simpa [stp] using h0)
def tl : List Sp → Int × List Int
  | [] => (0, [])
  | x :: xs => (wrap64 ((tl xs).1 + wrap64 (x.f1 + x.f2)), wrap64 ((tl xs).1 + x.f2) :: (tl xs).2)
theorem tl_len : ∀ l, (tl l).2.length = l.length
  | [] => rfl
  | x :: xs => by simp [tl, tl_len xs]
theorem st_back (l : List Sp) : ∀ d k, k + d = l.length → st l (back l.length k) = ((tl (l.drop k)).1, List.replicate k 0 ++ (tl (l.drop k)).2)
  | 0, k, h => by
    obtain rfl : k = l.length := by omega
    rw [back_all]; simp [st, tl]
  | d + 1, k, h => by
    have hk : k < l.length := by omega
    rw [back_succ hk, st_snoc, st_back l d (k + 1) (by omega), List.drop_eq_getElem_cons hk]
    simp only [stp, tl]
    congr 1
    rw [List.replicate_succ', List.append_assoc, List.set_append_right _ _ (by simp)]
    simp
def critical_tails.f (_a0_0 : ByteArray) (l0_1 : List Sp) (_a0_2 : Int) (_a0_3 : Int) (_a0_4 : Int) : Option (List Int) := if l0_1.length < 17592186044416 then some (tl l0_1).2 else none
theorem back_calls (A : Option Addr) (len c : Nat) (w : World) : Calls Tryz.prog 167 #[.slice A len c] w fun e w' => ∃ g, e = .returned (.func (.func 193) #[] #[.pointer (some ⟨g, 0, none⟩)]) ∧ w.heap.size ≤ g ∧ w'.heap[g]? = some (.cells #[.slice A len c] 36 (0, 0)) ∧ Below w.heap.size w w' := by
  go_enter Tryz.func167, Tryz.ntmps167
  go_wp2_with ((with_reducible refine gate_dst (N := 1) rfl ?_); refine box_event ?hg (N := 1) ?hd (cs := #[.slice A len c]) (t := 36) ?hr ?_; (case hd => rfl); (case hg => rfl); (case hr => first | (go_simp; done) | (go_simp; rfl)); intro gj hg w1 hbox hb; have B1 := Aside0.mk hb; have J1 := Aside0.mk hbox; have G1 := Aside0.mk (show w.heap.size ≤ gj from hg ▸ Nat.le_refl _); clear hb hbox hg)
  go_ret
  exact ⟨gj, rfl, G1.out, J1.out, B1.out⟩
abbrev encB (l : List Sp) (i : Fin l.length) : Array Value := #[.int .i64 (i.1 : Int), .agg #[.string l[i.1].f0, .int .i64 l[i.1].f1, .int .i64 l[i.1].f2]]
/-- What a round keeps for the iterator: what lay before the call, and the box of the slice. -/
def KpB (n0 g : Nat) (W W' : World) : Prop := Below n0 W W' ∧ W'.heap[g]? = W.heap[g]?
set_option maxRecDepth 100000 in
set_option maxHeartbeats 2000000 in
theorem back_stops (n : Nat) (hn : 1 ≤ n) (g n0 : Nat) (A : Option Addr) (c : Nat) (l : List Sp) (w0 w : World) (hr : Kd.C k40 w0 A l.length l) (h0 : w0.heap.size = n0) (hb : Below n0 w0 w) (hg : w.heap[g]? = some (.cells #[.slice A l.length c] 36 (0, 0))) :
    SeqStopsK Fence.wide n Tryz.prog 193 #[.pointer (some ⟨g, 0, none⟩)] (encB l) (KpB n0 g) (fun ys => ys = back l.length 0) (fun _ => True) l.length w := by
  intro L J Jx W hW hJa hJxa hY hJ0
  have hlen : l.length ≤ 9223372036854775807 := hr.2.1
  have hgW : W.heap[g]? = some (.cells #[.slice A l.length c] 36 (0, 0)) := (hW.block g (blk_lt hg)).trans hg
  have hbW : Below n0 w0 W := hb.trans (hW.mono (h0 ▸ hb.size))
  have HGW := Aside0.mk hgW
  have HBW := Aside0.mk hbW
  have HR := Aside0.mk hr
  clear hr hW hg hb hbW
  refine callsIn_of_wp Tryz.func193 rfl trivial ?_ rfl
  simp only [Tryz.ntmps193, List.size_toArray, List.length_cons, List.length_nil, Nat.reduceAdd, Nat.reduceSub, Array.replicate_succ, Array.replicate_zero, List.push_toArray, List.append_toArray, List.nil_append, List.cons_append]
  have hc0 : W.cell? ⟨g, 0, none⟩ = some (.slice A l.length c) := (blk_cell hgW 0).trans rfl
  clear hgW
  gi_wp2
  gi_loopw [3] (fun i wr => ∃ k : Nat, k ≤ l.length ∧ i = .int .i64 ((k : Int) - 1) ∧ J (back l.length k) wr ∧ Aside0 (KpB n0 g W wr))
    (fun i _ => (intOf i + 1).toNat)
  case atStart => exact ⟨l.length, Nat.le_refl _, rfl, by rw [back_all]; exact hJ0, ⟨Below.refl _ _, rfl⟩⟩
  case round =>
    obtain ⟨k, hk, rfl, hJs, HK⟩ := hrel
    cases k with
    | zero =>
      gi_wp2
      go_end0
      exact ⟨⟨_, rfl⟩, .inl ⟨_, rfl, hJs⟩⟩
    | succ k =>
      have hlt : k < l.length := by omega
      obtain ⟨fn, tmps, assign, body, hy, hR⟩ := hY _ ⟨k, hlt⟩ wr hJs (by simp [back]; omega)
      dsimp only [encB] at hy
      have hc1 : wr.cell? ⟨g, 0, none⟩ = some (.slice A l.length c) := by have := HK.out.2.trans HGW.out; exact (blk_cell this 0).trans rfl
      have hBr : Below n0 w0 wr := HBW.out.trans HK.out.1
      obtain ⟨ad, cs, he, hcl, hKx, hcell⟩ := Kd.C_get (Kd.C_below HR.out (h0 ▸ hBr)) z40 (k : Int) (by omega) (by omega)
      have hx : l.getD (k : Int).toNat z40 = l[k] := by simp [List.getD_eq_getElem?_getD, hlt]
      rw [hx] at hKx
      obtain rfl := k40_open hKx
      simp only [Int.toNat_natCast] at hcell hKx
      have HL : Aside0 (∀ j v, [Value.string l[k].f0, .int .i64 l[k].f1, .int .i64 l[k].f2][j]? = some v → wr.cell? ((ad.add (k * 3)).add j) = some v) := ⟨fun j v hv => by rw [add_add]; exact hcell j v hv⟩
      have HI : Aside0 ((Tryz.prog.info? 40).map (·.size) = some [Value.string l[k].f0, .int .i64 l[k].f1, .int .i64 l[k].f2].length) := ⟨by kernel_rfl⟩
      subst he
      clear hx hcell hKx hcl hc0 hBr
      have hk1 : ((k + 1 : Nat) : Int) - 1 = (k : Int) := by omega
      rw [hk1]
      gi_wp2_with (refine wpListIn_load_agg rfl 40 (.tmp 15) rfl _ rfl _ Tryz.underlying40 rfl _ HI.out HL.out ?_)
      refine hR.mono ?_
      rintro e W3 (⟨rfl, hJ3, hk3⟩ | ⟨rfl, hJx3⟩)
      · gi_wp2
        go_roundw
        case rel => exact ⟨k, by omega, by go_num, by rw [back_succ hlt]; exact hJ3, ⟨HK.out.1.trans hk3.1, hk3.2.trans HK.out.2⟩⟩
        case measure => simp [intOf]
      · gi_wp2
        refine bodyPost_ret (results_none rfl _ _ _) rfl ?_
        exact ⟨⟨_, rfl⟩, .inr ⟨_, trivial, hJx3⟩⟩
/-- Between two rounds: the box of out, the box of n, the row. -/
abbrev In (w0 : World) (gs go gn : Nat) (v1 : Value) (s : Int × List Int) (W : World) : Prop :=
  Below w0.heap.size w0 W ∧ W.heap[go]? = some (.cells #[v1] 58 (0, 0)) ∧ W.heap[gn]? = some (.cells #[.int .i64 s.1] 3 (0, 0)) ∧ Kd.R (Kd.int .i64) 3 W w0.heap.size (fun k => k = gs) v1 s.2
theorem In_grown {w0 : World} {gs go gn : Nat} {v1 : Value} {s : Int × List Int} {W W' : World} {row : Option Nat} (h : In w0 gs go gn v1 s W) (hg : W.grownBy W' row) (hr : ∀ r, row = some r → w0.heap.size ≤ r ∧ r ≠ gs ∧ r ≠ go ∧ r ≠ gn) : In w0 gs go gn v1 s W' :=
  ⟨h.1.grown hg h.1.size (fun k e => (hr k e).1), blk_grown h.2.1 hg (fun e => (hr _ e.symm).2.2.1 rfl), blk_grown h.2.2.1 hg (fun e => (hr _ e.symm).2.2.2 rfl), Kd.R_grown h.2.2.2 hg (fun k hk e => (hr _ e.symm).2.1 hk)⟩
theorem In_below {w0 : World} {gs go gn : Nat} {v1 : Value} {s : Int × List Int} {W W' : World} (h : In w0 gs go gn v1 s W) (hb : Below W.heap.size W W') : In w0 gs go gn v1 s W' :=
  ⟨below_step h.1 hb, blk_below h.2.1 hb, blk_below h.2.2.1 hb, Kd.R_below h.2.2.2 hb⟩
set_option maxRecDepth 100000 in
set_option maxHeartbeats 2000000 in
theorem critical_tails.calls (a0_0 : ByteArray) (A0_1 : Option Addr) (c0_1 : Nat) (l0_1 : List Sp) (a0_2 : Int) (a0_3 : Int) (a0_4 : Int) (r : List Int) (w : World) (hr0_1 : Kd.C k40 w A0_1 l0_1.length l0_1) (hc0_1 : l0_1.length ≤ c0_1) (h : critical_tails.f a0_0 l0_1 a0_2 a0_3 a0_4 = some r) :
    Calls Tryz.prog 127 #[.agg #[.string a0_0, .slice A0_1 l0_1.length c0_1, .int .i64 a0_2, .int .i64 a0_3, .int .i64 a0_4]] w fun e w' => ∃ v0_ : Value, e = .returned (v0_) ∧ Kd.R (Kd.int .i64) 3 w' w.heap.size (fun _ => True) v0_ r ∧ Below w.heap.size w w' := by
  unfold critical_tails.f at h
  by_cases hb : l0_1.length < 17592186044416
  case neg => rw [if_neg hb] at h; cases h
  rw [if_pos hb] at h
  obtain rfl := Option.some.inj h
  clear h
  have HR := Aside0.mk hr0_1
  have HB := Aside0.mk hb
  clear hr0_1
  refine (callsIn_wide (n := 4)).1 ?_
  refine callsIn_of_wp_marks Tryz.func127 rfl trivial ?_ rfl
  refine wpIn_wide.2 ?_
  simp only [Tryz.ntmps127, List.size_toArray, List.length_cons, List.length_nil, Nat.reduceAdd, Nat.reduceSub, Array.replicate_succ, Array.replicate_zero, List.push_toArray, List.append_toArray, List.nil_append, List.cons_append]
  go_wp2_with (first | ((with_reducible refine gate_dst (N := 1) rfl ?_); refine box_event ?hg (N := 1) ?hd (cs := #[.string a0_0, .slice A0_1 l0_1.length c0_1, .int .i64 a0_2, .int .i64 a0_3, .int .i64 a0_4]) (t := 38) ?hr ?_; (case hd => rfl); (case hg => rfl); (case hr => first | (go_simp; done) | (go_simp; rfl)); intro gj hg w1 hbox hb; have B1 := Aside0.mk hb; have J1 := Aside0.mk hbox; have hj1 : w1.cell? ⟨gj, 1, none⟩ = some (.slice A0_1 l0_1.length c0_1) := (blk_cell hbox 1).trans rfl; clear hb hbox hg) | ((with_reducible refine gate_dst (N := 10) rfl ?_); refine Kd.R_make (Kd.int .i64) (w0 := w) w.heap.size 3 rfl (N := 10) rfl 58 (.tmp 9) (.tmp 9) rfl (l0_1.length : Int) ?hx ?hy Tryz.underlying58 (.int .i64 0) 8 info3 rfl (by decide) (by decide) (0 : Int) (ok := fun k => k = w1.heap.size) (okp := fun _ => False) rfl (fun _ h => h.elim) rfl (by omega) (by omega) B1.out B1.out.size ?_; (case hx => first | rfl | (go_simp; done) | (go_simp; rfl)); (case hy => first | rfl | (go_simp; done) | (go_simp; rfl)); intro v1 w2 hR hb hg hv; rw [Int.toNat_natCast] at hR; obtain ⟨Av, cv, hv1⟩ := Kd.R_slice hR; rw [List.length_replicate] at hv1; subst hv1; have GS := Aside0.mk (show w1.heap.size < w2.heap.size by obtain ⟨b, e, _⟩ := hv; have e1 := hR.1 b e; have e2 := own_lt (Kd.own_of_R hR) b e; omega); have B2 := Aside0.mk hb; have R2 := Aside0.mk hR; have J2 := Aside0.mk (blk_grown J1.out hg (by simp)); clear hR hb hg hv hj1) | ((with_reducible refine gate_dst (N := 3) rfl ?_); refine box_event ?hg (N := 3) ?hd (cs := #[.slice none 0 0]) (t := 58) ?hr ?_; (case hd => rfl); (case hg => rfl); (case hr => first | (go_simp; done) | (go_simp; rfl)); intro go hg w3 hbox hb; have B3 := Aside0.mk (below_step B2.out hb); have O3 := Aside0.mk hbox; have J3 := Aside0.mk (blk_below J2.out hb); have R3 := Aside0.mk (Kd.R_below R2.out hb); have GO := Aside0.mk (show w.heap.size ≤ go from hg ▸ B2.out.size); have NJO := Aside0.mk (show gj ≠ go from fun h_ => by have := blk_lt J2.out; omega); have NSO := Aside0.mk (show w1.heap.size ≠ go from fun h_ => by have := GS.out; omega); have GS3 := Aside0.mk (show w1.heap.size < w3.heap.size by have := GS.out; have := hb.size; omega); have hc0 := (blk_cell hbox 0).trans rfl; have hf0 := blk_frozen hbox 0; clear hb hbox hg) | ((with_reducible refine gate_store (t := 58) (p := 3) rfl ?_); refine store_event (t := 58) (p := 3) (v := ?vo_) (w1 := w3.setCell ⟨go, 0, none⟩ (.slice Av l0_1.length cv)) ?hg ?ho ?hn ?hr ?_; (case ho => rfl); (case hg => rfl); (case hn => rfl); (case hr => first | (go_simp; done) | (go_simp; rfl)); intro w4 hw; have B4 := Aside0.mk (show Below w.heap.size w w4 by rw [hw]; exact below_set B3.out GO.out); have O4 : Aside0 (w4.heap[go]? = some (.cells #[(.slice Av l0_1.length cv)] 58 (0, 0))) := ⟨by rw [hw]; exact blk_put O3.out 0 _ rfl⟩; have J4 := Aside0.mk (show w4.heap[gj]? = some (.cells #[.string a0_0, .slice A0_1 l0_1.length c0_1, .int .i64 a0_2, .int .i64 a0_3, .int .i64 a0_4] 38 (0, 0)) by rw [hw]; exact blk_far J3.out NJO.out _); have R4 := Aside0.mk (show (Kd.int .i64).R 3 w4 w.heap.size (fun k => k = w1.heap.size) (.slice Av l0_1.length cv) (List.replicate l0_1.length 0) by rw [hw]; exact Kd.R_far R3.out (fun k hk => by rw [hk]; exact NSO.out) _); have GS4 := Aside0.mk (show w1.heap.size < w4.heap.size by rw [hw]; simpa [World.setCell] using GS3.out); clear hw hc0 hf0) | ((with_reducible refine gate_dst (N := 4) rfl ?_); refine box_event ?hg (N := 4) ?hd (cs := #[.int .i64 0]) (t := 3) ?hr ?_; (case hd => rfl); (case hg => rfl); (case hr => first | (go_simp; done) | (go_simp; rfl)); intro gn hg w5 hbox hb; have B5 := Aside0.mk (below_step B4.out hb); have O5 := Aside0.mk (blk_below O4.out hb); have J5 := Aside0.mk (blk_below J4.out hb); have R5 := Aside0.mk (Kd.R_below R4.out hb); have N5 := Aside0.mk hbox; have GN := Aside0.mk (show w.heap.size ≤ gn from hg ▸ B4.out.size); have NJN := Aside0.mk (show gj ≠ gn from fun h_ => by have := blk_lt J4.out; omega); have NON := Aside0.mk (show go ≠ gn from fun h_ => by have := blk_lt O4.out; omega); have GS5 := Aside0.mk (show w1.heap.size < w5.heap.size by have := GS4.out; have := hb.size; omega); have NSN := Aside0.mk (show w1.heap.size ≠ gn from fun h_ => by have := GS4.out; omega); have hc0 := (blk_cell hbox 0).trans rfl; have hf0 := blk_frozen hbox 0; clear hb hbox hg) | ((with_reducible refine gate_store (t := 3) (p := 4) rfl ?_); refine store_event (t := 3) (p := 4) (v := ?vo_b) (w1 := w5.setCell ⟨gn, 0, none⟩ (.int .i64 0)) ?hg ?ho ?hn ?hr ?_; (case ho => rfl); (case hg => rfl); (case hn => rfl); (case hr => first | (go_simp; done) | (go_simp; rfl)); intro w6 hw; have GS6 := Aside0.mk (show w1.heap.size < w6.heap.size by rw [hw]; simpa [World.setCell] using GS5.out); have I6 : Aside0 (In w w1.heap.size go gn (.slice Av l0_1.length cv) (0, List.replicate l0_1.length 0) w6) := ⟨by rw [hw]; exact ⟨below_set B5.out GN.out, blk_far O5.out NON.out _, blk_put N5.out 0 _ rfl, Kd.R_far R5.out (fun k hk => by rw [hk]; exact NSN.out) _⟩⟩; have hj6 : w6.cell? ⟨gj, 1, none⟩ = some (.slice A0_1 l0_1.length c0_1) := (blk_cell (by rw [hw]; exact blk_far J5.out NJN.out _ : w6.heap[gj]? = some (.cells #[.string a0_0, .slice A0_1 l0_1.length c0_1, .int .i64 a0_2, .int .i64 a0_3, .int .i64 a0_4] 38 (0, 0))) 1).trans rfl; clear hw hc0 hf0) | (go_at_call 167; refine (back_calls A0_1 l0_1.length c0_1 w6).mono ?_; rintro e w7 ⟨g, rfl, hgw, hgb, hb7⟩; have G7 := Aside0.mk hgb; have GW := Aside0.mk hgw; have S67 := Aside0.mk hb7.size; have I7 := Aside0.mk (In_below I6.out hb7); clear hgb hgw hb7 hj6))
  clear B1 J1 GS B2 R2 J2 B3 O3 J3 R3 NJO GS3 B4 O4 J4 R4 GS4 B5 O5 J5 R5 N5 NJN GS5
  have hgs6 := GS6.out
  have hgo6 := blk_lt I6.out.2.1
  have hgn6 := blk_lt I6.out.2.2.1
  have hg6 := GW.out
  have hs67 := S67.out
  have hg7 := blk_lt G7.out
  have non := NON.out
  have nso := NSO.out
  have nsn := NSN.out
  have hwg := GO.out
  have hwn := GN.out
  have hw7 := I7.out.1.size
  clear GS6 GW S67 NON NSO NSN GO GN I6
  refine wpIn_wide.1 (wpIn_rangeFunc_ownH (F := Fence.wide) (n := 4) rfl (by decide) (gf := 193) (lb := #[.pointer (some ⟨g, 0, none⟩)]) rfl trivial (enters_of Tryz.func193 (by kernel_rfl) rfl)
    (back_stops 3 (by decide) g w.heap.size A0_1 c0_1 l0_1 w w7 HR.out rfl I7.out.1 G7.out) (fun h k => ⟨h.1.trans k.1, k.2.trans h.2⟩)
    (fun W L o o' hl h hc hw => ⟨belowK_b (w := w7) hw7 W L o o' hl h hc hw, (grownBy_putObj' W L o').block g (by have := (Array.getElem?_eq_some_iff.1 h).1; omega) (fun e => by have e1 := Option.some.inj e; omega)⟩) (Below.refl _ _) (fun _ => rfl)
    (fun pre W => In w w1.heap.size go gn (.slice Av l0_1.length cv) (st l0_1 pre) W ∧ w7.heap.size ≤ W.heap.size) (fun _ _ _ => False)
    (fun s W W' row hs hg hr => ⟨In_grown hs.1 hg (fun r e => by have := (hr r e).1; refine ⟨?_, ?_, ?_, ?_⟩ <;> omega), Nat.le_trans hs.2 hg.size⟩) (fun _ _ _ _ _ hs _ _ => hs) ⟨I7.out, Nat.le_refl _⟩
    (fun x a' W => ∃ Bx, w7.heap.size ≤ Bx ∧ W.heap[Bx]? = some (.cells #[.string l0_1[x.1].f0, .int .i64 l0_1[x.1].f1, .int .i64 l0_1[x.1].f2] 40 (0, 0)) ∧ a' = { tmps := #[.agg #[.string a0_0, .slice A0_1 l0_1.length c0_1, .int .i64 a0_2, .int .i64 a0_3, .int .i64 a0_4], .pointer (some ⟨gj, 0, none⟩), .slice none 0 0, .pointer (some ⟨go, 0, none⟩), .pointer (some ⟨gn, 0, none⟩), .int .i64 (x.1 : Int), .pointer (some ⟨Bx, 0, none⟩), .pointer (some ⟨gj, 1, none⟩), .slice A0_1 l0_1.length c0_1, .int .i64 l0_1.length, .slice Av l0_1.length cv, .pointer (some ⟨gj, 1, none⟩), .slice A0_1 l0_1.length c0_1, .func (.func 193) #[] #[.pointer (some ⟨g, 0, none⟩)], .int .i64 (x.1 : Int), .agg #[.string l0_1[x.1].f0, .int .i64 l0_1[x.1].f1, .int .i64 l0_1[x.1].f2], undef, undef, undef, undef, undef, undef, undef, undef, undef, undef, undef, undef, undef, undef, undef], defers := [] })
    (fun x a' _ X Y row hs hg hr => by obtain ⟨Bx, h1, h2, h3⟩ := hs; exact ⟨Bx, h1, blk_grown h2 hg (fun e => by obtain ⟨_, o, ho, hc⟩ := hr _ e.symm; rw [h2] at ho; cases ho; cases hc), h3⟩)
    ?assign ?body ?done ?stop)
  case assign =>
    rintro L pre x W K ⟨hI, h7W⟩ hK
    gi_wp2
    have hb8 : Below W.heap.size W (W.alloc (.cells #[.string l0_1[x.1].f0, .int .i64 l0_1[x.1].f1, .int .i64 l0_1[x.1].f2] 40)) := below_alloc (Below.refl _ _) _
    exact hK _ _ ((KeepsOthers.alloc _ _).from _) ⟨hb8.mono hI.1.size, hb8.block g (by omega)⟩ ⟨In_below hI hb8, Nat.le_trans h7W hb8.size⟩ ⟨W.heap.size, h7W, blk_new W _, rfl⟩
  case body =>
    rintro L pre x a' W hL ⟨rr, hrr⟩ ⟨hI, h7W⟩ ⟨Bx, hBx, hbx, rfl⟩ hlt
    have hxl := x.2
    have hlen := st_len l0_1 pre
    have hRr : (Kd.int .i64).R 3 W w.heap.size (fun k => k = w1.heap.size) (.slice Av (st l0_1 pre).2.length cv) (st l0_1 pre).2 := by rw [hlen]; exact hI.2.2.2
    obtain ⟨gr, cap, e, hgr, hgrl, _⟩ := Kd.R_form hRr (by omega)
    injection e with e1 e2 e3
    subst e1
    subst e3
    obtain rfl : gr = w1.heap.size := hRr.1 gr rfl
    have HI := Aside0.mk hI
    have HX := Aside0.mk hbx
    have HR3 := Aside0.mk hRr
    have hcg : W.cell? ⟨go, 0, none⟩ = some (.slice (some ⟨w1.heap.size, 0, none⟩) l0_1.length cv) := (blk_cell hI.2.1 0).trans rfl
    have hcn : W.cell? ⟨gn, 0, none⟩ = some (.int .i64 (st l0_1 pre).1) := (blk_cell hI.2.2.1 0).trans rfl
    have hx1 : W.cell? ⟨Bx, 1, none⟩ = some (.int .i64 l0_1[x.1].f1) := (blk_cell hbx 1).trans rfl
    have hx2 : W.cell? ⟨Bx, 2, none⟩ = some (.int .i64 l0_1[x.1].f2) := (blk_cell hbx 2).trans rfl
    obtain ⟨hcr, hfr⟩ := Kd.R_cell (0 : Int) hRr (x.1 : Int) (by omega) (by omega)
    rw [Int.toNat_natCast] at hcr hfr
    clear hI hbx hRr
    obtain ⟨u8, hu8⟩ : ∃ u8, Value.int .i64 (wrap64 ((st l0_1 pre).1 + l0_1[x.1].f2)) = u8 := ⟨_, rfl⟩
    have hn8 : (W.setCell ⟨w1.heap.size, x.1, none⟩ (.int .i64 (wrap64 ((st l0_1 pre).1 + l0_1[x.1].f2)))).heap[gn]? = some (.cells #[.int .i64 (st l0_1 pre).1] 3 (0, 0)) := blk_far HI.out.2.2.1 (fun h_ => nsn h_.symm) _
    have hX8 : (W.setCell ⟨w1.heap.size, x.1, none⟩ (.int .i64 (wrap64 ((st l0_1 pre).1 + l0_1[x.1].f2)))).heap[Bx]? = some (.cells #[.string l0_1[x.1].f0, .int .i64 l0_1[x.1].f1, .int .i64 l0_1[x.1].f2] 40 (0, 0)) := blk_far HX.out (fun h_ => by have h__ : Bx = w1.heap.size := h_; omega) _
    have hcn8 : (W.setCell ⟨w1.heap.size, x.1, none⟩ (.int .i64 (wrap64 ((st l0_1 pre).1 + l0_1[x.1].f2)))).cell? ⟨gn, 0, none⟩ = some (.int .i64 (st l0_1 pre).1) := (blk_cell hn8 0).trans rfl
    have hfn8 := blk_frozen hn8 0
    have hx18 : (W.setCell ⟨w1.heap.size, x.1, none⟩ (.int .i64 (wrap64 ((st l0_1 pre).1 + l0_1[x.1].f2)))).cell? ⟨Bx, 1, none⟩ = some (.int .i64 l0_1[x.1].f1) := (blk_cell hX8 1).trans rfl
    have hx28 : (W.setCell ⟨w1.heap.size, x.1, none⟩ (.int .i64 (wrap64 ((st l0_1 pre).1 + l0_1[x.1].f2)))).cell? ⟨Bx, 2, none⟩ = some (.int .i64 l0_1[x.1].f2) := (blk_cell hX8 2).trans rfl
    have N8 := Aside0.mk hn8
    clear hn8 hX8 hu8
    gi_wp2
    have hw1 : w.heap.size ≤ w1.heap.size := hgr
    have hput := Kd.R_put HR3.out (x.1 : Int) (wrap64 ((st l0_1 pre).1 + l0_1[x.1].f2))
    rw [Int.toNat_natCast] at hput
    have hB1 : Below w.heap.size W ((W.setCell ⟨w1.heap.size, x.1, none⟩ (.int .i64 (wrap64 ((st l0_1 pre).1 + l0_1[x.1].f2)))).setCell ⟨gn, 0, none⟩ (.int .i64 (wrap64 ((st l0_1 pre).1 + wrap64 (l0_1[x.1].f1 + l0_1[x.1].f2))))) := ((Below.refl _ W).setCell (p := ⟨w1.heap.size, x.1, none⟩) hw1 _).setCell (p := ⟨gn, 0, none⟩) hwn _
    refine ⟨((KeepsOthers.setCell _ _ _).trans (KeepsOthers.setCell _ _ _)).from _, ⟨hB1, ?_⟩, ⟨HI.out.1.trans hB1, ?_, ?_, ?_⟩, Nat.le_trans h7W hB1.size⟩
    · exact (Below.heap_setCell _ _ _ g (by show g ≠ gn; omega)).trans (Below.heap_setCell _ _ _ g (by show g ≠ w1.heap.size; omega))
    · exact blk_far (blk_far HI.out.2.1 (fun h_ => nso h_.symm) _) non _
    · rw [st_snoc]; exact blk_put N8.out 0 _ rfl
    · rw [st_snoc]
      have h2 := Kd.R_far hput.1 (p := ⟨gn, 0, none⟩) (fun k hk => by rw [hk]; exact nsn) (.int .i64 (wrap64 ((st l0_1 pre).1 + wrap64 (l0_1[x.1].f1 + l0_1[x.1].f2))))
      rw [hlen] at h2
      exact h2
  case done =>
    rintro D xs W hD rfl ⟨hI, h7W⟩ hK
    have hcg : W.cell? ⟨go, 0, none⟩ = some (.slice Av l0_1.length cv) := (blk_cell hI.2.1 0).trans rfl
    have HI := Aside0.mk hI
    clear hI
    go_wp2
    refine ⟨by simp, .inl ⟨_, _, rfl, run_takeDeferred hK, ?_⟩⟩
    have hgD := grownBy_putObj' W D (.deferred none)
    have hst : (st l0_1 (back l0_1.length 0)).2 = (tl l0_1).2 := by rw [st_back l0_1 l0_1.length 0 (by omega)]; simp
    refine ⟨_, results_tmp rfl _ _ _, _, rfl, ?_, HI.out.1.grown hgD HI.out.1.size (fun k e => by have e1 := Option.some.inj e; omega)⟩
    have h2 := Kd.R_mono (ok' := fun _ => True) (Kd.R_grown HI.out.2.2.2 hgD (fun k hk e => by have e1 := Option.some.inj e; omega)) (fun _ _ => trivial)
    rw [hst] at h2
    exact h2
  case stop =>
    rintro D c pre W _ _ h _
    exact h.elim
end Go.Proofs.YtkdbcaegeeeiaaaGreat.Tails
