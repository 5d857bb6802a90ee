/-
  jobshop.Check, by hand: the map of the kinds of work, and one test behind the other.
-/
import Derived.Test.YtkdbcaegeeeiaaaGreatTwice
import Derived.Test.YtkdbcaegeeeiaaaGreatPx1
import Derived.Test.YtkdbcaegeeeiaaaGreatPx2
set_option linter.unusedVariables false
set_option linter.unusedSimpArgs false
namespace Go.Proofs.YtkdbcaegeeeiaaaGreat.JCheck
open Go.RowKit Go.Proofs.YtkdbcaegeeeiaaaGreatW.PrintWords Go.Proofs.YtkdbcaegeeeiaaaGreatW.PrintLast Go.Proofs.YtkdbcaegeeeiaaaGreatW.PrintMore Go.Proofs.YtkdbcaegeeeiaaaGreat.P Go.Proofs.YtkdbcaegeeeiaaaGreat.Hof Go.Proofs.YtkdbcaegeeeiaaaGreat.Twice
abbrev Mc := S42
abbrev Jb := S38
abbrev Sp := S40
def worksM (l : List Mc) : Sm.SM ByteArray Bool := mkM (fun x => x.f1) l
def worksB (l : List Mc) (x : Sp) : Option Bool := some (!((worksM l).at_ x.f0 false))
def jobshop_Check.f (l0 : List Mc) (l1 : List Jb) : Option Int :=
  if (l0.length : Int) > 32 then some 7 else if (l1.length : Int) > 128 then some 7 else
  (api_Job_63.f l1 (fun x_ => jobshop_Check_2.f x_.f0 x_.f1 x_.f2 x_.f3 x_.f4)).bind fun b2 => if b2 = true then some 7 else
  (api_Machine_67.f l0 (fun x_ => jobshop_Check_3.f x_.f0 x_.f1 x_.f2)).bind fun b3 => if b3 = true then some 4 else
  (api_Job_63.f l1 (fun x_ => jobshop_Check_4.f x_.f0 x_.f1 x_.f2 x_.f3 x_.f4)).bind fun b4 => if b4 = true then some 4 else
  (jobshop_Check_1.f (fun x_ => jobshop_Check_5.f x_.f0 x_.f1 x_.f2) l1).bind fun b5 => if b5 = true then some 4 else
  (api_Machine_67.f l0 (fun x_ => jobshop_Check_6.f x_.f0 x_.f1 x_.f2)).bind fun b6 => if b6 = true then some 6 else
  (api_Job_63.f l1 (fun x_ => jobshop_Check_7.f x_.f0 x_.f1 x_.f2 x_.f3 x_.f4)).bind fun b7 => if b7 = true then some 6 else
  (jobshop_Check_1.f (fun x_ => jobshop_Check_8.f x_.f0 x_.f1 x_.f2) l1).bind fun b8 => if b8 = true then some 6 else
  (api_Job_63.f l1 (fun x_ => jobshop_Check_9.f x_.f0 x_.f1 x_.f2 x_.f3 x_.f4)).bind fun b9 => if b9 = true then some 9 else
  ((some ((List.range l0.length).any (dupM (fun x => x.f0) l0)) : Option Bool)).bind fun b10 => if b10 = true then some 5 else
  ((some ((List.range l1.length).any (dupJ (fun x => x.f0) l1)) : Option Bool)).bind fun b11 => if b11 = true then some 5 else
  (jobshop_Check_1.f (worksB l0) l1).bind fun b12 => if b12 = true then some 3 else
  some 0
set_option maxHeartbeats 4000000 in
theorem check12.fn (gs gm : Nat) (m : Sm.SM ByteArray Bool) (w : World) (hs : w.heap[gs]? = some (.cells #[.map (some gm)] 87 (0, 0))) (hm : w.heap[gm]? = some (Sm.SM.obj Value.string Value.bool m)) :
    FnE Tryz.prog k40 vAgg Value.bool (.func (.func 81) #[] #[.pointer (some ⟨gs, 0, none⟩)]) (fun x => some (!(m.at_ x.f0 false))) w := by
  refine ⟨81, _, rfl, enters_of Tryz.func81 (by kernel_rfl) rfl, fun W x cs r hW hk0 h => ?_⟩
  obtain rfl := Option.some.inj h
  obtain rfl := k40_open hk0
  have HS := Aside0.mk (blk_below hs hW)
  have HM := Aside0.mk (blk_below hm hW)
  clear hs hm hk0 h
  show Calls _ _ #[.agg #[.string x.f0, .int .i64 x.f1, .int .i64 x.f2], .pointer (some ⟨gs, 0, none⟩)] W _
  go_enter Tryz.func81, Tryz.ntmps81
  go_wp2_with (first | ((with_reducible refine gate_dst (N := 2) rfl ?_); refine box_event ?hg (N := 2) ?hd (cs := #[.string x.f0, .int .i64 x.f1, .int .i64 x.f2]) (t := 40) ?hr ?_; (case hd => rfl); (case hg => rfl); (case hr => first | (go_simp; done) | (go_simp; rfl)); intro gx hg w1 hbox hb; have B1 := Aside0.mk hb; have X1 := Aside0.mk hbox; have S1 := Aside0.mk (blk_below HS.out hb); have M1 := Aside0.mk (blk_below HM.out hb); have hc0 := (blk_cell X1.out 0).trans rfl; have hs0 := (blk_cell S1.out 0).trans rfl; clear hb hbox hg) | ((with_reducible refine gate_dst (N := 7) rfl ?_); refine Sm.look_event (κ := ByteArray) (β := Bool) (ke := Value.string) (ve := Value.bool) (.tmp 4) (.tmp 6) rfl rfl Tryz.underlying87 (Sm.SM.key_str Tryz.underlying9) (z := false) (fun w_ => Sm.zero_run (by kernel_rfl) w_) x.f0 (by first | rfl | (go_simp; done) | (go_simp; rfl)) (by first | rfl | (go_simp; done) | (go_simp; rfl)) M1.out ?_))
  go_ret
  exact ⟨rfl, B1.out⟩
/-- What stands behind the loop. -/
def Std (w : World) (gj gs gm : Nat) (A1 : Option Addr) (n1 c1 : Nat) (m : Sm.SM ByteArray Bool) (W : World) : Prop :=
  Below w.heap.size w W ∧ W.heap[gj]? = some (.cells #[.slice A1 n1 c1] 23 (0, 0)) ∧ W.heap[gs]? = some (.cells #[.map (some gm)] 87 (0, 0)) ∧ W.heap[gm]? = some (Sm.SM.obj Value.string Value.bool m)
theorem Std.below {w : World} {gj gs gm : Nat} {A1 : Option Addr} {n1 c1 : Nat} {m : Sm.SM ByteArray Bool} {W W1 : World} (h : Std w gj gs gm A1 n1 c1 m W) (hb : Below W.heap.size W W1) : Std w gj gs gm A1 n1 c1 m W1 :=
  ⟨below_step h.1 hb, blk_below h.2.1 hb, blk_below h.2.2.1 hb, blk_below h.2.2.2 hb⟩
theorem Std.cell {w : World} {gj gs gm : Nat} {A1 : Option Addr} {n1 c1 : Nat} {m : Sm.SM ByteArray Bool} {W : World} (h : Std w gj gs gm A1 n1 c1 m W) : W.cell? ⟨gj, 0, none⟩ = some (.slice A1 n1 c1) := (blk_cell h.2.1 0).trans rfl
set_option maxHeartbeats 8000000 in
set_option maxRecDepth 100000 in
theorem jobshop_Check.calls (A0 : Option Addr) (c0 : Nat) (l0 : List Mc) (A1 : Option Addr) (c1 : Nat) (l1 : List Jb) (r : Int) (w : World) (hr0 : Kd.C k42 w A0 l0.length l0) (hc0 : l0.length ≤ c0) (hr1 : Kd.C k38 w A1 l1.length l1) (hc1 : l1.length ≤ c1) (h : jobshop_Check.f l0 l1 = some r) :
    Calls Tryz.prog 20 #[.slice A0 l0.length c0, .slice A1 l1.length c1] w fun e w' => e = .returned (.int .i64 r) ∧ Below w.heap.size w w' := by
  have HR0 := Aside0.mk hr0
  have HC0 := Aside0.mk hc0
  have HR1 := Aside0.mk hr1
  have HC1 := Aside0.mk hc1
  have HH := Aside0.mk h
  have hlen : l0.length ≤ 9223372036854775807 := hr0.2.1
  clear hr0 hc0 hr1 hc1 h
  go_enter Tryz.func20, Tryz.ntmps20
  go_wp2_with (first | ((with_reducible refine gate_dst (N := 3) rfl ?_); refine box_event ?hg (N := 3) ?hd (cs := #[.slice A1 l1.length c1]) (t := 23) ?hr ?_; (case hd => rfl); (case hg => rfl); (case hr => first | (go_simp; done) | (go_simp; rfl)); intro gj hg w1 hbox hb; have B1 := Aside0.mk hb; have J1 := Aside0.mk hbox; clear hb hbox hg) | ((with_reducible refine gate_dst (N := 10) rfl ?_); refine Sm.newmap_event (κ := ByteArray) (β := Bool) (ke := Value.string) (ve := Value.bool) ?hg (N := 10) ?hd (t := 87) ?ho ?_; (case hg => rfl); (case hd => rfl); (case ho => rfl); intro gm hg w2 hbox hb; have B2 := Aside0.mk (below_step B1.out hb); have J2 := Aside0.mk (blk_below J1.out hb); have M2 := Aside0.mk hbox; have GM := Aside0.mk (show w.heap.size ≤ gm from hg ▸ B1.out.size); clear hb hbox hg) | ((with_reducible refine gate_dst (N := 6) rfl ?_); refine box_event ?hg (N := 6) ?hd (cs := #[.map none]) (t := 87) ?hr ?_; (case hd => rfl); (case hg => rfl); (case hr => first | (go_simp; done) | (go_simp; rfl)); intro gs hg w3 hbox hb; have B3 := Aside0.mk (below_step B2.out hb); have J3 := Aside0.mk (blk_below J2.out hb); have M3 := Aside0.mk (blk_below M2.out hb); have S3 := Aside0.mk hbox; have GS := Aside0.mk (show w.heap.size ≤ gs from hg ▸ B2.out.size); have NE := Aside0.mk (show gj ≠ gs from fun h_ => by have := blk_lt J2.out; omega); have NEM := Aside0.mk (show gm ≠ gs from fun h_ => by have := blk_lt M2.out; omega); have hc0 := (blk_cell S3.out 0).trans rfl; have hf0 := blk_frozen S3.out 0; clear hb hbox hg) | ((with_reducible refine gate_store (t := 87) (p := 6) rfl ?_); refine store_event (t := 87) (p := 6) (v := ?vo_) (w1 := w3.setCell ⟨gs, 0, none⟩ (.map (some gm))) ?hg ?ho ?hn ?hr ?_; (case ho => rfl); (case hg => rfl); (case hn => rfl); (case hr => first | (go_simp; done) | (go_simp; rfl)); intro w4 hw; have D4 : Aside0 (Std w gj gs gm A1 l1.length c1 Sm.SM.new w4) := ⟨by rw [hw]; exact ⟨below_set B3.out GS.out, blk_far J3.out NE.out _, blk_put S3.out 0 _ rfl, Sm.blk_farM M3.out NEM.out _⟩⟩; clear hw hc0 hf0))
  go_loopg [8, 13] l0.length (fun gg _ s13 wr => ∃ kk : Nat, kk ≤ l0.length ∧ l0.length - kk ≤ gg ∧ s13 = .int .i64 kk ∧ Aside0 (Std w gj gs gm A1 l1.length c1 (worksM (l0.take kk)) wr))
  case atStart => exact ⟨0, Nat.zero_le _, by omega, rfl, D4⟩
  case round =>
    obtain ⟨kk, hkk, hg, rfl, D⟩ := hrel
    clear B1 J1 B2 J2 M2 B3 J3 M3 S3 D4 NE NEM
    by_cases hlt : kk < l0.length
    · clear HH
      have hltz : (kk : Int) < (l0.length : Int) := by omega
      obtain ⟨ad, cs, he, hcl, hK, hcell⟩ := Kd.C_get (Kd.C_below HR0.out D.out.1) z42 (kk : Int) (by omega) (by omega)
      have hx : l0.getD (kk : Int).toNat z42 = l0[kk] := by simp [List.getD_eq_getElem?_getD, hlt]
      rw [hx] at hK
      generalize hxe : l0[kk] = x at hK
      have HXE := Aside0.mk hxe
      obtain rfl := k42_open hK
      have hl0 : ∀ j v, [Value.string x.f0, .string x.f1, .int .i64 x.f2][j]? = some v → wr.cell? ((ad.add (kk * k42.sz)).add j) = some v := fun j v hv => by rw [add_add]; exact hcell j v hv
      have HL := Aside0.mk hl0
      have HIn : Aside0 ((Tryz.prog.info? 42).map (·.size) = some [Value.string x.f0, .string x.f1, .int .i64 x.f2].length) := ⟨by kernel_rfl⟩
      subst he
      clear hl0 hcell hK hcl hxe hx
      go_wp2_with (first | ((with_reducible refine gate_dst (N := 16) rfl ?_); refine wpList_load_agg rfl 42 (.tmp 15) rfl _ rfl _ Tryz.underlying42 rfl _ HIn.out HL.out ?_) | ((with_reducible refine gate_dst (N := 8) rfl ?_); refine box_event ?hg (N := 8) ?hd (cs := #[.string ⟨#[]⟩, .string ⟨#[]⟩, .int .i64 0]) (t := 42) ?hr ?_; (case hd => rfl); (case hg => rfl); (case hr => first | (go_simp; done) | (go_simp; rfl)); intro g8 hg8 w5 hbox hb; have D5 := Aside0.mk (Std.below D.out hb); have X5 := Aside0.mk hbox; have G8 := Aside0.mk (show wr.heap.size ≤ g8 from hg8 ▸ Nat.le_refl _); have W8 := Aside0.mk (show w.heap.size ≤ g8 from hg8 ▸ D.out.1.size); have NJ := Aside0.mk (show gj ≠ g8 from fun h_ => by have := blk_lt D.out.2.1; have := G8.out; omega); have NS := Aside0.mk (show gs ≠ g8 from fun h_ => by have := blk_lt D.out.2.2.1; have := G8.out; omega); have NM := Aside0.mk (show gm ≠ g8 from fun h_ => by have := blk_lt D.out.2.2.2; have := G8.out; omega); have hc0 := (blk_cell X5.out 0).trans rfl; have hc1 := (blk_cell X5.out 1).trans rfl; have hc2 := (blk_cell X5.out 2).trans rfl; have hf0 := blk_frozen X5.out 0; have hf1 := blk_frozen X5.out 1; have hf2 := blk_frozen X5.out 2; clear hb hbox hg8) | ((with_reducible refine gate_store (t := 42) (p := 8) rfl ?_); refine store_event (t := 42) (p := 8) (v := ?vo_b) (w1 := ((w5.setCell ⟨g8, 0, none⟩ (.string x.f0)).setCell ⟨g8, 1, none⟩ (.string x.f1)).setCell ⟨g8, 2, none⟩ (.int .i64 x.f2)) ?hg ?ho ?hn ?hr ?_; (case ho => rfl); (case hg => rfl); (case hn => rfl); (case hr => first | (go_simp; done) | (go_simp; rfl)); intro w6 hw; have D6 : Aside0 (Std w gj gs gm A1 l1.length c1 (worksM (l0.take kk)) w6) := ⟨by rw [hw]; exact ⟨below_set (below_set (below_set D5.out.1 W8.out) W8.out) W8.out, blk_far (blk_far (blk_far D5.out.2.1 NJ.out _) NJ.out _) NJ.out _, blk_far (blk_far (blk_far D5.out.2.2.1 NS.out _) NS.out _) NS.out _, Sm.blk_farM (Sm.blk_farM (Sm.blk_farM D5.out.2.2.2 NM.out _) NM.out _) NM.out _⟩⟩; have X6 : Aside0 (w6.heap[g8]? = some (.cells #[.string x.f0, .string x.f1, .int .i64 x.f2] 42 (0, 0))) := ⟨by rw [hw]; exact blk_put (cs := #[.string x.f0, .string x.f1, .int .i64 0]) (blk_put (cs := #[.string x.f0, .string ⟨#[]⟩, .int .i64 0]) (blk_put X5.out 0 _ rfl) 1 _ rfl) 2 _ rfl⟩; clear hw hc0 hc1 hc2 hf0 hf1 hf2; have hs0 : w6.cell? ⟨gs, 0, none⟩ = some (.map (some gm)) := (blk_cell D6.out.2.2.1 0).trans rfl; have hx1 := (blk_cell X6.out 1).trans rfl) | ((with_reducible refine gate_ (.mapUpdate 87 (.tmp 17) (.tmp 19) (.const (.bool true))) rfl ?_); refine Sm.mput_event (κ := ByteArray) (β := Bool) (ke := Value.string) (ve := Value.bool) (.tmp 17) (.tmp 19) (.const (.bool true)) rfl rfl rfl Tryz.underlying87 (Sm.SM.key_str Tryz.underlying9) x.f1 true (by first | rfl | (go_simp; done) | (go_simp; rfl)) (by first | rfl | (go_simp; done) | (go_simp; rfl)) (by first | rfl | (go_simp; done) | (go_simp; rfl)) D6.out.2.2.2 ?_; intro w7 hm7 hg7; have D7 : Aside0 (Std w gj gs gm A1 l1.length c1 ((worksM (l0.take kk)).put x.f1 true) w7) := ⟨⟨Sm.below_map D6.out.1 hg7 D6.out.1.size GM.out, blk_grown D6.out.2.1 hg7 (neM D6.out.2.1 D6.out.2.2.2), blk_grown D6.out.2.2.1 hg7 (neM D6.out.2.2.1 D6.out.2.2.2), hm7⟩⟩; clear hm7 hg7 hs0 hx1))
      go_roundg (l0.length - (kk + 1))
      case measure => omega
      case rel =>
        refine ⟨kk + 1, by omega, by omega, by go_num, ⟨?_⟩⟩
        have e : worksM (l0.take (kk + 1)) = (worksM (l0.take kk)).put x.f1 true := by
          unfold worksM mkM
          rw [List.take_succ_eq_append_getElem hlt, List.foldl_append, HXE.out]; rfl
        rw [e]
        exact D7.out
    · have hltz : ¬ (kk : Int) < (l0.length : Int) := by omega
      have hke : kk = l0.length := by omega
      subst hke
      rw [List.take_length] at D
      have h := HH.out
      unfold jobshop_Check.f at h
      clear HH
      have hj0 := Std.cell D.out
      by_cases c1_ : (l0.length : Int) > 32
      · rw [if_pos c1_] at h
        obtain rfl := Option.some.inj h
        have q1 : decide ((32 : Int) < (l0.length : Int)) = true := decide_eq_true c1_
        have q2 : decide (32 < l0.length) = true := decide_eq_true (by omega)
        clear h c1_
        go_wp2
        go_ret
        exact ⟨rfl, D.out.1⟩
      rw [if_neg c1_] at h
      have q1 : decide ((32 : Int) < (l0.length : Int)) = false := decide_eq_false c1_
      have q2 : decide (32 < l0.length) = false := decide_eq_false (by omega)
      clear c1_
      by_cases c2_ : (l1.length : Int) > 128
      · rw [if_pos c2_] at h
        obtain rfl := Option.some.inj h
        have q3 : decide ((128 : Int) < (l1.length : Int)) = true := decide_eq_true c2_
        have q4 : decide (128 < l1.length) = true := decide_eq_true (by omega)
        clear h c2_
        go_wp2
        go_ret
        exact ⟨rfl, D.out.1⟩
      rw [if_neg c2_] at h
      have q3 : decide ((128 : Int) < (l1.length : Int)) = false := decide_eq_false c2_
      have q4 : decide (128 < l1.length) = false := decide_eq_false (by omega)
      clear c2_
      obtain ⟨b2, hb2, h⟩ := Option.bind_eq_some_iff.mp h
      have HB2 := Aside0.mk hb2
      clear hb2
      cases b2 with
      | true =>
        rw [if_pos rfl] at h
        obtain rfl := Option.some.inj h
        clear h
        go_wp2_with (go_at_call 63; refine (api_Job_63.calls A1 c1 l1 (.func (.func 66) #[] #[]) (fun x_ => jobshop_Check_2.f x_.f0 x_.f1 x_.f2 x_.f3 x_.f4) true wr (Kd.C_below HR1.out D.out.1) HC1.out (jobshop_Check_2.fn wr) HB2.out).mono ?_; rintro e v2 ⟨rfl, hb⟩; have E2 := Aside0.mk (Std.below D.out hb); clear hb hj0; have hj1 := Std.cell E2.out)
        go_ret
        exact ⟨rfl, E2.out.1⟩
      | false =>
      rw [if_neg (by simp)] at h
      have HH := Aside0.mk h
      clear h
      go_wp2_with (go_at_call 63; refine (api_Job_63.calls A1 c1 l1 (.func (.func 66) #[] #[]) (fun x_ => jobshop_Check_2.f x_.f0 x_.f1 x_.f2 x_.f3 x_.f4) false wr (Kd.C_below HR1.out D.out.1) HC1.out (jobshop_Check_2.fn wr) HB2.out).mono ?_; rintro e v2 ⟨rfl, hb⟩; have E2 := Aside0.mk (Std.below D.out hb); clear hb hj0; have hj1 := Std.cell E2.out)
      have h := HH.out
      clear HH
      obtain ⟨b3, hb3, h⟩ := Option.bind_eq_some_iff.mp h
      have HB3 := Aside0.mk hb3
      clear hb3
      cases b3 with
      | true =>
        rw [if_pos rfl] at h
        obtain rfl := Option.some.inj h
        clear h
        go_wp2_with (go_at_call 67; refine (api_Machine_67.calls A0 c0 l0 (.func (.func 68) #[] #[]) (fun x_ => jobshop_Check_3.f x_.f0 x_.f1 x_.f2) true v2 (Kd.C_below HR0.out E2.out.1) HC0.out (jobshop_Check_3.fn v2) HB3.out).mono ?_; rintro e v3 ⟨rfl, hb⟩; have E3 := Aside0.mk (Std.below E2.out hb); clear hb hj1; have hj2 := Std.cell E3.out)
        go_ret
        exact ⟨rfl, E3.out.1⟩
      | false =>
      rw [if_neg (by simp)] at h
      have HH := Aside0.mk h
      clear h
      go_wp2_with (go_at_call 67; refine (api_Machine_67.calls A0 c0 l0 (.func (.func 68) #[] #[]) (fun x_ => jobshop_Check_3.f x_.f0 x_.f1 x_.f2) false v2 (Kd.C_below HR0.out E2.out.1) HC0.out (jobshop_Check_3.fn v2) HB3.out).mono ?_; rintro e v3 ⟨rfl, hb⟩; have E3 := Aside0.mk (Std.below E2.out hb); clear hb hj1; have hj2 := Std.cell E3.out)
      have h := HH.out
      clear HH
      obtain ⟨b4, hb4, h⟩ := Option.bind_eq_some_iff.mp h
      have HB4 := Aside0.mk hb4
      clear hb4
      cases b4 with
      | true =>
        rw [if_pos rfl] at h
        obtain rfl := Option.some.inj h
        clear h
        go_wp2_with (go_at_call 63; refine (api_Job_63.calls A1 c1 l1 (.func (.func 70) #[] #[]) (fun x_ => jobshop_Check_4.f x_.f0 x_.f1 x_.f2 x_.f3 x_.f4) true v3 (Kd.C_below HR1.out E3.out.1) HC1.out (jobshop_Check_4.fn v3) HB4.out).mono ?_; rintro e v4 ⟨rfl, hb⟩; have E4 := Aside0.mk (Std.below E3.out hb); clear hb hj2; have hj3 := Std.cell E4.out)
        go_ret
        exact ⟨rfl, E4.out.1⟩
      | false =>
      rw [if_neg (by simp)] at h
      have HH := Aside0.mk h
      clear h
      go_wp2_with (go_at_call 63; refine (api_Job_63.calls A1 c1 l1 (.func (.func 70) #[] #[]) (fun x_ => jobshop_Check_4.f x_.f0 x_.f1 x_.f2 x_.f3 x_.f4) false v3 (Kd.C_below HR1.out E3.out.1) HC1.out (jobshop_Check_4.fn v3) HB4.out).mono ?_; rintro e v4 ⟨rfl, hb⟩; have E4 := Aside0.mk (Std.below E3.out hb); clear hb hj2; have hj3 := Std.cell E4.out)
      have h := HH.out
      clear HH
      obtain ⟨b5, hb5, h⟩ := Option.bind_eq_some_iff.mp h
      have HB5 := Aside0.mk hb5
      clear hb5
      cases b5 with
      | true =>
        rw [if_pos rfl] at h
        obtain rfl := Option.some.inj h
        clear h
        go_wp2_with (go_at_call 62; refine (jobshop_Check_1.calls (.func (.func 71) #[] #[]) (fun x_ => jobshop_Check_5.f x_.f0 x_.f1 x_.f2) gj A1 c1 l1 true v4 (jobshop_Check_5.fn v4) E4.out.2.1 (Kd.C_below HR1.out E4.out.1) HC1.out HB5.out).mono ?_; rintro e v5 ⟨rfl, hb⟩; have E5 := Aside0.mk (Std.below E4.out hb); clear hb hj3; have hj4 := Std.cell E5.out)
        go_ret
        exact ⟨rfl, E5.out.1⟩
      | false =>
      rw [if_neg (by simp)] at h
      have HH := Aside0.mk h
      clear h
      go_wp2_with (go_at_call 62; refine (jobshop_Check_1.calls (.func (.func 71) #[] #[]) (fun x_ => jobshop_Check_5.f x_.f0 x_.f1 x_.f2) gj A1 c1 l1 false v4 (jobshop_Check_5.fn v4) E4.out.2.1 (Kd.C_below HR1.out E4.out.1) HC1.out HB5.out).mono ?_; rintro e v5 ⟨rfl, hb⟩; have E5 := Aside0.mk (Std.below E4.out hb); clear hb hj3; have hj4 := Std.cell E5.out)
      have h := HH.out
      clear HH
      obtain ⟨b6, hb6, h⟩ := Option.bind_eq_some_iff.mp h
      have HB6 := Aside0.mk hb6
      clear hb6
      cases b6 with
      | true =>
        rw [if_pos rfl] at h
        obtain rfl := Option.some.inj h
        clear h
        go_wp2_with (go_at_call 67; refine (api_Machine_67.calls A0 c0 l0 (.func (.func 72) #[] #[]) (fun x_ => jobshop_Check_6.f x_.f0 x_.f1 x_.f2) true v5 (Kd.C_below HR0.out E5.out.1) HC0.out (jobshop_Check_6.fn v5) HB6.out).mono ?_; rintro e v6 ⟨rfl, hb⟩; have E6 := Aside0.mk (Std.below E5.out hb); clear hb hj4; have hj5 := Std.cell E6.out)
        go_ret
        exact ⟨rfl, E6.out.1⟩
      | false =>
      rw [if_neg (by simp)] at h
      have HH := Aside0.mk h
      clear h
      go_wp2_with (go_at_call 67; refine (api_Machine_67.calls A0 c0 l0 (.func (.func 72) #[] #[]) (fun x_ => jobshop_Check_6.f x_.f0 x_.f1 x_.f2) false v5 (Kd.C_below HR0.out E5.out.1) HC0.out (jobshop_Check_6.fn v5) HB6.out).mono ?_; rintro e v6 ⟨rfl, hb⟩; have E6 := Aside0.mk (Std.below E5.out hb); clear hb hj4; have hj5 := Std.cell E6.out)
      have h := HH.out
      clear HH
      obtain ⟨b7, hb7, h⟩ := Option.bind_eq_some_iff.mp h
      have HB7 := Aside0.mk hb7
      clear hb7
      cases b7 with
      | true =>
        rw [if_pos rfl] at h
        obtain rfl := Option.some.inj h
        clear h
        go_wp2_with (go_at_call 63; refine (api_Job_63.calls A1 c1 l1 (.func (.func 74) #[] #[]) (fun x_ => jobshop_Check_7.f x_.f0 x_.f1 x_.f2 x_.f3 x_.f4) true v6 (Kd.C_below HR1.out E6.out.1) HC1.out (jobshop_Check_7.fn v6) HB7.out).mono ?_; rintro e v7 ⟨rfl, hb⟩; have E7 := Aside0.mk (Std.below E6.out hb); clear hb hj5; have hj6 := Std.cell E7.out)
        go_ret
        exact ⟨rfl, E7.out.1⟩
      | false =>
      rw [if_neg (by simp)] at h
      have HH := Aside0.mk h
      clear h
      go_wp2_with (go_at_call 63; refine (api_Job_63.calls A1 c1 l1 (.func (.func 74) #[] #[]) (fun x_ => jobshop_Check_7.f x_.f0 x_.f1 x_.f2 x_.f3 x_.f4) false v6 (Kd.C_below HR1.out E6.out.1) HC1.out (jobshop_Check_7.fn v6) HB7.out).mono ?_; rintro e v7 ⟨rfl, hb⟩; have E7 := Aside0.mk (Std.below E6.out hb); clear hb hj5; have hj6 := Std.cell E7.out)
      have h := HH.out
      clear HH
      obtain ⟨b8, hb8, h⟩ := Option.bind_eq_some_iff.mp h
      have HB8 := Aside0.mk hb8
      clear hb8
      cases b8 with
      | true =>
        rw [if_pos rfl] at h
        obtain rfl := Option.some.inj h
        clear h
        go_wp2_with (go_at_call 62; refine (jobshop_Check_1.calls (.func (.func 75) #[] #[]) (fun x_ => jobshop_Check_8.f x_.f0 x_.f1 x_.f2) gj A1 c1 l1 true v7 (jobshop_Check_8.fn v7) E7.out.2.1 (Kd.C_below HR1.out E7.out.1) HC1.out HB8.out).mono ?_; rintro e v8 ⟨rfl, hb⟩; have E8 := Aside0.mk (Std.below E7.out hb); clear hb hj6; have hj7 := Std.cell E8.out)
        go_ret
        exact ⟨rfl, E8.out.1⟩
      | false =>
      rw [if_neg (by simp)] at h
      have HH := Aside0.mk h
      clear h
      go_wp2_with (go_at_call 62; refine (jobshop_Check_1.calls (.func (.func 75) #[] #[]) (fun x_ => jobshop_Check_8.f x_.f0 x_.f1 x_.f2) gj A1 c1 l1 false v7 (jobshop_Check_8.fn v7) E7.out.2.1 (Kd.C_below HR1.out E7.out.1) HC1.out HB8.out).mono ?_; rintro e v8 ⟨rfl, hb⟩; have E8 := Aside0.mk (Std.below E7.out hb); clear hb hj6; have hj7 := Std.cell E8.out)
      have h := HH.out
      clear HH
      obtain ⟨b9, hb9, h⟩ := Option.bind_eq_some_iff.mp h
      have HB9 := Aside0.mk hb9
      clear hb9
      cases b9 with
      | true =>
        rw [if_pos rfl] at h
        obtain rfl := Option.some.inj h
        clear h
        go_wp2_with (go_at_call 63; refine (api_Job_63.calls A1 c1 l1 (.func (.func 76) #[] #[]) (fun x_ => jobshop_Check_9.f x_.f0 x_.f1 x_.f2 x_.f3 x_.f4) true v8 (Kd.C_below HR1.out E8.out.1) HC1.out (jobshop_Check_9.fn v8) HB9.out).mono ?_; rintro e v9 ⟨rfl, hb⟩; have E9 := Aside0.mk (Std.below E8.out hb); clear hb hj7; have hj8 := Std.cell E9.out)
        go_ret
        exact ⟨rfl, E9.out.1⟩
      | false =>
      rw [if_neg (by simp)] at h
      have HH := Aside0.mk h
      clear h
      go_wp2_with (go_at_call 63; refine (api_Job_63.calls A1 c1 l1 (.func (.func 76) #[] #[]) (fun x_ => jobshop_Check_9.f x_.f0 x_.f1 x_.f2 x_.f3 x_.f4) false v8 (Kd.C_below HR1.out E8.out.1) HC1.out (jobshop_Check_9.fn v8) HB9.out).mono ?_; rintro e v9 ⟨rfl, hb⟩; have E9 := Aside0.mk (Std.below E8.out hb); clear hb hj7; have hj8 := Std.cell E9.out)
      have h := HH.out
      clear HH
      obtain ⟨b10, hb10, h⟩ := Option.bind_eq_some_iff.mp h
      have HB10 := Aside0.mk hb10
      clear hb10
      cases b10 with
      | true =>
        rw [if_pos rfl] at h
        obtain rfl := Option.some.inj h
        clear h
        go_wp2_with (go_at_call 77; refine (twM A0 c0 l0 (.func (.func 78) #[] #[]) (fun x_ => jobshop_Check_10.f x_.f0 x_.f1 x_.f2) (fun x => x.f0) v9 (Kd.C_below HR0.out E9.out.1) HC0.out (jobshop_Check_10.fn v9) (fun x _ => rfl)).mono ?_; rw [Option.some.inj HB10.out]; rintro e v10 ⟨rfl, hb⟩; have E10 := Aside0.mk (Std.below E9.out hb); clear hb hj8; have hj9 := Std.cell E10.out)
        go_ret
        exact ⟨rfl, E10.out.1⟩
      | false =>
      rw [if_neg (by simp)] at h
      have HH := Aside0.mk h
      clear h
      go_wp2_with (go_at_call 77; refine (twM A0 c0 l0 (.func (.func 78) #[] #[]) (fun x_ => jobshop_Check_10.f x_.f0 x_.f1 x_.f2) (fun x => x.f0) v9 (Kd.C_below HR0.out E9.out.1) HC0.out (jobshop_Check_10.fn v9) (fun x _ => rfl)).mono ?_; rw [Option.some.inj HB10.out]; rintro e v10 ⟨rfl, hb⟩; have E10 := Aside0.mk (Std.below E9.out hb); clear hb hj8; have hj9 := Std.cell E10.out)
      have h := HH.out
      clear HH
      obtain ⟨b11, hb11, h⟩ := Option.bind_eq_some_iff.mp h
      have HB11 := Aside0.mk hb11
      clear hb11
      cases b11 with
      | true =>
        rw [if_pos rfl] at h
        obtain rfl := Option.some.inj h
        clear h
        go_wp2_with (go_at_call 79; refine (twJ A1 c1 l1 (.func (.func 80) #[] #[]) (fun x_ => jobshop_Check_11.f x_.f0 x_.f1 x_.f2 x_.f3 x_.f4) (fun x => x.f0) v10 (Kd.C_below HR1.out E10.out.1) HC1.out (jobshop_Check_11.fn v10) (fun x _ => rfl)).mono ?_; rw [Option.some.inj HB11.out]; rintro e v11 ⟨rfl, hb⟩; have E11 := Aside0.mk (Std.below E10.out hb); clear hb hj9; have hj10 := Std.cell E11.out)
        go_ret
        exact ⟨rfl, E11.out.1⟩
      | false =>
      rw [if_neg (by simp)] at h
      have HH := Aside0.mk h
      clear h
      go_wp2_with (go_at_call 79; refine (twJ A1 c1 l1 (.func (.func 80) #[] #[]) (fun x_ => jobshop_Check_11.f x_.f0 x_.f1 x_.f2 x_.f3 x_.f4) (fun x => x.f0) v10 (Kd.C_below HR1.out E10.out.1) HC1.out (jobshop_Check_11.fn v10) (fun x _ => rfl)).mono ?_; rw [Option.some.inj HB11.out]; rintro e v11 ⟨rfl, hb⟩; have E11 := Aside0.mk (Std.below E10.out hb); clear hb hj9; have hj10 := Std.cell E11.out)
      have h := HH.out
      clear HH
      obtain ⟨b12, hb12, h⟩ := Option.bind_eq_some_iff.mp h
      have HB12 := Aside0.mk hb12
      clear hb12
      cases b12 with
      | true =>
        rw [if_pos rfl] at h
        obtain rfl := Option.some.inj h
        clear h
        go_wp2_with (go_at_call 62; refine (jobshop_Check_1.calls (.func (.func 81) #[] #[.pointer (some ⟨gs, 0, none⟩)]) (worksB l0) gj A1 c1 l1 true v11 (check12.fn gs gm (worksM l0) v11 E11.out.2.2.1 E11.out.2.2.2) E11.out.2.1 (Kd.C_below HR1.out E11.out.1) HC1.out HB12.out).mono ?_; rintro e v12 ⟨rfl, hb⟩; have E12 := Aside0.mk (Std.below E11.out hb); clear hb hj10; have hj11 := Std.cell E12.out)
        go_ret
        exact ⟨rfl, E12.out.1⟩
      | false =>
      rw [if_neg (by simp)] at h
      obtain rfl := Option.some.inj h
      clear h
      go_wp2_with (go_at_call 62; refine (jobshop_Check_1.calls (.func (.func 81) #[] #[.pointer (some ⟨gs, 0, none⟩)]) (worksB l0) gj A1 c1 l1 false v11 (check12.fn gs gm (worksM l0) v11 E11.out.2.2.1 E11.out.2.2.2) E11.out.2.1 (Kd.C_below HR1.out E11.out.1) HC1.out HB12.out).mono ?_; rintro e v12 ⟨rfl, hb⟩; have E12 := Aside0.mk (Std.below E11.out hb); clear hb hj10; have hj11 := Std.cell E12.out)
      go_ret
      exact ⟨rfl, E12.out.1⟩
end Go.Proofs.YtkdbcaegeeeiaaaGreat.JCheck
