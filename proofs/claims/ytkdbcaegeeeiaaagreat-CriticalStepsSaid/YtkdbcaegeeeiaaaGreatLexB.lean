/-
 What lexer.inner, lexer.run (with any predicate that only makes memory of its own) and lexer.Name return.
-/
import Derived.Test.YtkdbcaegeeeiaaaGreatLexA
import Derived.Shelf.Abstract
set_option linter.unusedVariables false
set_option linter.unusedSimpArgs false
namespace Go.Proofs.YtkdbcaegeeeiaaaGreat.Lex
open Go.RowKit Go.Proofs.YtkdbcaegeeeiaaaGreatW.PrintWords Go.Proofs.YtkdbcaegeeeiaaaGreatW.PrintLast Go.Proofs.YtkdbcaegeeeiaaaGreatW.PrintMore Go.Proofs.YtkdbcaegeeeiaaaGreat.LexA

def innerB (c : Int) : Bool := clsN c.toNat == 1 || clsN c.toNat == 2 || clsN c.toNat == 3
set_option maxHeartbeats 400000 in
theorem inner_calls (c : Int) (h0 : 0 ≤ c) (h1 : c < 256) (w : World) : Calls Tryz.prog 150 #[.int .u8 c] w fun e w' => e = .returned (.bool (innerB c)) ∧ Below w.heap.size w w' := by
 have HB := Aside0.mk (Below.refl w.heap.size w)
 have hx := fun W => cls_run c h0 h1 W
 have hfin : innerB c = (clsN c.toNat == 1 || clsN c.toNat == 2 || clsN c.toNat == 3) := rfl
 generalize innerB c = res at hfin ⊢
 generalize clsN c.toNat = m at hx hfin
 by_cases c1 : m = 1
 ·subst c1
  obtain rfl : res = true := by simpa using hfin
  clear hfin
  go_enter Tryz.func150, Tryz.ntmps150
  go_wp2_with (go_at_call 175; refine (classes_calls _).mono ?_; rintro e w1 ⟨rfl, hb⟩; replace HB := Aside0.mk (below_step HB.out hb); clear hb)
  go_ret
  exact ⟨rfl, HB.out⟩
 ·have d1 : (m == 1) = false := beq_eq_false_iff_ne.2 c1
  have e1 : (m != 1) = true := bne_iff_ne.2 c1
  by_cases c2 : m = 2
  ·subst c2
   obtain rfl : res = true := by simpa using hfin
   clear hfin d1 e1 c1
   go_enter Tryz.func150, Tryz.ntmps150
   go_wp2_with (go_at_call 175; refine (classes_calls _).mono ?_; rintro e w1 ⟨rfl, hb⟩; replace HB := Aside0.mk (below_step HB.out hb); clear hb)
   go_ret
   exact ⟨rfl, HB.out⟩
  ·have d2 : (m == 2) = false := beq_eq_false_iff_ne.2 c2
   have hf2 : res = (m == 3) := by rw [hfin, d1, d2]; rfl
   subst hf2
   clear hfin c1 c2
   go_enter Tryz.func150, Tryz.ntmps150
   go_wp2_with (go_at_call 175; refine (classes_calls _).mono ?_; rintro e w1 ⟨rfl, hb⟩; replace HB := Aside0.mk (below_step HB.out hb); clear hb)
   go_ret
   exact ⟨rfl, HB.out⟩

/-- What is asked of a predicate on bytes. -/
def PredByte (g : Nat) (p : Int → Bool) (w : World) : Prop :=
 ∀ (W : World) (c : Int), 0 ≤ c → c < 256 → Below w.heap.size w W → Calls Tryz.prog g #[.int .u8 c] W fun e w' => e = .returned (.bool (p c)) ∧ Below W.heap.size W w'
/-- How many bytes satisfy p from byte i on. -/
def runFrom (p : Int → Bool) (s : ByteArray) : Nat → Nat → Nat
 | 0, i => i
 | d + 1, i => if i < s.size then (if p (bt s i) then runFrom p s d (i + 1) else i) else i
def runN (p : Int → Bool) (s : ByteArray) : Nat := runFrom p s s.size 0
theorem run_calls (g : Nat) (p : Int → Bool) (eg : ∀ args w, (callFunc g args).run Tryz.prog w = .ok (.enter g args) w) (s : ByteArray) (w : World) (hs : s.size ≤ 9223372036854775806) (hp : PredByte g p w) :
  Calls Tryz.prog 148 #[.string s, .func (.func g) #[] #[]] w fun e w' => e = .returned (.int .i64 (runN p s)) ∧ Below w.heap.size w w' := by
 have HP := Aside0.mk hp
 clear hp
 go_enter Tryz.func148, Tryz.ntmps148
 go_wp2
 go_loopg [5] s.size (fun gg v wr => ∃ k : Nat, k ≤ s.size ∧ s.size - k ≤ gg ∧ v = .int .i64 k ∧ Aside0 (runN p s = runFrom p s (s.size - k) k) ∧ Aside0 (Below w.heap.size w wr))
 case atStart => exact ⟨0, by omega, by omega, rfl, ⟨rfl⟩, ⟨Below.refl _ _⟩⟩
 case round =>
  obtain ⟨k, hk, hgg, rfl, R, HB⟩ := hrel
  by_cases hlt : k < s.size
  ·have hltz : (k : Int) < (s.size : Int) := by omega
   have hb0 : ((s[k]'hlt).toNat : Int) = bt s k := by simp [bt, hlt]
   have hbr := bt_range s k
   rw [← hb0] at hbr
   have HC := Aside0.mk (HP.out wr _ hbr.1 (by omega) HB.out)
   obtain ⟨d, hd⟩ : ∃ d, s.size - k = d + 1 := ⟨s.size - k - 1, by omega⟩
   have R2 := R.out
   rw [hd, runFrom, if_pos hlt, ← hb0] at R2
   clear hbr hb0
   cases hq : p ((s[k]'hlt).toNat : Int) with
   | true =>
    rw [hq] at R2 HC
    rw [if_pos rfl] at R2
    have R3 := Aside0.mk R2
    have HD := Aside0.mk hd
    clear R2 R hd hq
    go_wp2_with (go_at_fn g; refine HC.out.mono ?_; rintro e w1 ⟨rfl, hb⟩; replace HB := Aside0.mk (below_step HB.out hb); clear hb)
    go_roundg (s.size - (k + 1))
    case measure => omega
    case rel => exact ⟨k + 1, by omega, by omega, by go_num, ⟨by rw [R3.out]; congr 1; have := HD.out; omega⟩, HB⟩
   | false =>
    rw [hq] at R2 HC
    rw [if_neg (by simp)] at R2
    have R3 := Aside0.mk R2
    clear R2 R hd hq
    go_wp2_with (go_at_fn g; refine HC.out.mono ?_; rintro e w1 ⟨rfl, hb⟩; replace HB := Aside0.mk (below_step HB.out hb); clear hb)
    go_ret
    exact ⟨by rw [R3.out]; rfl, HB.out⟩
  ·have hltz : ¬ (k : Int) < (s.size : Int) := by omega
   have hke : k = s.size := by omega
   have R2 : runN p s = k := by rw [R.out, hke, Nat.sub_self]; rfl
   have R3 := Aside0.mk R2
   clear R2 R
   subst hke
   go_wp2
   go_ret
   exact ⟨by rw [R3.out]; rfl, HB.out⟩

def lowB (c : Int) : Bool := innerB c && (decide (c < 65) || decide (c > 90))
set_option maxHeartbeats 400000 in
theorem low_calls (w : World) : PredByte 149 lowB w := by
 intro W c h0 h1 _
 have hfin : lowB c = (innerB c && (decide (c < 65) || decide (c > 90))) := rfl
 have HI := Aside0.mk (fun W => inner_calls c h0 h1 W)
 generalize lowB c = res at hfin ⊢
 generalize innerB c = b at hfin HI
 cases b with
 | false =>
  obtain rfl : res = false := by simpa using hfin
  clear hfin
  go_enter Tryz.func149, Tryz.ntmps149
  go_wp2_with (go_at_call 150; refine (HI.out _).mono ?_; rintro e w1 ⟨rfl, hb⟩; have HB := Aside0.mk hb; clear hb)
  go_ret
  exact ⟨rfl, HB.out⟩
 | true =>
  by_cases hc : c < 65
  ·obtain rfl : res = true := by simpa [hc] using hfin
   clear hfin
   go_enter Tryz.func149, Tryz.ntmps149
   go_wp2_with (go_at_call 150; refine (HI.out _).mono ?_; rintro e w1 ⟨rfl, hb⟩; have HB := Aside0.mk hb; clear hb)
   go_ret
   exact ⟨rfl, HB.out⟩
  ·obtain rfl : res = decide (c > 90) := by simpa [hc] using hfin
   clear hfin
   have hd : decide (c < 65) = false := decide_eq_false hc
   go_enter Tryz.func149, Tryz.ntmps149
   go_wp2_with (go_at_call 150; refine (HI.out _).mono ?_; rintro e w1 ⟨rfl, hb⟩; have HB := Aside0.mk hb; clear hb)
   go_ret
   exact ⟨rfl, HB.out⟩
end Go.Proofs.YtkdbcaegeeeiaaaGreat.Lex
