/-
 lexer.Name, in the print's form: it returns nameB.
-/
import Derived.Test.YtkdbcaegeeeiaaaGreatLexB
set_option linter.unusedVariables false
set_option linter.unusedSimpArgs false
namespace Go.Proofs.YtkdbcaegeeeiaaaGreat.Lex
open Go.RowKit Go.Proofs.YtkdbcaegeeeiaaaGreatW.PrintWords Go.Proofs.YtkdbcaegeeeiaaaGreatW.PrintLast Go.Proofs.YtkdbcaegeeeiaaaGreatW.PrintMore Go.Proofs.YtkdbcaegeeeiaaaGreat.LexA

def nameB (s : ByteArray) : Bool := if s.size = 0 then false else if 24 < s.size then false else if bt s 0 < 97 then false else if 122 < bt s 0 then false else runN lowB s == s.size
set_option maxHeartbeats 400000 in
theorem name_calls (s : ByteArray) (w : World) : Calls Tryz.prog 69 #[.string s] w fun e w' => e = .returned (.bool (nameB s)) ∧ Below w.heap.size w w' := by
 have hfin : nameB s = if s.size = 0 then false else if 24 < s.size then false else if bt s 0 < 97 then false else if 122 < bt s 0 then false else runN lowB s == s.size := rfl
 have eg := enters_of Tryz.func149 (by kernel_rfl) rfl
 generalize nameB s = res at hfin ⊢
 by_cases c0 : s.size = 0
 ·rw [if_pos c0] at hfin
  subst hfin
  have e0 : s = ByteArray.empty := by simpa using c0
  have e1 : s.toList.isEmpty = true := by rw [e0]; decide +kernel
  clear c0 eg e0
  go_enter Tryz.func69, Tryz.ntmps69
  go_wp2
  go_ret
  exact ⟨rfl, Below.refl _ _⟩
 ·rw [if_neg c0] at hfin
  have e1 : s.toList.isEmpty = false := by
   rw [List.isEmpty_eq_false_iff]
   intro e
   have h2 : s.data.toList = [] := by rw [← ByteArray.toList_eq]; exact e
   exact c0 (by show s.data.size = 0; rw [← Array.length_toList, h2]; rfl)
  have hpos : 0 < s.size := by omega
  by_cases c1 : 24 < s.size
  ·rw [if_pos c1] at hfin
   subst hfin
   have c1z : (24 : Int) < (s.size : Int) := by omega
   clear eg
   go_enter Tryz.func69, Tryz.ntmps69
   go_wp2
   go_ret
   exact ⟨rfl, Below.refl _ _⟩
  ·rw [if_neg c1] at hfin
   have c1z : ¬ (24 : Int) < (s.size : Int) := by omega
   have hb0 : ((s[0]'hpos).toNat : Int) = bt s 0 := by simp [bt, hpos]
   rw [← hb0] at hfin
   have hbr := (s[0]'hpos).toNat_lt
   by_cases c2 : ((s[0]'hpos).toNat : Int) < 97
   ·rw [if_pos c2] at hfin
    subst hfin
    clear eg hb0
    have d2 : (s[0]'hpos).toNat < 97 := by omega
    go_enter Tryz.func69, Tryz.ntmps69
    go_wp2
    go_ret
    exact ⟨rfl, Below.refl _ _⟩
   ·rw [if_neg c2] at hfin
    by_cases c3 : (122 : Int) < ((s[0]'hpos).toNat : Int)
    ·rw [if_pos c3] at hfin
     subst hfin
     clear eg hb0
     have d2 : ¬ (s[0]'hpos).toNat < 97 := by omega
     have d3 : 122 < (s[0]'hpos).toNat := by omega
     go_enter Tryz.func69, Tryz.ntmps69
     go_wp2
     go_ret
     exact ⟨rfl, Below.refl _ _⟩
    ·rw [if_neg c3] at hfin
     have d2 : ¬ (s[0]'hpos).toNat < 97 := by omega
     have d3 : ¬ 122 < (s[0]'hpos).toNat := by omega
     have HR := Aside0.mk (fun W => run_calls _ lowB eg s W (by omega) (low_calls W))
     have HF := Aside0.mk hfin
     clear eg hb0 hfin
     go_enter Tryz.func69, Tryz.ntmps69
     go_wp2_with (go_at_call 148; refine (HR.out _).mono ?_; rintro e w1 ⟨rfl, hb⟩; have HB := Aside0.mk hb; clear hb)
     go_ret
     exact ⟨by rw [HF.out, show (runN lowB s == s.size) = (((runN lowB s : Nat) : Int) == ((s.size : Nat) : Int)) from by rw [Bool.eq_iff_iff, beq_iff_eq, beq_iff_eq]; exact Int.ofNat_inj.symm]; rfl, HB.out⟩
def lexer_Name.f (a0 : ByteArray) : Option Bool := some (nameB a0)
theorem lexer_Name.calls (a0 : ByteArray) (r : Bool) (w : World) (h : lexer_Name.f a0 = some r) :
  Calls Tryz.prog 69 #[.string a0] w fun e w' => e = .returned (.bool r) ∧ Below w.heap.size w w' := by
 obtain rfl := Option.some.inj h
 exact name_calls a0 w
end Go.Proofs.YtkdbcaegeeeiaaaGreat.Lex
