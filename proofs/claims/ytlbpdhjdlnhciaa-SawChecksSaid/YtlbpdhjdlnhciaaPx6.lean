/- What functions of the program return: each contract says so of one function, for every input at which its pure function yields. -/
import Derived.Test.YtlbpdhjdlnhciaaPx0
import Derived.Test.YtlbpdhjdlnhciaaPx2
import Derived.Test.YtlbpdhjdlnhciaaPx4
import Derived.Test.YtlbpdhjdlnhciaaPx5
import Derived.Test.YtlbpdhjdlnhciaaSym
namespace Go.Proofs.Ytlbpdhjdlnhciaa.P
open Go.RowKit Go.Proofs.YtlbpdhjdlnhciaaW.PrintWords Go.Proofs.YtlbpdhjdlnhciaaW.PrintLast Go.Proofs.YtlbpdhjdlnhciaaW.PrintMore
attribute [local go_sem] max2_int min2_int max_two min_two max_three min_three max_four min_four   -- for this text's walks alone
set_option linter.unusedVariables false
set_option linter.unusedSimpArgs false

open Go.Proofs.Ytlbpdhjdlnhciaa.Sym
def gangsawref29_Minutes.f (k : Nat) (a0_0 : ByteArray) (a0_1 : Int) (a0_2 : Int) (a0_3 : Int) (a0_4 : Int) (a0_5 : Int) (a0_6 : Int) (a0_7 : Int) (a1 : Int) : Option (Int × Int) := (gangsawref29_each.f k (([(⟨a0_0, a0_1, (⟨a0_2, a0_3, a0_4⟩ : S28), a0_5, a0_6, a0_7⟩ : S37)] : List (S37)))).bind fun t155 => (if t155 = 0 then (if a1 < 1 then (some (0, 1)) else (if a1 > 4000000000000 then (some (0, 1)) else ((gangsawref29_minutes.f a0_0 a0_1 a0_2 a0_3 a0_4 a0_5 a0_6 a0_7 a1).bind fun t156 => (some (t156, 0))))) else (some (0, t155)))
theorem gangsawref29_Minutes.mono : ∀ a0 a1 a2 a3 a4 a5 a6 a7 a8 k, LeO (gangsawref29_Minutes.f k a0 a1 a2 a3 a4 a5 a6 a7 a8) (gangsawref29_Minutes.f (k + 1) a0 a1 a2 a3 a4 a5 a6 a7 a8) := by
 intro a0 a1 a2 a3 a4 a5 a6 a7 a8 k
 unfold gangsawref29_Minutes.f
 repeat' first
   | (with_reducible exact gangsawref29_each.mono _ _)
   | (with_reducible refine contains3.mono2 (fun x_ => ?_))
   | (with_reducible refine contains37.mono2 (fun x_ => ?_))
   | (with_reducible refine index3.mono2 (fun x_ => ?_))
   | (with_reducible refine index37.mono2 (fun x_ => ?_))
   | (with_reducible exact LeO.refl _)
   | (with_reducible exact LeO.none _)
   | (with_reducible refine LeO.ite ?_ ?_)
   | (with_reducible refine LeO.bind ?_ (fun _ => ?_))
   | exact gangsawref29_each.mono _ _
   | exact LeO.none _
   | refine LeO.ite ?_ ?_
   | refine LeO.bind ?_ (fun _ => ?_)
def saw_cut.f (a0_0 : Int) (a0_1 : Int) (a0_2 : Int) (a0_3 : Int) (a0_4 : Int) (a0_5 : Int) (a1 : Int) (a2 : Int) : Option (Int) := (saw_boxed.f a0_0 a0_1 a0_2 a0_3 a0_4 a0_5 a1).bind fun t158 => (if t158 = 0 then (if a2 < 0 then (some 1) else (if a2 > 1000 then (some 1) else (some 0))) else (some t158))
def saw_Can.f (a0_0 : ByteArray) (a0_1 : Int) (a0_2 : Int) (a0_3 : Int) (a0_4 : Int) (a0_5 : Int) (a0_6 : Int) (a0_7 : Int) (a1_0 : Int) (a1_1 : Int) (a1_2 : Int) (a1_3 : Int) (a1_4 : Int) (a1_5 : Int) (a2 : Int) (a3 : Int) : Option (Int) := (saw_check.f (([(⟨a0_0, a0_1, (⟨a0_2, a0_3, a0_4⟩ : S28), a0_5, a0_6, a0_7⟩ : S37)] : List (S37)))).bind fun t164 => (if t164 = 0 then ((saw_cut.f a1_0 a1_1 a1_2 a1_3 a1_4 a1_5 a2 a3).bind fun t165 => (if t165 = 0 then ((saw_can.f a0_0 a0_1 a0_2 a0_3 a0_4 a0_5 a0_6 a0_7 a1_0 a1_1 a1_2 a1_3 a1_4 a1_5 a2 a3).bind fun t166 => (some t166)) else (some t165))) else (some t164))
def gangsawref29_Can.f (k : Nat) (a0_0 : ByteArray) (a0_1 : Int) (a0_2 : Int) (a0_3 : Int) (a0_4 : Int) (a0_5 : Int) (a0_6 : Int) (a0_7 : Int) (a1_0 : Int) (a1_1 : Int) (a1_2 : Int) (a1_3 : Int) (a1_4 : Int) (a1_5 : Int) (a2 : Int) (a3 : Int) : Option (Int) := (gangsawref29_each.f k (([(⟨a0_0, a0_1, (⟨a0_2, a0_3, a0_4⟩ : S28), a0_5, a0_6, a0_7⟩ : S37)] : List (S37)))).bind fun t172 => (if t172 = 0 then ((gangsawref29_Cut.f a1_0 a1_1 a1_2 a1_3 a1_4 a1_5 a2 a3).bind fun t173 => (if t173 = 0 then ((gangsawref29_able.f a0_0 a0_1 a0_2 a0_3 a0_4 a0_5 a0_6 a0_7 a1_0 a1_1 a1_2 a1_3 a1_4 a1_5 a2 a3).bind fun t174 => (some t174)) else (some t173))) else (some t172))
theorem gangsawref29_Can.mono : ∀ a0 a1 a2 a3 a4 a5 a6 a7 a8 a9 a10 a11 a12 a13 a14 a15 k, LeO (gangsawref29_Can.f k a0 a1 a2 a3 a4 a5 a6 a7 a8 a9 a10 a11 a12 a13 a14 a15) (gangsawref29_Can.f (k + 1) a0 a1 a2 a3 a4 a5 a6 a7 a8 a9 a10 a11 a12 a13 a14 a15) := by
 intro a0 a1 a2 a3 a4 a5 a6 a7 a8 a9 a10 a11 a12 a13 a14 a15 k
 unfold gangsawref29_Can.f
 repeat' first
   | (with_reducible exact gangsawref29_each.mono _ _)
   | (with_reducible refine contains3.mono2 (fun x_ => ?_))
   | (with_reducible refine contains37.mono2 (fun x_ => ?_))
   | (with_reducible refine index3.mono2 (fun x_ => ?_))
   | (with_reducible refine index37.mono2 (fun x_ => ?_))
   | (with_reducible exact LeO.refl _)
   | (with_reducible exact LeO.none _)
   | (with_reducible refine LeO.ite ?_ ?_)
   | (with_reducible refine LeO.bind ?_ (fun _ => ?_))
   | exact gangsawref29_each.mono _ _
   | exact LeO.none _
   | refine LeO.ite ?_ ?_
   | refine LeO.bind ?_ (fun _ => ?_)
def saw_Area.f (a0_0 : Int) (a0_1 : Int) (a0_2 : Int) (a0_3 : Int) (a0_4 : Int) (a0_5 : Int) (a1 : Int) : Option (Int × Int) := (saw_boxed.f a0_0 a0_1 a0_2 a0_3 a0_4 a0_5 a1).bind fun t176 => (if t176 = 0 then ((saw_area.f a0_0 a0_1 a0_2 a0_3 a0_4 a0_5 a1).bind fun t177 => (some (t177, 0))) else (some (0, t176)))
end Go.Proofs.Ytlbpdhjdlnhciaa.P
