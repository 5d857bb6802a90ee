/- What functions of the program return: each contract says so of one function, for every input at which its pure function yields. -/
import Derived.Test.YtlbpdhjdlnhciaaPx0
import Derived.Test.YtlbpdhjdlnhciaaPx2
namespace Go.Proofs.Ytlbpdhjdlnhciaa.P
open Go.RowKit Go.Proofs.YtlbpdhjdlnhciaaW.PrintWords Go.Proofs.YtlbpdhjdlnhciaaW.PrintLast Go.Proofs.YtlbpdhjdlnhciaaW.PrintMore
attribute [local go_sem] max2_int min2_int max_two min_two max_three min_three max_four min_four   -- for this text's walks alone
set_option linter.unusedVariables false
set_option linter.unusedSimpArgs false

def gangsawref09_Name.l0 : Nat → ByteArray → Int → Option (Bool)
 | 0, _, _ => none
 | k + 1, x0, x3 => if x3 < (x0.size : Int) then (if 0 ≤ x3 then ((gangsawref09_part.f (bt x0 x3)).bind fun t121 => (if t121 = true then (if (bt x0 x3) ≥ 65 then (if (bt x0 x3) ≤ 90 then (some false) else (if x3 = 0 then ((gangsawref09_letter.f (bt x0 x3)).bind fun t122 => (if t122 = true then (gangsawref09_Name.l0 k x0 (wrap64 (x3 + 1))) else (some false))) else (gangsawref09_Name.l0 k x0 (wrap64 (x3 + 1))))) else (if x3 = 0 then ((gangsawref09_letter.f (bt x0 x3)).bind fun t123 => (if t123 = true then (gangsawref09_Name.l0 k x0 (wrap64 (x3 + 1))) else (some false))) else (gangsawref09_Name.l0 k x0 (wrap64 (x3 + 1))))) else (some false))) else (none)) else (if (x0.size : Int) ≥ 1 then (some (decide ((x0.size : Int) ≤ 24))) else (some false))
def gangsawref09_Name.f (k : Nat) (a0 : ByteArray) : Option (Bool) := gangsawref09_Name.l0 k a0 0
theorem gangsawref09_Name.mono_l : ∀ k, (∀ y0 y1, LeO (gangsawref09_Name.l0 k y0 y1) (gangsawref09_Name.l0 (k + 1) y0 y1))
 | 0 => fun _ _ r h => by simp [gangsawref09_Name.l0] at h
 | k + 1 => by
  have ih0 := gangsawref09_Name.mono_l k
  ·intro y0 y1
   unfold gangsawref09_Name.l0
   repeat' first
   | (with_reducible exact ih0 _ _)
   | (with_reducible refine contains3.mono2 (fun x_ => ?_))
   | (with_reducible refine contains37.mono2 (fun x_ => ?_))
   | (with_reducible refine index3.mono2 (fun x_ => ?_))
   | (with_reducible refine index37.mono2 (fun x_ => ?_))
   | (with_reducible exact LeO.refl _)
   | (with_reducible exact LeO.none _)
   | (with_reducible refine LeO.ite ?_ ?_)
   | (with_reducible refine LeO.bind ?_ (fun _ => ?_))
   | exact ih0 _ _
   | exact LeO.none _
   | refine LeO.ite ?_ ?_
   | refine LeO.bind ?_ (fun _ => ?_)
theorem gangsawref09_Name.mono : ∀ a0 k, LeO (gangsawref09_Name.f k a0) (gangsawref09_Name.f (k + 1) a0) := by
 intro a0 k
 have ih0 := gangsawref09_Name.mono_l k
 unfold gangsawref09_Name.f
 repeat' first
   | (with_reducible exact ih0 _ _)
   | (with_reducible refine contains3.mono2 (fun x_ => ?_))
   | (with_reducible refine contains37.mono2 (fun x_ => ?_))
   | (with_reducible refine index3.mono2 (fun x_ => ?_))
   | (with_reducible refine index37.mono2 (fun x_ => ?_))
   | (with_reducible exact LeO.refl _)
   | (with_reducible exact LeO.none _)
   | (with_reducible refine LeO.ite ?_ ?_)
   | (with_reducible refine LeO.bind ?_ (fun _ => ?_))
   | exact ih0 _ _
   | exact LeO.none _
   | refine LeO.ite ?_ ?_
   | refine LeO.bind ?_ (fun _ => ?_)
def gangsawref29_kind.f (a0 : Int) : Option (Bool) := if a0 = 1 then (some true) else (if a0 = 2 then (some true) else (some (a0 == 3)))
def gangsawref29_in.f (a0 : Int) (a1 : Int) (a2 : Int) : Option (Bool) := if a0 ≥ a1 then (some (decide (a0 ≤ a2))) else (some false)
def gangsawref29_sized.f (a0_0 : ByteArray) (a0_1 : Int) (a0_2 : Int) (a0_3 : Int) (a0_4 : Int) (a0_5 : Int) (a0_6 : Int) (a0_7 : Int) : Option (Bool) := (gangsawref29_in.f a0_2 1 1000000).bind fun t125 => (if t125 = true then ((gangsawref29_in.f a0_3 1 1000000).bind fun t126 => (if t126 = true then ((gangsawref29_in.f a0_4 1 1000000).bind fun t127 => (if t127 = true then ((gangsawref29_in.f a0_5 1 1000000).bind fun t128 => (if t128 = true then ((gangsawref29_in.f a0_6 0 1000).bind fun t129 => (if t129 = true then (if a0_7 ≥ 1 then (some (decide (a0_7 ≤ 1000000000))) else (some false)) else (some false))) else (some false))) else (some false))) else (some false))) else (some false))
end Go.Proofs.Ytlbpdhjdlnhciaa.P
