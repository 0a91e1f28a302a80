/-
  Layer 3: bindings as plain lists. No project text.
-/
import Derived.Test.YthclkdplihchjaaDoorPatB
namespace Go.Proofs.YthclkdplihchjaaDoor.P
open Go.RowKit Go.Proofs.YthclkdplihchjaaDoorW.PrintWords Go.Proofs.YthclkdplihchjaaDoor.Args
set_option linter.unusedVariables false

def mkB (l : List Bs) (r : Bool) : S28 := ⟨Ss l, r⟩
def Bnd (l : List (List Bs × Bool)) : List S28 := l.map fun x => mkB x.1 x.2
theorem Bnd_length (l : List (List Bs × Bool)) : (Bnd l).length = l.length := by simp [Bnd]
theorem Bnd_snoc (l : List (List Bs × Bool)) (x : List Bs) (r : Bool) : Bnd l ++ [(⟨Ss x, r⟩ : S28)] = Bnd (l ++ [(x, r)]) := by simp [Bnd, mkB]
/-- What the parts with a wildcard are narrowed to. -/
def bindL : List Bs → List Bs → List (List Bs × Bool)
  | [], _ => []
  | _ :: _, [] => []
  | p :: ps, q :: qs => match starL p with
    | none => bindL ps qs
    | some s => ([q.take (q.length - s.length)], false) :: bindL ps qs
def bindP (ps : List Bs) (b : Bool) (qs : List Bs) (b' : Bool) : List (List Bs × Bool) := bindL ps qs ++ if b = true then [(qs.drop ps.length, b')] else []
end Go.Proofs.YthclkdplihchjaaDoor.P
