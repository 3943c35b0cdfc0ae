/- A loop of a function, taken out of its body by the number of its block; a region, by its number. -/
import Derived.WalkKit
namespace Go.Proofs.Ytglelfceogpbpaa
open Go.RowKit

def blockAt (k : Nat) : Code → Option Code
  | .block j b => if j = k then some b else blockAt k b
  | .seq a b => match blockAt k a with
    | some c => some c
    | none => blockAt k b
  | .cond _ a b => match blockAt k a with
    | some c => some c
    | none => blockAt k b
  | .loop b => blockAt k b
  | .scope b => blockAt k b
  | _ => none
noncomputable def loopOf (f : Func) (k : Nat) : Code := (f.body.bind (blockAt k)).getD .skip

def regAt (k : Nat) : Code → Option Code
  | .region j ops d => if j = k then some (.region j ops d) else none
  | .seq a b => match regAt k a with
    | some c => some c
    | none => regAt k b
  | .cond _ a b => match regAt k a with
    | some c => some c
    | none => regAt k b
  | .block _ b => regAt k b
  | .loop b => regAt k b
  | .scope b => regAt k b
  | _ => none
noncomputable def regOf (f : Func) (k : Nat) : Code := (f.body.bind (regAt k)).getD .skip
end Go.Proofs.Ytglelfceogpbpaa
