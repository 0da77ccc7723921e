/- Cr14: the table of the checksum, and its linear laws. -/
import Derived.Test.YtodfebhimadaiaaPl14
namespace Go.Proofs.Ytodfebhimadaiaa
open Go.GV
namespace R02
def sB (c : BitVec 32) : BitVec 32 := (if c.getLsbD 0 then 2197175160#32 else 0#32) ^^^ (c >>> 1)
def iB : Nat → BitVec 32 → BitVec 32
  | 0, c => c
  | k + 1, c => sB (iB k c)
end R02
end Go.Proofs.Ytodfebhimadaiaa
