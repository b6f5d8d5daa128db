/-
  What the called functions of Go's library compute, as plain functions. No condition.
-/
import Derived.Test.YtjpiiejdaiaocaaDoorMd
import Derived.Lib.Bytealg
import Derived.Lib.ItoaNum
import Derived.Lib.ParseIntB
import Derived.Lib.Strings
namespace Go.Proofs.YtjpiiejdaiaocaaDoor
open Go
set_option linter.unusedVariables false
namespace Md
def strings_IndexByte (k : Nat) (a0 : List UInt8) (a1 : UInt8) : Option Int := some (Lib.indexByte a0 a1)
def internal_stringslite_Index (k : Nat) (a0 a1 : List UInt8) : Option Int := Md.ifp (a1.length = 1) <| some (Lib.indexByte a0 (a1.getD 0 0))
def strconv_Itoa (k : Nat) (a0 : Int) : Option (List UInt8) := Md.ifp (-9223372036854775808 ≤ a0 ∧ a0 ≤ 9223372036854775807) <| some (Lib.itoa a0)
def strings_HasPrefix (k : Nat) (a0 a1 : List UInt8) : Option Bool := some (Lib.hasPrefix a0 a1)
def parseRes (l : List UInt8) : Int × Bool := match Lib.parseIntB 64 l with
  | .ok v => (v, false)
  | .range => (Lib.intSat 64 l, true)
  | _ => (0, true)
def strconv_ParseInt (k : Nat) (a0 : List UInt8) (a1 a2 : Int) : Option (Int × Bool) := Md.ifp (a1 = 10 ∧ a2 = 64 ∧ a0.length ≤ 4000000) <| some (parseRes a0)
end Md
end Go.Proofs.YtjpiiejdaiaocaaDoor
