/-
  The called functions of Go's library. No condition.
-/
import Derived.Test.YtjpiiejdaiaocaaDoorLibM
