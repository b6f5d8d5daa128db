import Derived.Test.YtclffekkjfhpdaaGreatQAbsS
namespace Go.Proofs.YtclffekkjfhpdaaGreat
open Go.ChangeShapes Go.WideShapes Go.RowKit
set_option linter.unusedVariables false
set_option linter.unusedSimpArgs false
namespace Abs
variable {P:Program} {s:ASt}
theorem ev_nilc {x:Operand} {id off:Nat} {d:Option Nat} {ty:TypeId} {pos} {af} {g} (hx:s.ev x=.one (.ptr id off)) (hd:dOk s d=true):Ev P [] s ⟨d,.nilCheck x,ty,pos,af,g⟩ (· = s.put d (.one (.ptr id off))) :=
 ev_of_run hd fun U a w hv M=>by
  have hr:=M.ev x
  rw [hx] at hr
  obtain ⟨h1,b,h2,h3⟩:=hr
  exact ⟨.pointer (some ⟨b,off,none⟩),w,by simp [execOp,h3],Fr.refl _ _,h1,b,h2,rfl⟩
end Abs
end Go.Proofs.YtclffekkjfhpdaaGreat

