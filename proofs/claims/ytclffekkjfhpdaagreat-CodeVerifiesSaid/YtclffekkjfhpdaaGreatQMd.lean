namespace Go.Proofs.YtclffekkjfhpdaaGreat
namespace Md
def ifp {α:Type} (p:Prop) [Decidable p] (m:Option α):Option α:=if p then m else none
def onS {α β γ:Type} (o:Sum α β) (f:α→Option γ) (g:β→Option γ):Option γ :=
 match o with
 | .inl x=>f x
 | .inr x=>g x
section
variable {α β γ:Type}
theorem ifp_s {p:Prop} [Decidable p] {m:Option α} {r:α} (h:ifp p m=some r):p∧m=some r:=by
 unfold ifp at h
 split at h
 ·exact ⟨by assumption,h⟩
 ·cases h
theorem ifp_pos {p:Prop} [Decidable p] {m:Option α} (h:p):ifp p m=m:=if_pos h
theorem bind_s {o:Option α} {f:α→Option β} {r:β} (h:o.bind f=some r):∃x,o=some x∧f x=some r:=by
 cases o with
 | none=>cases h
 | some x=>exact ⟨x,rfl,h⟩
theorem bind_e {o:Option α} {f:α→Option β} {x:α} (h:o=some x):o.bind f=f x:=by rw [h];rfl
theorem cond_t {b:Bool} {x y:Option α} {r:α} (h:(bif b then x else y)=some r) (hb:b=true):x=some r:=by rw [hb] at h;exact h
theorem cond_f {b:Bool} {x y:Option α} {r:α} (h:(bif b then x else y)=some r) (hb:b=false):y=some r:=by rw [hb] at h;exact h
theorem onS_l {x:α} {f:α→Option γ} {g:β→Option γ} {r:γ} (h:onS (.inl x) f g=some r):f x=some r:=h
theorem onS_r {x:β} {f:α→Option γ} {g:β→Option γ} {r:γ} (h:onS (.inr x) f g=some r):g x=some r:=h
theorem bool_or (b:Bool):b=true∨b=false:=by cases b<;>simp
end
def W (n:Int):Int:=let m:=n%18446744073709551616;if m≥9223372036854775808 then m - 18446744073709551616 else m
theorem W_id {n:Int} (h:-9223372036854775808≤n) (h':n≤9223372036854775807):W n=n:=by
 unfold W
 simp only
 split<;>omega
def I64 (n:Int):Prop:=-9223372036854775808≤n∧n≤9223372036854775807
def shl64 (a:UInt64) (n:Nat):UInt64:=.ofNat (a.toNat*2^min n 64)
def shr64 (a:UInt64) (n:Nat):UInt64:=.ofNat (a.toNat/2^min n 64)
def shr32 (a:UInt32) (n:Nat):UInt32:=.ofNat (a.toNat/2^min n 32)
def ishr (a:Int) (n:Nat):Int:=a.fdiv (2^min n 64)
def ixor (a b:Int):Int:=W (BitVec.ofInt 64 a ^^^ BitVec.ofInt 64 b).toNat
theorem idx_eq {i n:Int} (h:0≤i∧i<n):i=((i.toNat:Nat):Int):=by omega
theorem idx_lt {i:Int} {n:Nat} (h:0≤i∧i<(n:Int)):i.toNat<n:=by omega
theorem nn (n:Nat):0≤(n:Int):=by omega
theorem nn_eq {i:Int} (h:0≤i):i=((i.toNat:Nat):Int):=by omega
end Md
end Go.Proofs.YtclffekkjfhpdaaGreat

