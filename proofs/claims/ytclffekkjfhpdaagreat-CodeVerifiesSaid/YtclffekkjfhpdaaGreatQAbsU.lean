import Derived.Test.YtclffekkjfhpdaaGreatQAbsT
import Derived.Laws.RangeString
import Derived.Laws.StructEq
import Derived.WideLaws
namespace Go.Proofs.YtclffekkjfhpdaaGreat
open Go.ChangeShapes Go.WideShapes Go.RowKit
set_option linter.unusedVariables false
set_option linter.unusedSimpArgs false
namespace Abs
abbrev setB (keys:List (List UInt8)):Blk:=.iter (.set keys) 0
section
variable {U T:Nat→Prop} {w0:Base} {w w':World} {s:ASt} {a:Act} {hv hv':Nat→Value} {h h':Heap} {id:Nat}
theorem Pass.ofIter {S S':Thing} {p p':Nat} (hb:look h id=some (.iter S p)) (j:Nat):Pass h hv ((id,some (.iter S' p'))::h) hv j:=by
 by_cases hj:id=j
 ·subst hj
  refine ⟨?_,?_,fun _=>rfl,fun _=>⟨S',p',look_same _ _ _⟩⟩
  ·rintro ⟨_,_,_,_,e⟩;rw [hb] at e;cases e
  ·rintro ⟨_,e⟩;rw [hb] at e;cases e
 ·exact ⟨fun x=>by rw [zcQ _ _ hj];exact x,fun x=>by rw [zcQ _ _ hj];exact x,fun _=>rfl,fun x=>by rw [zcQ _ _ hj];exact x⟩
theorem mine_iter {S S':Thing} {p p':Nat} (hb:look h id=some (.iter S p)) (b:Nat) (hm:mine ((id,some (.iter S' p'))::h) hv b):mine h hv b:=by
 obtain ⟨i,x,h1,h2⟩:=hm
 by_cases hi:id=i
 ·subst hi;exact ⟨id,_,hb,h2⟩
 ·rw [zcQ _ _ hi] at h1;exact ⟨i,x,h1,h2⟩
theorem Fr.putObj (w:World) (b:Nat) (o:Obj):Fr (fun g=>g=b) w (w.putObj b o):=⟨rfl,rfl,rfl,by simp,fun g _ hn=>World.putObj_heap_other fun e=>hn e⟩
theorem Ok.iter (ok:Ok U T w0 s a w hv) {S S':Thing} {p p':Nat} (hb:look s.heap id=some (.iter S p)) {b:Nat} (hid:hv id=S.val b) (hv2:S'.val b=S.val b) {o:Obj} (ho:S'.is p' o) {d:Option Nat} (hd:dOk s d=true) (r:AV) (v:Value)
  (hr:∀(h:Heap) (hv:Nat→Value) (A:Nat→Prop) (w:World),RepV h hv A w r v) :
  Ok U T w0 (ASt.put { s with heap:=(id,some (.iter S' p'))::s.heap } d r) (a.put d v) (w.putObj b o) hv:=by
 obtain ⟨b',o',h3,h4,_⟩:=ok.m.hm.blk id _ hb
 have hbb:b'=b:=by
  rw [hid] at h3
  have:=congrArg blockOf h3
  rw [Thing.block,Thing.block] at this
  exact (Option.some.inj this).symm
 subst hbb
 have hmb:mine s.heap hv b':=⟨id,_,hb,by rw [hid,Thing.block]⟩
 have hf:=Fr.putObj w b' o
 have hput:=ok.m.hm.put (w':=w.putObj b' o) (id:=id) (blk:=.iter S' p') (u:=hv id) hf (fun g hg=>by subst hg;exact ⟨⟨_,hb⟩,by rw [hid,Thing.block]⟩) (fun g hg=>.inr ⟨⟨_,hb⟩,hg⟩) (fun i x _ _ j _=>by rw [upd_self];exact Pass.ofIter hb j) (by
  rw [upd_self]
  exact ⟨b',o,hid.trans hv2.symm,World.putObj_heap_same (Array.getElem?_eq_some_iff.1 h4).1,ho⟩)
 rw [upd_self] at hput
 exact ok.next hf (fun g hg=>by subst hg;exact hmb) (fun _ j _=>Pass.ofIter hb j) (fun j _=>Pass.ofIter hb j) hput (fun g hg _=>mine_iter hb g hg) (hr _ _ _ _) hd
end
section
variable {P:Program} {s:ASt} {d:Option Nat} {ty t:TypeId} {pos:String} {af:Array Edge} {g:Option (Nat×Bool)} {x:Operand} {id p:Nat} {l:List UInt8}
end
section
variable {P:Program} {s:ASt} {d:Option Nat} {ty xT yT:TypeId} {pos:String} {af:Array Edge} {g:Option (Nat×Bool)} {x:Operand} {b:Bool}
end
section
variable {P:Program} {s:ASt} {d:Option Nat} {ty t e:TypeId} {pos:String} {af:Array Edge} {g:Option (Nat×Bool)} {x y:Operand} {k:IntKind} {i:Int} {len sz:Nat} {cs ds:List CV}
end
end Abs
namespace Md
end Md
end Go.Proofs.YtclffekkjfhpdaaGreat

