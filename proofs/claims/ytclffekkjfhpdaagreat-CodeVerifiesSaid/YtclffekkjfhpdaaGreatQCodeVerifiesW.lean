import Derived.Test.YtclffekkjfhpdaaGreatQCodeZ
import Derived.Test.YtclffekkjfhpdaaGreatQPz
import Derived.Test.YtclffekkjfhpdaaGreatQAbsY
namespace Go.Proofs.YtclffekkjfhpdaaGreat
open Go.ChangeShapes Go.WideShapes Go.RowKit
open Abs Md
set_option linter.unusedVariables false
set_option maxRecDepth 10000
namespace CodeVerifiesW
theorem slc_len {w:World} {n:Nat} {el:Nat→List CV} {v:Value} (h:RepC NoA w (.slc n el) v):n≤9223372036854775807:=by
 cases h with
 | nil=>omega
 | emp=>omega
 | slc _ _ _ _ _ _ _ _ _ hc hm=>exact Nat.le_trans hc hm
theorem zim {α:Type} [Inhabited α] {P:Program} {t:TypeId} {f:α→List CV} {p:List α→Prop} (h:Kit.Opens P t 1 (rP (fun l=>[CV.ls f l]) p)):Kit.Opens P t 1 (rP (fun l=>[CV.ls f l]) fun l=>p l∧l.length≤9223372036854775807) :=
 ⟨h.1,fun H enc w base spare held fuel cs x k=>by
  obtain ⟨a,h1,h2⟩:=h.2 H enc w base spare held fuel cs x k
  refine ⟨a,h1,h2,?_⟩
  have h3:All2 (RepC NoA w) [CV.ls f a] cs:=h1
  cases h3 with
  | cons hr _=>exact slc_len hr⟩
def c_Code (x:Md.Code):List CV:=[CV.ls zab x.Types]
theorem op30:Kit.Opens Tryz.prog 30 1 (rP (fun l=>[CV.ls c_Int l]) (fun l=>∀x∈l,Md.I64 x)) :=
 zev (f:=c_Int) (p:=Md.I64) (by decide) (fun _=>rfl) Tryz.underlying30 (by kernel_rfl) (zdS (g:=c_Int) (q:=Md.I64) (zeu Tryz.underlying3 (by kernel_rfl)) (fun _=>rfl) (fun _ h=>h))
theorem op33:Kit.Opens Tryz.prog 33 1 (rP (fun l=>[CV.ls c_Str l]) (fun l=>l.length≤9223372036854775807)) :=
 zdS (zim (zev (f:=c_Str) (p:=fun _=>True) (by decide) (fun _=>rfl) Tryz.underlying33 (by kernel_rfl) (zdS (g:=c_Str) (q:=(fun _=>True)) (zfJ Tryz.underlying9 (by kernel_rfl)) (fun _=>rfl) (fun _ h=>h)))) (fun _=>rfl) (fun _ h=>h.2)
theorem op35:Kit.Opens Tryz.prog 35 5 (rP c_Value (fun x=>x.okl)):=by
 refine ⟨by kernel_rfl,fun H enc w base spare held fuel cs x h=>?_⟩
 obtain ⟨ys,n,_,_,hlen,hyl,hf⟩:=DataW.trod_struct Tryz.underlying35 h
 have hl:cs.length=5:=hlen.trans (by kernel_rfl)
 obtain ⟨b0,h0,q0⟩:=field_p (zeu Tryz.underlying3 (by kernel_rfl)) (hf 0 _ rfl) (by rw [hyl];decide)
 obtain ⟨b1,h1,q1⟩:=field_p (zeu Tryz.underlying3 (by kernel_rfl)) (hf 1 _ rfl) (by rw [hyl];decide)
 obtain ⟨b2,h2,q2⟩:=field_p (zfJ Tryz.underlying9 (by kernel_rfl)) (hf 2 _ rfl) (by rw [hyl];decide)
 obtain ⟨b3,h3,q3⟩:=field_p op30 (hf 3 _ rfl) (by rw [hyl];decide)
 obtain ⟨b4,h4,q4⟩:=field_p op33 (hf 4 _ rfl) (by rw [hyl];decide)
 exact ⟨⟨b0,b1,b2,b3,b4⟩,zfN (all2_join h0 (all2_join h1 (all2_join h2 (all2_join h3 h4)))) hl,(by show Md.Value.okl _;unfold Md.Value.okl;exact ⟨q0,q1,q3,q4⟩)⟩
theorem op53:Kit.Opens Tryz.prog 53 7 (rP c_Field (fun x=>x.okl)):=by
 refine ⟨by kernel_rfl,fun H enc w base spare held fuel cs x h=>?_⟩
 obtain ⟨ys,n,_,_,hlen,hyl,hf⟩:=DataW.trod_struct Tryz.underlying53 h
 have hl:cs.length=7:=hlen.trans (by kernel_rfl)
 obtain ⟨b0,h0,q0⟩:=field_p (zfJ Tryz.underlying9 (by kernel_rfl)) (hf 0 _ rfl) (by rw [hyl];decide)
 obtain ⟨b1,h1,q1⟩:=field_p (zeu Tryz.underlying3 (by kernel_rfl)) (hf 1 _ rfl) (by rw [hyl];decide)
 obtain ⟨b2,h2,q2⟩:=field_p op35 (hf 2 _ rfl) (by rw [hyl];decide)
 exact ⟨⟨b0,b1,b2⟩,zfN (all2_join h0 (all2_join h1 h2)) hl,(by show Md.Field.okl _;unfold Md.Field.okl;exact ⟨q1,q2⟩)⟩
theorem op42:Kit.Opens Tryz.prog 42 1 (rP (fun l=>[CV.ls c_Field l]) (fun l=>∀x∈l,(fun x=>x.okl) x)) :=
 zev (f:=c_Field) (p:=(fun x=>x.okl)) (by decide) (fun _=>rfl) Tryz.underlying42 (by kernel_rfl) (zdS (g:=c_Field) (q:=(fun x=>x.okl)) op53 (fun _=>rfl) (fun _ h=>h))
theorem op37:Kit.Opens Tryz.prog 37 8 (rP c_Instr (fun x=>x.okl)):=by
 refine ⟨by kernel_rfl,fun H enc w base spare held fuel cs x h=>?_⟩
 obtain ⟨ys,n,_,_,hlen,hyl,hf⟩:=DataW.trod_struct Tryz.underlying37 h
 have hl:cs.length=8:=hlen.trans (by kernel_rfl)
 obtain ⟨b0,h0,q0⟩:=field_p (zeu Tryz.underlying3 (by kernel_rfl)) (hf 0 _ rfl) (by rw [hyl];decide)
 obtain ⟨b1,h1,q1⟩:=field_p (zeu Tryz.underlying3 (by kernel_rfl)) (hf 1 _ rfl) (by rw [hyl];decide)
 obtain ⟨b2,h2,q2⟩:=field_p (zeu Tryz.underlying3 (by kernel_rfl)) (hf 2 _ rfl) (by rw [hyl];decide)
 obtain ⟨b3,h3,q3⟩:=field_p op35 (hf 3 _ rfl) (by rw [hyl];decide)
 exact ⟨⟨b0,b1,b2,b3⟩,zfN (all2_join h0 (all2_join h1 (all2_join h2 h3))) hl,(by show Md.Instr.okl _;unfold Md.Instr.okl;exact ⟨q0,q1,q2,q3⟩)⟩
theorem op38:Kit.Opens Tryz.prog 38 1 (rP (fun l=>[CV.ls c_Instr l]) (fun l=>∀x∈l,(fun x=>x.okl) x)) :=
 zev (f:=c_Instr) (p:=(fun x=>x.okl)) (by decide) (fun _=>rfl) Tryz.underlying38 (by kernel_rfl) (zdS (g:=c_Instr) (q:=(fun x=>x.okl)) op37 (fun _=>rfl) (fun _ h=>h))
theorem op40:Kit.Opens Tryz.prog 40 5 (rP zad (fun x=>x.okl)):=by
 refine ⟨by kernel_rfl,fun H enc w base spare held fuel cs x h=>?_⟩
 obtain ⟨ys,n,_,_,hlen,hyl,hf⟩:=DataW.trod_struct Tryz.underlying40 h
 have hl:cs.length=5:=hlen.trans (by kernel_rfl)
 obtain ⟨b0,h0,q0⟩:=field_p (zfJ Tryz.underlying9 (by kernel_rfl)) (hf 0 _ rfl) (by rw [hyl];decide)
 obtain ⟨b1,h1,q1⟩:=field_p op30 (hf 1 _ rfl) (by rw [hyl];decide)
 obtain ⟨b2,h2,q2⟩:=field_p (zeu Tryz.underlying3 (by kernel_rfl)) (hf 2 _ rfl) (by rw [hyl];decide)
 obtain ⟨b3,h3,q3⟩:=field_p op30 (hf 3 _ rfl) (by rw [hyl];decide)
 obtain ⟨b4,h4,q4⟩:=field_p op38 (hf 4 _ rfl) (by rw [hyl];decide)
 exact ⟨⟨b0,b1,b2,b3,b4⟩,zfN (all2_join h0 (all2_join h1 (all2_join h2 (all2_join h3 h4)))) hl,(by show Md.CodeMethod.okl _;unfold Md.CodeMethod.okl;exact ⟨q1,q2,q3,q4⟩)⟩
theorem op41:Kit.Opens Tryz.prog 41 1 (rP (fun l=>[CV.ls zad l]) (fun l=>∀x∈l,(fun x=>x.okl) x)) :=
 zev (f:=zad) (p:=(fun x=>x.okl)) (by decide) (fun _=>rfl) Tryz.underlying41 (by kernel_rfl) (zdS (g:=zad) (q:=(fun x=>x.okl)) op40 (fun _=>rfl) (fun _ h=>h))
theorem op44:Kit.Opens Tryz.prog 44 3 (rP zab (fun x=>x.okl)):=by
 refine ⟨by kernel_rfl,fun H enc w base spare held fuel cs x h=>?_⟩
 obtain ⟨ys,n,_,_,hlen,hyl,hf⟩:=DataW.trod_struct Tryz.underlying44 h
 have hl:cs.length=3:=hlen.trans (by kernel_rfl)
 obtain ⟨b0,h0,q0⟩:=field_p (zfJ Tryz.underlying9 (by kernel_rfl)) (hf 0 _ rfl) (by rw [hyl];decide)
 obtain ⟨b1,h1,q1⟩:=field_p op42 (hf 1 _ rfl) (by rw [hyl];decide)
 obtain ⟨b2,h2,q2⟩:=field_p op41 (hf 2 _ rfl) (by rw [hyl];decide)
 exact ⟨⟨b0,b1,b2⟩,zfN (all2_join h0 (all2_join h1 h2)) hl,(by show Md.CodeType.okl _;unfold Md.CodeType.okl;exact ⟨q1,q2⟩)⟩
theorem op22:Kit.Opens Tryz.prog 22 1 (rP (fun l=>[CV.ls zab l]) (fun l=>∀x∈l,(fun x=>x.okl) x)) :=
 zev (f:=zab) (p:=(fun x=>x.okl)) (by decide) (fun _=>rfl) Tryz.underlying22 (by kernel_rfl) (zdS (g:=zab) (q:=(fun x=>x.okl)) op44 (fun _=>rfl) (fun _ h=>h))
theorem op24:Kit.Opens Tryz.prog 24 1 (rP c_Code (fun x=>x.okl)):=by
 refine ⟨by kernel_rfl,fun H enc w base spare held fuel cs x h=>?_⟩
 obtain ⟨ys,n,_,_,hlen,hyl,hf⟩:=DataW.trod_struct Tryz.underlying24 h
 have hl:cs.length=1:=hlen.trans (by kernel_rfl)
 obtain ⟨b0,h0,q0⟩:=field_p op22 (hf 0 _ rfl) (by rw [hyl];decide)
 exact ⟨⟨b0⟩,zfN h0 hl,(by show Md.Code.okl _;unfold Md.Code.okl;exact q0)⟩
abbrev r24:Kit.Rel (Md.Code):=rP c_Code (fun x=>x.okl)
theorem walk (w:World) (v0:Array Value) (a0:Md.Code) (w0:CodeVerifiesW.r24 w w.heap.size a0 v0.toList) (a1:Int) (w1:(Lit.int .i64 a1).wf=true) (a2:Int) (w2:(Lit.int .i64 a2).wf=true) :
  Calls Tryz.prog 3 #[.agg v0,.int .i64 a1,.int .i64 a2] w fun e w'=>e=.returned (.bool true)∧Below w.heap.size w w':=by
 obtain ⟨k,hk⟩:=Md.zht a0 a1 a2 w0.2 (i64_of w1) (i64_of w2)
 exact fnc_law (Md.zfa hk) (.cons (in_agg w0.1) (.cons (in_v rfl) (.cons (in_v rfl) (.nil))))
end CodeVerifiesW
end Go.Proofs.YtclffekkjfhpdaaGreat

