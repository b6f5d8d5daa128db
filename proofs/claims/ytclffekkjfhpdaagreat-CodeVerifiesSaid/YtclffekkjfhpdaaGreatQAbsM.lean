import Derived.Test.YtclffekkjfhpdaaGreatQAbsU
import Derived.Carry
import Derived.MapKept
namespace Go.Proofs.YtclffekkjfhpdaaGreat
open Go.ChangeShapes Go.WideShapes Go.RowKit
set_option linter.unusedVariables false
set_option linter.unusedSimpArgs false
namespace Abs
theorem set_find:∀(es:List MapEntry) (keys:List (List UInt8)) (i:Nat) (l:List UInt8),es.map (fun e=>(e.key,e.val))=keys.map (fun l=>(Value.string ⟨l.toArray⟩,Value.bool true)) →
  (l∈keys∧∃j,Instr.findNow .string (Sv l) es i=some (some (j,.bool true)))∨(l∉keys∧Instr.findNow .string (Sv l) es i=some none)
 | [],[],i,l,_=>.inr ⟨by simp,rfl⟩
 | [],_::_,i,l,h=>by simp at h
 | _::_,[],i,l,h=>by simp at h
 | e::es,k::keys,i,l,h=>by
  simp only [List.map_cons,List.cons.injEq,Prod.mk.injEq] at h
  obtain ⟨⟨h1,h2⟩,h3⟩:=h
  by_cases hk:l=k
  ·subst hk
   refine .inl ⟨by simp,i,?_⟩
   have he:((⟨l.toArray⟩:ByteArray)==⟨l.toArray⟩)=true:=(MapKept.bytes_beq _ _).2 rfl
   simp [Instr.findNow,Instr.sameNow,h1,h2,he]
  ·have hne:((⟨l.toArray⟩:ByteArray)==⟨k.toArray⟩)=false:=by
    rw [←Bool.not_eq_true,MapKept.bytes_beq]
    exact fun e=>hk (str_ext.1 e)
   have hstep:Instr.findNow .string (Sv l) (e::es) i=Instr.findNow .string (Sv l) es (i+1):=by
    simp [Instr.findNow,Instr.sameNow,h1,hne]
   rw [hstep]
   rcases set_find es keys (i+1) l h3 with ⟨h4,h5⟩|⟨h4,h5⟩
   ·exact .inl ⟨by simp [h4],h5⟩
   ·exact .inr ⟨by simp [hk,h4],h5⟩
section
variable {P:Program} {s:ASt} {d:Option Nat} {ty t k e:TypeId} {pos:String} {af:Array Edge} {g:Option (Nat×Bool)} {x y:Operand} {id:Nat} {l:List UInt8} {keys:List (List UInt8)}
theorem zhu (id:Nat) (hid:look s.heap id=none) (hd:dOk s d=true) :
  Ev P [] s ⟨d,.makeMap t none,ty,pos,af,g⟩ (· = ASt.put { s with heap:=(id,some (setB []))::s.heap } d (.one (.itp id))) :=
 fun U T w0 a w hv ok K Q hK=>by
  have hrun:(execOp a.eval ⟨d,.makeMap t none,ty,pos,af,g⟩).run P w=.ok (.value (.map (some w.heap.size))) (w.alloc (.map #[] 0)):=by
   simp only [execOp,Option.map_none,Sem.run_bind,run_makeMap,Result.andThen]
   rfl
  unfold Oper.wp
  rw [hrun]
  have hu:∀g,blockOf (.map (some w.heap.size))=some g→w.heap.size≤g:=fun g hg=>by simp [blockOf] at hg;omega
  exact hK _ _ _ _ rfl (ok.new (blk:=setB []) hid (Fr.alloc _ _ _) hu ⟨w.heap.size,_,upd_same _ _ _,World.alloc_heap_new w _,[],0,rfl,rfl⟩ ⟨⟨_,_,look_same _ _ _⟩,(upd_same _ _ _).symm,.set [],_,rfl⟩ hd) fun j _ ⟨b,hb⟩=>upd_other fun e=>by subst e;rw [hid] at hb;cases hb
theorem zii {w:World} {b clock:Nat} {es:List MapEntry} (hm:P.underlying t=some (.map k e)) (hk:P.underlying k=some .string) [hz:TZero P e (.bool false)] (hb:w.heap[b]?=some (.map es.toArray clock))
  (hes:es.map (fun e=>(e.key,e.val))=keys.map (fun l=>(Value.string ⟨l.toArray⟩,Value.bool true))):(Instr.lookup t (.map (some b)) (Sv l) false).run P w=.ok (.bool (decide (l∈keys))) w:=by
 have hck:∀bb,(Instr.checkKey bb 10000 k (Sv l)).run P w=.ok () w:=fun bb=>by
  exact MapKept.run_checkKey (d:=.string) (k:=Sv l) hk trivial bb 9999
 rcases set_find es keys 0 l hes with ⟨h1,j,h2⟩|⟨h1,h2⟩
 ·simp [Instr.lookup,run_underlying hm,getObj,Sem.run,hb]
  simp [Instr.findKey,run_underlying hk,h2,h1,hck,Result.andThen]
 ·have hz':=TZero.run (P:=P) (t:=e) (z:=.bool false) w
  simp [Instr.lookup,run_underlying hm,getObj,Sem.run,hb]
  simp [Instr.findKey,run_underlying hk,h2,h1,hck,hz',Result.andThen]
theorem zhF (hx:s.ev x=.one (.itp id)) (hb:look s.heap id=some (setB keys)) (hy:s.ev y=.one (.val (Sv l))) (hm:P.underlying t=some (.map k e)) (hk:P.underlying k=some .string) [hz:TZero P e (.bool false)] (hd:dOk s d=true) :
  Ev P [] s ⟨d,.lookup t x y false,ty,pos,af,g⟩ (· = s.put d (.one (.val (.bool (decide (l∈keys)))))) :=
 ev_of_run hd fun U a w hv M=>by
  have hr:=M.ev x
  rw [hx] at hr
  obtain ⟨_,h1,_⟩:=hr
  obtain ⟨b',o,h3,h4,es,clock,rfl,h5⟩:=M.hm.blk id _ hb
  have h3':hv id=.map (some b'):=h3
  refine ⟨.bool (decide (l∈keys)),w,?_,Fr.refl _ _,RepC.val _ rfl⟩
  have hrun:=zii (l:=l) (t:=t) hm hk h4 h5
  simp only [execOp,h1,h3',M.val hy,Sem.run_bind,hrun,Result.andThen]
  rfl
theorem ev_putSet {z:Operand} (hx:s.ev x=.one (.itp id)) (hb:look s.heap id=some (setB keys)) (hy:s.ev y=.one (.val (Sv l))) (hzz:s.ev z=.one (.val (.bool true))) (hn:l∉keys) (hm:P.underlying t=some (.map k e)) (hk:P.underlying k=some .string) (hd:dOk s d=true) :
  Ev P [] s ⟨d,.mapUpdate t x y z,ty,pos,af,g⟩ (· = ASt.put { s with heap:=(id,some (setB (keys++[l])))::s.heap } d (.one .any)) :=
 fun U T w0 a w hv ok K Q hK=>by
  have hr:=ok.m.ev x
  rw [hx] at hr
  obtain ⟨_,h1,_⟩:=hr
  obtain ⟨b',o,h3,h4,es,clock,rfl,h5⟩:=ok.m.hm.blk id _ hb
  have h3':hv id=.map (some b'):=h3
  have hck:∀bb,(Instr.checkKey bb 10000 k (Sv l)).run P w=.ok () w:=fun bb=>by
   exact MapKept.run_checkKey (d:=.string) (k:=Sv l) hk trivial bb 9999
  have hf:Instr.findNow .string (Sv l) es 0=some none:=by
   rcases set_find es keys 0 l h5 with ⟨h6,_⟩|⟨_,h6⟩
   ·exact absurd h6 hn
   ·exact h6
  have hrun:(execOp a.eval ⟨d,.mapUpdate t x y z,ty,pos,af,g⟩).run P w=.ok .skip (w.putObj b' (.map (es++[(⟨Sv l,.bool true,clock⟩:MapEntry)]).toArray (clock+1))):=by
   have h6:(Instr.mapUpdate t (.map (some b')) (Sv l) (.bool true)).run P w=.ok () (w.putObj b' (.map (es++[(⟨Sv l,.bool true,clock⟩:MapEntry)]).toArray (clock+1))):=by
    simp [Instr.mapUpdate,run_underlying hm,getObj,Sem.run,h4]
    simp [Instr.findKey,run_underlying hk,hf,hck,Result.andThen,setObj,Sem.run,h4,World.putObj]
   simp only [execOp,h1,h3',ok.m.val hy,ok.m.val hzz,Sem.run_bind,h6,Result.andThen]
   rfl
  unfold Oper.wp
  rw [hrun]
  have ho:SetIs (keys++[l]) (.map (es++[(⟨Sv l,.bool true,clock⟩:MapEntry)]).toArray (clock+1)):=⟨es++[(⟨Sv l,.bool true,clock⟩:MapEntry)],clock+1,rfl,by simp [h5]⟩
  exact hK _ undef _ hv rfl (ok.iter hb h3 (S':=.set (keys++[l])) (p':=0) rfl ho hd _ _ fun _ _ _ _=>trivial) fun j _ _=>rfl
end
end Abs
end Go.Proofs.YtclffekkjfhpdaaGreat

