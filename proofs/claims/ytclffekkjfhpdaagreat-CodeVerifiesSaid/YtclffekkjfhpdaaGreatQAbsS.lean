import Derived.Test.YtclffekkjfhpdaaGreatQAbsRa
namespace Go.Proofs.YtclffekkjfhpdaaGreat
open Go.ChangeShapes Go.WideShapes Go.RowKit
set_option linter.unusedVariables false
set_option linter.unusedSimpArgs false
namespace Abs
theorem wk {s:ASt} {nt:Nat} {kp:List Nat} {env:List (Nat×AV)} {heap:Heap} (h1:nt=s.nt:=by rfl) (h2:kp=s.kp:=by rfl)
  (h3:EnvLe s env:=by repeat' (first|exact trivial|refine ⟨?_,?_⟩|exact .refl _|refine .one (.val ?_)|exact .one (.nil _)|exact .one (.emp _)|refine .box ?_|refine .agg ?_|exact .nil|refine .cons ?_ ?_|exact .nil _|exact .emp _|fail))
  (h4:HeapLe s heap:=by repeat' (first|exact trivial|refine ⟨?_,?_⟩|exact .refl _|refine .one (.val ?_)|exact .one (.nil _)|exact .one (.emp _)|refine .box ?_|refine .agg ?_|exact .nil|refine .cons ?_ ?_|exact .nil _|exact .emp _|fail))
  (h5:(kp++envIds env++heapIds heap).all (fun j=>(look heap j).isSome)=true:=by rfl):Weak s ⟨nt,kp,env,heap⟩:=weak_mk h1 h2 h3 h4 h5
theorem wq {p:Prop} (q:p) {s:ASt} {nt:Nat} {kp:List Nat} {env:List (Nat×AV)} {heap:Heap} (h1:nt=s.nt:=by rfl) (h2:kp=s.kp:=by rfl)
  (h3:p→EnvLe s env:=by (intro q;repeat' (first|exact trivial|refine ⟨?_,?_⟩|exact .refl _|refine .one (.val ?_)|exact .one (.nil _)|exact .one (.emp _)|refine .box ?_|refine .agg ?_|exact .nil|refine .cons ?_ ?_|exact .nil _|exact .emp _|fail))<;>(first|(rw [q];done)|(rw [q];rfl)|(simp [q];done)))
  (h4:p→HeapLe s heap:=by (intro q;repeat' (first|exact trivial|refine ⟨?_,?_⟩|exact .refl _|refine .one (.val ?_)|exact .one (.nil _)|exact .one (.emp _)|refine .box ?_|refine .agg ?_|exact .nil|refine .cons ?_ ?_|exact .nil _|exact .emp _|fail))<;>(first|(rw [q];done)|(rw [q];rfl)|(simp [q];done)))
  (h5:(kp++envIds env++heapIds heap).all (fun j=>(look heap j).isSome)=true:=by rfl):Weak s ⟨nt,kp,env,heap⟩:=weak_mk h1 h2 (h3 q) (h4 q) h5
section
variable {P:Program} {fn:Func} {s:ASt}
theorem rv {r r0:AV} (hres:Res P fn s r0) (hk:s.kp=[]:=by rfl) (hi:r.ids.isEmpty=true:=by rfl) (hr:r.ren (fun i=>i)=r:=by rfl)
  (hle:TLe r0 r:=by repeat' (first|exact .refl _|exact .nil|refine .tup ?_|refine .v ?_|refine .cons ?_ ?_|refine .agg ?_|refine .one ?_|exact .nil _|exact .emp _|refine .val ?_|refine .slc ?_ ?_|fail)):RetOk P fn (Det r []) s:=ret_v hres hk hi hr hle
theorem rn {xs:List AV} (h:All2 (resVar s P) fn.results.toList xs) (hn:fn.results.size≠1:=by decide) (hy:∀y,y∈xs→∀vs,y≠.tup vs:=by intro y hy vs e;subst e;simp at hy):Res P fn s (.tup xs):=.inr ⟨hn,xs,rfl,h,hy⟩
theorem r1 {rv:ResultVar} {a:CV} (h:fn.results=#[rv]:=by rfl) (h2:resVar s P rv (.one a):=by (show get _ _=AV.one _);rfl):Res P fn s (.one a):=.inl ⟨rv,h,h2,fun _ e=>nomatch e⟩
theorem rg {rv:ResultVar} (cs:List CV) (h:fn.results=#[rv]:=by rfl) (h2:resVar s P rv (.agg cs):=by exact ⟨_,_,_,_,_,rfl,rfl,TVar.h,rfl,rfl⟩):Res P fn s (.agg cs):=.inl ⟨rv,h,h2,fun _ e=>nomatch e⟩
theorem o1 {rv:ResultVar} {a:CV} (h:resVar s P rv (.one a):=by (show get _ _=AV.one _);rfl):resVar s P rv (.one a):=h
theorem va {rv:ResultVar} (cs:List CV) (h:resVar s P rv (.agg cs):=by exact ⟨_,_,_,_,_,rfl,rfl,TVar.h,rfl,rfl⟩):resVar s P rv (.agg cs):=h
end
section
variable {P:Program} {s s':ASt} {Q:Exit→ASt→Prop} {ops:Array Oper} {o:Oper} {rest:List Oper} {X:List Nat} {j t:Nat} {b want:Bool}
theorem s_mv (hr:AOps P ops rest s' Q) (hg:o.guard=none:=by rfl) (he:Ev P X s o (· = s'):=by exact st_move rfl rfl):AOps P ops (o::rest) s Q:=zaa hg he hr
theorem s_sa (hr:AOps P ops rest s' Q) (hg:o.guard=none:=by rfl) (he:Ev P X s o (· = s'):=by exact st_assign rfl rfl):AOps P ops (o::rest) s Q:=zaa hg he hr
theorem s_mt (hr:AOps P ops rest s' Q) (hg:o.guard=none:=by rfl) (he:Ev P X s o (· = s'):=by exact st_movet rfl rfl):AOps P ops (o::rest) s Q:=zaa hg he hr
theorem s_ex (hr:AOps P ops rest s' Q) (hg:o.guard=none:=by rfl) (he:Ev P X s o (· = s'):=by exact zig rfl rfl rfl):AOps P ops (o::rest) s Q:=zaa hg he hr
theorem s_fd (hr:AOps P ops rest s' Q) (hg:o.guard=none:=by rfl) (he:Ev P X s o (· = s'):=by exact ev_field rfl rfl rfl):AOps P ops (o::rest) s Q:=zaa hg he hr
theorem s_ld (hr:AOps P ops rest s' Q) (hg:o.guard=none:=by rfl) (he:Ev P X s o (· = s'):=by exact ev_load rfl rfl rfl rfl):AOps P ops (o::rest) s Q:=zaa hg he hr
theorem s_cm (hr:AOps P ops rest s' Q) (hg:o.guard=none:=by rfl) (he:Ev P X s o (· = s'):=by exact ev_cmp rfl rfl rfl rfl):AOps P ops (o::rest) s Q:=zaa hg he hr
theorem s_ln (hr:AOps P ops rest s' Q) (hg:o.guard=none:=by rfl) (he:Ev P X s o (· = s'):=by exact zeV rfl rfl):AOps P ops (o::rest) s Q:=zaa hg he hr
theorem s_nt (hr:AOps P ops rest s' Q) (hg:o.guard=none:=by rfl) (he:Ev P X s o (· = s'):=by exact ev_not rfl rfl):AOps P ops (o::rest) s Q:=zaa hg he hr
theorem y_mv (q:b=want) (hr:AOps P ops rest s' Q) (hg:o.guard=some (j,want):=by rfl) (hd:(ops[j]?).bind (·.dst)=some t:=by rfl) (ht:get s.env t=.one (.val (.bool b)):=by rfl) (hn:Nat.blt t s.nt=true:=by rfl) (he:Ev P X s o (· = s'):=by exact st_move rfl rfl):AOps P ops (o::rest) s Q:=aops_yes hg hd ht hn q he hr
theorem y_fd (q:b=want) (hr:AOps P ops rest s' Q) (hg:o.guard=some (j,want):=by rfl) (hd:(ops[j]?).bind (·.dst)=some t:=by rfl) (ht:get s.env t=.one (.val (.bool b)):=by rfl) (hn:Nat.blt t s.nt=true:=by rfl) (he:Ev P X s o (· = s'):=by exact ev_field rfl rfl rfl):AOps P ops (o::rest) s Q:=aops_yes hg hd ht hn q he hr
theorem y_ld (q:b=want) (hr:AOps P ops rest s' Q) (hg:o.guard=some (j,want):=by rfl) (hd:(ops[j]?).bind (·.dst)=some t:=by rfl) (ht:get s.env t=.one (.val (.bool b)):=by rfl) (hn:Nat.blt t s.nt=true:=by rfl) (he:Ev P X s o (· = s'):=by exact ev_load rfl rfl rfl rfl):AOps P ops (o::rest) s Q:=aops_yes hg hd ht hn q he hr
theorem y_cm (q:b=want) (hr:AOps P ops rest s' Q) (hg:o.guard=some (j,want):=by rfl) (hd:(ops[j]?).bind (·.dst)=some t:=by rfl) (ht:get s.env t=.one (.val (.bool b)):=by rfl) (hn:Nat.blt t s.nt=true:=by rfl) (he:Ev P X s o (· = s'):=by exact ev_cmp rfl rfl rfl rfl):AOps P ops (o::rest) s Q:=aops_yes hg hd ht hn q he hr
theorem y_ln (q:b=want) (hr:AOps P ops rest s' Q) (hg:o.guard=some (j,want):=by rfl) (hd:(ops[j]?).bind (·.dst)=some t:=by rfl) (ht:get s.env t=.one (.val (.bool b)):=by rfl) (hn:Nat.blt t s.nt=true:=by rfl) (he:Ev P X s o (· = s'):=by exact zeV rfl rfl):AOps P ops (o::rest) s Q:=aops_yes hg hd ht hn q he hr
theorem y_nt (q:b=want) (hr:AOps P ops rest s' Q) (hg:o.guard=some (j,want):=by rfl) (hd:(ops[j]?).bind (·.dst)=some t:=by rfl) (ht:get s.env t=.one (.val (.bool b)):=by rfl) (hn:Nat.blt t s.nt=true:=by rfl) (he:Ev P X s o (· = s'):=by exact ev_not rfl rfl):AOps P ops (o::rest) s Q:=aops_yes hg hd ht hn q he hr
theorem s_st {a b2:Operand} {agg:Bool} {id off n:Nat} {cs:List CV} {r:AV} {new:List CV} {ty tv:TypeId} {d:Option Nat} {pos} {af} (cs':List CV) (hr:AOps P ops rest ((s.blk id (.box cs')).put d (.one .any)) Q) (hx:s.ev a=.one (.ptr id off):=by rfl) (hb:look s.heap id=some (.box cs):=by rfl) (hy:s.ev b2=r:=by rfl) (hc:r.cells=some new:=by rfl) (hsol:new.all CV.solid=true:=by rfl) [kk:TVar P tv agg n] (hn:Nat.beq new.length n=true:=by rfl) (hl:Nat.ble (off+n) cs.length=true:=by rfl) (hd:dOk s d=true:=by rfl) (hcs:cs.take off++new++cs.drop (off+n)=cs':=by rfl) :
  AOps P ops (⟨d,.store tv a b2,ty,pos,af,none⟩::rest) s Q:=zaa rfl (st_store hx hb hy hc hsol hn hl hd hcs) hr
theorem s_ls {a:Operand} {id off n:Nat} {cs:List CV} {ty tv:TypeId} {d:Option Nat} {pos} {af} (ds:List CV) (hr:AOps P ops rest (s.put d (.agg ds)) Q) (hx:s.ev a=.one (.ptr id off):=by rfl) (hb:look s.heap id=some (.box cs):=by rfl) [k:TVar P tv true n] (hc:(cs.drop off).take n=ds:=by rfl) (hl:Nat.ble (off+n) cs.length=true:=by rfl) (hd:dOk s d=true:=by rfl) :
  AOps P ops (⟨d,.load tv a,ty,pos,af,none⟩::rest) s Q:=zaa rfl (ev_loads hx hb hc hl hd) hr
theorem s_py {p:Prop} (q:p) {c x y:Operand} {a:CV} {ty:TypeId} {d:Option Nat} {pos} {af} (hr:AOps P ops rest (s.put d (.one a)) Q) (hc:s.ev c=.one (.val (.bool b)):=by rfl) (hb:p→b=true:=by (intro q;first|rfl|exact q)) (hx:s.ev x=.one a:=by rfl) (hd:dOk s d=true:=by rfl) :
  AOps P ops (⟨d,.pick c x y,ty,pos,af,none⟩::rest) s Q:=zaa rfl (zau hc (hb q) hx hd) hr
theorem s_pn {p:Prop} (q:p) {c x y:Operand} {a:CV} {ty:TypeId} {d:Option Nat} {pos} {af} (hr:AOps P ops rest (s.put d (.one a)) Q) (hc:s.ev c=.one (.val (.bool b)):=by rfl) (hb:p→b=false:=by (intro q;first|rfl|exact q)) (hy:s.ev y=.one a:=by rfl) (hd:dOk s d=true:=by rfl) :
  AOps P ops (⟨d,.pick c x y,ty,pos,af,none⟩::rest) s Q:=zaa rfl (zaz hc (hb q) hy hd) hr
theorem ai {p:Prop} (h:p:=by repeat' (first|exact .nil|refine .cons ?_ ?_|refine .one ?_|refine .agg ?_|exact .mk rfl|exact .lend rfl (by simp)|exact .le (.nil _) rfl|exact .le (.emp _) rfl|exact .le (.any _) rfl|fail)):p:=h
theorem w0 {S:ASt} (h:o.guard=none:=by rfl):Want ops S o true:=.inl ⟨h,rfl⟩
theorem wy {S:ASt} (hle:Le s S) {p:Prop} (q:p) (h1:o.guard=some (j,want):=by rfl) (h2:(ops[j]?).bind (·.dst)=some t:=by rfl) (h3:get s.env t=.one (.val (.bool b)):=by rfl) (h4:Nat.blt t s.nt=true:=by rfl)
  (h5:p→(b==want)=true:=by (intro q;first|rfl|(rw [q];rfl))):Want ops S o true:=.inr (.inl ⟨j,want,t,b,h1,h2,hle.ev (x:=.tmp t) h3 (by nofun),by rw [hle.nt];exact h4,h5 q⟩)
theorem nw {S:ASt} {x:Add} (hle:Le s S) {p:Prop} (q:p) (h1:o.guard=some (j,want):=by rfl) (h2:(ops[j]?).bind (·.dst)=some t:=by rfl) (h3:get s.env t=.one (.val (.bool b)):=by rfl) (h4:Nat.blt t s.nt=true:=by rfl)
  (h5:p→(b==want)=false:=by (intro q;first|rfl|(rw [q];rfl))) (h6:x=⟨[],.tup []⟩:=by rfl) (h7:dOk s o.dst=true:=by rfl):Ob P ops S o x:=.inr ⟨.inr (.inl ⟨j,want,t,b,h1,h2,hle.ev (x:=.tmp t) h3 (by nofun),by rw [hle.nt];exact h4,h5 q⟩),h6,hle.d h7⟩
theorem ob {l os:List Oper} {m i:Nat} {al xs:List Add} {x:Add} (deps:List Nat) (h:∀S,Le (SD (memB deps) 0 (l.take m) al (s.hide (dsts (l.take m)))) S→(∀id,id∈x.blks.map (·.1)→look S.heap id=none)→Ob P l.toArray S o x) (hr:Obs P l m al s (i+1) os xs) (hd:depsOk l i [] deps=true:=by decide +kernel):Obs P l m al s i (o::os) (x::xs):=⟨⟨deps,hd,h⟩,hr⟩
theorem np {p:Prop} (q:p) (hr:AOps P ops rest (s.put o.dst (.tup [])) Q) (hg:o.guard=some (j,want):=by rfl) (hd:(ops[j]?).bind (·.dst)=some t:=by rfl) (ht:get s.env t=.one (.val (.bool b)):=by rfl) (hn:Nat.blt t s.nt=true:=by rfl) (hdd:dOk s o.dst=true:=by rfl)
  (hb:p→b=!want:=by (intro q;first|decide|(rw [q];decide))):AOps P ops (o::rest) s Q:=aops_no hg hd ht hn hdd (hb q) hr
end
end Abs
end Go.Proofs.YtclffekkjfhpdaaGreat

