import Derived.Test.YtbijabmjbgplbaaGreatDoorQ2
import Derived.Test.YtbijabmjbgplbaaGreatDoorQ7
import Derived.Lib.LaidTab
import Derived.Stop.LaidErr
import Derived.LaidMore
import Derived.Handy
import Derived.Test.YtbijabmjbgplbaaGreatDoorRows
import Derived.Test.YtbijabmjbgplbaaGreatDoorQ8
set_option linter.unusedVariables false
set_option linter.unusedSimpArgs false
namespace Go.Proofs.YtbijabmjbgplbaaGreatDoor
open Go.ChangeShapes Go.WideShapes Go.RowKit
set_option maxRecDepth 100000
namespace G
abbrev RA (w:World):Nat->Prop:=fun b=>b<w.heap.size
def rP {α:Type} (f:α->List FV) (p:α->Prop):Kit.Rel α:=fun w _ x cs=>All2 (RepF (RA w) w) (f x) cs/\p x
theorem ze3 {P:Program} {t:TypeId} (ht:P.underlying t=some (.int .i64)) (hc:P.cellsOf t=1):Kit.Opens P t 1 (rP (fun n:Int=>[.val (.int .i64 n)]) Md.I64) :=
 ⟨hc,fun H enc w base spare held fuel cs x h=>by
  obtain ⟨n,e,_,hw⟩:=DataW.trod_int ht h;refine ⟨n,by rw [e];exact .cons (.val _ rfl) .nil,?_⟩;simp [Lit.wf,IntKind.min,IntKind.max,IntKind.bits,IntKind.signed] at hw;unfold Md.I64;omega⟩
theorem zei (b:ByteArray):∃l:List UInt8,b=⟨l.toArray⟩:=⟨b.data.toList,by apply ByteArray.ext;simp⟩
theorem ze4 {P:Program} {t:TypeId} (ht:P.underlying t=some .string) (hc:P.cellsOf t=1):Kit.Opens P t 1 (rP (fun l:List UInt8=>[.val (Sv l)]) fun _=>True) :=
 ⟨hc,fun H enc w base spare held fuel cs x h=>by
  obtain ⟨s,e,_,hs⟩:=DataW.trod_string ht h;obtain ⟨l,rfl⟩:=zei s;exact ⟨l,by rw [e];exact .cons (.val _ rfl) .nil,trivial⟩⟩
theorem Vz {α:Type} [Inhabited α] {P:Program} {t e:TypeId} {size:Nat} {f:α->List FV} {p:α->Prop} (h0:0<size) (hs:∀x,(f x).length=size) (ht:P.underlying t=some (.slice e)) (hc:P.cellsOf t=1) (ho:Kit.Opens P e size (rP f p)):Kit.Opens P t 1 (rP (fun l=>[FV.ls f l]) fun l=>∀x∈l,p x):=by
 refine ⟨hc,fun H enc w base spare held fuel cs x h=>?_⟩;rcases Deep.open_slice ht h with ⟨e,_⟩|⟨a,len,cap,m,n,D,Pl,e,hb,hl,hm,hmm,hx,hel⟩
 .exact ⟨[],by rw [e];exact ⟨.cons (.nil _) .nil,fun x hx=>by cases hx⟩⟩
 .have hml:len<=m:=by rw [hmm];split<;>omega
  rw [ho.1] at hel hx;have key:∀k,k<=len->∃xs:List α,(∀x∈xs,p x)/\xs.length=k/\∀(i:Nat) (y:α),xs[i]?=some y->∀(j:Nat) (c:FV),(f y)[j]?=some c->∃u,w.cell? (a.add (i*size+j))=some u/\RepF (RA w) w c u:=by
   intro k
   induction k with
   | zero=>exact fun _=>⟨[],fun x hx=>(by cases hx),rfl,fun i y hy=>by simp at hy⟩
   | succ k ih =>
    intro hk;obtain ⟨xs,hxp,hxl,hcell⟩:=ih (by omega);obtain ⟨cs',hcs,htr⟩:=hel k (by omega);obtain ⟨_,hcl,hat⟩:=World.cells?_some hcs;obtain ⟨y,hy⟩:=ho.2 _ _ _ _ _ _ _ _ _ htr;have hy':All2 (RepF (RA w) w) (f y) cs':=hy.1;refine ⟨xs++[y],fun z hz=>by (rcases List.mem_append.1 hz with hz|hz;exact hxp z hz;rw [List.mem_singleton.1 hz];exact hy.2),by simp [hxl],fun i z hz j c hj=>?_⟩
    by_cases hi:i<xs.length
    .rw [List.getElem?_append_left hi] at hz
     exact hcell i z hz j c hj
    .rw [List.getElem?_append_right (by omega)] at hz
     have hi0:i=k:=by
      have:=(List.getElem?_eq_some_iff.1 hz).1;simp at this;omega
     subst hi0;have hzy:y=z:=by rw [hxl,Nat.sub_self] at hz;simpa using hz
     subst hzy;obtain ⟨u,hu,hr⟩:=hy'.get hj;have hj2:j<size:=by
      have:=(List.getElem?_eq_some_iff.1 hj).1;rw [hs] at this;exact this
     have h3:=hat j hj2;rw [Deep.add_add,hu] at h3;exact ⟨u,h3,hr⟩
  obtain ⟨xs,hxp,hxl,hcell⟩:=key len (Nat.le_refl _);refine ⟨xs,?_,hxp⟩;rw [e];refine .cons ?_ .nil;show RepF (RA w) w (.slc xs.length (lsEl f xs)) (.slice (some a) len cap);rw [hxl];have hget:∀i,i<len->xs[i]?=some (xs.getD i default):=fun i hi=>by
   have:i<xs.length:=by omega
   simp [List.getD,this]
  rcases Nat.eq_zero_or_pos len with hl0|hl0
  .rw [hl0];exact .emp _ a cap hm
  .have hf0:∃c,(f (xs.getD 0 default))[0]?=some c:=⟨_,List.getElem?_eq_getElem (by rw [hs];exact h0)⟩
   obtain ⟨c0,hc0⟩:=hf0;obtain ⟨u0,hu0,_⟩:=hcell 0 _ (hget 0 hl0) 0 c0 hc0;have hblk:a.block<w.heap.size:=by
    have:=World.block_lt_of_cell? w _ hu0;rwa [show (a.add (0*size+0)).block=a.block from by unfold Addr.add;split<;>simp_all] at this
   obtain ⟨b,off,spot⟩:=a;have hsp:spot=none:=by
    have:=World.cell?_spot hu0;unfold Addr.add at this;split at this<;>simp_all
   subst hsp;have hadd:∀j,(⟨b,off,none⟩:Addr).add j=⟨b,off+j,none⟩:=fun j=>by unfold Addr.add;split<;>simp_all
   refine RepF.slc len _ size b off cap (fun i j=>(w.cell? ⟨b,off+(i*size+j),none⟩).getD undef) hblk hblk hl hm (fun i _=>hs _) (fun i j c hi hj=>?_) (fun i j c hi hj=>?_)
   .obtain ⟨u,hu,_⟩:=hcell i _ (hget i hi) j c hj
    rw [hadd] at hu;rw [hu];rfl
   .obtain ⟨u,hu,hr⟩:=hcell i _ (hget i hi) j c hj
    rw [hadd] at hu;rw [hu];exact hr
theorem JC {R:FV->Value->Prop} {xs ys:List FV} {cs:List Value} {o k m:Nat} (h1:All2 R xs ((cs.drop o).take k)) (h2:All2 R ys ((cs.drop (o+k)).take m)):All2 R (xs++ys) ((cs.drop o).take (k+m)):=by
 rw [List.take_add,List.drop_drop];exact h1.append h2
theorem zcl {R:FV->Value->Prop} {xs:List FV} {cs:List Value} {n:Nat} (h:All2 R xs ((cs.drop 0).take n)) (hl:cs.length=n):All2 R xs cs:=by
 rw [List.drop_zero,List.take_of_length_le (by omega)] at h;exact h
theorem KP {α:Type} {P:Program} {f:Field} {n:Nat} {g:α->List FV} {p:α->Prop} (ho:Kit.Opens P f.type n (rP g p)) {H:Type} {enc:TypeId×Value->H} {w:World} {base:Nat} {spare:Nat->Bool} {held:Bool} {fuel:Nat} {cs:List Value} {ys:List (DataW H×List MemPlace)} {j:Nat}
  (hf:DataW.trod enc P w base spare held fuel f.type ((cs.drop f.offset).take (P.cellsOf f.type))=ys[j]?) (hj:j<ys.length):∃a,All2 (RepF (RA w) w) (g a) ((cs.drop f.offset).take n)/\p a:=by
 rw [List.getElem?_eq_getElem hj,ho.1] at hf;exact ho.2 _ _ _ _ _ _ _ _ _ hf
theorem opI:Kit.Opens Tryz.prog 3 1 (rP (cv .int) Md.I64):=ze3 Tryz.underlying3 (by kernel_rfl)
theorem opS:Kit.Opens Tryz.prog 9 1 (rP (cv .str) fun _=>True):=ze4 Tryz.underlying9 (by kernel_rfl)
theorem opIs:Kit.Opens Tryz.prog 50 1 (rP (cv (.sl .int)) fun l:List Int=>∀x∈l,Md.I64 x):=Vz (f:=cv .int) (by decide) (fun _=>rfl) Tryz.underlying50 (by kernel_rfl) opI
theorem opSs:Kit.Opens Tryz.prog 51 1 (rP (cv (.sl .str)) fun l:List (List UInt8)=>∀x∈l,True):=Vz (f:=cv .str) (by decide) (fun _=>rfl) Tryz.underlying51 (by kernel_rfl) opS
theorem opV:Kit.Opens Tryz.prog 53 5 (rP (cv (.st .Value)) Md.viI):=by
 refine ⟨by kernel_rfl,fun H enc w base spare held fuel cs x h=>?_⟩;obtain ⟨ys,n,_,_,hlen,hyl,hf⟩:=DataW.trod_struct Tryz.underlying53 h;have hl:cs.length=5:=hlen.trans (by kernel_rfl);obtain ⟨b0,h0,q0⟩:=KP opI (hf 0 _ rfl) (by rw [hyl];decide);obtain ⟨b1,h1,q1⟩:=KP opI (hf 1 _ rfl) (by rw [hyl];decide);obtain ⟨b2,h2,q2⟩:=KP opS (hf 2 _ rfl) (by rw [hyl];decide);obtain ⟨b3,h3,q3⟩:=KP opIs (hf 3 _ rfl) (by rw [hyl];decide);obtain ⟨b4,h4,q4⟩:=KP opSs (hf 4 _ rfl) (by rw [hyl];decide);exact ⟨⟨b0,b1,b2,b3,b4⟩,zcl (JC h0 (JC h1 (JC h2 (JC h3 h4)))) hl,⟨q1,q3⟩⟩
theorem opVs:Kit.Opens Tryz.prog 22 1 (rP (cv (.sl (.st .Value))) fun l:List Md.Value=>∀x∈l,Md.viI x):=Vz (f:=cv (.st .Value)) (by decide) (fun _=>rfl) Tryz.underlying22 (by kernel_rfl) opV
theorem opN:Kit.Opens Tryz.prog 64 6 (rP (cv (.st .Input)) Md.inI):=by
 refine ⟨by kernel_rfl,fun H enc w base spare held fuel cs x h=>?_⟩;obtain ⟨ys,n,_,_,hlen,hyl,hf⟩:=DataW.trod_struct Tryz.underlying64 h;have hl:cs.length=6:=hlen.trans (by kernel_rfl);obtain ⟨b0,h0,q0⟩:=KP opVs (hf 0 _ rfl) (by rw [hyl];decide);obtain ⟨b1,h1,q1⟩:=KP opV (hf 1 _ rfl) (by rw [hyl];decide);exact ⟨⟨b0,b1⟩,zcl (JC h0 h1) hl,⟨q0,q1⟩⟩
theorem opNs:Kit.Opens Tryz.prog 23 1 (rP (cv (.sl (.st .Input))) fun l:List Md.Input=>∀x∈l,Md.inI x):=Vz (f:=cv (.st .Input)) (by decide) (fun _=>rfl) Tryz.underlying23 (by kernel_rfl) opN
end G
end Go.Proofs.YtbijabmjbgplbaaGreatDoor
namespace Go.Proofs.YtbijabmjbgplbaaGreatDoor
open Go.ChangeShapes Go.WideShapes Go.RowKit
set_option maxRecDepth 100000
namespace G
def Tabs (w:World):Prop:=∀b p,zi7 b=some p->∃cs t x,w.heap[b]?=some (.cells cs t x)/\p cs
theorem zkd:(Rows.laid_internal_strconv_uint64pow10:DataW Unit)=Lib.tabData .u64 Lib.pow10Tab:=by kernel_rfl
theorem zfH : "*" ++ "errors.errorString" = "*errors.errorString" := by decide
theorem zh3 (u : TypeId) (h : Tryz.prog.typeName? 3 u = some "*errors.errorString") : u = 387 :=
 typeName_ptr_named (nm := "errors.errorString") (by rw [zfH]; kernel_rfl) (by kernel_rfl) (by decide) u (by rw [zfH]; exact h)
theorem zcE {n:String} {g:Nat} {W:World} {a:Addr} {tp:TypeId} (hg:Tryz.prog.globalNamed n=some g) (h:W.var? Tryz.prog n=some #[.iface tp (.pointer (some a))]):∃cs T x,W.heap[g]?=some (.cells cs T x)/\∃ev,cs=#[ev]/\(ev=.nilIface\/∃tp q,ev=.iface tp q):=by
 unfold World.var? at h;rw [hg] at h;simp only [Option.bind_some] at h;split at h
 .rename_i cs T x' hc
  exact ⟨cs,T,x',hc,_,Option.some.inj h,Or.inr ⟨_,_,rfl⟩⟩
 .cases h
theorem zi8 {x y : String × DataW Unit} {W : World} (h : laidMet Tryz.prog [x, y, ("internal/strconv.uint64pow10", Rows.laid_internal_strconv_uint64pow10), ("strconv.ErrRange", Rows.laid_strconv_ErrRange), ("strconv.ErrSyntax", Rows.laid_strconv_ErrSyntax)] W) : Tabs W := by
 have gP : Tryz.prog.globalNamed "internal/strconv.uint64pow10" = some 3 := by kernel_rfl
 have gR : Tryz.prog.globalNamed "strconv.ErrRange" = some 2 := by kernel_rfl
 have gS : Tryz.prog.globalNamed "strconv.ErrSyntax" = some 1 := by kernel_rfl
 obtain ⟨a0,s0,hv0,_⟩:=laid_sentinel h.tail.tail.tail gR (ti:=287) (by kernel_rfl) Tryz.underlying287 zh3 Tryz.underlying387 Tryz.underlying389 rfl rfl Tryz.underlying9 (by kernel_rfl) (by kernel_rfl);obtain ⟨a1,s1,hv1,_⟩:=laid_sentinel h.tail.tail.tail.tail gS (ti:=287) (by kernel_rfl) Tryz.underlying287 zh3 Tryz.underlying387 Tryz.underlying389 rfl rfl Tryz.underlying9 (by kernel_rfl) (by kernel_rfl);rw [zkd] at h;have h1:=Lib.tabIs_of_head gP (t:=401) (by kernel_rfl) Tryz.underlying401 Tryz.underlying176 (by kernel_rfl) (by kernel_rfl) h.tail.tail;intro b p hb;unfold zi7 at hb;cases hq:Nat.beq b 3 with
 | true =>
  rw [hq] at hb;obtain rfl:=Nat.eq_of_beq_eq_true hq;obtain rfl:=Option.some.inj hb;unfold Lib.TabIs World.var? at h1;rw [gP] at h1;simp only [Option.bind_some] at h1;split at h1
  .rename_i cs T x' hc
   exact ⟨cs,T,x',hc,(Option.some.inj h1).trans (by kernel_rfl)⟩
  .cases h1
 | false =>
  rw [hq] at hb;cases hq:Nat.beq b 1 with
  | true =>
   rw [hq] at hb;obtain rfl:=Nat.eq_of_beq_eq_true hq;obtain rfl:=Option.some.inj hb;exact zcE gS hv1
  | false =>
   rw [hq] at hb;cases hq2:Nat.beq b 2 with
   | true =>
    rw [hq2] at hb;obtain rfl:=Nat.eq_of_beq_eq_true hq2;obtain rfl:=Option.some.inj hb;exact zcE gR hv0
   | false=>rw [hq2] at hb;cases hb
theorem zfh {f:Nat} {c:Ctr} {t:Ctab}:c∈(zb8 f c t).c f:=by unfold zb8;simp
end G
open G
namespace TopLanguageW
abbrev r22:Kit.Rel (List Md.Value):=rP (cv (.sl (.st .Value))) fun l:List Md.Value=>∀x∈l,Md.viI x
abbrev r23:Kit.Rel (List Md.Input):=rP (cv (.sl (.st .Input))) fun l:List Md.Input=>∀x∈l,Md.inI x
theorem zlo {R:Nat->Prop} {w:World} {c:FV} {v:Value} (h:G.All2 (RepF R w) [c] [v]):RepF R w c v:=by cases h with|cons h _=>exact h
theorem walk (w:World) (a0:ByteArray) (w0:a0.size<=maxLen) (a1:ByteArray) (w1:a1.size<=maxLen) (a2:ByteArray) (w2:a2.size<=maxLen) (a3:ByteArray) (w3:a3.size<=maxLen) (A4:Option Addr) (n4 c4:Nat) (a4:List Md.Value) (w4:r22 w w.heap.size a4 [.slice A4 n4 c4]) (A5:Option Addr) (n5 c5:Nat) (a5:List Md.Input) (w5:r23 w w.heap.size a5 [.slice A5 n5 c5]) (hT:G.Tabs w) :
  Calls Tryz.prog 3 #[.string a0,.string a1,.string a2,.string a3,.slice A4 n4 c4,.slice A5 n5 c5] w fun e w'=>e=.returned (.bool true)/\Below w.heap.size w w':=by
 obtain ⟨x0,rfl⟩:=zei a0;obtain ⟨x1,rfl⟩:=zei a1;obtain ⟨x2,rfl⟩:=zei a2;obtain ⟨x3,rfl⟩:=zei a3;have hm:=Md.zbv x0 x1 x2 x3 a4 a5 w4.2 w5.2;have hc:FnK Tryz.prog 3 (Md.C383 Md.K):=(Md.T348 Md.K).ok.c _ _ (show Md.C383 Md.K∈(zb8 3 (Md.C383 Md.K) (Md.T347 Md.K).t).c 3 from zfh);refine (hc.c ⟨fun _=>undef,fun _=>False,RA w,w⟩ (x0,x1,x2,x3,a4,a5) true hm [Sv x0,Sv x1,Sv x2,Sv x3,.slice A4 n4 c4,.slice A5 n5 c5] ?_ (HOk.nil _) ⟨fun _ h=>h,fun b p h=>?_,0,fun _ h=>h.elim⟩ fun _ h=>h.elim).mono ?_
 .exact .cons (RepF.val _ rfl) (.cons (RepF.val _ rfl) (.cons (RepF.val _ rfl) (.cons (RepF.val _ rfl) (.cons (zlo w4.1) (.cons (zlo w5.1) .nil)))))
 .obtain ⟨cs,t,x,h1,h2⟩:=hT b p h
  exact ⟨(Array.getElem?_eq_some_iff.1 h1).1,cs,t,x,h1,h2⟩
 .rintro e w' ⟨v,κ',rfl,rfl,he⟩
  refine ⟨?_,(he.fr.mono fun b hb ht=>?_).below⟩
  .have:RepF κ'.R κ'.w (.val (.bool true)) v:=he.val
   cases this;rfl
  .obtain ⟨id,x,h1,_⟩:=ht
   cases h1
end TopLanguageW
end Go.Proofs.YtbijabmjbgplbaaGreatDoor
