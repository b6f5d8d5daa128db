import Derived.Test.YtbijabmjbgplbaaGreatDoorQ2
import Derived.Test.YtbijabmjbgplbaaGreatDoorQ3
set_option linter.unusedVariables false
set_option linter.unusedSimpArgs false
namespace Go.Proofs.YtbijabmjbgplbaaGreatDoor
namespace Md
def Tot {α:Type} (X:Option α) (Q:α->Prop):Prop:=∃r,X=some r/\Q r
section
variable {α β γ:Type} {Q:α->Prop} {P:β->Prop}
theorem Tot.mono {Q':α->Prop} {X:Option α} (h:Tot X Q) (k:∀r,Q r->Q' r):Tot X Q':=by
 obtain ⟨r,e,hr⟩:=h;exact ⟨r,e,k r hr⟩
theorem tS {r:α} (h:Q r):Tot (some r) Q:=⟨r,rfl,h⟩
theorem tB {X:Option β} {f:β->Option α} (h:Tot X P) (k:∀x,P x->Tot (f x) Q):Tot (X.bind f) Q:=by
 obtain ⟨r,e,hr⟩:=h;rw [znr e];exact k r hr
theorem tC {b:Bool} {X Y:Option α} (h1:b=true->Tot X Q) (h2:b=false->Tot Y Q):Tot (bif b then X else Y) Q:=by
 cases b
 .exact h2 rfl
 .exact h1 rfl
theorem tD {p:Prop} [Decidable p] {X Y:Option α} (h1:p->Tot X Q) (h2:¬p->Tot Y Q):Tot (bif decide p then X else Y) Q:=by
 by_cases h:p
 .rw [decide_eq_true h];exact h1 h
 .rw [decide_eq_false h];exact h2 h
theorem tE {m n:Int} {X Y:Option α} (h1:m=n->Tot X Q) (h2:m≠n->Tot Y Q):Tot (bif m==n then X else Y) Q :=
 tC (fun h=>h1 (beq_iff_eq.1 h)) fun h=>h2 (beq_eq_false_iff_ne.1 h)
theorem tN {m n:Int} {X Y:Option α} (h1:m≠n->Tot X Q) (h2:m=n->Tot Y Q):Tot (bif m != n then X else Y) Q :=
 tC (fun h=>h1 (bne_iff_ne.1 h)) fun h=>h2 (by cases h':m==n;rw [bne,h'] at h;cases h;exact beq_iff_eq.1 h')
theorem tI {p:Prop} [Decidable p] {X:Option α} (h:p) (k:p->Tot X Q):Tot (ifp p X) Q:=by rw [zy h];exact k h
theorem tO {s:β ⊕ γ} {f:β->Option α} {g:γ->Option α} (h1:∀x,s=.inl x->Tot (f x) Q) (h2:∀x,s=.inr x->Tot (g x) Q):Tot (onS s f g) Q:=by
 cases s with
 | inl x=>exact h1 x rfl
 | inr x=>exact h2 x rfl
end
theorem tR {X Y:Type} {body:(X->Option Y)->X->Option Y} (I:X->Prop) (mu:X->Nat) {Q:Y->Prop} (h:∀(F:X->Option Y) x,I x->(∀y,I y->mu y<mu x->Tot (F y) Q)->Tot (body F x) Q):∀{n:Nat} {x:X},I x->mu x<n->Tot (rounds body n x) Q:=by
 intro n
 induction n with
 | zero=>intro x _ h;omega
 | succ n ih=>intro x hx hn;exact h _ x hx fun y hy hm=>ih hy (by omega)
theorem W_i (n:Int):I64 (W n):=by
 unfold W I64;simp only;split<;>omega
abbrev K:Nat:=5000000
theorem tK {X Y:Type} {body:(X->Option Y)->X->Option Y} (I:X->Prop) (mu:X->Nat) {Q:Y->Prop} (h:∀(F:X->Option Y) x,I x->(∀y,I y->mu y<mu x->Tot (F y) Q)->Tot (body F x) Q) {x:X} (hx:I x) (hm:mu x<5000000):Tot (rounds body K x) Q:=tR I mu h hx hm
theorem tA {α β:Type} {X:Option β} {f:β->Option α} {Q:α->Prop} (h:Tot X fun _=>True) (k:∀x,Tot (f x) Q):Tot (X.bind f) Q:=tB h fun x _=>k x
theorem gd {α:Type} [Inhabited α] {l:List α} {i:Nat} (h:i<l.length):l.getD i default=l[i]:=by simp [List.getD,h]
theorem getD_mem {α:Type} [Inhabited α] {l:List α} {i:Nat} (h:i<l.length):l.getD i default∈l:=by rw [gd h];exact List.getElem_mem h
end Md
end Go.Proofs.YtbijabmjbgplbaaGreatDoor
namespace Go.Proofs.YtbijabmjbgplbaaGreatDoor
namespace Md
variable {a0:List UInt8}
theorem zfW (c:UInt8):Tot (UD K c) fun _=>True:=tS trivial
theorem zeP (c:UInt8):Tot (Ws K c) fun b=>b=true->48<=c.toNat/\c.toNat<=57:=tS fun h=>by simp at h;omega
theorem znb (c:UInt8):Tot (UH K c) fun _=>True:=by
 unfold UH;exact tA (zfW c) fun x=>tA (tC (fun _=>tS trivial) fun _=>tA ((zeP c).mono fun _ _=>trivial) fun _=>tS trivial) fun _=>tS trivial
theorem zn9 (h:a0.length<=6000):Tot (UF K a0) fun r=>0<=r/\r<=(a0.length:Int):=by
 unfold UF;refine tB (P:=fun j=>j<=a0.length) (tK (fun j=>j<=a0.length) (fun j=>a0.length - j) (fun F x hx hF=>?_) (by omega) (by omega)) fun x hx=>tS (by omega);refine tB (P:=fun b=>b=true->x<a0.length) (tD (fun h1=>tI (by omega) fun _=>tA (znb _) fun _=>tS fun _=>by omega) fun _=>tS (by simp)) fun b hb=>tC (fun e=>?_) fun _=>tS hx;have:=hb e;exact tI (by omega) fun _=>hF _ (by omega) (by omega)
theorem zn_ (h:a0.length<=6000):Tot (UG K a0) fun r=>0<=r/\r<=(a0.length:Int)/\(0<a0.length->48<=(a0.getD 0 0).toNat/\(a0.getD 0 0).toNat<=57->0<r):=by
 unfold UG;refine tB (P:=fun j=>j<=a0.length/\(0<a0.length->48<=(a0.getD 0 0).toNat/\(a0.getD 0 0).toNat<=57->0<j)) (tK (fun j=>j<=a0.length) (fun j=>a0.length - j) (fun F x hx hF=>?_) (by omega) (by omega)) fun x hx=>tS ⟨by omega,by omega,fun p q=>by have:=hx.2 p q;omega⟩;refine tB (P:=fun b=>(b=true->x<a0.length)/\(b=false->0<a0.length->48<=(a0.getD 0 0).toNat/\(a0.getD 0 0).toNat<=57->0<x)) (tD (fun h1=>tI (by omega) fun _=>tB (P:=fun b=>b=false->¬(48<=(a0.getD x 0).toNat/\(a0.getD x 0).toNat<=57)) (tS fun e=>by simp only [Bool.and_eq_false_iff,decide_eq_false_iff_not] at e;omega) fun b hb=>tS ⟨fun _=>by omega,fun e p q=>?_⟩) fun _=>tS ⟨by simp,fun _ p q=>by omega⟩) fun b hb=>tC (fun e=>?_) fun e=>tS ⟨hx,hb.2 e⟩
 .rcases Nat.eq_zero_or_pos x with rfl|hx0
  .exact absurd q (hb e)
  .exact hx0
 have:=hb.1 e;exact tI (by omega) fun _=>hF _ (by omega) (by omega)
theorem zoS (h:a0.length<=6000):Tot (zas K a0) fun r=>0<=r/\r<=(a0.length:Int)/\(0<a0.length->a0.getD 0 0=47->0<r):=by
 unfold zas;refine tB (P:=fun j=>j<=a0.length/\(0<a0.length->a0.getD 0 0=47->0<j)) (tK (fun j=>j<=a0.length) (fun j=>a0.length - j) (fun F x hx hF=>?_) (by omega) (by omega)) fun x hx=>tS ⟨by omega,by omega,fun p q=>by have:=hx.2 p q;omega⟩;refine tB (P:=fun b=>(b=true->x<a0.length)/\(b=false->0<a0.length->a0.getD 0 0=47->0<x)) (tD (fun h1=>tI (by omega) fun _=>tS ⟨fun _=>by omega,fun e p q=>?_⟩) fun _=>tS ⟨by simp,fun _ p q=>by omega⟩) fun b hb=>tC (fun e=>?_) fun e=>tS ⟨hx,hb.2 e⟩
 .rcases Nat.eq_zero_or_pos x with rfl|hx0
  .rw [q] at e;cases e
  .exact hx0
 have:=hb.1 e;exact tI (by omega) fun _=>hF _ (by omega) (by omega)
theorem zbK {l p:List UInt8}:Tot (strings_HasPrefix K l p) fun b=>b=true->p.length<=l.length/\l.take p.length=p:=by
 unfold strings_HasPrefix qA;refine tB (P:=fun b=>b=true->p.length<=l.length/\l.take p.length=p) (tB (P:=fun b=>b=true->p.length<=l.length/\l.take p.length=p) (tD (fun h=>?_) fun _=>tS (by simp)) fun b hb=>tS hb) fun b hb=>tS hb
 first
  | exact tI (by omega) fun _=>tI (by omega) fun _=>tS fun e=>⟨by omega,by simpa using e⟩
  | exact tI (by omega) fun _=>tS fun e=>⟨by omega,by simpa using e⟩
theorem zlu (h:a0.length<=6000):Tot (Qm K a0) fun r=>0<=r/\r<=(a0.length:Int):=by
 unfold Qm;refine tB (P:=fun o=>∃r,(o=.inl r\/o=.inr r)/\0<=r/\r<=(a0.length:Int)) (tK (fun x=>0<=x/\x<=(a0.length:Int)) (fun x=>a0.length - x.toNat) (fun F x hx hF=>?_) (by omega) (by omega)) ?_
 .refine tD (fun h1=>tI (by omega) fun _=>tA (tS trivial) fun i=>tD (fun _=>?_) fun _=>tI (by omega) fun _=>tI (by omega) fun _=>tB zbK fun b hb=>tC (fun e=>tI (by omega) fun _=>tI (by omega) fun _=>?_) fun _=>tS ⟨_,.inr rfl,hx⟩) fun _=>tS ⟨_,.inl rfl,hx⟩
  .rw [W_id (by omega) (by omega)];exact hF _ (by omega) (by omega)
  .refine tB (zoS (by rw [List.length_drop];omega)) fun r hr=>?_
   obtain ⟨h3,h4⟩:=hb e;rw [List.length_drop] at h3 hr;have h5:(a0.drop x.toNat).getD 0 0=47:=by
    cases hd:a0.drop x.toNat with
    | nil=>rw [hd] at h4;cases h4
    | cons c t=>rw [hd] at h4;simp at h4;exact h4.1
   have:=hr.2.2 (by omega) h5;rw [W_id (by omega) (by omega)];exact hF _ (by omega) (by omega)
 .rintro o ⟨r,rfl|rfl,hr⟩<;>exact tS hr
theorem zji (h:a0.length<=6000):Tot (Qn K a0) fun r=>0<=r/\r<=(a0.length:Int):=by
 unfold Qn;refine tA (tD (fun _=>tS trivial) fun e=>tI (List.length_pos_iff.2 e) fun _=>tA (zfW _) fun _=>tS trivial) fun x=>tC (fun _=>tS (by omega)) fun _=>tB (zn9 h) fun r hr=>tS hr
theorem QA (l:List UInt8):Tot (Zo K l) fun _=>True:=by
 unfold Zo
 repeat' first
  | exact tS trivial
  | refine tC (fun _=>?_) (fun _=>?_)
  | refine tA ?_ (fun _=>?_)
theorem zgR (l:List UInt8):I64 (parseRes l).1:=by
 unfold parseRes;cases h:Lib.parseIntB 64 l with
 | ok v =>
  show I64 v;unfold Lib.parseIntB at h;cases l with
  | nil=>cases h
  | cons c r =>
   simp only at h;split at h
   .cases h
   .cases h
   .split at h
    .cases h
    .split at h
     .cases h
     .cases h
      unfold I64;split<;>omega
 | range =>
  show I64 (Lib.intSat 64 l);unfold Lib.intSat I64;split<;>decide
 | _=>exact (show I64 0 from ⟨by decide,by decide⟩)
theorem zgQ {l:List UInt8} (h:l.length<=6000):Tot (Vf K l 10 64) fun r=>I64 r.1:=tI ⟨rfl,rfl,by omega⟩ fun _=>tS (zgR l)
theorem i0:I64 0:=⟨by decide,by decide⟩
theorem zks (h:a0.length<=6000) (hp:0<a0.length) (hd:48<=(a0.getD 0 0).toNat/\(a0.getD 0 0).toNat<=57):Tot (UE K a0) fun r=>(r.1.Text.length<=6000/\I64 r.1.Num)/\(r.2.2=0->0<r.2.1/\r.2.1<=(a0.length:Int)):=by
 unfold UE;refine tB (zn_ h) fun n hn=>tI (by omega) fun _=>tI (by omega) fun _=>tB (zgQ (by rw [List.length_take];omega)) fun x hx=>?_;have hn0:=hn.2.2 hp hd;refine tA (tC (fun _=>tS trivial) fun _=>tA (tD (fun e=>tI (by omega) fun _=>tS trivial) fun _=>tS trivial) fun _=>tS trivial) fun b=>tC (fun _=>tS ⟨⟨by simp,i0⟩,fun e=>by cases e⟩) fun _=>tI (by omega) fun _=>tI (by omega) fun _=>tS ⟨⟨by simp only [List.length_take];omega,hx⟩,fun _=>⟨hn0,hn.2.1⟩⟩
theorem zbm (c:UInt8):Tot (Yp K c) fun _=>True:=by
 unfold Yp;have:=(c - 97).toNat_lt;exact tA ((zeP c).mono fun _ _=>trivial) fun x=>tC (fun _=>tS trivial) fun _=>tC (fun _=>tI (by omega) fun _=>tS trivial) fun _=>tS trivial
theorem zjY (h:a0.length<=6000):Tot (UC K a0) fun r=>r.2=0\/(0<r.2/\r.2<=(a0.length:Int)):=by
 unfold UC;refine tB (P:=fun b=>b=true->2<=a0.length) (tD (fun e=>tI (by omega) fun _=>tB (P:=fun _=>True) (tC (fun _=>tS trivial) fun _=>tI (by omega) fun _=>tS trivial) fun _ _=>tS fun _=>by omega) fun _=>tS (by simp)) fun b hb=>tC (fun e=>?_) fun _=>?_
 .have:=hb e
  exact tI (by omega) fun _=>tS (.inr (by omega))
 .refine tB (P:=fun b=>b=false->4<=a0.length) (tD (fun _=>tS (by simp)) fun e=>tI (by omega) fun _=>tS fun _=>by omega) fun b1 h1=>?_
  refine tB (P:=fun b=>b=false->4<=a0.length) (tC (fun _=>tS (by simp)) fun e=>tI (by have:=h1 e;omega) fun _=>tA (zbm _) fun _=>tS fun _=>h1 e) fun b2 h2=>?_;refine tB (P:=fun b=>b=false->4<=a0.length) (tC (fun _=>tS (by simp)) fun e=>tI (by have:=h2 e;omega) fun _=>tA (zbm _) fun _=>tS fun _=>h2 e) fun b3 h3=>tC (fun _=>tS (.inl rfl)) fun e=>?_;have:=h3 e;exact tI (by omega) fun _=>tA (zbm _) fun _=>tI (by omega) fun _=>tA (zbm _) fun _=>tS (.inr (by omega))
theorem zoi (h:a0.length<=6000):Tot (J5 K a0) fun r=>(r.1.Text.length<=6000/\I64 r.1.Num)/\(r.2.2=0->0<r.2.1/\r.2.1<=(a0.length:Int)):=by
 unfold J5;refine tB (P:=fun o=>o=.inl ()\/∃r,o=.inr r/\(r.1.Text.length<=6000/\I64 r.1.Num)/\(r.2.2=0->0<r.2.1/\r.2.1<=(a0.length:Int))) (tK (fun x=>1<=x.1/\x.1<=6000/\(x.2.length:Int)<=x.1) (fun x=>(a0.length+1) - x.1.toNat) (fun F x hx hF=>?_) ⟨by decide,by decide,by decide⟩ (by simp only;omega)) ?_
 .obtain ⟨h1,h2,h3⟩:=hx
  refine tD (fun e=>tI (by omega) fun _=>tA (tS trivial) fun b=>tC (fun _=>tI (by simp;omega) fun _=>?_) fun _=>tE (fun _=>tD (fun _=>tS (.inr ⟨_,rfl,⟨by simp,i0⟩,fun e=>by cases e⟩)) fun _=>tS (.inr ⟨_,rfl,⟨by simp only;omega,i0⟩,fun _=>?_⟩)) fun _=>tE (fun _=>tI (by omega) fun _=>tI (by omega) fun _=>tB (zjY (by rw [List.length_drop];omega)) fun r hr=>tE (fun _=>tS (.inr ⟨_,rfl,⟨by simp,i0⟩,fun e=>by cases e⟩)) fun hz=>tI (by simp;omega) fun _=>?_) fun _=>tS (.inr ⟨_,rfl,⟨by simp,i0⟩,fun e=>by cases e⟩)) fun _=>tS (.inl rfl)
  .rw [W_id (by omega) (by omega)];exact hF _ ⟨by simp only;omega,by simp only;omega,by simp;omega⟩ (by simp only;omega)
  .rw [W_id (by omega) (by omega)];simp only;omega
  .rw [List.length_drop] at hr
   rw [W_id (by omega) (by omega)];exact hF _ ⟨by simp only;omega,by simp only;omega,by simp;omega⟩ (by simp only;omega)
 .rintro o (rfl|⟨r,rfl,hr⟩)
  .exact tS ⟨⟨by simp,i0⟩,fun e=>by cases e⟩
  .exact tS hr
theorem zgh (h:a0.length<=6000):Tot (WX K a0) fun r=>0<=r/\r<=(a0.length:Int):=by
 unfold WX;refine tB (P:=fun o=>o=.inl ()\/(o=.inr (2:Int)/\2<=a0.length)) (tK (fun j=>j<=6) (fun j=>6 - j) (fun F x hx hF=>?_) (by omega) (by omega)) ?_
 .refine tD (fun e=>tI (by simp;omega) fun _=>tB zbK fun b hb=>tC (fun q=>tS (.inr ⟨rfl,?_⟩)) fun _=>tI (by omega) fun _=>hF _ (by omega) (by omega)) fun _=>tS (.inl rfl)
  have h2:∀p,p∈[([61,61]:List UInt8),([33,61]:List UInt8),([60,61]:List UInt8),([62,61]:List UInt8),([38,38]:List UInt8),([124,124]:List UInt8)]->p.length=2:=by decide
  have h3:=h2 _ (getD_mem (i:=x) (by simp;omega));have h4:=(hb q).1;have h5:([([61,61]:List UInt8),([33,61]:List UInt8),([60,61]:List UInt8),([62,61]:List UInt8),([38,38]:List UInt8),([124,124]:List UInt8)].getD x []).length=2:=h3;omega
 .rintro o (rfl|⟨rfl,h2⟩)
  .refine tB (P:=fun b=>b=true->0<a0.length) (tC (fun e=>?_) fun _=>tS (by simp)) fun b hb=>tC (fun e=>tS ?_) fun _=>tS (by omega)
   .have hp:0<a0.length:=List.length_pos_iff.2 (by simpa using e)
    exact tI hp fun _=>tA (tS trivial) fun _=>tS fun _=>hp
   .have:=hb e;omega
  .exact tS (by omega)
theorem zm2 (h:a0.length<=6000) (hp:0<a0.length):Tot (QS K a0) fun r=>(r.1.Text.length<=6000/\I64 r.1.Num)/\(r.2.2=0->0<r.2.1/\r.2.1<=(a0.length:Int)):=by
 unfold QS;refine tB (zji h) fun n hn=>tD (fun e=>tD (fun _=>tS ⟨⟨by simp,i0⟩,fun e=>by cases e⟩) fun _=>tI (by omega) fun _=>tI (by omega) fun _=>tA (QA _) fun b=>tC (fun _=>?_) fun _=>?_) fun _=>tI hp fun _=>tB (zeP _) fun b hb=>tC (fun e=>tB (zks h hp (hb e)) fun r hr=>tS hr) fun _=>tI hp fun _=>tE (fun _=>tB (zoi h) fun r hr=>tS hr) fun _=>tB (zgh h) fun r hr=>tE (fun _=>tS ⟨⟨by simp,i0⟩,fun e=>by cases e⟩) fun q=>tI (by omega) fun _=>tI (by omega) fun _=>tS ⟨⟨by simp only [List.length_take];omega,i0⟩,fun _=>by simp only;omega⟩
 .exact tI (by omega) fun _=>tI (by omega) fun _=>tS ⟨⟨by simp only [List.length_take];omega,i0⟩,fun _=>⟨e,hn.2⟩⟩
 .exact tI (by omega) fun _=>tI (by omega) fun _=>tS ⟨⟨by simp only [List.length_take];omega,i0⟩,fun _=>⟨e,hn.2⟩⟩
def Xt (n:Nat) (l:List Token):Prop:=l.length<=n/\∀t∈l,t.Text.length<=6000/\I64 t.Num
theorem zel (n:Nat):Xt n []:=⟨Nat.zero_le _,fun t h=>by cases h⟩
theorem zju (a0:List UInt8):Tot (UA K a0) fun r=>Xt 6000 r.2.2:=by
 unfold UA;refine tD (fun _=>tS (zel _)) fun h=>tB (zlu (by omega)) fun n hn=>tB (P:=fun o=>(∃l,o=.inl l/\Xt 6000 l)\/∃r,o=.inr r/\Xt 6000 r.2.2) (tK (fun x=>0<=x.1/\x.1<=(a0.length:Int)/\(x.2.length:Int)<=x.1/\∀t∈x.2,t.Text.length<=6000/\I64 t.Num) (fun x=>a0.length - x.1.toNat) (fun F x hx hF=>?_) ⟨by simp only;omega,by simp only;omega,by simp only [List.length_nil];omega,fun t h=>by cases h⟩ (by omega)) ?_
 .obtain ⟨h1,h2,h3,h4⟩:=hx
  refine tD (fun e=>tI (by omega) fun _=>tI (by omega) fun _=>tB (zm2 (by rw [List.length_drop];omega) (by rw [List.length_drop];omega)) fun r hr=>tN (fun _=>tS (.inr ⟨_,rfl,zel _⟩)) fun q=>?_) fun _=>tS (.inl ⟨_,rfl,by omega,h4⟩);have hr2:=hr.2 q;rw [List.length_drop] at hr2;have hW:W (x.1+r.2.1)=x.1+r.2.1:=W_id (by omega) (by omega);rw [hW];refine tI (by simp;omega) fun _=>tI (by omega) fun _=>tI (by omega) fun _=>tB (zlu (by rw [List.length_drop];omega)) fun m hm=>?_;rw [List.length_drop] at hm;rw [W_id (by omega) (by omega)];refine hF _ ⟨by simp only;omega,by simp only;omega,by simp;omega,fun t ht=>?_⟩ (by simp only;omega);rcases List.mem_append.1 ht with ht|ht
  .exact h4 t ht
  .rw [List.mem_singleton.1 ht];exact hr.1
 .rintro o (⟨l,rfl,hl⟩|⟨r,rfl,hr⟩)
  .exact tS hl
  .exact tS hr
theorem QB (h:a0.length<=6000):Tot (y8 K a0) fun _=>True:=by
 unfold y8;exact tA (tC (fun _=>tA ((zji h).mono fun _ _=>trivial) fun _=>tS trivial) fun _=>tS trivial) fun _=>tA (tC (fun _=>tA (QA _) fun _=>tS trivial) fun _=>tS trivial) fun _=>tS trivial
theorem zgp (h:a0.length<=6000):Tot (WJ K a0) fun _=>True:=by
 unfold WJ;exact tA (tC (fun _=>tA ((zgh h).mono fun _ _=>trivial) fun _=>tS trivial) fun _=>tS trivial) fun _=>tS trivial
end Md
end Go.Proofs.YtbijabmjbgplbaaGreatDoor
namespace Go.Proofs.YtbijabmjbgplbaaGreatDoor
namespace Md
structure PS (T:List Token) (p q:zn):Prop where
 tk:q.tokens=T
 lo:p.pos<=q.pos
 hi:q.pos<=(T.length:Int)
 er:q.err=0->p.err=0
structure PO (T:List Token) (p:zn):Prop where
 tk:p.tokens=T
 lo:0<=p.pos
 hi:p.pos<=(T.length:Int)
variable {T:List Token} {p q r:zn} {ns:List Node}
theorem PO.s (h:PO T p):PS T p p:=⟨h.tk,Int.le_refl _,h.hi,id⟩
theorem PS.o (h:PS T p q) (hp:PO T p):PO T q:=⟨h.tk,Int.le_trans hp.lo h.lo,h.hi⟩
theorem PS.t (h:PS T p q) (k:PS T q r):PS T p r:=⟨k.tk,Int.le_trans h.lo k.lo,k.hi,fun e=>h.er (k.er e)⟩
def PX (T:List Token) (p q:zn):Prop:=PS T p q/\(q.err=0->p.pos<q.pos)
theorem PX.t (h:PX T p q) (k:PS T q r):PX T p r:=⟨h.1.t k,fun e=>by have:=h.2 (k.er e);have:=k.lo;omega⟩
theorem PS.x (h:PS T p q) (k:PX T q r):PX T p r:=⟨h.t k.1,fun e=>by have:=k.2 e;have:=h.lo;omega⟩
theorem zkA {t:Token} (h:t.Text.length<=6000):Tot (XW K t) fun _=>True:=by
 unfold XW;exact tE (fun _=>tA (QB h) fun _=>tS trivial) fun _=>tE (fun _=>tA (QA _) fun _=>tS trivial) fun _=>tE (fun _=>tS trivial) fun _=>tE (fun _=>tS trivial) fun _=>tE (fun _=>tA (zgp h) fun _=>tS trivial) fun _=>tS trivial
structure Pk (T:List Token) (p:zn) (i:Int) (t:Token):Prop where
 at_:t.Kind≠0->p.err=0/\p.pos+i<(T.length:Int)
 tx:t.Text.length<=6000
 nm:I64 t.Num
theorem JO (hT:Xt 6000 T) (hp:PO T p) {i:Int} (h0:0<=i) (h1:i<=1):Tot (yY K i p ns) (Pk T p i):=by
 unfold yY xG;have hz:Pk T p i (⟨0,[],0,0⟩:Token):=⟨fun h=>absurd rfl h,by simp,i0⟩;have hl:=hT.1;have h2:=hp.lo;have h3:=hp.hi;refine tB (P:=fun b=>b=true->p.err=0) (tS fun e=>by simpa using e) fun b hb=>tC (fun _=>tS hz) fun e=>?_;have he:=hb (by simpa using e);rw [W_id (by omega) (by omega),hp.tk];refine tD (fun _=>tS hz) fun h4=>tI (by omega) fun _=>?_;have hm:=hT.2 _ (getD_mem (l:=T) (i:=(p.pos+i).toNat) (by omega));exact tA (zkA hm.1) fun b=>tC (fun _=>tS hz) fun _=>tI (by omega) fun _=>tS ⟨fun _=>⟨he,by omega⟩,hm.1,hm.2⟩
theorem is_t (hT:Xt 6000 T) (hp:PO T p) {s:List UInt8}:Tot (yF K s p ns) fun b=>b=true->p.err=0/\p.pos<(T.length:Int):=by
 unfold yF;refine tB (JO hT hp (Int.le_refl 0) (by decide)) fun t ht=>tS fun e=>?_;have:=ht.at_ (fun h=>by rw [h] at e;simp at e);omega
theorem Uw (hp:PO T p) {e:Int} (he:e≠0):Tot (zY K e p ns) fun q=>PS T p q/\q.err≠0:=by
 unfold zY;have h2:=hp.lo;refine tN (fun h=>tS ⟨hp.s,h⟩) fun _=>tD (fun _=>tI (by omega) fun _=>tS ⟨⟨hp.tk,Int.le_refl _,hp.hi,fun h=>absurd h he⟩,he⟩) fun _=>tS ⟨⟨hp.tk,Int.le_refl _,hp.hi,fun h=>absurd h he⟩,he⟩
theorem zd7 (hp:PO T p) (h:p.pos<(T.length:Int)) (hT:Xt 6000 T) (he:p.err=0):PX T p ⟨p.tokens,W (p.pos+1),p.end_,p.at_,p.err,p.nest,p.total⟩:=by
 have hl:=hT.1;have h2:=hp.lo;rw [W_id (by omega) (by omega)];exact ⟨⟨hp.tk,by simp only;omega,by simp only;omega,id⟩,fun _=>by simp only;omega⟩
theorem vZ (hT:Xt 6000 T) (hp:PO T p) {s:List UInt8}:Tot (zC K s p ns) fun r=>(r.1=true/\p.err=0/\r.2.err=0/\PX T p r.2)\/(r.1=false/\r.2=p):=by
 unfold zC;refine tB (is_t hT hp) fun b hb=>tC (fun _=>tS (.inr ⟨rfl,rfl⟩)) fun e=>?_;obtain ⟨h1,h2⟩:=hb (by simpa using e);exact tS (.inl ⟨rfl,h1,h1,zd7 hp h2 hT h1⟩)
theorem Xf {r:Bool×zn} (hp:PO T p) (h:(r.1=true/\p.err=0/\r.2.err=0/\PX T p r.2)\/(r.1=false/\r.2=p)):PS T p r.2:=by
 rcases h with ⟨_,_,_,h⟩|⟨_,h⟩
 .exact h.1
 .rw [h];exact hp.s
theorem uj (hT:Xt 6000 T) (hp:PO T p) {s:List UInt8}:Tot (yt K s p ns) fun q=>PX T p q:=by
 unfold yt;refine tB (vZ hT hp) fun r hr=>tC (fun e=>?_) fun e=>?_
 .rcases hr with ⟨h,_⟩|⟨_,h⟩
  .rw [h] at e;cases e
  .rw [h];exact tB (Uw hp (by decide)) fun q hq=>tS ⟨hq.1,fun h=>absurd h hq.2⟩
 .rcases hr with ⟨_,_,_,h⟩|⟨h,_⟩
  .exact tS h
  .rw [h] at e;cases e
theorem zgk (hT:Xt 6000 T) (hp:PO T p) {k:Int} (hk:k≠0):Tot (wH K k p ns) fun r=>PX T p r.2/\r.1.Text.length<=6000/\I64 r.1.Num:=by
 unfold wH;refine tB (JO hT hp (Int.le_refl 0) (by decide)) fun t ht=>tN (fun _=>tB (Uw hp (by decide)) fun q hq=>tS ⟨⟨hq.1,fun h=>absurd h hq.2⟩,by simp,i0⟩) fun e=>?_;have h:=ht.at_ (fun h=>hk (e▸h));exact tS ⟨zd7 hp (by omega) hT h.1,ht.tx,ht.nm⟩
theorem za4 (hT:Xt 6000 T) (hp:PO T p):Tot (wG K p ns) fun r=>PX T p r.2/\r.1.length<=6000:=by
 unfold wG;exact tB (zgk hT hp (by decide)) fun r hr=>tS ⟨hr.1,hr.2.1⟩
theorem zfU (hT:Xt 6000 T) (hp:PO T p):Tot (qW K p ns) fun r=>PX T p r.2/\0<=r.1/\r.1<=5:=by
 unfold qW;refine tB (P:=fun o=>(o=.inl p)\/∃r,o=.inr r/\PX T p r.2/\0<=r.1/\r.1<=5) (tK (fun x=>x.1<=5/\x.2=p) (fun x=>5 - x.1) (fun F x hx hF=>?_) ⟨by simp only;omega,rfl⟩ (by omega)) ?_
 .obtain ⟨h1,h2⟩:=hx
  refine tD (fun e=>tI (by simp;omega) fun _=>?_) fun _=>tS (.inl (by rw [h2]));rw [h2];refine tB (vZ hT hp) fun r hr=>tC (fun e=>tI (by omega) fun _=>tS (.inr ⟨_,rfl,?_,by simp only;omega,by simp only;omega⟩)) fun e=>tI (by omega) fun _=>hF _ ⟨by simp only;omega,?_⟩ (by simp only;omega)
  .rcases hr with ⟨_,_,_,h⟩|⟨h,_⟩
   .exact h
   .rw [h] at e;cases e
  .rcases hr with ⟨h,_⟩|⟨_,h⟩
   .rw [h] at e;cases e
   .exact h
 .rintro o (rfl|⟨r,rfl,hr⟩)
  .exact tB (Uw hp (by decide)) fun q hq=>tS ⟨⟨hq.1,fun h=>absurd h hq.2⟩,by simp only;omega,by simp only;omega⟩
  .exact tS hr
theorem zbU (hT:Xt 6000 T) (hp:PO T p) {s:List UInt8}:Tot (xO K s p ns) fun q=>PX T p q:=by
 unfold xO;refine tB (P:=fun q=>PS T p q) (tA ((is_t hT hp).mono fun _ _=>trivial) fun b=>tC (fun _=>tB (Uw hp (by decide)) fun q hq=>tS hq.1) fun _=>tS hp.s) fun q hq=>tB (uj hT (hq.o hp)) fun r hr=>?_;have:=hq.x hr;exact tS ⟨⟨this.1.tk,this.1.lo,this.1.hi,this.1.er⟩,this.2⟩
theorem zaL (hT:Xt 6000 T) (hp:PO T p) {s:List UInt8}:Tot (xW K s p ns) fun q=>PX T p q:=by
 unfold xW;exact tB (uj hT hp) fun r hr=>tS ⟨⟨hr.1.tk,hr.1.lo,hr.1.hi,hr.1.er⟩,hr.2⟩
theorem zjD (hT:Xt 6000 T) (hp:PO T p):Tot (kZ K p ns) fun _=>True:=by
 unfold kZ;refine tA (tA ((JO hT hp (Int.le_refl 0) (by decide)).mono fun _ _=>trivial) fun t=>?_) fun o=>tO (fun _ _=>tS trivial) fun _ _=>tS trivial
 repeat' first
  | exact tS trivial
  | refine tC (fun _=>?_) (fun _=>?_)
  | refine tA ?_ (fun _=>?_)
theorem zd1 (hT:Xt 6000 T) (hp:PO T p):Tot (wM K p ns) fun r=>PX T p r.2/\I64 r.1:=by
 unfold wM;refine tB (vZ hT hp) fun r hr=>?_;have h1:=Xf hp hr;exact tC (fun _=>tB (zgk hT (h1.o hp) (by decide)) fun s hs=>tS ⟨h1.x hs.1,W_i _⟩) fun _=>tB (zgk hT (h1.o hp) (by decide)) fun s hs=>tS ⟨h1.x hs.1,hs.2.2⟩
end Md
end Go.Proofs.YtbijabmjbgplbaaGreatDoor
namespace Go.Proofs.YtbijabmjbgplbaaGreatDoor
namespace Md
variable {T:List Token} {p q r:zn} {ns:List Node}
theorem zeQ (hp:PO T p) {b c:Bool}:Tot (bif (!b) then ((zY K (13:Int) p ns).bind fun x5=>some x5) else (bif c then ((zY K (5:Int) p ns).bind fun x6=>some x6) else (some p))) fun q=>PS T p q :=
 tC (fun _=>tB (Uw hp (by decide)) fun q hq=>tS hq.1) fun _=>tC (fun _=>tB (Uw hp (by decide)) fun q hq=>tS hq.1) fun _=>tS hp.s
theorem zjK (hT:Xt 6000 T) (hp:PO T p):Tot (qQ K p ns) fun _=>True:=by
 unfold qQ;exact tA ((is_t hT hp).mono fun _ _=>trivial) fun _=>tA (tC (fun _=>tS trivial) fun _=>tA ((JO hT hp (Int.le_refl 0) (by decide)).mono fun _ _=>trivial) fun _=>tS trivial) fun _=>tS trivial
theorem zjL (hT:Xt 6000 T) (hp:PO T p):Tot (qU K p ns) fun _=>True:=by
 unfold qU;exact tA ((JO hT hp (Int.le_refl 0) (by decide)).mono fun _ _=>trivial) fun _=>tS trivial
theorem zl7 (hT:Xt 6000 T) (hp:PO T p) {m kd n:Int} {s:List UInt8} {ll:List (List UInt8)}:Tot (vg K m p ns kd n s [] ll) fun r=>PS T p r.1/\r.2.1=kd/\r.2.2.1=n/\r.2.2.2.1=s/\r.2.2.2.2.length<=6001/\∀i∈r.2.2.2.2,I64 i:=by
 have hl:=hT.1;have h0:=hp.lo;unfold vg;refine tB (is_t hT hp) fun b hb=>tC (fun _=>tS ⟨hp.s,rfl,rfl,rfl,by simp,by simp⟩) fun _=>?_;refine tB (P:=fun o=>∃r,(o=.inl r\/o=.inr r)/\PS T p r.1/\r.2.1=kd/\r.2.2.1=n/\r.2.2.2.1=s/\r.2.2.2.2.length<=6001/\∀i∈r.2.2.2.2,I64 i)
  (tK (fun x=>PS T p x.2.1/\x.2.2.1=kd/\x.2.2.2.1=n/\x.2.2.2.2.1=s/\(x.1:Int)+p.pos<=x.2.1.pos/\x.2.2.2.2.2.length=x.1/\∀i∈x.2.2.2.2.2,I64 i) (fun x=>((T.length:Int) - x.2.1.pos).toNat) (fun F x hx hF=>?_) ⟨hp.s,rfl,rfl,rfl,by simp only;omega,rfl,by simp⟩ (by simp only;omega)) ?_
 .obtain ⟨h1,h2,h3,h4,h5,h6,h7⟩:=hx
  have hi:=h1.hi;refine tA (tS trivial) fun b=>tC (fun _=>?_) fun _=>tS ⟨_,.inl rfl,h1,h2,h3,h4,by simp only;omega,h7⟩;refine tB (tA (zjK hT (h1.o hp)) fun b=>zeQ (h1.o hp)) fun q hq=>?_;have hq':=h1.t hq;unfold qR;refine tB (P:=fun r=>PS T q r.2.2.2.2/\r.1=kd/\r.2.1=n/\r.2.2.1=s/\r.2.2.2.1.length=x.1+1/\∀i∈r.2.2.2.1,I64 i) (tB (zd1 hT (hq'.o hp)) fun r hr=>tI (by simp;omega) fun _=>tS ⟨hr.1.1,h2,h3,h4,by simp [h6],fun i hi=>?_⟩) fun r hr=>?_
  .rcases List.mem_append.1 hi with hi|hi
   .exact h7 i hi
   .rw [List.mem_singleton.1 hi];exact hr.2
  .obtain ⟨g1,g2,g3,g4,g5,g6⟩:=hr
   have g1':=hq'.t g1;refine tB (vZ hT (g1'.o hp)) fun a ha=>?_;have ha':=g1'.t (Xf (g1'.o hp) ha);refine tC (fun _=>tS ⟨_,.inr rfl,ha',g2,g3,g4,by simp only;omega,g6⟩) fun e=>tI (by omega) fun _=>?_;rcases ha with ⟨_,_,e2,hx⟩|⟨e2,_⟩
   .have:=hx.2 e2
    have:=hq.lo;have:=g1.lo;have:=ha'.hi;exact hF _ ⟨ha',g2,g3,g4,by simp only;omega,g5,g6⟩ (by simp only;omega)
   .rw [e2] at e;cases e
 .rintro o ⟨r,rfl|rfl,hr⟩<;>exact tS hr
theorem zl_ (hT:Xt 6000 T) (hp:PO T p) {m kd n:Int} {s:List UInt8} {li:List Int}:Tot (xZ K m p ns kd n s li []) fun r=>PS T p r.1/\r.2.1=kd/\r.2.2.1=n/\r.2.2.2.1=s/\r.2.2.2.2.length<=6001/\∀i∈r.2.2.2.2,i.length<=6000:=by
 have hl:=hT.1;have h0:=hp.lo;unfold xZ;refine tB (is_t hT hp) fun b hb=>tC (fun _=>tS ⟨hp.s,rfl,rfl,rfl,by simp,by simp⟩) fun _=>?_;refine tB (P:=fun o=>∃r,(o=.inl r\/o=.inr r)/\PS T p r.1/\r.2.1=kd/\r.2.2.1=n/\r.2.2.2.1=s/\r.2.2.2.2.length<=6001/\∀i∈r.2.2.2.2,i.length<=6000)
  (tK (fun x=>PS T p x.2.1/\x.2.2.1=kd/\x.2.2.2.1=n/\x.2.2.2.2.1=s/\(x.1:Int)+p.pos<=x.2.1.pos/\x.2.2.2.2.2.length=x.1/\∀i∈x.2.2.2.2.2,i.length<=6000) (fun x=>((T.length:Int) - x.2.1.pos).toNat) (fun F x hx hF=>?_) ⟨hp.s,rfl,rfl,rfl,by simp only;omega,rfl,by simp⟩ (by simp only;omega)) ?_
 .obtain ⟨h1,h2,h3,h4,h5,h6,h7⟩:=hx
  have hi:=h1.hi;refine tA (tS trivial) fun b=>tC (fun _=>?_) fun _=>tS ⟨_,.inl rfl,h1,h2,h3,h4,by simp only;omega,h7⟩;refine tB (tA (zjL hT (h1.o hp)) fun b=>zeQ (h1.o hp)) fun q hq=>?_;have hq':=h1.t hq;unfold qV;refine tB (P:=fun r=>PS T q r.2.2.2.2/\r.1=kd/\r.2.1=n/\r.2.2.1=s/\r.2.2.2.1.length=x.1+1/\∀i∈r.2.2.2.1,i.length<=6000) (tB (zgk hT (hq'.o hp) (by decide)) fun r hr=>tI (by simp;omega) fun _=>tS ⟨hr.1.1,h2,h3,h4,by simp [h6],fun i hi=>?_⟩) fun r hr=>?_
  .rcases List.mem_append.1 hi with hi|hi
   .exact h7 i hi
   .rw [List.mem_singleton.1 hi];exact hr.2.1
  .obtain ⟨g1,g2,g3,g4,g5,g6⟩:=hr
   have g1':=hq'.t g1;refine tB (vZ hT (g1'.o hp)) fun a ha=>?_;have ha':=g1'.t (Xf (g1'.o hp) ha);refine tC (fun _=>tS ⟨_,.inr rfl,ha',g2,g3,g4,by simp only;omega,g6⟩) fun e=>tI (by omega) fun _=>?_;rcases ha with ⟨_,_,e2,hx⟩|⟨e2,_⟩
   .have:=hx.2 e2
    have:=hq.lo;have:=g1.lo;have:=ha'.hi;exact hF _ ⟨ha',g2,g3,g4,by simp only;omega,g5,g6⟩ (by simp only;omega)
   .rw [e2] at e;cases e
 .rintro o ⟨r,rfl|rfl,hr⟩<;>exact tS hr
structure okV (v:Value):Prop where
 k:I64 v.Kind
 n:I64 v.N
 s:v.S.length<=6000
 i:v.I.length<=6001
 ii:∀x∈v.I,I64 x
 l:v.L.length<=6001
 ll:∀x∈v.L,x.length<=6000
theorem zce {k:Int} (h:I64 k) {n:Int} (h2:I64 n):okV ⟨k,n,[],[],[]⟩:=⟨h,h2,by simp,by simp,by simp,by simp,by simp⟩
theorem WY:okV ⟨0,0,[],[],[]⟩:=zce i0 i0
theorem zcq (hT:Xt 6000 T) (hp:PO T p):Tot (wZ K p ns) fun r=>PX T p r.2/\okV r.1:=by
 have hi:∀n:Int,-10<=n->n<=10->I64 n:=fun n h h'=>⟨by omega,by omega⟩;unfold wZ;refine tB (JO hT hp (Int.le_refl 0) (by decide)) fun t ht=>tE (fun e=>?_) fun _=>?_
 .have h:=ht.at_ (fun h=>by rw [h] at e;cases e)
  exact tS ⟨zd7 hp (by omega) hT h.1,⟨hi 3 (by decide) (by decide),i0,ht.tx,by simp,by simp,by simp,by simp⟩⟩
 have done:∀{u:zn} {a:Bool×zn} {v:Value},PS T p u->okV v->(a.1=true/\u.err=0/\a.2.err=0/\PX T u a.2)\/(a.1=false/\a.2=u)->a.1=true->Tot (some (v,a.2)) fun r:Value×zn=>PX T p r.2/\okV r.1:=fun {u a v} hu hv ha e=>by
  rcases ha with ⟨_,_,_,hx⟩|⟨e2,_⟩
  .exact tS ⟨hu.x hx,hv⟩
  .rw [e2] at e;cases e
 refine tB (vZ hT hp) fun a ha=>tC (fun e=>done hp.s (zce (hi 2 (by decide) (by decide)) (hi 1 (by decide) (by decide))) ha e) fun _=>?_;have h1:=Xf hp ha;refine tB (vZ hT (h1.o hp)) fun a ha=>tC (fun e=>done h1 (zce (hi 2 (by decide) (by decide)) i0) ha e) fun _=>?_;have h2:=h1.t (Xf (h1.o hp) ha);refine tB (vZ hT (h2.o hp)) fun a ha=>?_;have h3:=h2.t (Xf (h2.o hp) ha);refine tC (fun _=>tB (uj hT (h3.o hp)) fun q hq=>tB (zl7 hT ((h3.x hq).1.o hp)) fun r hr=>?_) fun _=>?_
 .obtain ⟨g1,g2,g3,g4,g5,g6⟩:=hr
  exact tB (uj hT (((h3.x hq).1.t g1).o hp)) fun u hu=>tS ⟨(h3.x hq).t (g1.t hu.1),⟨by rw [g2];exact hi 4 (by decide) (by decide),by rw [g3];exact i0,by simp [g4],g5,g6,by simp,by simp⟩⟩
 refine tB (vZ hT (h3.o hp)) fun a ha=>?_;have h4:=h3.t (Xf (h3.o hp) ha);refine tC (fun _=>tB (uj hT (h4.o hp)) fun q hq=>tB (zl_ hT ((h4.x hq).1.o hp)) fun r hr=>?_) fun _=>tB (zd1 hT (h4.o hp)) fun r hr=>tS ⟨h4.x hr.1,zce (hi 1 (by decide) (by decide)) hr.2⟩;obtain ⟨g1,g2,g3,g4,g5,g6⟩:=hr;exact tB (uj hT (((h4.x hq).1.t g1).o hp)) fun u hu=>tS ⟨(h4.x hq).t (g1.t hu.1),⟨by rw [g2];exact hi 5 (by decide) (by decide),by rw [g3];exact i0,by simp [g4],by simp,by simp,g5,g6⟩⟩
structure okN (l:Nat) (n:Node):Prop where
 o:I64 n.Op
 nm:n.Name.length<=6000
 v:okV n.Value
 kl:n.Kids.length<=6100
 k:∀k∈n.Kids,0<=k/\k<(l:Int)
def NK (ns:List Node):Prop:=∀n∈ns,okN ns.length n
theorem okN.up {l m:Nat} {n:Node} (h:okN l n) (k:l<=m):okN m n:=⟨h.o,h.nm,h.v,h.kl,fun x hx=>by have:=h.k x hx;omega⟩
structure PN (T:List Token) (p:zn) (ns:List Node) (q:zn) (ms:List Node):Prop where
 s:PS T p q
 n1:ns.length<=ms.length
 n2:(ms.length:Int)+p.pos<=ns.length+q.pos
 nk:NK ms
variable {ms ls:List Node}
theorem PN.t (h:PN T p ns q ms) (k:PN T q ms r ls):PN T p ns r ls:=⟨h.s.t k.s,Nat.le_trans h.n1 k.n1,by have:=h.n2;have:=k.n2;omega,k.nk⟩
theorem PS.n (h:PS T p q) (hn:NK ns):PN T p ns q ns:=⟨h,Nat.le_refl _,by have:=h.lo;omega,hn⟩
theorem zbq (hT:Xt 6000 T) (hp:PO T p) {ops:List (List UInt8)} (ho:ops.length<=20):Tot (yD K ops p ns) fun r=>(r.1<0/\r.2=p)\/(0<=r.1/\r.1<(ops.length:Int)/\p.err=0/\r.2.err=0/\PX T p r.2):=by
 unfold yD;refine tB (P:=fun o=>o=.inl p\/∃r,o=.inr r/\0<=r.1/\r.1<(ops.length:Int)/\p.err=0/\r.2.err=0/\PX T p r.2) (tK (fun x=>x.1<=ops.length/\x.2=p) (fun x=>ops.length - x.1) (fun F x hx hF=>?_) ⟨Nat.zero_le _,rfl⟩ (by simp only;omega)) ?_
 .obtain ⟨h1,h2⟩:=hx
  refine tD (fun e=>tI (by omega) fun _=>?_) fun _=>tS (.inl (by rw [h2]));rw [h2];refine tB (vZ hT hp) fun a ha=>tC (fun e=>?_) fun e=>tI (by omega) fun _=>hF _ ⟨by simp only;omega,?_⟩ (by simp only;omega)
  .rcases ha with ⟨_,e1,e2,hx⟩|⟨e2,_⟩
   .exact tS (.inr ⟨_,rfl,by simp only;omega,by simp only;omega,e1,e2,hx⟩)
   .rw [e2] at e;cases e
  .rcases ha with ⟨e2,_⟩|⟨_,h⟩
   .rw [e2] at e;cases e
   .exact h
 .rintro o (rfl|⟨r,rfl,hr⟩)
  .exact tS (.inl ⟨by simp only;omega,rfl⟩)
  .exact tS (.inr hr)
theorem zoy {n:Node} (hp:PO T p) (hT:Xt 6000 T) {p0:zn} {ns0:List Node} (h0:PN T p0 ns0 p ns) (hb:(ns0.length:Int)<=p0.pos) (h:p.err=0->okN ns.length n/\(ns.length:Int)+1+p0.pos<=ns0.length+p.pos):Tot (yc K n p ns) fun r=>PN T p0 ns0 r.2.1 r.2.2/\r.2.1=p/\(p.err=0->0<=r.1/\r.1<(r.2.2.length:Int)):=by
 have hl:=hT.1;have hh:=hp.hi;unfold yc xG;refine tB (P:=fun b=>b=true↔p.err=0) (tS (by simp)) fun b hb2=>tC (fun e=>tS ⟨h0,rfl,fun e2=>?_⟩) fun e=>?_
 .rw [hb2.2 e2] at e;cases e
 obtain ⟨h1,h2⟩:=h (hb2.1 (by simpa using e));have h3:=h0.s.lo;have h4:=h0.n1;refine tI (by simp;omega) fun _=>tS ⟨⟨h0.s,by simp;omega,by simp;omega,fun m hm=>?_⟩,rfl,fun _=>?_⟩
 .rcases List.mem_append.1 hm with hm|hm
  .exact (h0.nk m hm).up (by simp)
  .rw [List.mem_singleton.1 hm];exact h1.up (by simp)
 .have e2:W ((((ns++[n]).length:Nat):Int) - 1)=(ns.length:Int):=by
   have e3:(((ns++[n]).length:Nat):Int) - 1=(ns.length:Int):=by simp
   rw [e3,W_id (by omega) (by omega)]
  show 0<=W _/\W _<_;rw [e2];simp;omega
end Md
end Go.Proofs.YtbijabmjbgplbaaGreatDoor
namespace Go.Proofs.YtbijabmjbgplbaaGreatDoor
namespace Md
variable {T:List Token} {p q r:zn} {ns ms:List Node}
theorem i1:I64 1:=⟨by decide,by decide⟩
def mu (T:List Token) (p:zn):Nat:=if p.err=0 then ((T.length:Int) - p.pos).toNat+1 else 0
theorem mu_s (h:PS T p q):mu T q<=mu T p:=by
 unfold mu;have:=h.lo
 by_cases e:q.err=0
 .rw [if_pos e,if_pos (h.er e)];omega
 .rw [if_neg e];exact Nat.zero_le _
theorem mu_x (h:PX T p q) (e:p.err=0):mu T q+1<=mu T p:=by
 unfold mu;have:=h.1.lo;have:=h.1.hi;rw [if_pos e]
 by_cases e2:q.err=0
 .have:=h.2 e2;rw [if_pos e2];omega
 .rw [if_neg e2];omega
structure PB (T:List Token) (p:zn) (ns:List Node):Prop where
 t:Xt 6000 T
 o:PO T p
 k:NK ns
 l:(ns.length:Int)<=p.pos
theorem zmq (h:PB T p ns):mu T p<5000000:=by
 have:=h.t.1;have:=h.o.lo;unfold mu;split<;>omega
structure EX (T:List Token) (p:zn) (ns:List Node) (r:Int×zn×List Node):Prop where
 n:PN T p ns r.2.1 r.2.2
 x:r.2.1.err=0->p.pos<r.2.1.pos
 i:r.2.1.err=0->0<=r.1/\r.1<(r.2.2.length:Int)
theorem PB.n (h:PB T p ns) (k:PN T p ns q ms):PB T q ms:=⟨h.t,k.s.o h.o,k.nk,by have:=k.n2;have:=h.l;omega⟩
theorem PB.s (h:PB T p ns) (k:PS T p q):PB T q ns:=h.n (k.n h.k)
theorem zda {l:Nat} {o:Int} {nm:List UInt8} {ks:List Int} (ho:-100<=o/\o<=100) (h:nm.length<=6000) (hl:ks.length<=6100) (hk:∀k∈ks,0<=k/\k<(l:Int)):okN l ⟨o,nm,⟨0,0,[],[],[]⟩,ks⟩:=⟨⟨by simp only;omega,by simp only;omega⟩,h,WY,hl,hk⟩
theorem addE {n:Node} (h:PB T p ns) (k:PN T p ns q ms) (hx:q.err=0->(ms.length:Int)+1+p.pos<=ns.length+q.pos) (hn:q.err=0->okN ms.length n):Tot (yc K n q ms) fun r=>EX T p ns r/\r.2.1=q :=
 (zoy (k.s.o h.o) h.t k h.l fun e=>⟨hn e,hx e⟩).mono fun r hr=>⟨⟨hr.1,fun e=>by have:=hx (by rw [<-hr.2.1];exact e);have:=k.n1;rw [hr.2.1];omega,fun e=>hr.2.2 (by rw [<-hr.2.1];exact e)⟩,hr.2.1⟩
structure Rx (n:Nat):Prop where
 expr:∀{T p ns},PB T p ns->16*mu T p+14<=n->Tot ((zf.at K n).yX p ns) (EX T p ns)
 arg1:∀{T p ns l},PB T p ns->16*mu T p+15<=n->l.length<=7000->Tot ((zf.at K n).vG l p ns) fun r=>PN T p ns r.2.1 r.2.2/\(r.2.1.err=0->∃x,r.1=l++[x]/\0<=x/\x<(r.2.2.length:Int))/\r.1.length=l.length+1
 elem:∀{T p ns},PB T p ns->16*mu T p+16<=n->Tot ((zf.at K n).vH 16 p ns []) fun r=>PN T p ns r.1 r.2.1/\r.2.2.length<=6001/\(r.1.err=0->∀k∈r.2.2,0<=k/\k<(r.2.1.length:Int))
 args:∀{T p ns},PB T p ns->16*mu T p+17<=n->Tot ((zf.at K n).xU p ns) fun r=>PN T p ns r.2.1 r.2.2/\r.1.length<=6001/\(r.2.1.err=0->p.pos<r.2.1.pos/\∀k∈r.1,0<=k/\k<(r.2.2.length:Int))
 prim:∀{T p ns},PB T p ns->16*mu T p+4<=n->Tot ((zf.at K n).qI p ns) (EX T p ns)
 fact:∀{T p ns},PB T p ns->16*mu T p+5<=n->Tot ((zf.at K n).wu p ns) (EX T p ns)
 l0:∀{T p ns ops},PB T p ns->ops.length<=20->(∀o∈ops,o.length<=6000)->16*mu T p+6<=n->Tot ((zf.at K n).kP ops p ns) (EX T p ns)
 term:∀{T p ns},PB T p ns->16*mu T p+7<=n->Tot ((zf.at K n).uD p ns) (EX T p ns)
 l1:∀{T p ns ops},PB T p ns->ops.length<=20->(∀o∈ops,o.length<=6000)->16*mu T p+8<=n->Tot ((zf.at K n).qF ops p ns) (EX T p ns)
 sum:∀{T p ns},PB T p ns->16*mu T p+9<=n->Tot ((zf.at K n).jE p ns) (EX T p ns)
 cmp:∀{T p ns},PB T p ns->16*mu T p+10<=n->Tot ((zf.at K n).uT p ns) (EX T p ns)
 l2:∀{T p ns ops},PB T p ns->ops.length<=20->(∀o∈ops,o.length<=6000)->16*mu T p+11<=n->Tot ((zf.at K n).qG ops p ns) (EX T p ns)
 conj:∀{T p ns},PB T p ns->16*mu T p+12<=n->Tot ((zf.at K n).uw p ns) (EX T p ns)
 l3:∀{T p ns ops},PB T p ns->ops.length<=20->(∀o∈ops,o.length<=6000)->16*mu T p+13<=n->Tot ((zf.at K n).qH ops p ns) (EX T p ns)
theorem chain {f:zn->List Node->Option (Int×zn×List Node)} {ops:List (List UInt8)} {body:(Int×zn×List Node->Option (Empty ⊕ (Int×zn×List Node)))->Int×zn×List Node->Option (Empty ⊕ (Int×zn×List Node))}
  (hb:∀F x,body F x=(yD K ops x.2.1 x.2.2).bind fun x3=>bif (decide (x3.1<(0:Int))) then (some (.inr (x.1,x3.2,x.2.2))) else ((f x3.2 x.2.2).bind fun x4=>ifp (0<=x3.1/\x3.1<(ops.length:Int))<|(yc K (⟨(5:Int),(ops.getD ((x3.1).toNat) default),⟨(0:Int),(0:Int),([]:List UInt8),([]:List Int),([]:List (List UInt8))⟩,[x.1,x4.1]⟩:Node) x4.2.1 x4.2.2).bind fun x5=>F (x5.1,x5.2.1,x5.2.2)))
  (h:PB T p ns) (ho:ops.length<=20) (hop:∀o∈ops,o.length<=6000) (hf:∀{q ms},PB T q ms->mu T q<=mu T p->Tot (f q ms) (EX T q ms)) :
  Tot ((f p ns).bind fun x1=>(rounds body K (x1.1,x1.2.1,x1.2.2)).bind fun x7=>onS x7 (fun x6=>none) (fun x8=>some x8)) (EX T p ns):=by
 refine tB (hf h (Nat.le_refl _)) fun r hr=>?_;have hl:=h.t.1;have h0:=h.o.lo;refine tB (P:=fun o=>∃r,o=.inr r/\EX T p ns r) (tK (EX T p ns) (fun x=>mu T x.2.1) (fun F x hx hF=>?_) hr ?_) ?_
 .rw [hb]
  have hpb:=h.n hx.n;refine tB (zbq h.t hpb.o ho) fun a ha=>tD (fun e=>?_) fun e=>?_
  .rcases ha with ⟨_,h2⟩|⟨h2,_⟩
   .rw [h2];exact tS ⟨_,rfl,hx⟩
   .omega
  .rcases ha with ⟨h2,_⟩|⟨a1,a2,a3,a4,a5⟩
   .omega
   .have hq:=hpb.s a5.1
    have m1:=mu_s hx.n.s;have m2:=mu_x a5 a3;refine tB (hf hq (by omega)) fun s hs=>tI ⟨a1,a2⟩ fun _=>?_;have k1:=hx.n.t ((a5.1.n hx.n.nk).t hs.n);have kn:=hs.n.n2;have kx:=hx.n.n2;refine tB (addE h k1 (fun e=>by have:=a5.2 a4;omega) fun e=>zda (by decide) (hop _ (getD_mem (by omega))) (by simp) fun k hk=>?_) fun u hu=>hF _ ⟨hu.1.n,hu.1.x,hu.1.i⟩ ?_
    .simp only [List.mem_cons,List.not_mem_nil,or_false] at hk
     rcases hk with rfl|rfl
     .have:=hx.i a3;have:=hs.n.n1;omega
     .exact hs.i e
    .have m3:=mu_s hs.n.s
     show mu T u.2.1<_;rw [hu.2];omega
 .exact zmq (h.n hr.n)
 .rintro o ⟨r,rfl,hr⟩;exact tS hr
theorem EX.up {r:Int×zn×List Node} (h:PB T p ns) (k:PS T p q) (hr:EX T q ns r):EX T p ns r :=
 ⟨(k.n h.k).t hr.n,fun e=>by have:=hr.x e;have:=k.lo;omega,hr.i⟩
theorem zd6 {X:Option (Int×zn×List Node)} (h:Tot X (EX T p ns)):Tot (X.bind fun x1=>some (x1.1,x1.2.1,x1.2.2)) (EX T p ns):=tB h fun r hr=>tS hr
theorem zmK (n:Nat) (ih:Rx n):Rx (n+1) where
 expr:=fun {T p ns} h hn=>zd6 (ih.l3 h (by simp) (by simp) (by omega))
 arg1:=fun {T p ns l} h hn hl=>tB (ih.expr h (by omega)) fun r hr=>tI (by simp;omega) fun _=>tS ⟨hr.n,fun e=>⟨_,rfl,hr.i e⟩,by simp⟩
 elem:=fun {T p ns} h hn=>by
  have hl:=h.t.1;have h0:=h.o.lo;refine tB (is_t h.t h.o) fun b hb=>tC (fun _=>tS ⟨h.o.s.n h.k,by simp,by simp⟩) fun _=>?_;refine tB (P:=fun o=>∃r,(o=.inl r\/o=.inr r)/\PN T p ns r.1 r.2.1/\r.2.2.length<=6001/\(r.1.err=0->∀k∈r.2.2,0<=k/\k<(r.2.1.length:Int)))
   (tK (fun x=>PN T p ns x.2.1 x.2.2.1/\(x.1:Int)+p.pos<=x.2.1.pos/\x.2.2.2.length=x.1/\(x.2.1.err=0->∀k∈x.2.2.2,0<=k/\k<(x.2.2.1.length:Int))) (fun x=>mu T x.2.1) (fun F x hx hF=>?_) ⟨h.o.s.n h.k,by simp only;omega,rfl,by simp⟩ (zmq h)) ?_
  .obtain ⟨h1,h2,h3,h4⟩:=hx
   have hx:=h.n h1;have hi:=h1.s.hi;refine tB (P:=fun b=>b=true->x.2.1.err=0) (tS fun e=>by simpa using e) fun b hb=>tC (fun e=>?_) fun _=>tS ⟨_,.inl rfl,h1,by simp only;omega,h4⟩;have he:=hb e;refine tB (tA (zjD h.t hx.o) fun b=>zeQ hx.o) fun q hq=>?_;have m1:=mu_s h1.s;have m2:=mu_s hq;refine tB (ih.arg1 (hx.s hq) (by omega) (by omega)) fun r hr=>?_;obtain ⟨g1,g2,g3⟩:=hr;have k1:=h1.t ((hq.n h1.nk).t g1);have hy:=h.n k1;refine tB (vZ h.t hy.o) fun a ha=>?_;have ha':=Xf hy.o ha;have k2:=k1.t (ha'.n g1.nk);have hk:a.2.err=0->∀k∈r.1,0<=k/\k<(r.2.2.length:Int):=fun e k hk=>by
    obtain ⟨x',hx',q1,q2⟩:=g2 (ha'.er e);rw [hx'] at hk;rcases List.mem_append.1 hk with hk|hk
    .have:=h4 he k hk;have:=g1.n1;omega
    .rw [List.mem_singleton.1 hk];exact ⟨q1,q2⟩
   refine tC (fun _=>tS ⟨_,.inr rfl,k2,by simp only;omega,hk⟩) fun e=>tI (by omega) fun _=>?_;rcases ha with ⟨_,e1,e2,hx⟩|⟨e2,_⟩
   .have:=hx.2 e2
    have:=hq.lo;have:=g1.s.lo;have m3:=mu_s g1.s;have m4:=mu_x hx e1;exact hF _ ⟨k2,by simp only;omega,by simp only;omega,hk⟩ (by simp only;omega)
   .rw [e2] at e;cases e
  .rintro o ⟨r,rfl|rfl,hr⟩<;>exact tS hr
 args:=fun {T p ns} h hn=>by
  refine tB (zbU h.t h.o) fun a ha=>?_;have m1:=mu_s ha.1;refine tB (ih.elem (h.s ha.1) (by omega)) fun b hb=>tB (zaL h.t ((h.s ha.1).n hb.1).o) fun c hc=>?_;have k1:=((ha.1.n h.k).t hb.1).t (hc.1.n hb.1.nk);exact tS ⟨k1,hb.2.1,fun e=>⟨by have:=hc.2 e;have:=hb.1.s.lo;have:=ha.1.lo;simp only;omega,hb.2.2 (hc.1.er e)⟩⟩
 prim:=fun {T p ns} h hn=>by
  have hd:=h.t.1;have okc:∀{l:Nat} {v:Value},okV v->okN l ⟨1,[],⟨v.Kind,v.N,v.S,v.I,v.L⟩,[]⟩:=fun hv=>⟨i1,by simp,hv,by simp,by simp⟩;have leaf:∀{q:zn} {n:Node},PX T p q->okN ns.length n->Tot ((yc K n q ns).bind fun x3=>some (x3.1,x3.2.1,x3.2.2)) (EX T p ns):=fun {q n} hq hn=>tB (addE h (hq.1.n h.k) (fun e=>by have:=hq.2 e;omega) fun _=>hn) fun u hu=>tS hu.1;refine tB (JO h.t h.o (Int.le_refl 0) (by decide)) fun t ht=>tA ((JO h.t h.o (by decide) (Int.le_refl 1)).mono fun _ _=>trivial) fun t2=>?_;have nx:t.Kind≠0->PX T p ⟨p.tokens,W (p.pos+1),p.end_,p.at_,p.err,p.nest,p.total⟩:=fun e=>zd7 h.o (by have:=(ht.at_ e).2;omega) h.t (ht.at_ e).1;refine tC (fun e=>?_) fun _=>tB (P:=fun b=>b=true->p.err=0/\p.pos<(T.length:Int)) ?_ fun b hb=>tC (fun e=>?_) fun _=>tE (fun e=>leaf (nx (by rw [e];decide)) ⟨i1,by simp,zce i1 ht.nm,by simp,by simp⟩) fun _=>tA ?_ fun b=>tC (fun _=>?_) fun _=>?_
  .have:t.Kind≠0:=fun h=>by rw [h] at e;simp at e
   exact leaf (nx this) (zda (by decide) ht.tx (by simp) (by simp))
  .refine tE (fun e=>tS fun _=>by have:=ht.at_ (by rw [e];decide);omega) fun _=>tB (is_t h.t h.o) fun b hb=>tC (fun _=>tS hb) fun _=>tB (is_t h.t h.o) fun b hb=>tS hb
  .obtain ⟨e1,e2⟩:=hb e
   have hx:=zd7 h.o e2 h.t e1;have m1:=mu_x hx e1;refine tB (ih.args (h.s hx.1) (by omega)) fun r hr=>?_;have k1:=(hx.1.n h.k).t hr.1;exact tB (addE h k1 (fun e=>by have:=(hr.2.2 e).1;have:=hx.2 (hr.1.s.er e);have:=hr.1.n2;omega) fun e=>zda (by decide) ht.tx (by omega) (hr.2.2 e).2) fun u hu=>tS hu.1
  .exact tC (fun _=>tS trivial) fun _=>tA ((is_t h.t h.o).mono fun _ _=>trivial) fun _=>tC (fun _=>tS trivial) fun _=>tA ((is_t h.t h.o).mono fun _ _=>trivial) fun _=>tS trivial
  .exact tB (zcq h.t h.o) fun c hc=>leaf hc.1 (okc hc.2)
  .refine tB (vZ h.t h.o) fun a ha=>?_
   have ha':=Xf h.o ha;have h2:=h.s ha';refine tC (fun e=>?_) fun _=>tB (is_t h.t h2.o) fun b hb=>tC (fun e=>?_) fun _=>tB (Uw h2.o (by decide)) fun q hq=>tS ⟨(ha'.t hq.1).n h.k,fun e=>absurd e hq.2,fun e=>absurd e hq.2⟩
   .rcases ha with ⟨_,_,_,hx⟩|⟨e2,_⟩
    .exact leaf hx (zda (by decide) (by simp) (by simp) (by simp))
    .rw [e2] at e;cases e
   .have he:=(hb e).1
    refine tB (zbU h.t h2.o) fun q hq=>?_;have m1:=mu_x hq he;have m2:=mu_s ha';have hq':=h2.s hq.1;refine tB (P:=fun r=>PN T q ns r.2.1 r.2.2/\(r.2.1.err=0->0<=r.1/\r.1<(r.2.2.length:Int))) (tB (P:=fun b=>b=false->q.err≠0) (tS fun e=>by simpa using e) fun b hb=>tC (fun _=>tB (ih.expr hq' (by omega)) fun r hr=>tS ⟨hr.n,hr.i⟩) fun e=>tS ⟨hq'.o.s.n h.k,fun e2=>absurd e2 (hb e)⟩) fun r hr=>?_;have hr':=hq'.n hr.1;refine tB (zaL h.t hr'.o) fun u hu=>tS ⟨((ha'.t hq.1).n h.k).t (hr.1.t (hu.1.n hr.1.nk)),fun e=>?_,fun e=>hr.2 (hu.1.er e)⟩;have:=hu.2 e;have:=hr.1.s.lo;have:=hq.1.lo;have:=ha'.lo;simp only;omega
 fact:=fun {T p ns} h hn=>by
  refine tB (P:=fun o=>o=.inl ()\/∃r,o=.inr r/\EX T p ns r) (tK (fun x=>x<=2) (fun x=>2 - x) (fun F x hx hF=>?_) (by omega) (by omega)) ?_
  .refine tD (fun e=>tI (by simp;omega) fun _=>tB (is_t h.t h.o) fun b hb=>tC (fun e=>?_) fun _=>tI (by omega) fun _=>hF _ (by omega) (by omega)) fun _=>tS (.inl rfl)
   have he:=(hb e).1;refine tB (zbU h.t h.o) fun q hq=>?_;have m1:=mu_x hq he;have hq':=h.s hq.1;refine tB (P:=fun r=>PN T q ns r.2.1 r.2.2/\(r.2.1.err=0->0<=r.1/\r.1<(r.2.2.length:Int))) (tB (P:=fun b=>b=false->q.err≠0) (tS fun e=>by simpa using e) fun b hb=>tC (fun _=>tB (ih.fact hq' (by omega)) fun r hr=>tS ⟨hr.n,hr.i⟩) fun e=>tS ⟨hq'.o.s.n h.k,fun e2=>absurd e2 (hb e)⟩) fun r hr=>?_;have k1:=(hq.1.n h.k).t hr.1;have k2:PN T p ns ⟨r.2.1.tokens,r.2.1.pos,r.2.1.end_,r.2.1.at_,r.2.1.err,W (r.2.1.nest - 1),r.2.1.total⟩ r.2.2:=⟨⟨k1.s.tk,k1.s.lo,k1.s.hi,k1.s.er⟩,k1.n1,k1.n2,k1.nk⟩;refine tB (addE h k2 (fun e=>?_) fun e=>zda (by decide) ?_ (by simp) fun k hk=>?_) fun u hu=>tS (.inr ⟨_,rfl,hu.1⟩)
   .have:=hq.2 (hr.1.s.er e);have:=hr.1.n2;simp only;omega
   .have hop:∀o,o∈[([45]:List UInt8),([33]:List UInt8)]->o.length<=6000:=by decide
    exact hop _ (getD_mem (l:=[([45]:List UInt8),([33]:List UInt8)]) (by simp;omega))
   .rw [List.mem_singleton.1 hk];exact hr.2 e
  .rintro o (rfl|⟨r,rfl,hr⟩)
   .exact zd6 (ih.prim h (by omega))
   .exact tS hr
 l0:=fun {T p ns ops} h ho hop hn=>chain (f:=(zf.at K n).wu) (fun _ _=>rfl) h ho hop fun hq hm=>ih.fact hq (by omega)
 term:=fun {T p ns} h hn=>zd6 (ih.l0 h (by simp) (by simp) (by omega))
 l1:=fun {T p ns ops} h ho hop hn=>chain (f:=(zf.at K n).uD) (fun _ _=>rfl) h ho hop fun hq hm=>ih.term hq (by omega)
 sum:=fun {T p ns} h hn=>zd6 (ih.l1 h (by simp) (by simp) (by omega))
 cmp:=fun {T p ns} h hn=>by
  refine tB (ih.sum h (by omega)) fun a ha=>?_;have h1:=h.n ha.n;have hl:([([61,61]:List UInt8),([33,61]:List UInt8),([60]:List UInt8),([60,61]:List UInt8),([62]:List UInt8),([62,61]:List UInt8)].length)=6:=rfl;refine tB (zbq h.t h1.o (by decide)) fun b hb=>tD (fun e=>?_) fun e=>?_
  .rcases hb with ⟨h2,_⟩|⟨b1,b2,b3,b4,b5⟩
   .omega
   have hq:=h1.s b5.1;have m1:=mu_s ha.n.s;have m2:=mu_s b5.1;refine tB (ih.sum hq (by omega)) fun c hc=>tI ⟨b1,b2⟩ fun _=>?_;have k1:=ha.n.t ((b5.1.n ha.n.nk).t hc.n);have kn:=hc.n.n2;have kx:=ha.n.n2;refine tB (addE h k1 (fun e=>by have:=b5.2 b4;omega) fun e=>zda (by decide) ?_ (by simp) fun k hk=>?_) fun u hu=>tS hu.1
   .have hop:∀o,o∈[([61,61]:List UInt8),([33,61]:List UInt8),([60]:List UInt8),([60,61]:List UInt8),([62]:List UInt8),([62,61]:List UInt8)]->o.length<=6000:=by decide
    exact hop _ (getD_mem (by omega))
   .simp only [List.mem_cons,List.not_mem_nil,or_false] at hk
    rcases hk with rfl|rfl
    .have:=ha.i b3;have:=hc.n.n1;omega
    .exact hc.i e
  .rcases hb with ⟨_,h2⟩|⟨b1,_⟩
   .exact tS (by rw [h2];exact ha)
   .omega
 l2:=fun {T p ns ops} h ho hop hn=>chain (f:=(zf.at K n).uT) (fun _ _=>rfl) h ho hop fun hq hm=>ih.cmp hq (by omega)
 conj:=fun {T p ns} h hn=>zd6 (ih.l2 h (by simp) (by simp) (by omega))
 l3:=fun {T p ns ops} h ho hop hn=>chain (f:=(zf.at K n).uw) (fun _ _=>rfl) h ho hop fun hq hm=>ih.conj hq (by omega)
theorem rx:∀n,Rx n
 | 0=>by constructor<;>(intros;omega)
 | n+1=>zmK n (rx n)
end Md
end Go.Proofs.YtbijabmjbgplbaaGreatDoor
namespace Go.Proofs.YtbijabmjbgplbaaGreatDoor
namespace Md
variable {T:List Token} {p q r:zn} {ns ms:List Node}
theorem zdV (h:PB T p ns):Tot (yX K p ns) (EX T p ns):=(rx K).expr h (by have:=h.t.1;have:=h.o.lo;unfold mu;split<;>(show _<=5000000;omega))
theorem zeF (h:PB T p ns):Tot (xU K p ns) fun r=>PN T p ns r.2.1 r.2.2/\r.1.length<=6001/\(r.2.1.err=0->p.pos<r.2.1.pos/\∀k∈r.1,0<=k/\k<(r.2.2.length:Int)):=(rx K).args h (by have:=h.t.1;have:=h.o.lo;unfold mu;split<;>(show _<=5000000;omega))
theorem addX {n:Node} (h:PB T p ns) (k:PN T p ns q ms) {u:zn} (hu:PX T q u) (hn:u.err=0->okN ms.length n):Tot (yc K n u ms) fun r=>EX T p ns r/\r.2.1=u :=
 addE h (k.t (hu.1.n k.nk)) (fun e=>by have:=hu.2 e;have:=k.n2;omega) hn
theorem zh0 {n:Node} (h:PB T p ns) (k:PN T p ns q ms) (hn:q.err=0->okN ms.length n):Tot (yJ K n q ms) (EX T p ns):=by
 unfold yJ;exact tB (uj h.t (h.n k).o) fun u hu=>tB (addX h k hu fun e=>hn (hu.1.er e)) fun r hr=>tS hr.1
theorem zk3 (h:PB T p ns):Tot (kN K p ns) (EX T p ns):=by
 unfold kN;refine tB (uj h.t h.o) fun a ha=>tB (za4 h.t (h.s ha.1).o) fun b hb=>?_;have k1:=ha.t hb.1.1;refine tB (zbU h.t (h.s k1.1).o) fun c hc=>?_;have k2:=k1.t hc.1;refine tB (zdV (h.s k2.1)) fun d hd=>?_;have k3:=(k2.1.n h.k).t hd.n;refine tB (zaL h.t (h.n k3).o) fun e he=>?_;have k4:=k3.t (he.1.n hd.n.nk);refine tB (uj h.t (h.n k4).o) fun f hf=>?_;have k5:=k4.t (hf.1.n hd.n.nk);refine tB (za4 h.t (h.n k5).o) fun g hg=>?_;have k6:=k5.t (hg.1.1.n hd.n.nk);refine tB (zeF (h.n k6)) fun l hl=>tI (by simp;omega) fun _=>?_;have k7:=k6.t hl.1;refine tB (addE h k7 (fun e=>?_) fun e=>⟨by show I64 7;exact ⟨by decide,by decide⟩,hb.2,⟨i0,i0,hg.2,by simp,by simp,by simp,by simp⟩,by simp;omega,fun k hk=>?_⟩) fun r hr=>tS hr.1
 .have h1:=(hl.2.2 e).1
  have h2:=hl.1.s.er e;have h3:=hg.1.1.er h2;have h4:=hf.1.er h3;have h5:=he.1.er h4;have:=ha.2 (hb.1.1.er (hc.1.er (hd.n.s.er h5)));have:=hb.1.1.lo;have:=hc.1.lo;have:=hd.n.n2;have:=he.1.lo;have:=hf.1.lo;have:=hg.1.1.lo;have:=hl.1.n2;omega
 .rcases List.mem_append.1 hk with hk|hk
  .rw [List.mem_singleton.1 hk]
   have:=hd.i (he.1.er (hf.1.er (hg.1.1.er (hl.1.s.er e))));have:=hl.1.n1;omega
  .exact (hl.2.2 e).2 k hk
theorem zje (h:PB T p ns):Tot (jP K p ns) (EX T p ns):=by
 unfold jP;refine tB (uj h.t h.o) fun a ha=>tA ((is_t h.t (h.s ha.1).o).mono fun _ _=>trivial) fun b=>tC (fun _=>?_) fun _=>?_
 .exact tB (zk3 (h.s ha.1)) fun r hr=>tS (EX.up h ha.1 hr)
 .exact tB (zdV (h.s ha.1)) fun r hr=>tS (EX.up h ha.1 hr)
theorem zgO (h:PB T p ns) {m:Int} (hm:m<=3):Tot (wE K m p ns) fun r=>PN T p ns r.2.1 r.2.2/\r.1.length<=10/\(r.2.1.err=0->∀k∈r.1,0<=k/\k<(r.2.2.length:Int)):=by
 unfold wE;refine tB (zbU h.t h.o) fun a ha=>?_;have ka:=ha.1.n h.k;refine tB (P:=fun r=>PN T p ns r.2.1 r.2.2/\r.1.length<=10/\(r.2.1.err=0->∀k∈r.1,0<=k/\k<(r.2.2.length:Int))) (tK (fun x=>PN T p ns x.2.2.1 x.2.2.2/\x.2.1.length=x.1/\x.1<=3/\(x.2.2.1.err=0->∀k∈x.2.1,0<=k/\k<(x.2.2.2.length:Int))) (fun x=>3 - x.1) (fun F x hx hF=>?_) ⟨ka,rfl,by show 0<=3;decide,by simp⟩ (by show 3 - 0<5000000;decide)) fun r hr=>?_
 .obtain ⟨h1,h2,h3,h4⟩:=hx
  refine tD (fun e=>?_) fun _=>tS ⟨h1,by simp only;omega,h4⟩;refine tB (P:=fun u=>PS T x.2.2.1 u) (tD (fun _=>tB (uj h.t (h.n h1).o) fun u hu=>tS hu.1) fun _=>tS (h.n h1).o.s) fun u hu=>?_;have k1:=h1.t (hu.n h1.nk);refine tB (zdV (h.n k1)) fun r hr=>tI (by simp;omega) fun _=>tI (by omega) fun _=>hF _ ⟨k1.t hr.n,by simp [h2],by simp only;omega,fun e k hk=>?_⟩ (by simp only;omega);rcases List.mem_append.1 hk with hk|hk
  .have:=h4 (hu.er (hr.n.s.er e)) k hk;have:=hr.n.n1;simp only;omega
  .rw [List.mem_singleton.1 hk];exact hr.i e
 .exact tB (zaL h.t (h.n hr.1).o) fun c hc=>tS ⟨hr.1.t (hc.1.n hr.1.nk),hr.2.1,fun e=>hr.2.2 (hc.1.er e)⟩
theorem zfR (hn:NK ns) (hl:ns.length<=6000):Tot (XT K ns) fun _=>True:=by
 unfold XT;refine tI (by omega) fun _=>tB (P:=fun l=>l.length=ns.length) (tK (fun x=>x.1<=ns.length/\x.2.length=ns.length) (fun x=>ns.length - x.1) (fun F x hx hF=>?_) ⟨Nat.zero_le _,by simp⟩ (by simp only;omega)) fun l hl2=>tE (fun _=>tS trivial) fun e=>?_
 .obtain ⟨h1,h2⟩:=hx
  refine tD (fun e=>tI (by omega) fun _=>?_) fun _=>tS h2;have hm:=hn _ (getD_mem (l:=ns) (i:=x.1) (by omega));refine tA (tK (fun y=>y.2<=(ns.getD x.1 default).Kids.length) (fun y=>(ns.getD x.1 default).Kids.length - y.2) (fun G y hy hG=>?_) (Nat.zero_le _) (by have:=hm.kl;simp only;omega)) fun m=>?_
  .refine tD (fun e2=>tI (by omega) fun _=>?_) fun _=>tS trivial
   have hk:=hm.k _ (getD_mem (l:=(ns.getD x.1 default).Kids) (i:=y.2) (by omega));have:=hm.kl;exact tI (by omega) fun _=>tI (by omega) fun _=>tA (tC (fun _=>tS trivial) fun _=>tS trivial) fun z=>tI (by omega) fun _=>hG _ (by simp only;omega) (by simp only;omega)
  .refine tA ?_ fun z=>tI (by omega) fun _=>tI (by omega) fun _=>tI (by omega) fun _=>hF _ ⟨by simp only;omega,by simp [h2]⟩ (by simp only;omega)
   repeat' first
    | exact tS trivial
    | refine tC (fun _=>?_) (fun _=>?_)
    | refine tA ?_ (fun _=>?_)
 .rw [W_id (by omega) (by omega)]
  exact tI (by omega) fun _=>tI (by omega) fun _=>tS trivial
structure Rs (n:Nat):Prop where
 blk:∀{T p ns b},PB T p ns->4*mu T p+1<=n->Tot ((zB.at K n).wL b p ns) (EX T p ns)
 cnd:∀{T p ns o},PB T p ns->o=11\/o=12->4*mu T p+2<=n->Tot ((zB.at K n).xC o p ns) (EX T p ns)
 sta:∀{T p ns},PB T p ns->4*mu T p+1<=n->Tot ((zB.at K n).uy p ns) (EX T p ns)
theorem zjE (n:Nat) (ih:Rs n) {b:Bool} (h:PB T p ns) (hn:4*mu T p+1<=n+1):Tot (Yr K (zB.at K n) b p ns) (EX T p ns):=by
 have hl:=h.t.1;have h0:=h.o.lo;unfold Yr;refine tB (zbU h.t h.o) fun a ha=>?_;have ka:=ha.1.n h.k;have hpa:=h.n ka;refine tB (P:=fun x=>PN T a ns x.1 x.2.1/\x.2.2.1=[]/\x.2.2.2.1=⟨0,0,[],[],[]⟩/\x.2.2.2.2.length<=6001/\(x.1.err=0->∀k∈x.2.2.2.2,0<=k/\k<(x.2.1.length:Int)))
  (tK (fun x=>PN T a ns x.1 x.2.1/\x.2.2.1=[]/\x.2.2.2.1=⟨0,0,[],[],[]⟩/\(x.1.err=0->(x.2.2.2.2.length:Int)+a.pos<=x.1.pos)/\x.2.2.2.2.length<=6001/\(x.1.err=0->∀k∈x.2.2.2.2,0<=k/\k<(x.2.1.length:Int))) (fun x=>mu T x.1) (fun F x hx hF=>?_) ⟨hpa.o.s.n h.k,rfl,rfl,fun _=>by simp,by simp,by simp⟩ (zmq hpa)) fun x hx=>?_
 .obtain ⟨h1,h2,h3,h4,h5,h6⟩:=hx
  have hx:=hpa.n h1;refine tB (P:=fun b=>b=true->x.1.err=0) (tS fun e=>by simpa using e) fun b hb=>tB (P:=fun c=>c=true->x.1.err=0) (tC (fun e=>tA ((is_t h.t hx.o).mono fun _ _=>trivial) fun _=>tS fun _=>hb e) fun _=>tS (by simp)) fun c hc=>tC (fun e=>?_) fun _=>tS ⟨h1,h2,h3,h5,h6⟩;have he:=hc e;have hae:=h1.s.er he;have m1:=mu_x ha (ha.1.er hae);have m2:=mu_s h1.s;have h4:=h4 he;have hxi:=h1.s.hi;have hai:=hpa.o.lo;refine tB (ih.sta hx (by omega)) fun r hr=>tI (by simp;omega) fun _=>?_;have k1:=h1.t hr.n;refine hF _ ⟨k1,h2,h3,fun e=>?_,by simp;omega,fun e k hk=>?_⟩ ?_
  .have:=hr.x e;simp;omega
  .rcases List.mem_append.1 hk with hk|hk
   .have:=h6 he k hk;have:=hr.n.n1;simp only;omega
   .rw [List.mem_singleton.1 hk];exact hr.i e
  .exact mu_x ⟨hr.n.s,hr.x⟩ he
 .obtain ⟨h1,h2,h3,h5,h6⟩:=hx
  have k1:=ka.t h1;refine tB (P:=fun b=>b=false->x.1.err≠0) (tS fun e=>by simpa using e) fun b hb=>tC (fun e=>?_) fun _=>?_
  .have:=hb (by simpa using e)
   exact tS ⟨k1,fun e2=>absurd e2 this,fun e2=>absurd e2 this⟩
  rw [h2,h3];refine tB (addE h k1 (fun e=>by have:=ha.2 (h1.s.er e);have:=h1.n2;omega) fun e=>zda (by decide) (by simp) (by omega) (h6 e)) fun r hr=>?_;have hr1:=hr.1.n;have hpr:=h.n hr1;have hrl:r.2.2.length<=6000:=by have:=hpr.l;have:=hpr.o.hi;omega
  refine tB (P:=fun u=>PS T r.2.1 u) (tC (fun _=>tD (fun _=>tB (Uw hpr.o (by decide)) fun u hu=>tS hu.1) fun _=>tA (zfR hr1.nk hrl) fun m=>tD (fun _=>tB (Uw hpr.o (by decide)) fun u hu=>tS hu.1) fun _=>tS hpr.o.s) fun _=>tS hpr.o.s) fun u hu=>?_;refine tB (zaL h.t (hpr.s hu).o) fun v hv=>tS ⟨hr1.t ((hu.t hv.1).n hr1.nk),fun e=>?_,fun e=>hr.1.i (hu.er (hv.1.er e))⟩;have:=hr.1.x (hu.er (hv.1.er e));have:=hu.lo;have:=hv.1.lo;simp only;omega
theorem acT {a:Bool×zn} (h:(a.1=true/\p.err=0/\a.2.err=0/\PX T p a.2)\/(a.1=false/\a.2=p)) (e:a.1=true):PX T p a.2/\p.err=0:=by
 rcases h with ⟨_,e1,_,h⟩|⟨h,_⟩
 .exact ⟨h,e1⟩
 .rw [h] at e;cases e
theorem acF {a:Bool×zn} (h:(a.1=true/\p.err=0/\a.2.err=0/\PX T p a.2)\/(a.1=false/\a.2=p)) (e:a.1=false):a.2=p:=by
 rcases h with ⟨h,_⟩|⟨_,h⟩
 .rw [h] at e;cases e
 .exact h
theorem zjJ (n:Nat) (ih:Rs n) {o:Int} (h:PB T p ns) (ho:o=11\/o=12) (hn:4*mu T p+2<=n+1):Tot (jK K (zB.at K n) o p ns) (EX T p ns):=by
 unfold jK;refine tB (zbU h.t h.o) fun a ha=>tB (zdV (h.s ha.1)) fun b hb=>?_;have h1:=h.s ha.1;refine tB (zaL h.t (h1.n hb.n).o) fun c hc=>?_;have k2:=hb.n.t (hc.1.n hb.n.nk);have m1:=mu_s ha.1;have m2:=mu_s k2.s;refine tB (ih.blk (h1.n k2) (by omega)) fun d hd=>tI (by simp) fun _=>?_;have k3:=k2.t hd.n;have hk:d.2.1.err=0->∀k∈[b.1]++[d.1],0<=k/\k<(d.2.2.length:Int):=fun e k hk=>by
  simp only [List.cons_append,List.nil_append,List.mem_cons,List.not_mem_nil,or_false] at hk;rcases hk with rfl|rfl
  .have:=hb.i (hc.1.er (hd.n.s.er e));have:=hd.n.n1;omega
  .exact hd.i e
 refine tB (P:=fun r=>PN T a ns r.2.1 r.2.2/\r.1.length<=3/\(r.2.1.err=0->∀k∈r.1,0<=k/\k<(r.2.2.length:Int))) (tC (fun _=>?_) fun _=>tS ⟨k3,by simp,hk⟩) fun r hr=>?_
 .have h3:=h1.n k3
  refine tB (vZ h.t h3.o) fun e he=>?_;have he':=Xf h3.o he;have k4:=k3.t (he'.n hd.n.nk);refine tC (fun _=>?_) fun _=>tS ⟨k4,by simp,fun x=>hk (he'.er x)⟩;have m3:=mu_s k4.s;refine tB (ih.blk (h1.n k4) (by omega)) fun f hf=>tI (by simp) fun _=>tS ⟨k4.t hf.n,by simp,fun x k hk2=>?_⟩;rcases List.mem_append.1 hk2 with hk2|hk2
  .have:=hk (he'.er (hf.n.s.er x)) k hk2;have:=hf.n.n1;simp only;omega
  .rw [List.mem_singleton.1 hk2];exact hf.i x
 .refine tB (addE h ((ha.1.n h.k).t hr.1) (fun x=>by have:=ha.2 (hr.1.s.er x);have:=hr.1.n2;omega) fun x=>zda (by omega) (by simp) (by omega) (hr.2.2 x)) fun u hu=>tS hu.1
theorem zkF (n:Nat) (ih:Rs n) (h:PB T p ns) (hn:4*mu T p+1<=n+1):Tot (kU K (zB.at K n) p ns) (EX T p ns):=by
 unfold kU;have one:∀{q:zn} {ms:List Node} {o x:Int} {nm:List UInt8} {v:Value},PN T p ns q ms->(0<=o/\o<=100)->nm.length<=6000->okV v->(q.err=0->0<=x/\x<(ms.length:Int))->Tot ((yJ K ⟨o,nm,v,[x]⟩ q ms).bind fun x6=>some (x6.1,x6.2.1,x6.2.2)) (EX T p ns):=fun {q ms o x nm v} k ho hm hv hx =>
  tB (zh0 h k fun e=>⟨⟨by simp only;omega,by simp only;omega⟩,hm,hv,by simp,fun y hy=>by rw [List.mem_singleton.1 hy];exact hx e⟩) fun r hr=>tS hr
 have many:∀{q:zn} {ms:List Node} {o:Int} {ks:List Int},PN T p ns q ms->(0<=o/\o<=100)->ks.length<=10->(q.err=0->∀x∈ks,0<=x/\x<(ms.length:Int))->Tot ((yJ K ⟨o,[],⟨0,0,[],[],[]⟩,ks⟩ q ms).bind fun x6=>some (x6.1,x6.2.1,x6.2.2)) (EX T p ns):=fun {q ms o ks} k ho hl hx =>
  tB (zh0 h k fun e=>zda (by omega) (by simp) (by omega) (hx e)) fun r hr=>tS hr
 refine tB (vZ h.t h.o) fun a ha=>tC (fun e=>?_) fun e=>?_
 .have hx:=(acT ha e).1
  refine tB (za4 h.t (h.s hx.1).o) fun b hb=>?_;have s1:=hx.1.t hb.1.1;refine tB (uj h.t (h.s s1).o) fun c hc=>?_;have s2:=s1.t hc.1;refine tB (zfU h.t (h.s s2).o) fun d hd=>?_;have s3:=s2.t hd.1.1;refine tB (zje (h.s s3)) fun f hf=>?_;exact one ((s3.n h.k).t hf.n) (by decide) hb.2 (zce ⟨by omega,by omega⟩ i0) hf.i
 rw [acF ha e];refine tA ((JO h.t h.o (Int.le_refl 0) (by decide)).mono fun _ _=>trivial) fun t=>tC (fun _=>?_) fun _=>?_
 .refine tB (za4 h.t h.o) fun b hb=>tB (zje (h.s hb.1.1)) fun f hf=>?_
  exact one ((hb.1.1.n h.k).t hf.n) (by decide) hb.2 WY hf.i
 refine tA ((is_t h.t h.o).mono fun _ _=>trivial) fun t=>tC (fun _=>?_) fun _=>?_
 .exact tB (zk3 h) fun f hf=>one hf.n (by decide) (by simp) WY hf.i
 have cnd:∀{a:Bool×zn} {o:Int},PX T p a.2/\p.err=0->o=11\/o=12->Tot (((zB.at K n).xC o a.2 ns).bind fun x=>some (x.1,x.2.1,x.2.2)) (EX T p ns):=fun {a o} hx ho=>by
  have m:=mu_x hx.1 hx.2;exact tB (ih.cnd (h.s hx.1.1) ho (by omega)) fun r hr=>tS (EX.up h hx.1.1 hr)
 have ops:∀{a:Bool×zn} {m o:Int},PX T p a.2/\p.err=0->m<=3->(0<=o/\o<=100)->Tot ((wE K m a.2 ns).bind fun x=>(yJ K ⟨o,[],⟨0,0,[],[],[]⟩,x.1⟩ x.2.1 x.2.2).bind fun x6=>some (x6.1,x6.2.1,x6.2.2)) (EX T p ns):=fun {a m o} hx hm ho =>
  tB (zgO (h.s hx.1.1) hm) fun r hr=>many ((hx.1.1.n h.k).t hr.1) ho hr.2.1 hr.2.2
 refine tB (vZ h.t h.o) fun a ha=>tC (fun e=>cnd (acT ha e) (.inl rfl)) fun e=>?_;rw [acF ha e];refine tB (vZ h.t h.o) fun a ha=>tC (fun e=>cnd (acT ha e) (.inr rfl)) fun e=>?_;rw [acF ha e];refine tB (vZ h.t h.o) fun a ha=>tC (fun e=>?_) fun e=>?_
 .have hx:=(acT ha e).1
  refine tB (P:=fun r=>PN T p ns r.1 r.2.1/\r.2.2.1=[]/\r.2.2.2.1=⟨0,0,[],[],[]⟩/\r.2.2.2.2.length<=10/\(r.1.err=0->∀k∈r.2.2.2.2,0<=k/\k<(r.2.1.length:Int))) (tA ((is_t h.t (h.s hx.1).o).mono fun _ _=>trivial) fun b=>tC (fun _=>tB (zdV (h.s hx.1)) fun r hr=>tS ⟨(hx.1.n h.k).t hr.n,rfl,rfl,by simp,fun e k hk=>by rw [List.mem_singleton.1 hk];exact hr.i e⟩) fun _=>tS ⟨hx.1.n h.k,rfl,rfl,by simp,by simp⟩) fun r hr=>?_;obtain ⟨h1,h2,h3,h4,h5⟩:=hr;rw [h2,h3];exact many h1 (by decide) h4 h5
 rw [acF ha e];refine tB (vZ h.t h.o) fun a ha=>tC (fun e=>many ((acT ha e).1.1.n h.k) (by decide) (by simp) (by simp)) fun e=>?_;rw [acF ha e];refine tB (vZ h.t h.o) fun a ha=>tC (fun e=>ops (acT ha e) (by decide) (by decide)) fun e=>?_;rw [acF ha e];refine tB (vZ h.t h.o) fun a ha=>tC (fun e=>ops (acT ha e) (by decide) (by decide)) fun e=>?_;rw [acF ha e];refine tB (vZ h.t h.o) fun a ha=>tC (fun e=>ops (acT ha e) (by decide) (by decide)) fun e=>?_;rw [acF ha e];exact tB (Uw h.o (by decide)) fun q hq=>tS ⟨hq.1.n h.k,fun e=>absurd e hq.2,fun e=>absurd e hq.2⟩
theorem rs:∀n,Rs n
 | 0=>by constructor<;>(intros;omega)
 | n+1=>⟨fun h hn=>zjE n (rs n) h hn,fun h ho hn=>zjJ n (rs n) h ho hn,fun h hn=>zkF n (rs n) h hn⟩
theorem zlS {b:Bool} (h:PB T p ns):Tot (wL K b p ns) (EX T p ns):=(rs K).blk h (by have:=h.t.1;have:=h.o.lo;unfold mu;split<;>(show _<=5000000;omega))
end Md
end Go.Proofs.YtbijabmjbgplbaaGreatDoor
namespace Go.Proofs.YtbijabmjbgplbaaGreatDoor
namespace Md
section
variable {α β γ δ:Type}
theorem ZK {b:Bool} {X Y:Option α} {f:α->Option β}:(bif b then X else Y).bind f=bif b then X.bind f else Y.bind f:=by cases b<;>rfl
theorem YG {p:Prop} [Decidable p] {X:Option α} {f:α->Option β}:(ifp p X).bind f=ifp p (X.bind f):=by by_cases h:p<;>simp [ifp,h]
theorem zku {s:α ⊕ β} {f:α->Option γ} {g:β->Option γ} {h:γ->Option δ}:(onS s f g).bind h=onS s (fun x=>(f x).bind h) (fun x=>(g x).bind h):=by cases s<;>rfl
theorem Jk {X:Option α} {f:α->Option β} {g:β->Option γ}:(X.bind f).bind g=X.bind fun x=>(f x).bind g:=by cases X<;>rfl
theorem zu {x:α} {f:α->Option β}:(some x).bind f=f x:=rfl
theorem J7 {b1:(α->Option β)->α->Option β} {b2:(γ->Option δ)->γ->Option δ} (f:α->γ) (g:β->δ) (h:∀F1 F2 x,(∀y,F2 (f y)=(F1 y).bind fun z=>some (g z))->b2 F2 (f x)=(b1 F1 x).bind fun z=>some (g z)):∀n x,rounds b2 n (f x)=(rounds b1 n x).bind fun z=>some (g z)
 | 0,_=>rfl
 | n+1,x=>h _ _ x fun y=>J7 f g h n y
end
variable {T:List Token} {p q r:zn} {ns ms:List Node} {k:Nat}
theorem zao {e:Int}:zU k e p ns=(zY k e p ns).bind fun q=>some (q,ns):=by simp only [zU,zY,ZK,YG,zu]
theorem Us {s:List UInt8}:yu k s p ns=(zC k s p ns).bind fun q=>some (q.1,q.2,ns):=by
 simp only [yu,zC,Jk,ZK,YG,zu];rfl
theorem Xj {s:List UInt8}:zO k s p ns=(yt k s p ns).bind fun q=>some (q,ns):=by
 simp only [zO,yt,Jk,ZK,YG,zu,Us,zao]
theorem zi9 {s:Int}:wP k s p ns=(wH k s p ns).bind fun q=>some (q.1,q.2,ns):=by
 simp only [wP,wH,Jk,ZK,YG,zu,zao];rfl
theorem zf0:wO k p ns=(wG k p ns).bind fun q=>some (q.1,q.2,ns):=by
 simp only [wO,wG,Jk,zu,zi9]
theorem zd0:vW k p ns=(wM k p ns).bind fun q=>some (q.1,q.2,ns):=by
 simp only [vW,wM,Jk,ZK,zu,zi9,Us]
theorem zir:vX k p ns=(qW k p ns).bind fun q=>some (q.1,q.2,ns):=by
 have h:∀n x,Yv k n (x.1,x.2,ns)=(Xz k ns n x).bind fun z=>some (Sum.map (fun q=>(q,ns)) (fun q:Int×zn=>(q.1,q.2,ns)) z) :=
  J7 (fun x:Nat×zn=>(x.1,x.2,ns)) _ fun F1 F2 x hF=>by
   have hF:=fun a b=>hF (a,b);simp only [Us,Jk,ZK,YG,zu,hF,Sum.map];rfl
 rw [vX,qW,h k (0,p)];simp only [Jk,zu,zku,zao]
 congr 1
 funext z
 cases z<;>rfl
theorem zl6 {m kd n:Int} {s:List UInt8} {li:List Int} {ll:List (List UInt8)}:qm k m p ns kd n s li ll=(vg k m p ns kd n s li ll).bind fun q=>some (q.1,ns,q.2):=by
 have h:∀n x,Zr k m ll n (x.1,x.2.1,ns,x.2.2)=(Ye k ns m ll n x).bind fun z=>some (Sum.map (fun q=>(q.1,ns,q.2)) (fun q:zn×Int×Int×List UInt8×List Int=>(q.1,ns,q.2)) z) :=
  J7 (fun x:Nat×zn×Int×Int×List UInt8×List Int=>(x.1,x.2.1,ns,x.2.2)) _ fun F1 F2 x hF=>by
   have hF:=fun a b c d e f=>hF (a,b,c,d,e,f);simp only [jL,qR,zd0,Us,zao,Jk,ZK,YG,zu,hF,Sum.map];rfl
 rw [qm,vg,h k (0,p,kd,n,s,li)];simp only [Jk,zu,ZK];show Option.bind _ _=Option.bind _ _
 congr 1
 funext z
 congr 2
 funext z
 cases z<;>rfl
theorem zl9 {m kd n:Int} {s:List UInt8} {li:List Int} {ll:List (List UInt8)}:qo k m p ns kd n s li ll=(xZ k m p ns kd n s li ll).bind fun q=>some (q.1,ns,q.2):=by
 have h:∀n x,Zt k m li n (x.1,x.2.1,ns,x.2.2)=(Zq k ns m li n x).bind fun z=>some (Sum.map (fun q=>(q.1,ns,q.2)) (fun q:zn×Int×Int×List UInt8×List (List UInt8)=>(q.1,ns,q.2)) z) :=
  J7 (fun x:Nat×zn×Int×Int×List UInt8×List (List UInt8)=>(x.1,x.2.1,ns,x.2.2)) _ fun F1 F2 x hF=>by
   have hF:=fun a b c d e f=>hF (a,b,c,d,e,f);simp only [jM,qV,zi9,Us,zao,Jk,ZK,YG,zu,hF,Sum.map];rfl
 rw [qo,xZ,h k (0,p,kd,n,s,ll)];simp only [Jk,zu,ZK];show Option.bind _ _=Option.bind _ _
 congr 1
 funext z
 congr 2
 funext z
 cases z<;>rfl
theorem zgA:qj k p ns=(wZ k p ns).bind fun q=>some (q.1,q.2,ns):=by
 simp only [qj,wZ,Jk,ZK,zu,Us,Xj,zl6,zl9,zd0];rfl
end Md
end Go.Proofs.YtbijabmjbgplbaaGreatDoor
namespace Go.Proofs.YtbijabmjbgplbaaGreatDoor
namespace Md
variable {T:List Token} {p q r:zn} {ns ms:List Node}
theorem t1 {α β γ:Type} {X:Option α} {g:α->β} {f:β->Option γ} {P:α->Prop} {Q:γ->Prop} (h:Tot X P) (k:∀x,P x->Tot (f (g x)) Q):Tot ((X.bind fun q=>some (g q)).bind f) Q:=by
 rw [Jk];exact tB h k
theorem zic {c:Bool} {e:Int} (hp:PO T p) (he:e≠0) {γ:Type} {f:zn×List Node->Option γ} {Q:γ->Prop} (k:∀q,PS T p q->Tot (f (q,ns)) Q):Tot ((bif c then ((zU K e p ns).bind fun x=>some (x.1,x.2)) else some (p,ns)).bind f) Q:=by
 cases c
 .exact k _ hp.s
 .rw [zao]
  exact tB (P:=fun r=>∃q,r=(q,ns)/\PS T p q) (t1 (Uw hp he) fun q hq=>tS ⟨q,rfl,hq.1⟩) fun r ⟨q,h,hq⟩=>by rw [h];exact k q hq
def okPa (x:Param):Prop:=x.Name.length<=6000/\0<=x.Kind/\x.Kind<=5
structure okMe (m:Method):Prop where
 n:m.Name.length<=6000
 p:∀x∈m.Params,okPa x
 pl:m.Params.length<=6001
 r:0<=m.Result/\m.Result<=5
 k:NK m.Nodes
 l:m.Nodes.length<=6000
structure okFi (f:Field):Prop where
 n:f.Name.length<=6000
 k:0<=f.Kind/\f.Kind<=5
 i:okV f.Init
structure okAc (t:zF):Prop where
 n:t.Name.length<=6000
 f:∀f∈t.Fields,okFi f
 fl:t.Fields.length<=6001
 m:∀m∈t.Methods,okMe m
 ml:t.Methods.length<=6001
structure okPr (p:Program):Prop where
 t:∀t∈p.Types,okAc t
 l:p.Types.length<=6001
theorem mem1 {α:Type} {P:α->Prop} {l:List α} {x:α} (h:∀y∈l,P y) (k:P x):∀y∈l++[x],P y:=fun y hy=>by
 rcases List.mem_append.1 hy with hy|hy
 .exact h y hy
 .rw [List.mem_singleton.1 hy];exact k
theorem zl8 (hT:Xt 6000 T) (hp:PO T p) {m kd:Int} {s:List UInt8}:Tot (ql K m p ns s kd [] ms) fun r=>PS T p r.1/\r.2.2.1=s/\r.2.2.2.1=kd/\r.2.2.2.2.length<=6001/\∀i∈r.2.2.2.2,okPa i:=by
 have hl:=hT.1;have h0:=hp.lo;unfold ql;refine tB (is_t (ns:=ns) hT hp) fun b hb=>tC (fun _=>tS ⟨hp.s,rfl,rfl,by simp,by simp⟩) fun _=>?_;refine tB (P:=fun o=>∃r,(o=.inl r\/o=.inr r)/\PS T p r.1/\r.2.2.1=s/\r.2.2.2.1=kd/\r.2.2.2.2.length<=6001/\∀i∈r.2.2.2.2,okPa i)
  (tK (fun x=>PS T p x.2.1/\x.2.2.2.1=s/\x.2.2.2.2.1=kd/\(x.1:Int)+p.pos<=x.2.1.pos/\x.2.2.2.2.2.length=x.1/\∀i∈x.2.2.2.2.2,okPa i) (fun x=>((T.length:Int) - x.2.1.pos).toNat) (fun F x hx hF=>?_) ⟨hp.s,rfl,rfl,by simp only;omega,rfl,by simp⟩ (by simp only;omega)) ?_
 .obtain ⟨h1,h2,h3,h4,h5,h6⟩:=hx
  have hi:=h1.hi;have hx:=h1.o hp;refine tA (tS trivial) fun b=>tC (fun _=>?_) fun _=>tS ⟨_,.inl rfl,h1,h2,h3,by simp only;omega,h6⟩;refine tB (P:=fun q=>PS T x.2.1 q.1) (tA (tA ((JO (ns:=ns) hT hx (Int.le_refl 0) (by decide)).mono fun _ _=>trivial) fun _=>tS trivial) fun b=>?_) fun q hq=>?_
  .rw [zao,zao]
   exact tC (fun _=>t1 (Uw hx (by decide)) fun q hq=>tS hq.1) fun _=>tC (fun _=>t1 (Uw hx (by decide)) fun q hq=>tS hq.1) fun _=>tS hx.s
  have hq':=h1.t hq;unfold ZX;rw [zf0];refine tB (P:=fun r=>PS T q.1 r.1/\r.2.2.1=s/\r.2.2.2.1=kd/\r.2.2.2.2.length=x.1+1/\∀i∈r.2.2.2.2,okPa i) (t1 (za4 hT (hq'.o hp)) fun a ha=>?_) fun r hr=>?_
  .have k1:=hq'.t ha.1.1
   rw [Xj];refine t1 (uj hT (k1.o hp)) fun b hb=>?_;have k2:=k1.t hb.1;rw [zir];exact t1 (zfU hT (k2.o hp)) fun c hc=>tI (by simp;omega) fun _=>tS ⟨ha.1.1.t (hb.1.t hc.1.1),h2,h3,by simp [h5],mem1 h6 ⟨ha.2,hc.2⟩⟩
  .obtain ⟨g1,g2,g3,g4,g5⟩:=hr
   have g1':=hq'.t g1;rw [Us];refine t1 (vZ hT (g1'.o hp)) fun a ha=>?_;have ha':=g1'.t (Xf (g1'.o hp) ha);refine tC (fun _=>tS ⟨_,.inr rfl,ha',g2,g3,by simp only;omega,g5⟩) fun e=>tI (by omega) fun _=>?_;rcases ha with ⟨_,_,e2,hx⟩|⟨e2,_⟩
   .have:=hx.2 e2
    have:=hq.lo;have:=g1.lo;have:=ha'.hi;exact hF _ ⟨ha',g2,g3,by simp only;omega,g4,g5⟩ (by simp only;omega)
   .rw [e2] at e;cases e
 .rintro o ⟨r,rfl|rfl,hr⟩<;>exact tS hr
theorem zkn (hT:Xt 6000 T) (hp:PO T p):Tot (jd K p ns) fun r=>PX T p r.2.2.2.2/\okMe ⟨r.1,r.2.2.1,r.2.1,r.2.2.2.1⟩:=by
 have hl:=hT.1;have h0:=hp.lo;unfold jd;rw [Xj];refine t1 (uj hT hp) fun a ha=>?_;rw [zf0];refine t1 (za4 hT (ha.1.o hp)) fun b hb=>?_;have k1:=ha.1.t hb.1.1;rw [Xj];refine t1 (uj hT (k1.o hp)) fun c hc=>?_;have k2:=k1.t hc.1;refine tB (zl8 hT (k2.o hp)) fun d hd=>?_;have k3:=k2.t hd.1;rw [Xj];refine t1 (uj hT (k3.o hp)) fun e he=>?_;have k4:=k3.t he.1;rw [Us];refine tB (P:=fun r=>PS T e r.1/\r.2.2.1=b.1/\0<=r.2.2.2/\r.2.2.2<=5) (t1 (vZ hT (k4.o hp)) fun f hf=>?_) fun f hf=>?_
 .have hf':=Xf (k4.o hp) hf
  refine tC (fun _=>?_) fun _=>tS ⟨hf',hd.2.1,by simp only [hd.2.2.1];omega,by simp only [hd.2.2.1];omega⟩;rw [zir];exact t1 (zfU hT ((k4.t hf').o hp)) fun g hg=>tS ⟨hf'.t hg.1.1,hd.2.1,hg.2⟩
 .have k5:=k4.t hf.1
  have k5o:=k5.o hp;refine tB (zlS (b:=true) (p:=⟨f.1.tokens,f.1.pos,f.1.end_,f.1.at_,f.1.err,0,f.1.total⟩) (ns:=[]) ⟨hT,⟨k5o.tk,k5o.lo,k5o.hi⟩,by simp [NK],by have:=k5o.lo;simp;omega⟩) fun g hg=>tS ⟨⟨?_,fun x=>?_⟩,?_⟩
  .have h:=hg.n.s
   exact ⟨h.tk,by have:=h.lo;have:=k5.lo;simp only at *;omega,h.hi,fun x=>k5.er (h.er x)⟩
  .have h:=hg.n.s
   have:=ha.2 (hb.1.1.er (hc.1.er (hd.1.er (he.1.er (hf.1.er (h.er x))))));have:=h.lo;have:=hf.1.lo;have:=he.1.lo;have:=hd.1.lo;have:=hc.1.lo;have:=hb.1.1.lo;simp only at *;omega
  .have g1:=hg.n.n2
   have g2:=hg.n.s.hi;have g3:=k5o.lo;simp only [List.length_nil] at g1;exact ⟨by simp only [hf.2.1];exact hb.2,hd.2.2.2.2,hd.2.2.2.1,hf.2.2,hg.n.nk,by simp only;omega⟩
theorem zmb (hT:Xt 6000 T) (hp:PO T p):Tot (jO K p ns) fun r=>PX T p r.2.1/\okFi r.1:=by
 unfold jO;rw [Xj];refine t1 (uj hT hp) fun a ha=>?_;rw [zf0];refine t1 (za4 hT (ha.1.o hp)) fun b hb=>?_;have k1:=ha.1.t hb.1.1;rw [Xj];refine t1 (uj hT (k1.o hp)) fun c hc=>?_;have k2:=k1.t hc.1;rw [zir];refine t1 (zfU hT (k2.o hp)) fun d hd=>?_;have k3:=k2.t hd.1.1;rw [Xj];refine t1 (uj hT (k3.o hp)) fun e he=>?_;have k4:=k3.t he.1;have ho:=k4.o hp;have isT:∀{s:List UInt8},Tot (yC K s e ns) fun _=>True:=(is_t (ns:=ns) hT ho).mono fun _ _=>trivial;have pkT:Tot (yU K 0 e ns) fun _=>True:=(JO (ns:=ns) hT ho (Int.le_refl 0) (by decide)).mono fun _ _=>trivial;refine tB (P:=fun q=>PS T e q.1) (tA isT fun b1=>tA (tC (fun _=>tS trivial) fun _=>tA pkT fun _=>tS trivial) fun b2=>tA isT fun b3=>tA (tC (fun _=>tS trivial) fun _=>tA isT fun _=>tS trivial) fun b4=>tA pkT fun t=>tA isT fun b5=>tA isT fun b6=>tI (by omega) fun _=>tI (by simp;omega) fun _=>?_) fun q hq=>?_
 .rw [zao]
  exact tC (fun _=>t1 (Uw ho (by decide)) fun q hq=>tS hq.1) fun _=>tS ho.s
 have k5:=k4.t hq;rw [zgA];refine t1 (zcq hT (k5.o hp)) fun f hf=>?_;have k6:=k5.t hf.1.1;rw [Xj];exact t1 (uj hT (k6.o hp)) fun g hg=>tS ⟨PX.t ha (hb.1.1.t (hc.1.t (hd.1.1.t (he.1.t (hq.t (hf.1.1.t hg.1)))))),⟨hb.2,hd.2,⟨hf.2.k,hf.2.n,hf.2.s,hf.2.i,hf.2.ii,hf.2.l,hf.2.ll⟩⟩⟩
theorem mu_T (hT:Xt 6000 T) (hp:PO T p):mu T p<5000000:=by
 have:=hT.1;have:=hp.lo;unfold mu;split<;>omega
theorem zlm {X:Type} {s w:List UInt8} {mx:Int} {f:zn->List Node->Option X} {g:X->zn} {h:X->List Node} {β:Type} {c:X->β} {R:β->Prop} (hT:Xt 6000 T) (hp:PO T p)
  (hf:∀{q ms},PO T q->Tot (f q ms) fun r=>PX T q (g r)/\R (c r)) {body:(zn×List Node×List UInt8×List β->Option (zn×List Node×List UInt8×List β))->zn×List Node×List UInt8×List β->Option (zn×List Node×List UInt8×List β)}
  (hb:∀F x,body F x=(yC K s x.1 x.2.1).bind fun x5=>bif x5 then ((bif (((x.2.2.2.length:Nat):Int)==mx) then ((zU K (5:Int) x.1 x.2.1).bind fun x6=>some (x6.1,x6.2)) else (some (x.1,x.2.1)):Option (zn×(List Node))).bind fun x7=>(f x7.1 x7.2).bind fun x8=>ifp (x.2.2.2.length+[c x8].length<=4000000)<|F (g x8,h x8,x.2.2.1,(x.2.2.2++[c x8]))) else (some (x.1,x.2.1,x.2.2.1,x.2.2.2))) :
  Tot (rounds body K (p,ns,w,[])) fun r=>PS T p r.1/\r.2.2.1=w/\(∀x∈r.2.2.2,R x)/\r.2.2.2.length<=6001:=by
 have hl:=hT.1;have h0:=hp.lo;refine tK (fun x=>PS T p x.1/\x.2.2.1=w/\(∀y∈x.2.2.2,R y)/\x.2.2.2.length<=6001/\(x.1.err=0->(x.2.2.2.length:Int)+p.pos<=x.1.pos)) (fun x=>mu T x.1) (fun F x hx hF=>?_) ⟨hp.s,rfl,by simp,by simp,fun _=>by simp⟩ (mu_T hT hp);obtain ⟨h1,h2,h3,h4,h5⟩:=hx;have hx:=h1.o hp;have hi:=h1.hi;rw [hb];refine tB (is_t (ns:=x.2.1) hT hx) fun b hb=>tC (fun e=>zic hx (by decide) fun q hq=>?_) fun _=>tS ⟨h1,h2,h3,h4⟩;obtain ⟨e1,e2⟩:=hb e;have h5:=h5 e1;refine tB (hf ((h1.t hq).o hp)) fun r hr=>tI (by simp;omega) fun _=>?_;have hx:=hq.x hr.1;exact hF _ ⟨h1.t hx.1,h2,mem1 h3 hr.2,by simp;omega,fun e=>by have:=hx.2 e;simp;omega⟩ (mu_x hx e1)
theorem zlJ (hT:Xt 6000 T) (hp:PO T p):Tot (ZG K p ns) fun r=>PX T p r.2.2.2.1/\okAc ⟨r.1,r.2.1,r.2.2.1⟩:=by
 unfold ZG;rw [Xj];refine t1 (uj hT hp) fun a ha=>?_;rw [zf0];refine t1 (za4 hT (ha.1.o hp)) fun b hb=>?_;have k1:=ha.1.t hb.1.1;rw [Xj];refine t1 (uj hT (k1.o hp)) fun c hc=>?_;have k2:=k1.t hc.1;refine tB (zlm (R:=okFi) (f:=jO K) (g:=fun r=>r.2.1) (h:=fun r=>r.2.2) (c:=fun r=>r.1) hT (k2.o hp) (fun hq=>zmb hT hq) fun F x=>rfl) fun d hd=>?_;have k3:=k2.t hd.1;refine tB (zlm (R:=okMe) (f:=jd K) (g:=fun r=>r.2.2.2.2) (h:=fun r=>r.2.2.2.1) (c:=fun r=>⟨r.1,r.2.2.1,r.2.1,r.2.2.2.1⟩) hT (k3.o hp) (fun hq=>zkn hT hq) fun F x=>rfl) fun e he=>?_;rw [Xj];exact t1 (uj hT ((k3.t he.1).o hp)) fun f hf=>tS ⟨PX.t ha (hb.1.1.t (hc.1.t (hd.1.t (he.1.t hf.1)))),⟨by simp only [he.2.1,hd.2.1];exact hb.2,hd.2.2.1,hd.2.2.2,he.2.2.1,he.2.2.2⟩⟩
theorem ziK:okPr ⟨[]⟩:=⟨by simp,by simp⟩
theorem zlA (hT:Xt 6000 T) {e:Int}:Tot (UL K T e) fun r=>okPr r.1:=by
 have hl:=hT.1;have hp:PO T ⟨T,0,e,0,0,0,0⟩:=⟨rfl,Int.le_refl 0,by simp only;omega⟩;unfold UL;refine tB (P:=fun r=>okPr ⟨r.1⟩) (tK (fun x=>PO T x.2.1/\(x.2.1.err=0->(x.1.length:Int)<=x.2.1.pos)/\okPr ⟨x.1⟩) (fun x=>mu T x.2.1) (fun F x hx hF=>?_) ⟨hp,fun _=>by simp,ziK⟩ (mu_T hT hp)) fun r hr=>tA (tS trivial) fun b=>tC (fun _=>tS ziK) fun _=>tS hr;obtain ⟨h1,h2,h3⟩:=hx;have hi:=h1.hi;refine tB (P:=fun b=>b=true->x.2.1.err=0) (tS fun e=>by simpa using e) fun b hb=>tC (fun e=>?_) fun _=>tS h3;have he:x.2.1.err=0:=hb (by cases b<;>simp_all);have h2:=h2 he;rw [Jk];refine tA ((is_t (ns:=x.2.2) hT h1).mono fun _ _=>trivial) fun c=>zic h1 (by decide) fun q hq=>tB (zlJ hT (hq.o h1)) fun r hr=>tI (by simp;omega) fun _=>?_;have hx:=hq.x hr.1;exact hF _ ⟨hx.1.o h1,fun e=>by have:=hx.2 e;simp;omega,⟨mem1 h3.t hr.2,by simp;omega⟩⟩ (mu_x hx he)
theorem zjt (a:List UInt8):Tot (XQ K a) fun r=>okPr r.1:=by
 unfold XQ;exact tB (zju a) fun r hr=>tN (fun _=>tS ziK) fun _=>tB (zlA hr) fun s hs=>tS hs
end Md
end Go.Proofs.YtbijabmjbgplbaaGreatDoor
namespace Go.Proofs.YtbijabmjbgplbaaGreatDoor
namespace Md
section
variable {α β:Type}
theorem scan {l:Nat} {t:Nat->Bool} {r:Nat->β} {body:(Nat->Option (Unit ⊕ β))->Nat->Option (Unit ⊕ β)} (hl:l<5000000) (hb:∀F i,i<l->body F i=bif t i then F (i+1) else some (.inr (r i))) (he:∀F,body F l=some (.inl ())) :
  ((∀i,i<l->t i=true)/\rounds body K 0=some (.inl ()))\/∃i,i<l/\t i=false/\(∀j,j<i->t j=true)/\rounds body K 0=some (.inr (r i)):=by
 have h:∀n i,i<=l->l<i+n->(∀j,j<i->t j=true)->((∀i,i<l->t i=true)/\rounds body n i=some (.inl ()))\/∃j,j<l/\t j=false/\(∀k,k<j->t k=true)/\rounds body n i=some (.inr (r j)):=by
  intro n
  induction n with
  | zero=>intro i _ _;omega
  | succ n ih =>
   intro i h1 h2 h3
   by_cases e:i<l
   .cases ht:t i with
    | true =>
     have:=ih (i+1) (by omega) (by omega) fun j hj=>by
      by_cases e2:j=i
      .rw [e2];exact ht
      .exact h3 j (by omega)
     rw [rounds_succ,hb _ _ e,ht];exact this
    | false=>exact .inr ⟨i,e,ht,h3,by rw [rounds_succ,hb _ _ e,ht];rfl⟩
   .have:i=l:=by omega
    subst this;exact .inl ⟨h3,by rw [rounds_succ,he]⟩
 exact h 5000000 0 (Nat.zero_le _) (by omega) fun j hj=>by omega
theorem zmR {l:Nat} {t:Nat->Bool} {body:(Nat->Option (Unit ⊕ Bool))->Nat->Option (Unit ⊕ Bool)} (hl:l<5000000) (hb:∀F i,i<l->body F i=bif t i then F (i+1) else some (.inr false)) (he:∀F,body F l=some (.inl ())) {p:Prop} [Decidable p] (hp:p↔∀i,i<l->t i=true) :
  ((rounds body K 0).bind fun x=>onS x (fun _=>some true) (fun y=>some y))=some (decide p):=by
 rcases scan (r:=fun _=>false) hl hb he with ⟨h1,h2⟩|⟨i,h1,h2,_,h3⟩
 .rw [h2,decide_eq_true (hp.2 h1)];rfl
 .rw [h3,decide_eq_false fun h=>by rw [hp.1 h i h1] at h2;cases h2];rfl
theorem zoc {l:Nat} {P:Nat->Prop} {body:(Nat->Option (Unit ⊕ Bool))->Nat->Option (Unit ⊕ Bool)} (hl:l<5000000) (hb:∀F i,i<l->∀Q:Unit ⊕ Bool->Prop,(P i->Tot (F (i+1)) Q)->Q (.inr false)->Tot (body F i) Q) (he:∀F,body F l=some (.inl ())) :
  Tot (rounds body K 0) fun o=>(o=.inl ()/\∀i,i<l->P i)\/o=.inr false :=
 tK (fun i=>i<=l/\∀j,j<i->P j) (fun i=>l - i) (fun F i hi hF=>by
  by_cases e:i<l
  .exact hb F i e _ (fun hp=>hF _ ⟨by omega,fun j hj=>by
    by_cases e2:j=i
    .rw [e2];exact hp
    .exact hi.2 j (by omega)⟩ (by omega)) (.inr rfl)
  .have:i=l:=by omega
   subst this;rw [he];exact tS (.inl ⟨rfl,hi.2⟩)) ⟨Nat.zero_le _,fun j hj=>by omega⟩ (by omega)
theorem lt_t {i l:Nat} {X Y:Option α} (h:i<l):(bif decide (((i:Nat):Int)<((l:Nat):Int)) then X else Y)=X:=by rw [decide_eq_true (by omega)];rfl
theorem lt_f {l:Nat} {X Y:Option α}:(bif decide (((l:Nat):Int)<((l:Nat):Int)) then X else Y)=Y:=by rw [decide_eq_false (by omega)];rfl
theorem ziw [Inhabited α] {a b:List α} (h:a.length=b.length):a=b↔∀i,i<a.length->a.getD i default=b.getD i default:=by
 constructor
 .rintro rfl i _;rfl
 .intro k
  exact List.ext_getElem h fun i h1 h2=>by have:=k i h1;rwa [gd h1,gd h2] at this
end
theorem zg2 {a b:List Int} (h:a.length<5000000\/b.length<5000000):yx K a b=some (decide (a=b)):=by
 unfold yx
 by_cases e:a.length=b.length
 .rw [e,bne_self_eq_false,cond_false]
  refine zmR (l:=a.length) (t:=fun i=>a.getD i default==b.getD i default) (by omega) (fun F i hi=>?_) (fun F=>lt_f) ?_
  .rw [lt_t hi,zy hi,zy (by omega),zy (by omega),bne]
   cases (a.getD i default==b.getD i default)<;>rfl
  .rw [ziw e];simp
 .rw [decide_eq_false (fun h=>e (by rw [h])),bne_iff_ne.2 (by omega)];rfl
theorem KJ {a b:List Int} (h:a.length<5000000):yx K a b=some (decide (a=b)):=zg2 (.inl h)
theorem zdi {a b:List (List UInt8)} (h:a.length<5000000\/b.length<5000000):Xp K a b=some (decide (a=b)):=by
 unfold Xp
 by_cases e:a.length=b.length
 .rw [e,bne_self_eq_false,cond_false]
  refine zmR (l:=a.length) (t:=fun i=>decide (a.getD i default=b.getD i default)) (by omega) (fun F i hi=>?_) (fun F=>lt_f) ?_
  .rw [lt_t hi,zy hi,zy (by omega),zy (by omega)]
   cases (decide (a.getD i default=b.getD i default))<;>rfl
  .rw [ziw e];simp
 .rw [decide_eq_false (fun h=>e (by rw [h])),bne_iff_ne.2 (by omega)];rfl
def smV (v:Value):Prop:=v.I.length<5000000/\v.L.length<5000000
theorem zbu {a b:Value} (h:a.I.length<5000000\/b.I.length<5000000) (h':a.L.length<5000000\/b.L.length<5000000):wQ K a b=some (decide (a=b)):=by
 obtain ⟨ak,an,at',ai,al⟩:=a;obtain ⟨bk,bn,bs,bi,bl⟩:=b;unfold wQ;have be:∀x y:Int,(x==y)=decide (x=y):=fun x y=>by by_cases h:x=y<;>simp [h,beq_eq_false_iff_ne]
 simp only [show Jd K ai bi=_ from zg2 h,zdi h',zu,be]
 by_cases e1:ak=bk<;>by_cases e2:an=bn<;>by_cases e3:at'=bs<;>by_cases e4:ai=bi<;>by_cases e5:al=bl<;>simp [e1,e2,e3,e4,e5,Value.mk.injEq]
theorem QC {a b:Value} (h:smV a):wQ K a b=some (decide (a=b)):=zbu (.inl h.1) (.inl h.2)
structure VV (v:Value):Prop where
 k:0<=v.Kind/\v.Kind<=5
 n:v.N=0\/v.Kind=1\/(v.Kind=2/\v.N=1)
 s:v.S=[]\/v.Kind=3
 i:v.I=[]\/v.Kind=4
 l:v.L=[]\/v.Kind=5
 sl:v.S.length<=64
 il:v.I.length<=16
 ll:v.L.length<=16
 lx:∀x∈v.L,x.length<=64
theorem VV.sm {v:Value} (h:VV v):smV v:=⟨by have:=h.il;omega,by have:=h.ll;omega⟩
open Classical in
theorem JB (v:Value):vJ K v=some (decide (VV v)):=by
 have no:∀{X:Option Bool},X=some false->¬VV v->X=some (decide (VV v)):=fun h k=>by rw [h,decide_eq_false k]
 unfold vJ
 by_cases h1:v.Kind<0\/v.Kind>5
 .rw [show (decide (v.Kind<(0:Int))||decide (v.Kind>(5:Int)))=true by simpa using h1]
  exact no rfl fun h=>by have:=h.k;omega
 rw [show (decide (v.Kind<(0:Int))||decide (v.Kind>(5:Int)))=false by simpa using h1]
 by_cases h2:v.N=0\/v.Kind=1\/(v.Kind=2/\v.N=1)
 .rw [show (((v.N != (0:Int))&&(v.Kind != (1:Int)))&&((v.Kind != (2:Int))||(v.N != (1:Int))))=false by
   rcases h2 with h|h|⟨h,h'⟩<;>simp [h];simp [h']]
  simp only [cond_false]
  by_cases h3:(v.S=[]\/v.Kind=3)/\(v.I=[]\/v.Kind=4)/\(v.L=[]\/v.Kind=5)
  .have e:(bif ((!(decide (v.S=([]:List UInt8))))&&(v.Kind != (3:Int))) then (some ((!(decide (v.S=([]:List UInt8))))&&(v.Kind != (3:Int)))) else (bif ((decide (((v.I.length:Nat):Int)>(0:Int)))&&(v.Kind != (4:Int))) then (some ((decide (((v.I.length:Nat):Int)>(0:Int)))&&(v.Kind != (4:Int)))) else (some ((decide (((v.L.length:Nat):Int)>(0:Int)))&&(v.Kind != (5:Int))))):Option (Bool))=some false:=by
    obtain ⟨a,b,c⟩:=h3;rcases a with a|a<;>rcases b with b|b<;>rcases c with c|c<;>simp_all
   rw [e,zu];simp only [cond_false]
   by_cases h4:v.S.length<=64/\v.I.length<=16/\v.L.length<=16
   .obtain ⟨a,b,c⟩:=h4
    rw [decide_eq_false (show ¬((v.S.length:Int)>64) by omega),decide_eq_false (show ¬((v.I.length:Int)>16) by omega),decide_eq_false (show ¬((v.L.length:Int)>16) by omega)];simp only [Bool.or_self,cond_false];refine zmR (l:=v.L.length) (t:=fun i=>decide ((v.L.getD i default).length<=64)) (by omega) (fun F i hi=>?_) (fun F=>lt_f) ?_
    .rw [lt_t hi,zy hi,zy (by omega)]
     by_cases e:(v.L.getD i default).length<=64
     .rw [decide_eq_true e,decide_eq_false (by omega)];rfl
     .rw [decide_eq_false e,decide_eq_true (by omega)];rfl
    .constructor
     .intro h i hi
      exact decide_eq_true (h.lx _ (getD_mem hi))
     .intro h
      refine ⟨by omega,h2,h3.1,h3.2.1,h3.2.2,a,b,c,fun x hx=>?_⟩;obtain ⟨i,hi,rfl⟩:=List.getElem_of_mem hx;have:=h i hi;rw [gd hi] at this;exact of_decide_eq_true this
   .have e:((decide ((v.S.length:Int)>64)||decide ((v.I.length:Int)>16))||decide ((v.L.length:Int)>16))=true:=by
     simp only [Bool.or_eq_true,decide_eq_true_eq];omega
    rw [e];exact no rfl fun h=>h4 ⟨h.sl,h.il,h.ll⟩
  .have e:(bif ((!(decide (v.S=([]:List UInt8))))&&(v.Kind != (3:Int))) then (some ((!(decide (v.S=([]:List UInt8))))&&(v.Kind != (3:Int)))) else (bif ((decide (((v.I.length:Nat):Int)>(0:Int)))&&(v.Kind != (4:Int))) then (some ((decide (((v.I.length:Nat):Int)>(0:Int)))&&(v.Kind != (4:Int)))) else (some ((decide (((v.L.length:Nat):Int)>(0:Int)))&&(v.Kind != (5:Int))))):Option (Bool))=some true:=by
    have po:∀{γ:Type} {l:List γ},l≠[]->0<l.length:=fun h=>List.length_pos_iff.2 h;have lz:∀{γ:Type} {l:List γ},decide (((l.length:Nat):Int)>0)=!l.isEmpty:=fun {γ l}=>by cases l<;>simp
    simp only [lz]
    by_cases a:v.S=[]\/v.Kind=3
    .have a':((!(decide (v.S=([]:List UInt8))))&&(v.Kind != (3:Int)))=false:=by rcases a with a|a<;>simp [a]
     by_cases b:v.I=[]\/v.Kind=4
     .have b':(!v.I.isEmpty&&(v.Kind != (4:Int)))=false:=by rcases b with b|b<;>simp [b]
      have c:¬(v.L=[]\/v.Kind=5):=fun c=>h3 ⟨a,b,c⟩;rw [a',b'];simp only [not_or] at c;simp [c.1,c.2]
     .simp only [not_or] at b
      rw [a',show (!v.I.isEmpty&&(v.Kind != (4:Int)))=true by simp [b.1,b.2]];rfl
    .simp only [not_or] at a
     rw [show ((!(decide (v.S=([]:List UInt8))))&&(v.Kind != (3:Int)))=true by simp [a.1,a.2]];rfl
   rw [e];exact no rfl fun h=>h3 ⟨h.s,h.i,h.l⟩
 .rw [show (((v.N != (0:Int))&&(v.Kind != (1:Int)))&&((v.Kind != (2:Int))||(v.N != (1:Int))))=true by
   simp only [not_or,not_and] at h2;obtain ⟨a,b,c⟩:=h2
   by_cases d:v.Kind=2
   .simp [a,b,c d]
   .simp [a,b,d]]
  exact no rfl fun h=>h2 h.n
theorem Ur (v:Value):Tot (vJ K v) fun b=>b=true↔VV v:=by
 rw [JB];exact tS (by simp)
end Md
end Go.Proofs.YtbijabmjbgplbaaGreatDoor
namespace Go.Proofs.YtbijabmjbgplbaaGreatDoor
namespace Md
section
variable {R:Prop} {m c:Int} {X:Option Bool}
theorem orE (h1:m=c->R) (h2:Tot X fun b=>b=true->R):Tot (bif m==c then some (m==c) else X) fun b=>b=true->R:=tE (fun e=>tS fun _=>h1 e) fun _=>h2
theorem orL (h:m=c->R):Tot (some (m==c)) fun b=>b=true->R:=tS fun e=>h (by simpa using e)
theorem badT {Y:Option Bool} {P R:Prop} (h:Tot Y fun b=>b=true->R):Tot (Y.bind fun x=>some (!x)) fun b=>b=false->R:=tB h fun b hb=>tS fun e=>hb (by simpa using e)
theorem orB {b:Bool} {P Q:Prop} (h1:b=false->P) (h2:Tot X fun b=>b=false->Q):Tot (bif b then some true else X) fun b=>b=false->P/\Q :=
 tC (fun _=>tS fun e=>by cases e) fun e=>h2.mono fun r hr e2=>⟨h1 e,hr e2⟩
end
def opAt (ns:List Node) (k:Int):Int:=(ns.getD k.toNat default).Op
def exK (ns:List Node) (k:Int):Prop:=1<=opAt ns k/\opAt ns k<=6
inductive KO (ns:List Node) (n:Node):Prop
 | leaf (h:n.Op=1\/n.Op=2\/n.Op=3\/n.Op=14) (l:n.Kids.length=0)
 | un (h:n.Op=4\/n.Op=17) (l:n.Kids.length=1) (k:∀k∈n.Kids,exK ns k)
 | bin (h:n.Op=5\/n.Op=15) (l:n.Kids.length=2) (k:∀k∈n.Kids,exK ns k)
 | rem (h:n.Op=16) (l:n.Kids.length=3) (k:∀k∈n.Kids,exK ns k)
 | app (h:n.Op=6) (l:n.Kids.length<=16) (k:∀k∈n.Kids,exK ns k)
 | call (h:n.Op=7) (l:1<=n.Kids.length/\n.Kids.length<=17) (k:∀k∈n.Kids,exK ns k)
 | asg (h:n.Op=8\/n.Op=9) (l:n.Kids.length=1) (k:∀k∈n.Kids,exK ns k\/opAt ns k=7)
 | do_ (h:n.Op=10) (l:n.Kids.length=1) (k:∀k∈n.Kids,opAt ns k=7)
 | br (h:(n.Op=11/\n.Kids.length<=3)\/(n.Op=12/\n.Kids.length<=2)) (l:2<=n.Kids.length) (c:exK ns (n.Kids.getD 0 default)) (k:∀k∈n.Kids.drop 1,opAt ns k=18)
 | ret (h:n.Op=13) (l:n.Kids.length<=1) (k:∀k∈n.Kids,exK ns k)
 | blk (h:n.Op=18) (k:∀k∈n.Kids,8<=opAt ns k/\opAt ns k<=17)
theorem JK {o:Int}:Tot (jD K o) fun b=>b=true->1<=o/\o<=6:=tS fun e=>by simpa using e
theorem zbL {ns:List Node} {ks:List Int} {f:Int->Option Bool} {R:Int->Prop} (hk:∀k∈ks,0<=k/\k<(ns.length:Int)) (hl:ks.length<5000000) (hf:∀o,Tot (f o) fun b=>b=true->R o)
  {body:(Nat->Option (Unit ⊕ Bool))->Nat->Option (Unit ⊕ Bool)} (hb:∀F x1,body F x1=bif (decide (((x1:Nat):Int)<((ks.length:Nat):Int))) then (ifp (x1<ks.length)<|ifp (0<=(ks.getD x1 default)/\(ks.getD x1 default)<(ns.length:Int))<|(f ((ns.getD (((ks.getD x1 default)).toNat) default).Op)).bind fun x2=>bif (!x2) then (some (.inr false)) else (ifp (x1+1<=9223372036854775807)<|F (x1+1))) else (some (.inl ()))) :
  Tot ((rounds body K 0).bind fun x4=>onS x4 (fun x3=>some true) (fun x5=>some x5)) fun b=>b=true->∀k∈ks,R (opAt ns k):=by
 refine tB (zoc (l:=ks.length) (P:=fun i=>R (opAt ns (ks.getD i default))) hl (fun F i hi Q h1 h2=>?_) (fun F=>by rw [hb,lt_f])) ?_
 .rw [hb,lt_t hi]
  exact tI hi fun _=>tI (hk _ (getD_mem hi)) fun _=>tB (hf _) fun b hb=>tC (fun _=>tS h2) fun e=>tI (by omega) fun _=>h1 (hb (by simpa using e))
 .rintro o (⟨rfl,h⟩|rfl)
  .exact tS fun _ k hk=>by
    obtain ⟨i,hi,rfl⟩:=List.getElem_of_mem hk;have:=h i hi;rwa [gd hi] at this
  .exact tS fun e=>by cases e
theorem zeZ {a b:Int} {n:Node}:Tot (wU K a b n) fun r=>r=true->a<=(n.Kids.length:Int)/\(n.Kids.length:Int)<=b:=tS fun e=>by simpa using e
variable {ns:List Node} {n:Node}
theorem andK {a b:Int} {X:Option Bool} {R:Prop} (h:a<=(n.Kids.length:Int)->(n.Kids.length:Int)<=b->Tot X fun b=>b=true->R):Tot ((wU K a b n).bind fun x=>((bif x then (X.bind fun y=>some y) else some false):Option Bool).bind fun z=>some z) fun r=>r=true->(a<=(n.Kids.length:Int)/\(n.Kids.length:Int)<=b)/\R :=
 tB zeZ fun b hb=>tB (P:=fun r=>r=true->(a<=(n.Kids.length:Int)/\(n.Kids.length:Int)<=_)/\R) (tC (fun e=>tB (h (hb e).1 (hb e).2) fun r hr=>tS fun e2=>⟨hb e,hr e2⟩) fun _=>tS fun e=>by cases e) fun r hr=>tS hr
theorem znS (hn:okN ns.length n):Tot (QX K ns n) fun b=>b=true->KO ns n:=by
 have hl:=hn.kl;have k0:Tot (kM K 0 n ns) fun b=>b=true->∀k∈n.Kids,exK ns k:=tI (by decide) fun _=>tI (by simp) fun _=>zbL (f:=jD K) (R:=fun o=>1<=o/\o<=6) (fun k h=>hn.k k (List.mem_of_mem_drop h)) (by simp;omega) (fun o=>JK) fun F x=>rfl;unfold QX;refine tB (orE (R:=n.Op=1\/n.Op=2\/n.Op=3\/n.Op=14) (by omega) (orE (by omega) (orE (by omega) (orL (by omega))))) fun b hb=>tC (fun e=>tB zeZ fun r hr=>tS fun e2=>.leaf (hb e) (by have:=hr e2;omega)) fun _=>?_;refine tB (orE (R:=n.Op=4\/n.Op=17) (by omega) (orL (by omega))) fun b hb=>tC (fun e=>(andK fun _ _=>k0).mono fun r hr e2=>.un (hb e) (by have:=(hr e2).1;omega) (hr e2).2) fun _=>?_;refine tB (orE (R:=n.Op=5\/n.Op=15) (by omega) (orL (by omega))) fun b hb=>tC (fun e=>(andK fun _ _=>k0).mono fun r hr e2=>.bin (hb e) (by have:=(hr e2).1;omega) (hr e2).2) fun _=>?_;refine tE (fun e=>(andK fun _ _=>k0).mono fun r hr e2=>.rem e (by have:=(hr e2).1;omega) (hr e2).2) fun _=>?_;refine tE (fun e=>(andK fun _ _=>k0).mono fun r hr e2=>.app e (by have:=(hr e2).1;omega) (hr e2).2) fun _=>?_;refine tE (fun e=>(andK fun _ _=>k0).mono fun r hr e2=>.call e (by have:=(hr e2).1;omega) (hr e2).2) fun _=>?_;refine tB (orE (R:=n.Op=8\/n.Op=9) (by omega) (orL (by omega))) fun b hb=>tC (fun e=>(andK (R:=∀k∈n.Kids,exK ns k\/opAt ns k=7) fun _ _=>?_).mono fun r hr e2=>.asg (hb e) (by have:=(hr e2).1;omega) (hr e2).2) fun _=>?_
 .exact tI (by decide) fun _=>tI (by simp) fun _=>zbL (f:=QY K) (R:=fun o=>(1<=o/\o<=6)\/o=7) (fun k h=>hn.k k (List.mem_of_mem_drop h)) (by simp;omega) (fun o=>tB JK fun b hb=>tS fun e=>by
   rcases Bool.or_eq_true _ _▸e with h|h
   .exact .inl (hb h)
   .exact .inr (by simpa using h)) fun F x=>rfl
 refine tE (fun e=>(andK (R:=∀k∈n.Kids,opAt ns k=7) fun _ _=>?_).mono fun r hr e2=>.do_ e (by have:=(hr e2).1;omega) (hr e2).2) fun _=>?_
 .exact tI (by decide) fun _=>tI (by simp) fun _=>zbL (f:=QZ K) (R:=fun o=>o=7) (fun k h=>hn.k k (List.mem_of_mem_drop h)) (by simp;omega) (fun o=>tS fun e=>by simpa using e) fun F x=>rfl
 refine tB (orE (R:=n.Op=11\/n.Op=12) (by omega) (orL (by omega))) fun b hb=>tC (fun e=>?_) fun _=>?_
 .refine tB (P:=fun x=>(n.Op=11/\x=3)\/(n.Op=12/\x=2)) (tE (fun e2=>tS (.inr ⟨e2,rfl⟩)) fun e2=>tS (.inl ⟨by have:=hb e;omega,rfl⟩)) fun x hx=>tB zeZ fun r hr=>tC (fun e2=>?_) fun _=>tS fun e=>by cases e
  have h2:=hr e2;have hk:=hn.k _ (getD_mem (l:=n.Kids) (i:=0) (by omega));refine tI (by omega) fun _=>tI hk fun _=>tB JK fun c hc=>tC (fun e3=>tB (P:=fun b=>b=true->∀k∈n.Kids.drop 1,opAt ns k=18) ?_ fun d hd=>tS fun e4=>.br (by omega) (by omega) (hc e3) (hd e4)) fun _=>tS fun e=>by cases e
  exact tI (by decide) fun _=>tI (by show 1<=_;omega) fun _=>zbL (f:=Q5 K) (R:=fun o=>o=18) (fun k h=>hn.k k (List.mem_of_mem_drop h)) (by simp;omega) (fun o=>tS fun e=>by simpa using e) fun F x=>rfl
 refine tE (fun e=>(andK fun _ _=>k0).mono fun r hr e2=>.ret e (by have:=(hr e2).1;omega) (hr e2).2) fun _=>tE (fun e=>tB (P:=fun b=>b=true->∀k∈n.Kids,8<=opAt ns k/\opAt ns k<=17) ?_ fun d hd=>tS fun e4=>.blk e (hd e4)) fun _=>tS fun e=>by cases e
 exact tI (by decide) fun _=>tI (by simp) fun _=>zbL (f:=Vg K) (R:=fun o=>8<=o/\o<=17) (fun k h=>hn.k k (List.mem_of_mem_drop h)) (by simp;omega) (fun o=>tS fun e=>by simpa using e) fun F x=>rfl
def binN:List (List UInt8):=[[124,124],[38,38],[61,61],[33,61],[60],[60,61],[62],[62,61],[43],[45],[42],[47],[37]]
def CO (n:Node):Prop:=(n.Op=4->n.Name=[45]\/n.Name=[33])/\(n.Op=5->n.Name∈binN)
theorem ziY {a b:Value} (h:okV a):Tot (Wy K a b) fun _=>True:=by
 unfold Wy;rw [QC ⟨by have:=h.i;omega,by have:=h.l;omega⟩];exact tS trivial
theorem zmj {l:List (List UInt8)} {s:List UInt8} (hl:l.length<5000000):Tot (vK K l s) fun b=>b=true->s∈l:=by
 have h:∀(F:Nat->Option (Unit ⊕ Int)) i,i<l.length->(bif (decide (((i:Nat):Int)<((l.length:Nat):Int))) then (ifp (i<l.length)<|bif (decide (s=(l.getD i default))) then (some (.inr ((i:Nat):Int))) else (ifp (i+1<=9223372036854775807)<|F (i+1))) else (some (.inl ())):Option (Unit ⊕ Int))=bif !decide (s=l.getD i default) then F (i+1) else some (.inr (i:Int)):=fun F i hi=>by
  rw [lt_t hi,zy hi,zy (by omega)];cases (decide (s=l.getD i default))<;>rfl
 unfold vK kG;rcases scan (l:=l.length) (t:=fun i=>!decide (s=l.getD i default)) (r:=fun i=>(i:Int)) hl h (fun F=>lt_f) with ⟨_,h⟩|⟨i,hi,h2,_,h⟩
 .rw [show uN K l s K 0=_ from h]
  exact tS fun e=>by simp at e
 .rw [show uN K l s K 0=_ from h]
  refine tS fun _=>?_;have:s=l.getD i default:=by simpa using h2
  rw [this];exact getD_mem hi
theorem tT {X:Option Bool} {Q:Prop} (h:Tot X fun _=>True) (k:Q):Tot X fun b=>b=true->Q:=h.mono fun _ _ _=>k
theorem zgB {l:Nat} (hn:okN l n):Tot (XR K n) fun b=>b=true->CO n:=by
 have is1:Tot (y8 K n.Name) fun _=>True:=QB hn.nm;unfold XR;refine tA (ziY hn.v) fun x1=>tE (fun e=>tT ?_ ⟨by omega,by omega⟩) fun _=>tB (orE (R:=n.Op=2\/n.Op=9) (by omega) (orL (by omega))) fun b hb=>tC (fun e=>tT ?_ ⟨by have:=hb e;omega,by have:=hb e;omega⟩) fun _=>tE (fun e=>tS fun e2=>⟨fun _=>?_,by omega⟩) fun _=>tE (fun e=>tB (zmj (by decide)) fun b hb=>tS fun e2=>⟨by omega,fun _=>hb ?_⟩) fun _=>tE (fun e=>tT ?_ ⟨by omega,by omega⟩) fun _=>tE (fun e=>tT ?_ ⟨by omega,by omega⟩) fun _=>tE (fun e=>tT ?_ ⟨by omega,by omega⟩) fun _=>tS fun _=>⟨by omega,by omega⟩
 .refine tA (tC (fun _=>?_) fun _=>tS trivial) fun _=>tS trivial
  rw [JB];exact tS trivial
 .exact tA is1 fun _=>tS trivial
 .have:=(Bool.and_eq_true _ _▸e2).1
  simpa using this
 .exact (Bool.and_eq_true _ _▸e2).1
 .exact tA is1 fun _=>tS trivial
 .exact tA is1 fun _=>tA (tC (fun _=>tA (QB hn.v.s) fun _=>tS trivial) fun _=>tS trivial) fun _=>tA (tC (fun _=>tA (ziY hn.v) fun _=>tS trivial) fun _=>tS trivial) fun _=>tS trivial
 .exact tA is1 fun _=>tA (tC (fun _=>tA (tS trivial) fun _=>tS trivial) fun _=>tS trivial) fun _=>tA (tC (fun _=>tA (ziY hn.v) fun _=>tS trivial) fun _=>tS trivial) fun _=>tS trivial
def SZ (ns:List Node) (l:Nat) (sz:Int->Nat):Prop:=∀i,i<l->sz (i:Int)=1+((ns.getD i default).Kids.map sz).sum/\sz (i:Int)<=i+1
theorem ze7 (hn:NK ns) (hl:ns.length<=6000):Tot (Xm K ns) fun b=>b=true->(0<ns.length/\∃sz,SZ ns ns.length sz)/\∀i,i<ns.length->∀k∈(ns.getD i default).Kids,0<=k/\k<(i:Int):=by
 unfold Xm;refine tB (P:=fun o=>(∃l:List Int,o=.inl l/\l.length<=ns.length/\(∃sz,SZ ns ns.length sz)/\∀i,i<ns.length->∀k∈(ns.getD i default).Kids,0<=k/\k<(i:Int))\/o=.inr false) (tK (fun x=>x.1<=ns.length/\x.2.length<=x.1/\(∀k∈x.2,0<=k/\k<(x.1:Int))/\(∃sz,SZ ns x.1 sz/\(x.2.map sz).sum=x.1)/\∀i,i<x.1->∀k∈(ns.getD i default).Kids,0<=k/\k<(i:Int)) (fun x=>ns.length - x.1) (fun F x hx hF=>?_) ⟨Nat.zero_le _,by simp,by simp,⟨fun _=>0,fun i hi=>by simp only at hi;omega,by simp⟩,fun i hi=>by simp only at hi;omega⟩ (by simp only;omega)) ?_
 .obtain ⟨h1,h2,h3,⟨sz,s1,s2⟩,h4⟩:=hx
  refine tD (fun e=>tI (by omega) fun _=>?_) fun e=>tS (.inl ⟨_,rfl,by omega,⟨sz,fun i hi=>s1 i (by omega)⟩,fun i hi=>h4 i (by omega)⟩);have hm:=hn _ (getD_mem (l:=ns) (i:=x.1) (by omega));have:=hm.kl;rw [W_id (by omega) (by omega)];refine tD (fun _=>tS (.inr rfl)) fun e2=>tI (by omega) fun _=>tI (by omega) fun _=>?_;rw [KJ (by simp;omega)];refine tB (tS (Q:=fun b=>b=true->_) fun e=>of_decide_eq_true e) fun b hb=>tC (fun _=>tS (.inr rfl)) fun e3=>tI (by omega) fun _=>tI (by omega) fun _=>tI (by simp;omega) fun _=>tI (by omega) fun _=>?_;have e5:=hb (by simpa using e3);have kx:∀k∈(ns.getD x.1 default).Kids,0<=k/\k<(x.1:Int):=fun k hk=>by
   rw [<-e5] at hk;exact h3 k (List.mem_of_mem_drop hk)
  have up:∀{l:List Int} {v:Nat},(∀k∈l,k<(x.1:Int))->l.map (fun j=>if j=(x.1:Int) then v else sz j)=l.map sz:=fun {l v} h=>List.map_congr_left fun k hk=>if_neg (by have:=h k hk;omega);have sm:((x.2.take (((x.2.length:Nat):Int) - (((ns.getD x.1 default).Kids.length:Nat):Int)).toNat).map sz).sum+((ns.getD x.1 default).Kids.map sz).sum=x.1:=by
   have q:∀{m:Nat} {l:List Int},x.2.drop m=l->((x.2.take m).map sz).sum+(l.map sz).sum=(x.2.map sz).sum:=fun {m l} h=>by
    rw [<-h,<-List.sum_append,<-List.map_append,List.take_append_drop]
   rw [q e5,s2]
  refine hF _ ⟨by simp only;omega,by simp;omega,fun k hk=>?_,⟨fun j=>if j=(x.1:Int) then 1+((ns.getD x.1 default).Kids.map sz).sum else sz j,fun i hi=>?_,?_⟩,fun i hi=>?_⟩ (by simp only;omega)
  .rcases List.mem_append.1 hk with hk|hk
   .have:=h3 k (List.mem_of_mem_take hk);simp only;omega
   .rw [List.mem_singleton.1 hk];simp only;omega
  .by_cases e4:i=x.1
   .subst e4
    rw [up fun k hk=>(kx k hk).2];show (if _ then _ else _)=_/\(if _ then _ else _)<=_;rw [if_pos rfl];exact ⟨rfl,by rw [Nat.add_comm];exact Nat.add_le_add_right (by omega) 1⟩
   .have e6:i<x.1:=by simp only at hi;omega
    have:=s1 i e6;rw [up fun k hk=>by have:=(h4 i e6 k hk).2;omega];simp only [if_neg (show ¬(i:Int)=(x.1:Int) by omega)];exact this
  .simp only [List.map_append,List.sum_append,List.map_cons,List.map_nil,List.sum_cons,List.sum_nil,eq_self,if_true]
   rw [up fun k hk=>(h3 k (List.mem_of_mem_take hk)).2];omega
  .by_cases e4:i=x.1
   .rw [e4];exact kx
   .exact h4 i (by simp only at hi;omega)
 .rintro o (⟨l,rfl,h,s,k⟩|rfl)
  .exact tS fun e=>⟨⟨by
               have:(l.length:Int)=1:=by simpa using e
               omega,s⟩,k⟩
  .exact tS fun e=>by cases e
structure VB (ns:List Node):Prop where
 len:0<ns.length
 sz:∃sz,SZ ns ns.length sz
 root:opAt ns ((ns.length:Int) - 1)=18
 kids:∀i,i<ns.length->∀k∈(ns.getD i default).Kids,0<=k/\k<(i:Int)
 ko:∀i,i<ns.length->KO ns (ns.getD i default)
 co:∀i,i<ns.length->CO (ns.getD i default)
theorem zfm (hn:NK ns) (hl:ns.length<=6000):Tot (Xn K ns) fun b=>b=true->VB ns:=by
 unfold Xn;refine tB (ze7 hn hl) fun a ha=>tB (P:=fun b=>b=false->((0<ns.length/\∃sz,SZ ns ns.length sz)/\∀i,i<ns.length->∀k∈(ns.getD i default).Kids,0<=k/\k<(i:Int))/\opAt ns ((ns.length:Int) - 1)=18) (tC (fun _=>tS fun e=>by cases e) fun e=>?_) fun b hb=>tC (fun _=>tS fun e=>by cases e) fun e=>?_
 .have h:=ha (by simpa using e)
  have:=h.1.1;rw [W_id (by omega) (by omega)];exact tI (by omega) fun _=>tS fun e=>⟨h,by simpa [opAt] using e⟩
 have h:=hb e;refine tB (zoc (l:=ns.length) (P:=fun i=>KO ns (ns.getD i default)/\CO (ns.getD i default)) (by omega) (fun F i hi Q h1 h2=>?_) (fun F=>lt_f)) ?_
 .rw [lt_t hi]
  have hm:=hn _ (getD_mem hi);exact tI hi fun _=>tB (znS hm) fun c hc=>tB (P:=fun b=>b=false->KO ns (ns.getD i default)/\CO (ns.getD i default)) (orB (fun e=>hc (by simpa using e)) (badT (P:=True) (zgB hm))) fun d hd=>tC (fun _=>tS h2) fun e=>tI (by omega) fun _=>h1 (hd e)
 .rintro o (⟨rfl,k⟩|rfl)
  .exact tB (zfR hn hl) fun m _=>tS fun _=>⟨h.1.1.1,h.1.1.2,h.2,h.1.2,fun i hi=>(k i hi).1,fun i hi=>(k i hi).2⟩
  .exact tS fun e=>by cases e
theorem noB {x:Bool} (h:(!x)=false):x=true:=by simpa using h
theorem zhK {l:List Int} {m:Int} (hl:l.length<5000000):Tot (jm K l m) fun _=>True:=by
 unfold jm Y0;refine tA (tA (tK (fun i=>i<=l.length) (fun i=>l.length - i) (fun F i hi hF=>?_) (Nat.zero_le _) (by omega)) fun o=>tO (fun _ _=>tS trivial) fun _ _=>tS trivial) fun _=>tS trivial;exact tD (fun e=>tI (by omega) fun _=>tC (fun _=>tS trivial) fun _=>tI (by omega) fun _=>hF _ (by omega) (by omega)) fun _=>tS trivial
theorem zen {f:Field} (h:okFi f):Tot (YJ K f) fun _=>True:=by
 unfold YJ;refine tA (QB h.n) fun b=>tA (tC (fun _=>tS trivial) fun _=>tS trivial) fun b2=>tA (tC (fun _=>tS trivial) fun _=>?_) fun b3=>tC (fun _=>tS trivial) fun _=>tA (zhK (by have:=h.i.i;omega)) fun _=>tS trivial;rw [JB];exact tS trivial
theorem zjZ {l:List Field} (h:∀f∈l,okFi f) (hl:l.length<=6001):Tot (xq K l) fun _=>True:=by
 unfold xq vF;refine tA (tA (tK (fun i=>i<=l.length) (fun i=>l.length - i) (fun F i hi hF=>?_) (Nat.zero_le _) (by omega)) fun o=>tO (fun _ _=>tS trivial) fun _ _=>tS trivial) fun _=>tS trivial;exact tD (fun e=>tI (by omega) fun _=>tA (tA (zen (h _ (getD_mem (by omega)))) fun _=>tS trivial) fun b=>tC (fun _=>tS trivial) fun _=>tI (by omega) fun _=>hF _ (by omega) (by omega)) fun _=>tS trivial
theorem zdo {m:Method} (h:okMe m):Tot (Yf K m) fun b=>b=true->m.Params.length<=4:=by
 have hl:=h.pl;unfold Yf;refine tA (QB h.n) fun b=>tB (P:=fun b=>b=false->m.Params.length<=4) (tC (fun _=>tS fun e=>by cases e) fun e=>?_) fun c hc=>tC (fun _=>tS fun e=>by cases e) fun e=>?_
 .have h1:m.Params.length<=4:=by
   have:=(Bool.or_eq_false_iff.1 e).2;have:=of_decide_eq_false this;omega
  exact tA (tC (fun _=>tA (tS trivial) fun _=>tS trivial) fun _=>tS trivial) fun _=>tS fun _=>h1
 .refine tA (tK (fun i=>i<=m.Params.length) (fun i=>m.Params.length - i) (fun F i hi hF=>?_) (Nat.zero_le _) (by omega)) fun o=>tO (fun _ _=>tS fun _=>hc e) fun _ _=>tS fun _=>hc e
  exact tD (fun e=>tI (by omega) fun _=>tA (QB (h.p _ (getD_mem (by omega))).1) fun _=>tA (tC (fun _=>tS trivial) fun _=>tS trivial) fun b=>tC (fun _=>tS trivial) fun _=>tI (by omega) fun _=>hF _ (by omega) (by omega)) fun _=>tS trivial
structure VM (m:Method):Prop where
 ok:okMe m
 p:m.Params.length<=4
 l:m.Nodes.length<=1500
 b:VB m.Nodes
structure VT (t:zF):Prop where
 ok:okAc t
 f:t.Fields.length<=8
 m:t.Methods.length<=16
 b:∀m∈t.Methods,VM m
structure VP (p:Program):Prop where
 l:p.Types.length<=8
 t:∀t∈p.Types,VT t
theorem zlB {p:Program} (h:okPr p):Tot (UM K p) fun b=>b=true->VP p:=by
 unfold UM;refine tD (fun _=>tS fun e=>by cases e) fun h8=>tB (P:=fun o=>(o=.inl ()/\VP p)\/o=.inr false) (tK (fun x=>x.1<=1500/\x.2<=p.Types.length/\∀i,i<x.2->VT (p.Types.getD i default)) (fun x=>p.Types.length - x.2) (fun F x hx hF=>?_) ⟨by decide,Nat.zero_le _,fun i hi=>by simp only at hi;omega⟩ (by simp only;omega)) ?_
 .obtain ⟨h1,h2,h3⟩:=hx
  refine tD (fun e=>tI (by omega) fun _=>?_) fun e=>tS (.inl ⟨rfl,⟨by omega,fun t ht=>?_⟩⟩)
  .have ht:=h.t _ (getD_mem (l:=p.Types) (i:=x.2) (by omega))
   refine tA (QB ht.n) fun a=>tB (P:=fun b=>b=false->(p.Types.getD x.2 default).Fields.length<=8/\(p.Types.getD x.2 default).Methods.length<=16) (tC (fun _=>tS fun e=>by cases e) fun e=>tA (zjZ ht.f ht.fl) fun _=>tS fun _=>?_) fun b hb=>tC (fun _=>tS (.inr rfl)) fun e2=>?_
   .have e1:=Bool.or_eq_false_iff.1 e
    have e2:=of_decide_eq_false e1.2;have e3:=of_decide_eq_false (Bool.or_eq_false_iff.1 e1.1).2;omega
   .obtain ⟨b1,b2⟩:=hb e2
    refine tB (P:=fun o=>(∃n,o=.inl n/\n<=1500/\∀m∈(p.Types.getD x.2 default).Methods,VM m)\/o=.inr (.inr false)) (tK (fun y=>y.1<=1500/\y.2<=(p.Types.getD x.2 default).Methods.length/\∀i,i<y.2->VM ((p.Types.getD x.2 default).Methods.getD i default)) (fun y=>(p.Types.getD x.2 default).Methods.length - y.2) (fun G y hy hG=>?_) ⟨h1,Nat.zero_le _,fun i hi=>by simp only at hi;omega⟩ (by simp only;omega)) ?_
    .obtain ⟨g1,g2,g3⟩:=hy
     refine tD (fun e=>tI (by omega) fun _=>?_) fun e=>tS (.inl ⟨_,rfl,g1,fun m hm=>?_⟩)
     .have hm:=ht.m _ (getD_mem (l:=(p.Types.getD x.2 default).Methods) (i:=y.2) (by omega))
      have:=hm.l;refine tI (by omega) fun _=>tB (P:=fun b=>b=false->y.1+((p.Types.getD x.2 default).Methods.getD y.2 default).Nodes.length<=1500/\((p.Types.getD x.2 default).Methods.getD y.2 default).Params.length<=4) (orB (fun e=>by have:=of_decide_eq_false e;omega) (badT (P:=True) (zdo hm))) fun b hb=>tB (P:=fun b=>b=false->(y.1+((p.Types.getD x.2 default).Methods.getD y.2 default).Nodes.length<=1500/\((p.Types.getD x.2 default).Methods.getD y.2 default).Params.length<=4)/\VB ((p.Types.getD x.2 default).Methods.getD y.2 default).Nodes) (orB hb (badT (P:=True) (zfm hm.k hm.l))) fun c hc=>tC (fun _=>tS (.inr rfl)) fun e3=>tI (by omega) fun _=>?_;obtain ⟨⟨c1,c2⟩,c3⟩:=hc e3;exact hG _ ⟨c1,by simp only;omega,fun i hi=>by
       by_cases e4:i=y.2
       .rw [e4];exact ⟨hm,c2,by omega,c3⟩
       .exact g3 i (by simp only at hi;omega)⟩ (by simp only;omega)
     .obtain ⟨i,hi,rfl⟩:=List.getElem_of_mem hm
      have:=g3 i (by omega);rwa [gd hi] at this
    .rintro o (⟨n,rfl,n1,n2⟩|rfl)
     .exact tI (by omega) fun _=>hF _ ⟨n1,by simp only;omega,fun i hi=>by
       by_cases e4:i=x.2
       .rw [e4];exact ⟨ht,b1,b2,n2⟩
       .exact h3 i (by simp only at hi;omega)⟩ (by simp only;omega)
     .exact tS (.inr rfl)
  .obtain ⟨i,hi,rfl⟩:=List.getElem_of_mem ht
   have:=h3 i (by omega);rwa [gd hi] at this
 .rintro o (⟨rfl,k⟩|rfl)
  .exact tS fun _=>k
  .exact tS fun e=>by cases e
end Md
end Go.Proofs.YtbijabmjbgplbaaGreatDoor
namespace Go.Proofs.YtbijabmjbgplbaaGreatDoor
namespace Md
section
variable {α:Type}
def idx (p:α->Bool) (l:List α):Int:=match l.findIdx? p with
 | none=>-1
 | some i=>(i:Int)
theorem zeX (p:α->Bool) (l:List α):idx p l=-1\/(0<=idx p l/\idx p l<(l.length:Int)):=by
 unfold idx;split
 .exact .inl rfl
 .rename_i i h
  have:=(List.findIdx?_eq_some_iff_getElem.1 h).1;exact .inr (by omega)
theorem zcY {β:Type} (f:α->β) (p:β->Bool) (l:List α):idx (fun x=>p (f x)) l=match (l.map f).findIdx? p with
 | none=>-1
 | some i=>(i:Int):=by
 rw [List.findIdx?_map];rfl
theorem zcc [Inhabited α] {p:α->Bool} {l:List α} {f:α->Option Bool} (hf:∀x,f x=some (p x)) (hl:l.length<5000000) {body:(Nat->Option (Unit ⊕ Int))->Nat->Option (Unit ⊕ Int)} (hb:∀F x1,body F x1=bif (decide (((x1:Nat):Int)<((l.length:Nat):Int))) then (ifp (x1<l.length)<|(f (l.getD x1 default)).bind fun x2=>bif x2 then (some (.inr ((x1:Nat):Int))) else (ifp (x1+1<=9223372036854775807)<|F (x1+1))) else (some (.inl ()))) :
  ((rounds body K 0).bind fun x4=>onS x4 (fun x3=>some (-1:Int)) (fun x5=>some x5))=some (idx p l):=by
 have h:∀F i,i<l.length->body F i=bif !p (l.getD i default) then F (i+1) else some (.inr (i:Int)):=fun F i hi=>by
  rw [hb,lt_t hi,zy hi,zy (by omega),hf];show (bif _ then _ else _)=_;cases (p (l.getD i default))<;>rfl
 rcases scan (r:=fun i=>(i:Int)) hl h (fun F=>by rw [hb,lt_f]) with ⟨h1,h⟩|⟨i,hi,h2,h3,h⟩
 .rw [h]
  have:l.findIdx? p=none:=List.findIdx?_eq_none_iff.2 fun x hx=>by
   obtain ⟨i,hi,rfl⟩:=List.getElem_of_mem hx;have:=h1 i hi;rw [gd hi] at this;simpa using this
  rw [idx,this];rfl
 .rw [h]
  have:l.findIdx? p=some i:=List.findIdx?_eq_some_iff_getElem.2 ⟨hi,by rw [gd hi] at h2;simpa using h2,fun j hj=>by
   have:=h3 j hj;rw [gd (by omega)] at this;simpa using this⟩
  rw [idx,this];rfl
end
def tyI (l:List zF) (s:List UInt8):Int:=idx (fun t=>decide (t.Name=s)) l
def meI (l:List Method) (s:List UInt8):Int:=idx (fun t=>decide (t.Name=s)) l
theorem zoX {l:List zF} {s:List UInt8} (h:l.length<5000000):xw K l s=some (tyI l s):=zcc (f:=fun x=>U6 K x s) (fun _=>rfl) h fun _ _=>rfl
theorem zoK {l:List Method} {s:List UInt8} (h:l.length<5000000):wz K l s=some (meI l s):=zcc (f:=fun x=>U7 K x s) (fun _=>rfl) h fun _ _=>rfl
theorem zoY {l:List zF} {n:Node} (h:l.length<5000000):xA K l n=some (tyI l n.Name):=zcc (f:=fun x=>Zi K x n) (fun _=>rfl) h fun _ _=>rfl
theorem zoL {l:List Method} {n:Node} (h:l.length<5000000):wB K l n=some (meI l n.Value.S):=zcc (f:=fun x=>Zj K x n) (fun _=>rfl) h fun _ _=>rfl
theorem zoW {l:List zF} {a:zF} (h:l.length<5000000):Tot (yN K l a) fun _=>True:=by
 unfold yN;rw [show xQ K l a=some (tyI l a.Name) from zcc (f:=fun x=>V7 K x a) (fun _=>rfl) h fun _ _=>rfl];exact tS trivial
theorem zoJ {l:List Method} {a:Method} (h:l.length<5000000):Tot (yZ K l a) fun _=>True:=by
 unfold yZ;rw [show wS K l a=some (meI l a.Name) from zcc (f:=fun x=>V8 K x a) (fun _=>rfl) h fun _ _=>rfl];exact tS trivial
inductive EN (ns:List Node):Int->Prop
 | fin {i:Int} (h:opAt ns i=13\/opAt ns i=14):EN ns i
 | br {i:Int} (h:opAt ns i=11) (l:(ns.getD i.toNat default).Kids.length=3) (a:EN ns ((ns.getD i.toNat default).Kids.getD 1 default)) (b:EN ns ((ns.getD i.toNat default).Kids.getD 2 default)):EN ns i
 | blk {i:Int} (h:opAt ns i=18) (l:0<(ns.getD i.toNat default).Kids.length) (a:EN ns ((ns.getD i.toNat default).Kids.getD ((ns.getD i.toNat default).Kids.length - 1) default)):EN ns i
variable {ns:List Node}
structure VN (ns:List Node):Prop where
 b:VB ns
 k:NK ns
 l:ns.length<=1500
theorem VN.kid (h:VN ns) {i:Int} (h0:0<=i) (h1:i<(ns.length:Int)) {k:Int} (hk:k∈(ns.getD i.toNat default).Kids):0<=k/\k<i:=by
 have:=h.b.kids i.toNat (by omega) k hk;omega
theorem VN.kl (h:VN ns) {i:Int} (h0:0<=i) (h1:i<(ns.length:Int)):(ns.getD i.toNat default).Kids.length<=6100:=(h.k _ (getD_mem (l:=ns) (i:=i.toNat) (by omega))).kl
theorem znJ (h:VN ns):∀n:Nat,∀i:Int,2*i.toNat+2<=n->Tot ((y7.at K n).YL ns i) fun b=>b=true->EN ns i:=by
 intro n
 induction n using Nat.strongRecOn with
 | ind n ih =>
  intro i hn;obtain ⟨m,rfl⟩:∃m,n=m+2:=⟨n - 2,by omega⟩;have kid:∀{j:Int},0<=i->i<(ns.length:Int)->0<=j->j<((ns.getD i.toNat default).Kids.length:Int)->Tot ((y7.at K (m+1)).Yw j (ns.getD i.toNat default) i ns) fun b=>b=true->EN ns ((ns.getD i.toNat default).Kids.getD j.toNat default):=fun {j} h0 h1 j0 j1=>by
   have hk:=h.kid h0 h1 (getD_mem (l:=(ns.getD i.toNat default).Kids) (i:=j.toNat) (by omega));exact tI ⟨j0,j1⟩ fun _=>tD (fun _=>tI ⟨j0,j1⟩ fun _=>tB (ih m (by omega) _ (by omega)) fun b hb=>tS hb) fun e=>absurd hk.2 e
  show Tot (JU K (y7.at K (m+1)) ns i) _;unfold JU;refine tC (fun _=>tS fun e=>by cases e) fun e=>?_;have e1:=of_decide_eq_false (Bool.or_eq_false_iff.1 e).1;have e2:=of_decide_eq_false (Bool.or_eq_false_iff.1 e).2;have h0:0<=i:=by omega
  have h1:i<(ns.length:Int):=by omega
  have hl:=h.kl h0 h1;refine tI ⟨h0,h1⟩ fun _=>tB (orE (R:=opAt ns i=13\/opAt ns i=14) .inl (orL .inr)) fun b hb=>tC (fun e=>tS fun _=>.fin (hb e)) fun _=>tE (fun e1=>?_) fun _=>tE (fun e1=>?_) fun _=>tS fun e=>by cases e
  .refine tB (P:=fun b=>b=true->(ns.getD i.toNat default).Kids.length=3/\EN ns ((ns.getD i.toNat default).Kids.getD 1 default)) (tE (fun e=>tB (kid h0 h1 (by omega) (by omega)) fun b hb=>tS fun e2=>⟨by omega,hb e2⟩) fun _=>tS fun e=>by cases e) fun c hc=>?_
   refine tB (P:=fun b=>b=true->EN ns i) (tC (fun e=>?_) fun _=>tS fun e=>by cases e) fun d hd=>tS hd;exact tB (kid (j:=2) h0 h1 (by omega) (by have:=(hc e).1;omega)) fun b hb=>tS fun e2=>.br e1 (hc e).1 (hc e).2 (hb e2)
  .refine tB (P:=fun b=>b=true->EN ns i) (tD (fun e=>?_) fun _=>tS fun e=>by cases e) fun d hd=>tS hd
   rw [W_id (by omega) (by omega)];exact tB (kid h0 h1 (by omega) (by omega)) fun b hb=>tS fun e2=>.blk e1 (by omega) (by have:=hb e2;rwa [show ((((ns.getD i.toNat default).Kids.length:Nat):Int) - 1).toNat=(ns.getD i.toNat default).Kids.length - 1 by omega] at this)
theorem zg1 (h:VN ns) {i:Int} (hi:i<5000):Tot (YL K ns i) fun b=>b=true->EN ns i:=znJ h _ i (by show _<=5000000;omega)
def zgG (i e:Int) (c:zS):zS:=bif c.err==0 then ⟨i,e⟩ else c
def zfp (i:Int) (b:Bool) (c:zS):zS:=bif b then c else zgG i 15 c
section
variable {i e:Int} {A:zX} {B:zW} {C:zS} {sc:List (List UInt8×Vari)} {le:List (List UInt8×Bool)} {lo:List Param} {ki:List (Int×Int)} {va:List (Int×Vari)} {b:Bool}
theorem za1:yG K i e A B C sc le lo ki va=some (A,B,zgG i e C):=by
 unfold yG zgG;cases (C.err==(0:Int))<;>rfl
theorem Ub:yw K i b A B C sc le lo ki va=some (A,B,zfp i b C):=by
 unfold yw zfp;rw [za1];cases b<;>rfl
theorem zle (he:e≠0):(zgG i e C).err≠0:=by
 unfold zgG;cases h:(C.err==(0:Int))
 .simpa using h
 .exact he
theorem zcb (h:(zfp i b C).err=0):C.err=0/\b=true:=by
 unfold zfp at h;cases b
 .exact absurd h (zle (by decide))
 .exact ⟨h,rfl⟩
end
def zcd (p:Program) (t m:List UInt8):Option Method:=if tyI p.Types t<0 then none else if meI (p.Types.getD (tyI p.Types t).toNat default).Methods m<0 then none else some ((p.Types.getD (tyI p.Types t).toNat default).Methods.getD (meI (p.Types.getD (tyI p.Types t).toNat default).Methods m).toNat default)
theorem zkj {p:Program} (h:VP p) {t m:List UInt8}:Tot (UN K p t m) fun r=>(r.2=true->zcd p t m=some r.1):=by
 unfold UN zcd;rw [zoX (by have:=h.l;omega)];refine tB (tS (Q:=fun x=>x=tyI p.Types t) rfl) fun x hx=>?_;subst hx;have hr:=zeX (fun t'=>decide (t'.Name=t)) p.Types;refine tD (fun _=>tS fun e=>by cases e) fun e=>?_;have hr:0<=tyI p.Types t/\tyI p.Types t<(p.Types.length:Int):=by unfold tyI at *;omega
 have hm:=(h.t _ (getD_mem (l:=p.Types) (i:=(tyI p.Types t).toNat) (by omega))).m;rw [if_neg e];refine tI hr fun _=>?_;rw [zoK (by omega)];refine tB (tS (Q:=fun x=>x=meI _ m) rfl) fun x hx=>?_;subst hx;have hq:=zeX (fun t'=>decide (t'.Name=m)) (p.Types.getD (tyI p.Types t).toNat default).Methods;refine tD (fun _=>tS fun e=>by cases e) fun e2=>?_;rw [if_neg e2];exact tI hr fun _=>tI (by unfold meI at *;omega) fun _=>tS fun _=>rfl
theorem zma {l:List Int} {q:List Param} (hl:l.length<5000000):Tot (yQ K l q) fun b=>b=true->l.length=q.length:=by
 unfold yQ;refine tN (fun _=>tS fun e=>by cases e) fun e=>tA (tK (fun i=>i<=l.length) (fun i=>l.length - i) (fun F i hi hF=>?_) (Nat.zero_le _) (by omega)) fun o=>tO (fun _ _=>tS fun _=>by omega) fun _ _=>tS fun _=>by omega
 exact tD (fun e=>tI (by omega) fun _=>tI (by omega) fun _=>tA (tS trivial) fun b=>tC (fun _=>tS trivial) fun _=>tI (by omega) fun _=>hF _ (by omega) (by omega)) fun _=>tS trivial
def arOk (nm:List UInt8) (n:Nat):Prop:=nm=[105,110,116,115]\/nm=[115,116,114,105,110,103,115]\/(nm=[108,101,110]/\n=1)\/(nm=[97,116]/\n=2)\/(nm=[97,112,112,101,110,100]/\n=2)\/(nm=[115,101,116]/\n=3)\/(nm=[115,116,114]/\n=1)
section
variable {i e:Int} {A:zX} {B:zW} {C:zS} {sc:List (List UInt8×Vari)} {le:List (List UInt8×Bool)} {lo:List Param} {ki:List (Int×Int)} {va:List (Int×Vari)} {n:Node} {ks:List Int}
def CT (A:zX) (B:zW) (C:zS) (R:Prop) (A':zX) (B':zW) (D:zS):Prop:=A'=A/\B'=B/\(D.err=0->C.err=0/\R)
theorem CT.f {R:Prop} (he:e≠0):CT A B C R A B (zgG i e C):=⟨rfl,rfl,fun h=>absurd h (zle he)⟩
theorem CT.w {b:Bool} {R:Prop} (h:b=true->R):CT A B C R A B (zfp i b C):=⟨rfl,rfl,fun e=>⟨(zcb e).1,h (zcb e).2⟩⟩
theorem CT.id:CT A B C True A B C:=⟨rfl,rfl,fun e=>⟨e,trivial⟩⟩
theorem zlU (h:VP A.program) (hk:0<ks.length/\ks.length<=6100):Tot (Yg K i n ks A B C sc le lo ki va) fun r=>CT A B C (∃m,zcd A.program n.Name n.Value.S=some m/\r.1=m.Result/\ks.length=m.Params.length+1) r.2.1 r.2.2.1 r.2.2.2:=by
 unfold Yg;refine tB (zkj h) fun x hx=>tC (fun _=>?_) fun e=>tI hk.1 fun _=>tC (fun _=>tI (by omega) fun _=>tB (zma (by simp;omega)) fun b hb=>?_) fun _=>?_
 .rw [za1];exact tS (CT.f (by decide))
 .rw [Ub];exact tS (CT.w fun e2=>⟨x.1,hx (noB e),rfl,by have:=hb e2;simp at this;omega⟩)
 .rw [Ub];exact tS (CT.w fun e2=>by cases e2)
theorem zhL {s:List UInt8}:Tot (jF K i s A B C sc le lo ki va) fun r=>CT A B C True r.2.1 r.2.2.1 r.2.2.2.1:=by
 unfold jF XY;refine tA (tC (fun _=>tS trivial) fun _=>tS trivial) fun x=>tC (fun _=>?_) fun _=>tS CT.id;rw [za1];exact tS (CT.f (by decide))
theorem znu {s:List UInt8} {x y:Int}:Tot (Za K i s x y A B C sc le lo ki va) fun r=>CT A B C True r.2.1 r.2.2.1 r.2.2.2:=by
 unfold Za;refine tA ?_ fun x=>by rw [Ub];exact tS (CT.w fun _=>trivial)
 repeat' first
  | exact tS trivial
  | refine tC (fun _=>?_) (fun _=>?_)
  | refine tA ?_ (fun _=>?_)
theorem zi2 {sl:List Signature} {L:Nat} (hs:∀s∈sl,s.params.length=L/\L<=5) (hl:sl.length<=5) {body:(Nat->Option (Unit ⊕ (Int×zX×zW×zS)))->Nat->Option (Unit ⊕ (Int×zX×zW×zS))}
  (hb:∀F x6,body F x6=bif (decide (((x6:Nat):Int)<((sl.length:Nat):Int))) then (ifp (x6<sl.length)<|ifp (x6<sl.length)<|(yx K ((sl.getD x6 default).params) ks).bind fun x7=>bif x7 then (some (.inr ((sl.getD x6 default).result,A,B,C))) else (ifp (x6+1<=9223372036854775807)<|F (x6+1))) else (some (.inl ()))) :
  Tot ((rounds body K 0).bind fun x10=>onS x10 (fun x8=>(yG K i (15:Int) A B C sc le lo ki va).bind fun x9=>some ((0:Int),x9.1,x9.2.1,x9.2.2)) (fun x11=>some x11)) fun r=>CT A B C (ks.length=L) r.2.1 r.2.2.1 r.2.2.2:=by
 refine tB (P:=fun o=>o=.inl ()\/∃k,o=.inr (k,A,B,C)/\ks.length=L) (tK (fun i=>i<=sl.length) (fun i=>sl.length - i) (fun F i hi hF=>?_) (Nat.zero_le _) (by omega)) ?_
 .rw [hb]
  refine tD (fun e=>tI (by omega) fun _=>tI (by omega) fun _=>?_) fun _=>tS (.inl rfl);have h:=hs _ (getD_mem (l:=sl) (i:=i) (by omega));rw [KJ (by omega)];refine tB (tS (Q:=fun b=>b=true->(sl.getD i default).params=ks) fun e=>of_decide_eq_true e) fun b hb=>tC (fun e=>tS (.inr ⟨_,rfl,by rw [<-hb e];exact h.1⟩)) fun _=>tI (by omega) fun _=>hF _ (by omega) (by omega)
 .rintro o (rfl|⟨k,rfl,h⟩)
  .show Tot (Option.bind _ _) _
   rw [za1];exact tS (CT.f (by decide))
  .exact tS ⟨rfl,rfl,fun e=>⟨e,h⟩⟩
theorem CT.m {R R':Prop} {A':zX} {B':zW} {D:zS} (h:CT A B C R A' B' D) (k:R->R'):CT A B C R' A' B' D:=⟨h.1,h.2.1,fun e=>⟨(h.2.2 e).1,k (h.2.2 e).2⟩⟩
theorem CT.t {R R':Prop} {A' A'':zX} {B' B'':zW} {D E:zS} (h:CT A B C R A' B' D) (k:CT A' B' D R' A'' B'' E):CT A B C (R/\R') A'' B'' E:=⟨k.1.trans h.1,k.2.1.trans h.2.1,fun e=>⟨(h.2.2 (k.2.2 e).1).1,(h.2.2 (k.2.2 e).1).2,(k.2.2 e).2⟩⟩
theorem znt {s:List UInt8} (hk:ks.length<=6100):Tot (ZH K i s ks A B C sc le lo ki va) fun r=>CT A B C (arOk s ks.length) r.2.1 r.2.2.1 r.2.2.2:=by
 unfold ZH;refine tC (fun e=>?_) fun _=>tB (tS (Q:=fun x=>x=([(⟨[(3:Int)],(1:Int)⟩:Signature),(⟨[(4:Int)],(1:Int)⟩:Signature),(⟨[(5:Int)],(1:Int)⟩:Signature)],[(⟨[(4:Int),(1:Int)],(1:Int)⟩:Signature),(⟨[(5:Int),(1:Int)],(3:Int)⟩:Signature)],[(⟨[(4:Int),(1:Int)],(4:Int)⟩:Signature),(⟨[(5:Int),(3:Int)],(5:Int)⟩:Signature)],[(⟨[(4:Int),(1:Int),(1:Int)],(4:Int)⟩:Signature),(⟨[(5:Int),(1:Int),(3:Int)],(5:Int)⟩:Signature)],[(⟨[(1:Int)],(3:Int)⟩:Signature)])) rfl) fun x hx=>?_
 .have h:arOk s ks.length:=by
   rcases Bool.or_eq_true _ _▸e with h|h
   .exact .inl (of_decide_eq_true h)
   .exact .inr (.inl (of_decide_eq_true h))
  refine tA (tC (fun _=>tS trivial) fun _=>tS trivial) fun x=>tB (P:=fun r=>CT A B C True r.1 r.2.1 r.2.2) (tK (fun y=>y.1<=ks.length/\CT A B C True y.2.1 y.2.2.1 y.2.2.2) (fun y=>ks.length - y.1) (fun F y hy hF=>?_) ⟨Nat.zero_le _,CT.id⟩ (by simp only;omega)) fun r hr=>tS (hr.m fun _=>h);refine tD (fun e=>tI (by omega) fun _=>?_) fun _=>tS hy.2;rw [Ub];exact tI (by omega) fun _=>hF _ ⟨by simp only;omega,(hy.2.t (CT.w (R:=True) fun _=>trivial)).m fun _=>trivial⟩ (by simp only;omega)
 .subst hx
  refine tC (fun e=>?_) fun _=>tC (fun e=>?_) fun _=>tC (fun e=>?_) fun _=>tC (fun e=>?_) fun _=>tC (fun e=>?_) fun _=>?_
  .exact (zi2 (L:=1) (sl:=[(⟨[(3:Int)],(1:Int)⟩:Signature),(⟨[(4:Int)],(1:Int)⟩:Signature),(⟨[(5:Int)],(1:Int)⟩:Signature)]) (by decide) (by decide) fun _ _=>rfl).mono fun r hr=>hr.m fun h=>.inr (.inr (.inl ⟨of_decide_eq_true e,h⟩))
  .exact (zi2 (L:=2) (sl:=[(⟨[(4:Int),(1:Int)],(1:Int)⟩:Signature),(⟨[(5:Int),(1:Int)],(3:Int)⟩:Signature)]) (by decide) (by decide) fun _ _=>rfl).mono fun r hr=>hr.m fun h=>.inr (.inr (.inr (.inl ⟨of_decide_eq_true e,h⟩)))
  .exact (zi2 (L:=2) (sl:=[(⟨[(4:Int),(1:Int)],(4:Int)⟩:Signature),(⟨[(5:Int),(3:Int)],(5:Int)⟩:Signature)]) (by decide) (by decide) fun _ _=>rfl).mono fun r hr=>hr.m fun h=>.inr (.inr (.inr (.inr (.inl ⟨of_decide_eq_true e,h⟩))))
  .exact (zi2 (L:=3) (sl:=[(⟨[(4:Int),(1:Int),(1:Int)],(4:Int)⟩:Signature),(⟨[(5:Int),(1:Int),(3:Int)],(5:Int)⟩:Signature)]) (by decide) (by decide) fun _ _=>rfl).mono fun r hr=>hr.m fun h=>.inr (.inr (.inr (.inr (.inr (.inl ⟨of_decide_eq_true e,h⟩)))))
  .exact (zi2 (L:=1) (sl:=[(⟨[(1:Int)],(3:Int)⟩:Signature)]) (by decide) (by decide) fun _ _=>rfl).mono fun r hr=>hr.m fun h=>.inr (.inr (.inr (.inr (.inr (.inr ⟨of_decide_eq_true e,h⟩)))))
  .rw [za1];exact tS (CT.f (by decide))
end
end Md
end Go.Proofs.YtbijabmjbgplbaaGreatDoor
namespace Go.Proofs.YtbijabmjbgplbaaGreatDoor
namespace Md
theorem zc6 {α β:Type} [DecidableEq α] (k j:α) (v:β):∀l:List (α×β),mget (mput l k v) j=if j=k then some v else mget l j
 | []=>rfl
 | p::r=>by
  unfold mput
  by_cases h:k=p.1
  .rw [if_pos h]
   unfold mget
   by_cases h2:j=k
   .rw [if_pos (h2.trans h),if_pos h2]
   .rw [if_neg fun e=>h2 (e.trans h.symm),if_neg h2,if_neg fun e=>h2 (e.trans h.symm)]
  .rw [if_neg h]
   unfold mget
   by_cases h2:j=p.1
   .rw [if_pos h2,if_neg fun e=>h (e.symm.trans h2),if_pos h2]
   .rw [if_neg h2,zc6 k j v r,if_neg h2]
abbrev nd (ns:List Node) (i:Int):Node:=ns.getD i.toNat default
def DK (ki:List (Int×Int)) (j:Int):Prop:=(mget ki j).isSome=true
theorem zkX {ki:List (Int×Int)} {i j v:Int} (h:DK ki j\/j=i):DK (mput ki i v) j:=by
 unfold DK;rw [zc6];split
 .rfl
 .rcases h with h|h
  .exact h
  .contradiction
def LC (p:Program) (ns:List Node) (D:Int->Prop) (i:Int):Prop:=(opAt ns i=7->∃m,zcd p (nd ns i).Name (nd ns i).Value.S=some m/\(nd ns i).Kids.length=m.Params.length+1/\D i)/\(opAt ns i=6->arOk (nd ns i).Name (nd ns i).Kids.length)
inductive TW (p:Program) (ns:List Node) (D:Int->Prop):Int->Prop
 | mk {i:Int} (h:LC p ns D i) (k:∀k∈(nd ns i).Kids,TW p ns D k):TW p ns D i
theorem TW.up {p:Program} {ns:List Node} {D E:Int->Prop} (h:∀j,D j->E j) {i:Int} (t:TW p ns D i):TW p ns E i:=by
 induction t with
 | mk l _ ih=>exact .mk ⟨fun e=>by obtain ⟨m,a,b,c⟩:=l.1 e;exact ⟨m,a,b,h _ c⟩,l.2⟩ ih
def KI (p:Program) (ns:List Node) (ki:List (Int×Int)):Prop:=∀j v,mget ki j=some v->opAt ns j=7->∃m,zcd p (nd ns j).Name (nd ns j).Value.S=some m/\v=m.Result
structure CI (p:Program) (ns:List Node) (A:zX) (B:zW) (C:zS) (lo:List Param) (ki:List (Int×Int)):Prop where
 a:A.program=p
 b:B.nodes=ns
 l:lo.length<=9
 e:C.err=0->lo.length<=8/\KI p ns ki
structure CV (p:Program) (ns:List Node) (C:zS) (ki:List (Int×Int)) (R:(Int->Prop)->Prop) (A':zX) (B':zW) (D:zS) (lo':List Param) (ki':List (Int×Int)):Prop where
 i:CI p ns A' B' D lo' ki'
 e:D.err=0->C.err=0/\R (DK ki')
 m:∀j,DK ki j->DK ki' j
section
variable {p:Program} {ns:List Node} {i e:Int} {A:zX} {B:zW} {C:zS} {sc:List (List UInt8×Vari)} {le:List (List UInt8×Bool)} {lo:List Param} {ki:List (Int×Int)} {va:List (Int×Vari)} {n:Node} {ks:List Int}
theorem zlV (ht:∀k:Nat,n.Op=4->0<ks.length) (ht2:n.Op=5->1<ks.length) (h:1<=n.Op/\n.Op<=6) (hk:ks.length<=6100):Tot (qX K i n ks A B C sc le lo ki va) fun r=>CT A B C (n.Op=6->arOk n.Name ks.length) r.2.1 r.2.2.1 r.2.2.2.1:=by
 have no:∀{A' B' D},n.Op≠6->CT A B C True A' B' D->CT A B C (n.Op=6->arOk n.Name ks.length) A' B' D:=fun h k=>k.m fun _ e=>absurd e h;unfold qX;refine tE (fun e=>tS (no (by omega) CT.id)) fun _=>tE (fun e=>tS (no (by omega) CT.id)) fun _=>tE (fun e=>tB zhL fun r hr=>tS (no (by omega) hr)) fun _=>tE (fun e=>tA (tC (fun _=>tS trivial) fun _=>tS trivial) fun x=>tI (ht 0 e) fun _=>?_) fun _=>tE (fun e=>tI (by have:=ht2 e;omega) fun _=>tI (ht2 e) fun _=>tB znu fun r hr=>tS (no (by omega) hr)) fun _=>tB (znt hk) fun r hr=>tS (hr.m fun h _=>h);rw [Ub];exact tS (no (by omega) (CT.w fun _=>trivial))
theorem znw {k:Int} (hl:lo.length<=8):Tot (YM K i n k A B C sc le lo ki va) fun r=>CT A B C (r.2.2.2.2.2.1.length<=8) r.1 r.2.1 r.2.2.1/\r.2.2.2.2.2.1.length<=9:=by
 unfold YM;refine tB (P:=fun r=>CT A B C (lo.length≠8) r.1 r.2.1 r.2.2) (tC (fun _=>by rw [za1];exact tS (CT.f (by decide))) fun _=>tC (fun _=>by rw [za1];exact tS (CT.f (by decide))) fun _=>tE (fun _=>by rw [za1];exact tS (CT.f (by decide))) fun e=>tS ⟨rfl,rfl,fun e2=>⟨e2,by omega⟩⟩) fun x hx=>?_;rw [Ub];unfold qJ;rw [zu,YG];refine tI (by simp;omega) fun _=>?_;rw [zu];refine tB zhL fun r hr=>tS ⟨((hx.t (CT.w (R:=True) fun _=>trivial)).t hr).m fun h=>?_,?_⟩
 .simp;omega
 .simp;omega
theorem zlX (hl:lo.length<=8) (hk:ks.length<=6100) (h1:n.Op=8\/n.Op=9\/n.Op=11\/n.Op=12\/n.Op=17->0<ks.length):Tot (jv K i n ks A B C sc le lo ki va) fun r=>CT A B C (r.2.2.2.2.2.1.length<=8) r.1 r.2.1 r.2.2.1/\r.2.2.2.2.2.1.length<=9:=by
 have ok:∀{A' B' D},CT A B C True A' B' D->CT A B C (lo.length<=8) A' B' D/\lo.length<=9:=fun k=>⟨k.m fun _=>hl,by omega⟩;have w:∀{b:Bool},CT A B C True A B (zfp i b C):=CT.w fun _=>trivial;unfold jv;refine tE (fun e=>tI (h1 (by omega)) fun _=>tB (znw hl) fun r hr=>tS hr) fun _=>tE (fun e=>tB zhL fun r hr=>tI (h1 (by omega)) fun _=>?_) fun _=>tB (orE (R:=n.Op=11\/n.Op=12) .inl (orL .inr)) fun b hb=>tC (fun e=>tI (h1 (by have:=hb e;omega)) fun _=>?_) fun _=>tE (fun e=>?_) fun _=>tE (fun e=>?_) fun _=>tE (fun e=>?_) fun _=>tE (fun e=>tI (h1 (by omega)) fun _=>?_) fun _=>tS (ok CT.id)
 .rw [Ub];exact tS (ok ((hr.t (CT.w (R:=True) fun _=>trivial)).m fun _=>trivial))
 .rw [Ub];exact tS (ok w)
 .rw [Ub,zu]
  refine tE (fun e=>?_) fun e=>tI (by omega) fun _=>?_<;>(rw [Ub];exact tS (ok ((w.t (CT.w (R:=True) fun _=>trivial)).m fun _=>trivial)))
 .rw [KJ (by omega)]
  refine tA (tS trivial) fun b=>?_;rw [Ub];exact tS (ok w)
 .rw [KJ (by omega)]
  refine tA (tS trivial) fun b=>?_;rw [Ub];exact tS (ok w)
 .rw [Ub];exact tS (ok w)
end
structure Rv (p:Program) (ns:List Node) (n:Nat):Prop where
 visit:∀{i d A B C sc le lo ki va},CI p ns A B C lo ki->0<=i->i<(ns.length:Int)->2*i.toNat+2<=n->Tot ((zG.at K n).vO i d A B C sc le lo ki va) fun r=>CV p ns C ki (fun D=>TW p ns D i) r.2.1 r.2.2.1 r.2.2.2.1 r.2.2.2.2.2.2.1 r.2.2.2.2.2.2.2.1
 block:∀{i A B C sc le lo ki va},CI p ns A B C lo ki->0<=i->i<(ns.length:Int)->opAt ns i=18->2*i.toNat+1<=n->Tot ((zG.at K n).jQ i (nd ns i) A B C sc le lo ki va) fun r=>CV p ns C ki (fun D=>TW p ns D i) r.1 r.2.1 r.2.2.1 r.2.2.2.2.2.1 r.2.2.2.2.2.2.1
theorem rv (p:Program) (ns:List Node) (hp:VP p) (h:VN ns):∀n,Rv p ns n
 | 0=>by constructor<;>(intros;omega)
 | n+1=>by
  have ih:=rv p ns hp h n;have nl:=h.l;constructor
  .intro i d A B C sc le lo ki va hc h0 h1 hn
   have hl:=h.kl h0 h1;have ko:=h.b.ko i.toNat (by omega);show Tot (YA K (zG.at K n) i d A B C sc le lo ki va) _;unfold YA;have hb:=hc.b;subst hb;refine tI ⟨h0,h1⟩ fun _=>tE (fun e=>tB (ih.block hc h0 h1 e (by omega)) fun r hr=>tS hr) fun n18=>?_;refine tB (P:=fun r=>r.1.length=(nd B.nodes i).Kids.length/\CV p B.nodes C ki (fun D=>∀k∈(nd B.nodes i).Kids,TW p B.nodes D k) r.2.1 r.2.2.1 r.2.2.2.1 r.2.2.2.2.2.2.1 r.2.2.2.2.2.2.2.1) ?_ fun r hr=>?_
   .refine (tK (fun x=>x.1<=(nd B.nodes i).Kids.length/\x.2.1.length=x.1/\CV p B.nodes C ki (fun D=>∀j,j<x.1->TW p B.nodes D ((nd B.nodes i).Kids.getD j default)) x.2.2.1 x.2.2.2.1 x.2.2.2.2.1 x.2.2.2.2.2.2.2.1 x.2.2.2.2.2.2.2.2.1) (fun x=>(nd B.nodes i).Kids.length - x.1) (Q:=fun r=>r.1.length=(nd B.nodes i).Kids.length/\CV p B.nodes C ki (fun D=>∀j,j<(nd B.nodes i).Kids.length->TW p B.nodes D ((nd B.nodes i).Kids.getD j default)) r.2.1 r.2.2.1 r.2.2.2.1 r.2.2.2.2.2.2.1 r.2.2.2.2.2.2.2.1) (fun F x hx hF=>?_) ⟨Nat.zero_le _,rfl,hc,fun e=>⟨e,fun j hj=>by simp only at hj;omega⟩,fun j hj=>hj⟩ (by have:(nd B.nodes i).Kids.length<=6100:=hl;simp only;omega)).mono fun r hr=>⟨hr.1,hr.2.i,fun e=>⟨(hr.2.e e).1,fun k hk=>?_⟩,hr.2.m⟩
    .obtain ⟨x1,x2,x3⟩:=hx
     have hl:(nd B.nodes i).Kids.length<=6100:=hl;refine tD (fun e=>tI (show x.1<(nd B.nodes i).Kids.length by have:(x.1:Int)<((nd B.nodes i).Kids.length:Nat):=e;omega) fun e1=>?_) fun e=>?_
     .have e1:x.1<(nd B.nodes i).Kids.length:=e1
      have hk:=h.kid h0 h1 (getD_mem (l:=(nd B.nodes i).Kids) (i:=x.1) e1);refine tB (ih.visit (i:=(nd B.nodes i).Kids.getD x.1 default) x3.i hk.1 (by omega) (by omega)) fun r hr=>tI (by simp;omega) fun _=>tI (by omega) fun _=>hF _ ⟨by simp only;omega,by simp [x2],hr.i,fun e=>?_,fun j hj=>hr.m j (x3.m j hj)⟩ (by simp only;omega);obtain ⟨e1,e2⟩:=hr.e e;obtain ⟨e3,e4⟩:=x3.e e1;refine ⟨e3,fun j hj=>?_⟩
      by_cases e5:j=x.1
      .rw [e5];exact e2
      .exact (e4 j (by simp only at hj;omega)).up hr.m
     .have:x.1=(nd B.nodes i).Kids.length:=by
       have:¬((x.1:Int)<((nd B.nodes i).Kids.length:Nat)):=e;omega
      exact tS ⟨by simp only;omega,x3.i,fun e=>⟨(x3.e e).1,fun j hj=>(x3.e e).2 j (by omega)⟩,x3.m⟩
    .obtain ⟨j,hj,rfl⟩:=List.getElem_of_mem hk
     have:=(hr.2.e e).2 j hj;rwa [gd hj] at this
   .obtain ⟨r1,r2⟩:=hr
    refine tN (fun e=>tS ⟨r2.i,fun e2=>absurd e2 e,r2.m⟩) fun e0=>?_;obtain ⟨r3,r4⟩:=r2.e e0;obtain ⟨l8,kI⟩:=r2.i.e e0;have hl:(nd B.nodes i).Kids.length<=6100:=hl;have ho:opAt B.nodes i=(nd B.nodes i).Op:=rfl;have ko:KO B.nodes (nd B.nodes i):=ko;refine tB (P:=fun x=>CT r.2.1 r.2.2.1 r.2.2.2.1 (x.2.2.2.2.2.2.1.length<=8/\((nd B.nodes i).Op=7->∃m,zcd p (nd B.nodes i).Name (nd B.nodes i).Value.S=some m/\x.1=m.Result/\(nd B.nodes i).Kids.length=m.Params.length+1)/\((nd B.nodes i).Op=6->arOk (nd B.nodes i).Name (nd B.nodes i).Kids.length)) x.2.1 x.2.2.1 x.2.2.2.1/\x.2.2.2.2.2.2.1.length<=9) (tE (fun e=>?_) fun n7=>tD (fun e=>?_) fun n6=>?_) fun x hx=>?_
    .have e:(nd B.nodes i).Op=7:=e
     refine tB (zlU (i:=i) (n:=nd B.nodes i) (by rw [r2.i.a];exact hp) ?_) fun y hy=>tS ⟨hy.m fun hm=>⟨l8,fun _=>?_,fun e6=>?_⟩,by simp only;omega⟩
     .cases ko<;>omega
     .rw [r2.i.a,r1] at hm;exact hm
     .have:(nd B.nodes i).Op=7:=e
      omega
    .refine tB (zlV (i:=i) (n:=nd B.nodes i) (fun _ e4=>?_) (fun e5=>?_) ?_ (by omega)) fun y hy=>tS ⟨hy.m fun hm=>⟨l8,fun e7=>absurd e7 n7,fun e6=>?_⟩,by simp only;omega⟩
     .cases ko<;>omega
     .cases ko<;>omega
     .have:(nd B.nodes i).Op<=6:=e
      cases ko<;>omega
     .rw [<-r1];exact hm e6
    .have n6:¬(nd B.nodes i).Op<=6:=n6
     have n7:(nd B.nodes i).Op≠7:=n7;refine tB (zlX (i:=i) (n:=nd B.nodes i) l8 (by omega) fun e1=>?_) fun y hy=>tS ⟨hy.1.m fun hm=>⟨hm,fun e7=>absurd e7 n7,fun e6=>by omega⟩,hy.2⟩;cases ko<;>omega
    .rw [Ub]
     obtain ⟨hx,x9⟩:=hx;have hw:=(hx.t (CT.w (R:=True) (i:=i) (b:=!d) fun _=>trivial)).m fun h=>h.1;have fin:∀{k':List (Int×Int)},(∀j,DK r.2.2.2.2.2.2.2.1 j->DK k' j)->(x.2.2.2.1.err=0->KI p B.nodes k'/\((nd B.nodes i).Op=7->DK k' i))->Tot (some (x.1,x.2.1,x.2.2.1,zfp i (!d) x.2.2.2.1,x.2.2.2.2.1,x.2.2.2.2.2.1,x.2.2.2.2.2.2.1,k',x.2.2.2.2.2.2.2)) fun r=>CV p B.nodes C ki (fun D=>TW p B.nodes D i) r.2.1 r.2.2.1 r.2.2.2.1 r.2.2.2.2.2.2.1 r.2.2.2.2.2.2.2.1:=fun {k'} hm hk=>tS ⟨⟨by simp only [hx.1];exact r2.i.a,by simp only [hx.2.1];exact r2.i.b,x9,fun e=>⟨(hw.2.2 e).2.1,(hk (zcb e).1).1⟩⟩,fun e=>⟨r3,.mk ⟨fun e7=>?_,(hw.2.2 e).2.2.2⟩ fun k hk=>(r4 k hk).up hm⟩,fun j hj=>hm j (r2.m j hj)⟩
     .refine tB (P:=fun k'=>(∀j,DK r.2.2.2.2.2.2.2.1 j->DK k' j)/\(x.2.2.2.1.err=0->KI p B.nodes k'/\((nd B.nodes i).Op=7->DK k' i))) (tD (fun e=>tS ⟨fun j hj=>zkX (.inl hj),fun e1=>⟨fun j v hv hj=>?_,fun _=>zkX (.inr rfl)⟩⟩) fun e=>tS ⟨fun j hj=>hj,fun _=>⟨kI,fun e7=>absurd (show (nd B.nodes i).Op<=7 by omega) e⟩⟩) fun k' hk'=>fin hk'.1 hk'.2
      rw [zc6] at hv
      by_cases e2:j=i
      .rw [if_pos e2] at hv
       obtain ⟨m,m1,m2,m3⟩:=(hx.2.2 e1).2.2.1 (by rw [<-e2];exact hj);rw [e2];exact ⟨m,m1,by rw [<-m2];exact (Option.some.inj hv).symm⟩
      .rw [if_neg e2] at hv
       exact kI j v hv hj
     .obtain ⟨m,m1,m2,m3⟩:=(hw.2.2 e).2.2.1 e7
      exact ⟨m,m1,m3,(hk (zcb e).1).2 e7⟩
  .intro i A B C sc le lo ki va hc h0 h1 e18 hn
   have hl:(nd ns i).Kids.length<=6100:=h.kl h0 h1;show Tot (Yz K (zG.at K n) i (nd ns i) A B C sc le lo ki va) _;unfold Yz;refine tA (tS trivial) fun s1=>?_;refine tB (P:=fun r=>CV p ns C ki (fun D=>∀k∈(nd ns i).Kids,TW p ns D k) r.1 r.2.1 r.2.2.1 r.2.2.2.2.2.1 r.2.2.2.2.2.2.1) ?_ fun r hr=>?_
   .refine (tK (fun x=>x.2.1<=(nd ns i).Kids.length/\CV p ns C ki (fun D=>∀j,j<x.2.1->TW p ns D ((nd ns i).Kids.getD j default)) x.2.2.1 x.2.2.2.1 x.2.2.2.2.1 x.2.2.2.2.2.2.2.1 x.2.2.2.2.2.2.2.2.1) (fun x=>(nd ns i).Kids.length - x.2.1) (Q:=fun r=>CV p ns C ki (fun D=>∀j,j<(nd ns i).Kids.length->TW p ns D ((nd ns i).Kids.getD j default)) r.1 r.2.1 r.2.2.1 r.2.2.2.2.2.1 r.2.2.2.2.2.2.1) (fun F x hx hF=>?_) ⟨Nat.zero_le _,hc,fun e=>⟨e,fun j hj=>by simp only at hj;omega⟩,fun j hj=>hj⟩ (by simp only;omega)).mono fun r hr=>⟨hr.i,fun e=>⟨(hr.e e).1,fun k hk=>?_⟩,hr.m⟩
    .obtain ⟨x1,x3⟩:=hx
     refine tD (fun e=>tI (by omega) fun e1=>?_) fun e=>?_
     .have hk:=h.kid h0 h1 (getD_mem (l:=(nd ns i).Kids) (i:=x.2.1) e1)
      refine tB (ih.visit x3.i hk.1 (by omega) (by omega)) fun r hr=>tA (tC (fun _=>tS trivial) fun _=>?_) fun b=>tI (by omega) fun _=>hF _ ⟨by simp only;omega,hr.i,fun e=>?_,fun j hj=>hr.m j (x3.m j hj)⟩ (by simp only;omega)
      .rw [hr.i.b]
       exact tA ((zg1 h (by omega)).mono fun _ _=>trivial) fun _=>tS trivial
      obtain ⟨e1,e2⟩:=hr.e e;obtain ⟨e3,e4⟩:=x3.e e1;refine ⟨e3,fun j hj=>?_⟩
      by_cases e5:j=x.2.1
      .rw [e5];exact e2
      .exact (e4 j (by simp only at hj;omega)).up hr.m
     .exact tS ⟨x3.i,fun e=>⟨(x3.e e).1,fun j hj=>(x3.e e).2 j (by omega)⟩,x3.m⟩
    .obtain ⟨j,hj,rfl⟩:=List.getElem_of_mem hk
     have:=(hr.e e).2 j hj;rwa [gd hj] at this
   .have tw:∀{D:Int->Prop},(∀k∈(nd ns i).Kids,TW p ns D k)->TW p ns D i:=fun k=>.mk ⟨fun e=>by omega,fun e=>by omega⟩ k
    refine tE (fun e=>tA (tC (fun _=>tS trivial) fun _=>?_) fun b=>?_) fun _=>tS ⟨hr.i,fun e=>⟨(hr.e e).1,tw (hr.e e).2⟩,hr.m⟩
    .rw [hr.i.b]
     exact tA ((zg1 h (by omega)).mono fun _ _=>trivial) fun _=>tS trivial
    .rw [Ub]
     exact tS ⟨⟨hr.i.a,hr.i.b,hr.i.l,fun e=>hr.i.e (zcb e).1⟩,fun e=>⟨(hr.e (zcb e).1).1,tw (hr.e (zcb e).1).2⟩,hr.m⟩
structure BO (p:Program) (m:Method) (b:Body):Prop where
 l:b.locals.length<=8
 t:TW p m.Nodes (DK b.kinds) ((m.Nodes.length:Int) - 1)
 k:KI p m.Nodes b.kinds
theorem zlW {p:Program} (hp:VP p) {m:Method} (hm:VM m) {f:List (List UInt8×Vari)}:Tot (Jb K p f m) fun r=>r.2.2=0->BO p m r.1:=by
 have h:VN m.Nodes:=⟨hm.b,hm.ok.k,hm.l⟩;have hl:=hm.p;have h1:=hm.b.len;have h2:=hm.l;unfold Jb;refine tB (P:=fun o=>(∃r,o=.inl r/\CI p m.Nodes r.2.2.1 r.2.2.2.1 r.2.2.2.2.1 r.2.2.2.2.2 [])\/∃b n,o=.inr (b,n,7)) (tK (fun x=>x.1<=m.Params.length/\x.2.2.2.1.program=p/\x.2.2.2.2.1.nodes=m.Nodes/\x.2.2.2.2.2.2.length=x.1) (fun x=>m.Params.length - x.1) (fun F x hx hF=>?_) ⟨Nat.zero_le _,rfl,rfl,rfl⟩ (by simp only;omega)) ?_
 .obtain ⟨x1,x2,x3,x4⟩:=hx
  refine tD (fun e=>tI (by omega) fun _=>tC (fun _=>tS (.inr ⟨_,_,rfl⟩)) fun _=>tC (fun _=>tS (.inr ⟨_,_,rfl⟩)) fun _=>?_) fun e=>tS (.inl ⟨_,rfl,⟨x2,x3,by simp only;omega,fun _=>⟨by simp only;omega,fun j v hv=>by cases hv⟩⟩⟩);unfold qJ;rw [YG];exact tI (by simp;omega) fun _=>tI (by omega) fun _=>hF _ ⟨by simp only;omega,x2,x3,by simp [x4]⟩ (by simp only;omega)
 .rintro o (⟨r,rfl,hr⟩|⟨b,n,rfl⟩)
  .show Tot (Option.bind _ _) _
   rw [W_id (by omega) (by omega)];exact tB ((rv p m.Nodes hp h K).visit hr (by omega) (by omega) (by show _<=5000000;omega)) fun r hr=>tS fun e=>⟨(hr.i.e e).1,(hr.e e).2,(hr.i.e e).2⟩
  .exact tS fun e=>by cases e
structure IOw (p:Program) (x:Info):Prop where
 v:VP p
 l:x.bodies.length=p.Types.length
 m:∀i,i<p.Types.length->(x.bodies.getD i default).length=(p.Types.getD i default).Methods.length/\∀j,j<(p.Types.getD i default).Methods.length->BO p ((p.Types.getD i default).Methods.getD j default) ((x.bodies.getD i default).getD j default)
theorem zbk {α:Type} [Inhabited α] {l:List α} {x:α} {P:Nat->α->Prop} (h:∀i,i<l.length->P i (l.getD i default)) (hx:P l.length x):∀i,i<l.length+1->P i ((l++[x]).getD i default):=fun i hi=>by
 by_cases e:i=l.length
 .subst e;simpa [List.getD] using hx
 .have:=h i (by omega)
  rw [gd (by simp;omega),List.getElem_append_left (by omega)];rwa [gd (by omega)] at this
theorem zgY {p:Program} (h:okPr p):Tot (YK K p) fun o=>(∃r,o=.inl r/\r.2≠0)\/∃x l,o=.inr (x,l,0)/\IOw p x:=by
 unfold YK;refine tB (zlB h) fun b hb=>tC (fun _=>tS (.inl ⟨_,rfl,by simp⟩)) fun e=>?_;have hp:=hb (noB e);have h8:=hp.l;refine tB (P:=fun o=>(∃r,o=.inl r/\IOw p ⟨p,r.2⟩/\r.1=p)\/∃r,o=.inr (.inl r)/\r.2≠0) (tK (fun x=>x.1<=p.Types.length/\x.2.1=p/\x.2.2.length=x.1/\∀i,i<x.2.2.length->(x.2.2.getD i default).length=(p.Types.getD i default).Methods.length/\∀j,j<(p.Types.getD i default).Methods.length->BO p ((p.Types.getD i default).Methods.getD j default) ((x.2.2.getD i default).getD j default)) (fun x=>p.Types.length - x.1) (fun F x hx hF=>?_) ⟨Nat.zero_le _,rfl,rfl,fun i hi=>by simp at hi⟩ (by simp only;omega)) ?_
 .obtain ⟨x1,x2,x3,x4⟩:=hx
  refine tD (fun e=>tI (by omega) fun _=>tI (by omega) fun _=>tB (zoW (by simp;omega)) fun b _=>tC (fun _=>tS (.inr ⟨_,rfl,by simp⟩)) fun _=>?_) fun e=>tS (.inl ⟨_,rfl,⟨hp,by simp only;omega,fun i hi=>x4 i (by omega)⟩,x2⟩);have ht:=hp.t _ (getD_mem (l:=p.Types) (i:=x.1) (by omega));have hf:=ht.f;have hm:=ht.m;refine tB (P:=fun o=>(∃r,o=.inl r)\/∃r,o=.inr (.inr (.inl r))/\r.2≠0) (tK (fun y=>y.1<=(p.Types.getD x.1 default).Fields.length) (fun y=>(p.Types.getD x.1 default).Fields.length - y.1) (fun G y hy hG=>?_) (Nat.zero_le _) (by simp only;omega)) ?_
  .exact tD (fun e=>tI (by omega) fun _=>tC (fun _=>tS (.inr ⟨_,rfl,by simp⟩)) fun _=>tI (by omega) fun _=>hG _ (by simp only;omega) (by simp only;omega)) fun _=>tS (.inl ⟨_,rfl⟩)
  .rintro o (⟨f,rfl⟩|⟨r,rfl,hr⟩)
   .refine tB (P:=fun o=>(∃l,o=.inl l/\l.length=(p.Types.getD x.1 default).Methods.length/\∀j,j<l.length->BO p ((p.Types.getD x.1 default).Methods.getD j default) (l.getD j default))\/∃r,o=.inr (.inr (.inl r))/\r.2≠0) (tK (fun y=>y.1<=(p.Types.getD x.1 default).Methods.length/\y.2.1.length=y.1/\∀j,j<y.2.1.length->BO p ((p.Types.getD x.1 default).Methods.getD j default) (y.2.1.getD j default)) (fun y=>(p.Types.getD x.1 default).Methods.length - y.1) (fun G y hy hG=>?_) ⟨Nat.zero_le _,rfl,fun j hj=>by simp at hj⟩ (by simp only;omega)) ?_
    .obtain ⟨y1,y2,y3⟩:=hy
     refine tD (fun e=>tI (by omega) fun _=>tI (by omega) fun _=>tB (zoJ (by simp;omega)) fun b _=>tC (fun _=>tS (.inr ⟨_,rfl,by simp⟩)) fun _=>tB (zlW hp (ht.b _ (getD_mem (by omega)))) fun r hr=>tN (fun e=>tS (.inr ⟨_,rfl,e⟩)) fun e0=>tI (by simp;omega) fun _=>tI (by omega) fun _=>hG _ ⟨by simp only;omega,by simp [y2],?_⟩ (by simp only;omega)) fun e=>tS (.inl ⟨_,rfl,by omega,y3⟩);simp only [List.length_append,List.length_singleton];exact zbk (P:=fun j b=>BO p ((p.Types.getD x.1 default).Methods.getD j default) b) y3 (by rw [y2];exact hr e0)
    .rintro o (⟨l,rfl,l1,l2⟩|⟨r,rfl,hr⟩)
     .refine tI (by simp;omega) fun _=>tI (by omega) fun _=>hF _ ⟨by simp only;omega,x2,by simp [x3],?_⟩ (by simp only;omega)
      simp only [List.length_append,List.length_singleton];exact zbk (P:=fun i (b:List Body)=>b.length=(p.Types.getD i default).Methods.length/\∀j,j<(p.Types.getD i default).Methods.length->BO p ((p.Types.getD i default).Methods.getD j default) (b.getD j default)) x4 (by rw [x3];exact ⟨l1,fun j hj=>l2 j (by omega)⟩)
     .exact tS (.inr ⟨_,rfl,hr⟩)
   .exact tS (.inr ⟨_,rfl,hr⟩)
 .rintro o (⟨r,rfl,h1,h2⟩|⟨r,rfl,hr⟩)
  .exact tS (.inr ⟨_,_,rfl,by rw [h2];exact h1⟩)
  .exact tS (.inl ⟨_,rfl,hr⟩)
end Md
end Go.Proofs.YtbijabmjbgplbaaGreatDoor
namespace Go.Proofs.YtbijabmjbgplbaaGreatDoor
namespace Md
abbrev vz:Value:=⟨0,0,[],[],[]⟩
abbrev mkI (o a b:Int):Instr:=⟨o,a,b,vz⟩
abbrev mkP (v:Value):Instr:=⟨1,0,0,v⟩
def kdOf (b:Body) (i:Int):Int:=(mget b.kinds i).getD 0
def vaOf (b:Body) (i:Int):Vari:=(mget b.variables i).getD ⟨0,0,false⟩
def bOp:List (List UInt8×Int):=[([43],9),([43],10),([45],11),([42],12),([47],13),([37],14),([61,61],15),([33,61],16),([60],17),([60,61],18),([62],19),([62,61],20)]
def aOp (l:Nat):List (List UInt8×Int×Int):=[([108,101,110],21,0),([97,116],22,0),([97,112,112,101,110,100],23,0),([115,101,116],24,0),([115,116,114],25,0),([105,110,116,115],26,(l:Int)),([115,116,114,105,110,103,115],27,(l:Int))]
def kd (ns:List Node) (i:Int) (j:Nat):Int:=(nd ns i).Kids.getD j default
mutual
inductive CE (p:Program) (ns:List Node) (b:Body) (c:List Instr):Int->Nat->Nat->Prop
 | const {i:Int} {a:Nat} (o:opAt ns i=1) (h:c[a]?=some (mkP (nd ns i).Value)):CE p ns b c i a (a+1)
 | var {i:Int} {a:Nat} (o:opAt ns i=2) (h:c[a]?=some (mkI (if (vaOf b i).field then 4 else 2) (vaOf b i).slot 0)):CE p ns b c i a (a+1)
 | self {i:Int} {a:Nat} (o:opAt ns i=3) (h:c[a]?=some (mkI 6 0 0)):CE p ns b c i a (a+1)
 | un {i:Int} {a z:Nat} (o:opAt ns i=4) (k:CL p ns b c (nd ns i).Kids a z) (h:c[z]?=some (mkI (if (nd ns i).Name=[45] then 7 else 8) 0 0)):CE p ns b c i a (z+1)
 | and {i:Int} {a d z:Nat} (o:opAt ns i=5) (n:(nd ns i).Name=[38,38]) (k:CE p ns b c (kd ns i 0) a d) (h:c[d]?=some (mkI 29 ((z+1:Nat):Int) 0)) (l:CE p ns b c (kd ns i 1) (d+1) z) (j:c[z]?=some (mkI 28 ((z+2:Nat):Int) 0)) (q:c[z+1]?=some (mkP ⟨2,0,[],[],[]⟩)):CE p ns b c i a (z+2)
 | or {i:Int} {a d z:Nat} (o:opAt ns i=5) (n:(nd ns i).Name=[124,124]) (k:CE p ns b c (kd ns i 0) a d) (h:c[d]?=some (mkI 29 ((d+3:Nat):Int) 0)) (q:c[d+1]?=some (mkP ⟨2,1,[],[],[]⟩)) (j:c[d+2]?=some (mkI 28 (z:Int) 0)) (l:CE p ns b c (kd ns i 1) (d+3) z):CE p ns b c i a z
 | bin {i x:Int} {a z:Nat} (o:opAt ns i=5) (n:((nd ns i).Name,x)∈bOp) (k:CL p ns b c (nd ns i).Kids a z) (h:c[z]?=some (mkI x 0 0)):CE p ns b c i a (z+1)
 | app {i x y:Int} {a z:Nat} (o:opAt ns i=6) (n:((nd ns i).Name,x,y)∈aOp (nd ns i).Kids.length) (k:CL p ns b c (nd ns i).Kids a z) (h:c[z]?=some (mkI x y 0)):CE p ns b c i a (z+1)
 | call {i:Int} {a z:Nat} (o:opAt ns i=7) (k:CL p ns b c (nd ns i).Kids a z) (h:c[z]?=some (mkI 30 (tyI p.Types (nd ns i).Name) (meI (p.Types.getD (tyI p.Types (nd ns i).Name).toNat default).Methods (nd ns i).Value.S) )):CE p ns b c i a (z+1)
 | asg {i:Int} {a z:Nat} (o:opAt ns i=8\/opAt ns i=9) (k:CL p ns b c (nd ns i).Kids a z) (h:c[z]?=some (mkI (if (vaOf b i).field then 5 else 3) (vaOf b i).slot 0)):CE p ns b c i a (z+1)
 | drop {i:Int} {a z:Nat} (o:opAt ns i=10) (k:CL p ns b c (nd ns i).Kids a z) (n:kdOf b (kd ns i 0)≠0) (h:c[z]?=some (mkI 31 0 0)):CE p ns b c i a (z+1)
 | do_ {i:Int} {a z:Nat} (o:opAt ns i=10) (k:CL p ns b c (nd ns i).Kids a z) (n:kdOf b (kd ns i 0)=0):CE p ns b c i a z
 | if2 {i:Int} {a d z:Nat} (o:opAt ns i=11) (n:(nd ns i).Kids.length=2) (k:CE p ns b c (kd ns i 0) a d) (h:c[d]?=some (mkI 29 (z:Int) 0)) (l:CE p ns b c (kd ns i 1) (d+1) z):CE p ns b c i a z
 | ifE {i:Int} {a d y z:Nat} (o:opAt ns i=11) (n:(nd ns i).Kids.length≠2) (k:CE p ns b c (kd ns i 0) a d) (h:c[d]?=some (mkI 29 (y:Int) 0)) (l:CE p ns b c (kd ns i 1) (d+1) y) (e:EN ns (kd ns i 1)) (m:CE p ns b c (kd ns i 2) y z):CE p ns b c i a z
 | if3 {i:Int} {a d y z:Nat} (o:opAt ns i=11) (n:(nd ns i).Kids.length≠2) (k:CE p ns b c (kd ns i 0) a d) (h:c[d]?=some (mkI 29 ((y+1:Nat):Int) 0)) (l:CE p ns b c (kd ns i 1) (d+1) y) (j:c[y]?=some (mkI 28 (z:Int) 0)) (m:CE p ns b c (kd ns i 2) (y+1) z):CE p ns b c i a z
 | whE {i:Int} {a d z:Nat} (o:opAt ns i=12) (k:CE p ns b c (kd ns i 0) a d) (h:c[d]?=some (mkI 29 (z:Int) 0)) (l:CE p ns b c (kd ns i 1) (d+1) z) (e:EN ns (kd ns i 1)):CE p ns b c i a z
 | wh {i:Int} {a d z:Nat} (o:opAt ns i=12) (k:CE p ns b c (kd ns i 0) a d) (h:c[d]?=some (mkI 29 ((z+1:Nat):Int) 0)) (l:CE p ns b c (kd ns i 1) (d+1) z) (j:c[z]?=some (mkI 28 (a:Int) 0)):CE p ns b c i a (z+1)
 | ret {i:Int} {a z:Nat} (o:opAt ns i=13) (k:CL p ns b c (nd ns i).Kids a z) (h:c[z]?=some (mkI 32 0 0)):CE p ns b c i a (z+1)
 | fail {i:Int} {a z:Nat} (o:opAt ns i=14) (k:CL p ns b c (nd ns i).Kids a z) (h:c[z]?=some (mkI 33 0 0)):CE p ns b c i a (z+1)
 | eff {i:Int} {a z:Nat} (o:15<=opAt ns i/\opAt ns i<=17) (k:CL p ns b c (nd ns i).Kids a z) (h:c[z]?=some (mkI (19+opAt ns i) 0 0)):CE p ns b c i a (z+1)
 | blk {i:Int} {a z:Nat} (o:opAt ns i=18) (k:CL p ns b c (nd ns i).Kids a z):CE p ns b c i a z
inductive CL (p:Program) (ns:List Node) (b:Body) (c:List Instr):List Int->Nat->Nat->Prop
 | nil {a:Nat}:CL p ns b c [] a a
 | cons {k:Int} {l:List Int} {a y z:Nat} (h:CE p ns b c k a y) (t:CL p ns b c l y z):CL p ns b c (k::l) a z
end
variable {p:Program} {ns:List Node} {b:Body} {c:List Instr}
theorem CL.snoc {l:List Int} {k:Int} {y z:Nat} (h:CE p ns b c k y z):∀{a:Nat},CL p ns b c l a y->CL p ns b c (l++[k]) a z:=by
 induction l with
 | nil=>intro a t;cases t;exact .cons h .nil
 | cons x l ih=>intro a t;cases t with|cons h1 t=>exact .cons h1 (ih t)
structure Co (c0 r:List Instr) (R:List Instr->Prop):Prop where
 l:c0.length<=r.length
 p:∀j,j<c0.length->r[j]?=c0[j]?
 r:∀c,(∀j,c0.length<=j->j<r.length->c[j]?=r[j]?)->R c
section
variable {c0 r r1 r2 r3:List Instr} {R R1 R2 R3:List Instr->Prop}
theorem Co.t (h:Co c0 r1 R1) (k:Co r1 r2 R2):Co c0 r2 fun c=>R1 c/\R2 c :=
 ⟨Nat.le_trans h.l k.l,fun j hj=>by rw [k.p j (Nat.lt_of_lt_of_le hj h.l),h.p j hj],fun c hc=>⟨h.r c fun j h1 h2=>by rw [hc j h1 (Nat.lt_of_lt_of_le h2 k.l),k.p j h2],k.r c fun j h1 h2=>hc j (Nat.le_trans h.l h1) h2⟩⟩
theorem Co.m (h:Co c0 r R1) (k:∀c,R1 c->R2 c):Co c0 r R2:=⟨h.l,h.p,fun c hc=>k c (h.r c hc)⟩
theorem Co.id:Co c0 c0 fun _=>True:=⟨Nat.le_refl _,fun _ _=>rfl,fun _ _=>trivial⟩
theorem Co.emit {x:Instr}:Co c0 (c0++[x]) fun c=>c[c0.length]?=some x :=
 ⟨by simp,fun j hj=>List.getElem?_append_left hj,fun c hc=>by rw [hc c0.length (Nat.le_refl _) (by simp)];simp⟩
theorem Co.patch {x y:Instr} (h:Co c0 r1 R1) (k:Co (r1++[x]) r3 R3):Co c0 (r3.set r1.length y) fun c=>R1 c/\c[r1.length]?=some y/\R3 c:=by
 have hl:=h.l;have kl:=k.l;have kp:=k.p;simp only [List.length_append,List.length_singleton] at kl kp;refine ⟨by simp;omega,fun j hj=>?_,fun c hc=>⟨h.r c fun j h1 h2=>?_,?_,k.r c fun j h1 h2=>?_⟩⟩
 .rw [List.getElem?_set_ne (by omega),kp j (by omega),List.getElem?_append_left (by omega),h.p j hj]
 .rw [hc j h1 (by simp;omega),List.getElem?_set_ne (by omega),kp j (by omega),List.getElem?_append_left h2]
 .rw [hc _ hl (by simp;omega),List.getElem?_set_self (by omega)]
 .simp only [List.length_append,List.length_singleton] at h1
  rw [hc j (by omega) (by simp;omega),List.getElem?_set_ne (by omega)]
end
theorem zk2 {x:Info} {t m:Int} (ht:0<=t/\t<(x.bodies.length:Int)) (hm:0<=m/\m<((x.bodies.getD t.toNat default).length:Int)):vI K x t m=some ((x.bodies.getD t.toNat default).getD m.toNat default,true):=by
 unfold vI;rw [decide_eq_false (by omega),decide_eq_false (by omega),decide_eq_false (by omega)];simp only [Bool.or_self,cond_false];rw [zy ht,zu,decide_eq_false (by omega)];simp only [cond_false];rw [zy ht,zy hm]
structure CX (p:Program) (ns:List Node) (b:Body) (A:yA):Prop where
 v:VP p
 n:VN ns
 p:A.program=p
 ns:A.nodes=ns
 b:vI K A.info A.typ A.method=some (b,true)
section
variable {A:yA} {i o a b':Int}
theorem zhI (h:CX p ns b A):uP K i A c=some (kdOf b i):=by
 unfold uP ug Yx;rw [zu];simp only [h.b,zu];rfl
theorem XK (hl:c.length<=200000):zA K o a b' A c=some ((c.length:Int),A,c++[mkI o a b']):=by
 unfold zA;rw [zy (by simp;omega)];have:W (((c++[mkI o a b']).length:Int) - 1)=(c.length:Int):=by
  rw [show ((((c++[mkI o a b']).length:Nat):Int) - 1)=(c.length:Int) by simp,W_id (by omega) (by omega)]
 rw [this]
theorem zhQ (h:CX p ns b A) (hl:c.length<=200000):wW K i o a A c=some (A,c++[mkI (if (vaOf b i).field then a else o) (vaOf b i).slot 0]):=by
 unfold wW ug Yy;rw [zu];simp only [h.b,zu];show Option.bind (bif (vaOf b i).field then _ else _) _=_;cases (vaOf b i).field<;>(simp only [cond_true,cond_false,zu];rw [XK hl];rfl)
theorem ziS {v:Value} (hv:okV v) (hl:c.length<=200000):wY K v A c=some (A,c++[mkP v]):=by
 unfold wY;rw [zy (by have:=hv.i;omega),zy (by have:=hv.l;omega),zy (by simp;omega)]
theorem KD {f:Nat} (h:c[f]?=some (mkI o 0 0)):yP K (f:Int) A c=some (c.set f (mkI o (c.length:Int) 0)):=by
 have hf:f<c.length:=(List.getElem?_eq_some_iff.1 h).1;have he:c.getD f default=mkI o 0 0:=by simp [List.getD,h]
 unfold yP;rw [zy (by omega)];simp only [Int.toNat_natCast];rw [zy hf,he]
def KL (p:Program) (ns:List Node) (b:Body) (A:yA) (sz:Int->Nat) (m:Nat) (k:Int):Prop:=∀c:List Instr,c.length+4*sz k<=100000->Tot ((zh.at K m).zZ k A c) fun r=>r.1=A/\r.2.length<=c.length+4*sz k/\Co c r.2 fun c'=>CE p ns b c' k c.length r.2.length
theorem zfw {sz:Int->Nat} {n:Node} {m:Nat} (hl:n.Kids.length<=6100) (hk:∀k∈n.Kids,KL p ns b A sz m k) (hc:c.length+4*(n.Kids.map sz).sum<=100000):Tot (jf K (zh.at K m) i n A c) fun r=>r.1=A/\r.2.length<=c.length+4*(n.Kids.map sz).sum/\Co c r.2 fun c'=>CL p ns b c' n.Kids c.length r.2.length:=by
 unfold jf;refine tB (tK (fun x=>x.1<=n.Kids.length/\x.2.1=A/\x.2.2.length<=c.length+4*((n.Kids.take x.1).map sz).sum/\Co c x.2.2 fun c'=>CL p ns b c' (n.Kids.take x.1) c.length x.2.2.length) (fun x=>n.Kids.length - x.1) (Q:=fun r=>r.1=A/\r.2.length<=c.length+4*(n.Kids.map sz).sum/\Co c r.2 fun c'=>CL p ns b c' n.Kids c.length r.2.length) (fun F x hx hF=>?_) ⟨Nat.zero_le _,rfl,by simp,Co.id.m fun _ _=>.nil⟩ (by simp only;omega)) fun r hr=>tS hr;obtain ⟨x1,x2,x3,x4⟩:=hx;have sm:∀j,j<=n.Kids.length->((n.Kids.take j).map sz).sum<=(n.Kids.map sz).sum:=fun j _=>by
  have:=congrArg (fun l=>(List.map sz l).sum) (List.take_append_drop j n.Kids);simp only [List.map_append,List.sum_append] at this;omega
 refine tD (fun e=>?_) fun e=>?_
 .have e1:x.1<n.Kids.length:=by omega
  have st:n.Kids.take (x.1+1)=n.Kids.take x.1++[n.Kids.getD x.1 default]:=by rw [gd e1,List.take_succ_eq_append_getElem e1]
  have s1:=sm (x.1+1) (by omega);rw [st] at s1;simp only [List.map_append,List.sum_append,List.map_cons,List.map_nil,List.sum_cons,List.sum_nil] at s1;rw [x2];refine tI e1 fun _=>tB (hk _ (getD_mem e1) x.2.2 (by omega)) fun r hr=>tI (by omega) fun _=>hF _ ⟨by simp only;omega,hr.1,?_,?_⟩ (by simp only;omega)
  .have:=hr.2.1
   simp only [st,List.map_append,List.sum_append,List.map_cons,List.map_nil,List.sum_cons,List.sum_nil];omega
  .simp only [st]
   exact (x4.t hr.2.2).m fun c' h=>CL.snoc h.2 h.1
 .have:n.Kids.take x.1=n.Kids:=List.take_of_length_le (by omega)
  rw [this] at x3 x4;exact tS ⟨x2,x3,x4⟩
end
end Md
end Go.Proofs.YtbijabmjbgplbaaGreatDoor
namespace Go.Proofs.YtbijabmjbgplbaaGreatDoor
namespace Md
theorem len2 {α:Type} [Inhabited α] {l:List α} (h:l.length=2):l=[l.getD 0 default,l.getD 1 default]:=by
 match l,h with
 | [a,b],_=>rfl
theorem len3 {α:Type} [Inhabited α] {l:List α} (h:l.length=3):l=[l.getD 0 default,l.getD 1 default,l.getD 2 default]:=by
 match l,h with
 | [a,b,c],_=>rfl
section
variable {p:Program} {ns:List Node} {b:Body} {c:List Instr} {A:yA} {i:Int} {sz:Int->Nat} {D:Int->Prop}
def NQ (p:Program) (ns:List Node) (b:Body) (A:yA) (sz:Int->Nat) (c:List Instr) (i:Int) (r:yA×List Instr):Prop:=r.1=A/\r.2.length<=c.length+4*sz i/\Co c r.2 fun c'=>CE p ns b c' i c.length r.2.length
theorem NQ.one {r1:List Instr} {R:List Instr->Prop} {x:Instr} (h:Co c r1 R) (hl:r1.length+1<=c.length+4*sz i) (k:∀c',R c'->c'[r1.length]?=some x->CE p ns b c' i c.length (r1.length+1)):NQ p ns b A sz c i (A,r1++[x]) :=
 ⟨rfl,by simp;omega,by
  have:=(h.t (Co.emit (x:=x))).m fun c' hc=>k c' hc.1 hc.2;simpa using this⟩
theorem zhx {nm:List UInt8} (h:nm∈binN) (h1:nm≠[38,38]) (h2:nm≠[124,124]):nm∈[[43],[45],[42],[47],[37],[61,61],[33,61],[60],[60,61],[62],[62,61]]:=by
 simp only [binN,List.mem_cons,List.not_mem_nil,or_false] at h ⊢;rcases h with h|h|h|h|h|h|h|h|h|h|h|h|h<;>simp_all
theorem zeI {k:Int} {m:Nat} {f:Int×yA×List Instr->Option (yA×List Instr)} {Q:yA×List Instr->Prop} (hk:KL p ns b A sz m k) (hc:c.length+4*sz k<=100000) (h:∀r1,r1.length<=c.length+4*sz k->Co c r1 (fun c'=>CE p ns b c' k c.length r1.length)->Tot (f ((r1.length:Int),A,r1++[mkI 29 0 0])) Q):Tot (((zh.at K m).zZ k A c).bind fun x1=>(zA K 29 0 0 x1.1 x1.2).bind f) Q:=by
 refine tB (hk c hc) fun r hr=>?_;rw [hr.1,XK (by omega)];exact h r.2 hr.2.1 hr.2.2
theorem zmn (hx:CX p ns b A) {m:Nat} (ho:opAt ns i=5) (h2:(nd ns i).Kids.length=2) (hk:∀k∈(nd ns i).Kids,KL p ns b A sz m k) (hs:sz i=1+((nd ns i).Kids.map sz).sum) (hn:(nd ns i).Name=[38,38]\/(nd ns i).Name=[124,124]) (hc:c.length+4*sz i<=100000):Tot (kQ K (zh.at K m) (nd ns i) A c) (NQ p ns b A sz c i):=by
 have e2:=len2 h2;have hs:sz i=1+(sz (kd ns i 0)+sz (kd ns i 1)):=by
  rw [hs,e2];simp [kd]
 have k0:KL p ns b A sz m (kd ns i 0):=hk _ (getD_mem (by omega));have k1:KL p ns b A sz m (kd ns i 1):=hk _ (getD_mem (by omega));unfold kQ;refine tI (by omega) fun _=>zeI (k:=kd ns i 0) k0 (by omega) fun r1 l1 c1=>?_;have kb:∀{r:List Instr},Co (r1++[mkI 29 0 0]) r (fun _=>True)->r[r1.length]?=some (mkI 29 0 0):=fun h=>by rw [h.p _ (by simp)];simp
 rcases hn with hn|hn
 .rw [show decide ((nd ns i).Name=([124,124]:List UInt8))=false by rw [hn];decide]
  simp only [cond_false];refine tB (P:=fun r=>r.1=A/\r.2.length<=c.length+4*sz (kd ns i 0)+1+4*sz (kd ns i 1)/\Co (r1++[mkI 29 0 0]) r.2 fun c'=>CE p ns b c' (kd ns i 1) (r1.length+1) r.2.length) (tI (by omega) fun _=>tB (k1 _ (by simp;omega)) fun r hr=>tS ⟨hr.1,by have:=hr.2.1;simp at this ⊢;omega,by have:=hr.2.2;simpa using this⟩) fun r hr=>?_;obtain ⟨q1,q2,q3⟩:=hr;rw [q1,XK (by omega),zu];have ke:=kb (q3.t (Co.emit (x:=mkI 28 0 0)) |>.m fun _ _=>trivial);rw [KD ke,zu];have pa:=c1.patch (y:=mkI 29 ((r.2++[mkI 28 0 0]).length:Int) 0) q3;have hl:=pa.l;have rl:=q3.l;simp only [List.length_append,List.length_singleton] at rl;have es:(r.2++[mkI 28 0 0]).set r1.length (mkI 29 ((r.2++[mkI 28 0 0]).length:Int) 0)=r.2.set r1.length (mkI 29 ((r.2++[mkI 28 0 0]).length:Int) 0)++[mkI 28 0 0]:=by rw [List.set_append_left _ _ (by omega)]
  simp only;rw [es,ziS (zce ⟨by omega,by omega⟩ i0) (by simp;omega),zu,zu];have p2:=pa.patch (x:=mkI 28 0 0) (y:=mkI 28 (((r.2.set r1.length (mkI 29 ((r.2++[mkI 28 0 0]).length:Int) 0)++[mkI 28 0 0])++[mkP ⟨2,0,[],[],[]⟩]).length:Int) 0) (Co.emit (x:=mkP ⟨2,0,[],[],[]⟩));have hz:(r.2.set r1.length (mkI 29 ((r.2++[mkI 28 0 0]).length:Int) 0)).length=r.2.length:=by simp
  rw [hz] at p2;rw [KD (o:=28) (by rw [List.getElem?_append_left (by simp),List.getElem?_append_right (by simp)];simp),zu];refine tS ⟨rfl,by simp;omega,?_⟩;refine p2.m fun c' h=>?_;simp only [List.length_append,List.length_singleton,List.length_set] at h ⊢;exact .and ho hn h.1.1 h.1.2.1 h.1.2.2 h.2.1 h.2.2
 .rw [show decide ((nd ns i).Name=([124,124]:List UInt8))=true by rw [hn];decide]
  simp only [cond_true];rw [ziS (zce ⟨by omega,by omega⟩ ⟨by omega,by omega⟩) (by simp;omega),zu,zu];simp only;rw [XK (by simp;omega),zu];have q3:=Co.emit (c0:=r1++[mkI 29 0 0]) (x:=mkP ⟨2,1,[],[],[]⟩);have ke:=kb (q3.t (Co.emit (x:=mkI 28 0 0)) |>.m fun _ _=>trivial);rw [KD ke,zu];generalize hy:mkI 29 (((r1++[mkI 29 0 0]++[mkP ⟨2,1,[],[],[]⟩]++[mkI 28 0 0]).length:Nat):Int) 0=y;have pa:=c1.patch (y:=y) q3;have es:(r1++[mkI 29 0 0]++[mkP ⟨2,1,[],[],[]⟩]++[mkI 28 0 0]).set r1.length y=(r1++[mkI 29 0 0]++[mkP ⟨2,1,[],[],[]⟩]).set r1.length y++[mkI 28 0 0]:=by rw [List.set_append_left _ _ (by simp)]
  rw [es];refine tB (P:=fun r=>r.1=A/\r.2.length<=c.length+4*sz (kd ns i 0)+3+4*sz (kd ns i 1)/\Co ((r1++[mkI 29 0 0]++[mkP ⟨2,1,[],[],[]⟩]).set r1.length y++[mkI 28 0 0]) r.2 fun c'=>CE p ns b c' (kd ns i 1) (r1.length+3) r.2.length) (tI (by omega) fun _=>tB (k1 _ (by simp;omega)) fun r hr=>tS ⟨hr.1,by have:=hr.2.1;simp at this ⊢;omega,by have:=hr.2.2;simpa using this⟩) fun r hr=>?_;obtain ⟨q1,q2,q4⟩:=hr;have hz:((r1++[mkI 29 0 0]++[mkP ⟨2,1,[],[],[]⟩]).set r1.length y).length=r1.length+2:=by simp
  have rl:=q4.l;simp only [List.length_append,List.length_singleton,hz] at rl;have p2:=pa.patch (y:=mkI 28 (r.2.length:Int) 0) q4;rw [hz] at p2;simp only [List.length_append,List.length_singleton];rw [KD (o:=28) (f:=r1.length+1+1) (by rw [q4.p _ (by simp),List.getElem?_append_right (by simp)];simp),zu];refine tS ⟨q1,by simp;omega,?_⟩;refine p2.m fun c' h=>?_;subst hy;simp only [List.length_append,List.length_singleton,List.length_set] at h ⊢;exact .or ho hn h.1.1 h.1.2.1 h.1.2.2 h.2.1 h.2.2
theorem knt {r r1:List Instr} {R:List Instr->Prop} {x:Instr} (h:Co (r1++[x]) r R):r[r1.length]?=some x:=by rw [h.p _ (by simp)];simp
theorem zeJ (h:CX p ns b A) {k:Int} (hk:k<(ns.length:Int)):Tot (YF K A.nodes k) fun b=>b=true->EN ns k:=by
 unfold YF;rw [h.ns];exact tB (zg1 h.n (by have:=h.n.l;omega)) fun b hb=>tS hb
theorem zjF (hx:CX p ns b A) {m:Nat} (ho:opAt ns i=11) (h2:2<=(nd ns i).Kids.length/\(nd ns i).Kids.length<=3) (hr:∀k∈(nd ns i).Kids,0<=k/\k<(ns.length:Int)) (hk:∀k∈(nd ns i).Kids,KL p ns b A sz m k) (hs:sz i=1+((nd ns i).Kids.map sz).sum) (hc:c.length+4*sz i<=100000):Tot (kD K (zh.at K m) i (nd ns i) A c) (NQ p ns b A sz c i):=by
 have k0:KL p ns b A sz m (kd ns i 0):=hk _ (getD_mem (by omega));have k1:KL p ns b A sz m (kd ns i 1):=hk _ (getD_mem (by omega));have hs2:1+(sz (kd ns i 0)+sz (kd ns i 1))<=sz i:=by
  by_cases e:(nd ns i).Kids.length=2
  .rw [hs,len2 e];simp [kd]
  .rw [hs,len3 (show (nd ns i).Kids.length=3 by omega)];simp [kd]
 unfold kD;refine tI (by omega) fun _=>zeI (k:=kd ns i 0) k0 (by omega) fun r1 l1 c1=>tI (by omega) fun _=>?_;refine tB (P:=fun r=>r.1=A/\r.2.length<=c.length+4*sz (kd ns i 0)+1+4*sz (kd ns i 1)/\Co (r1++[mkI 29 0 0]) r.2 fun c'=>CE p ns b c' (kd ns i 1) (r1.length+1) r.2.length) ((k1 _ (by simp;omega)).mono fun r hr=>⟨hr.1,by have:=hr.2.1;simp at this ⊢;omega,by have:=hr.2.2;simpa using this⟩) fun r hr=>?_;obtain ⟨q1,q2,q3⟩:=hr;have rl:=q3.l;simp only [List.length_append,List.length_singleton] at rl;rw [q1];refine tE (fun e=>?_) fun e=>tI (by omega) fun _=>?_
 .rw [KD (knt q3),zu]
  have pa:=c1.patch (y:=mkI 29 (r.2.length:Int) 0) q3;exact tS ⟨rfl,by simp;omega,pa.m fun c' h=>by
   simp only [List.length_set] at h ⊢;exact .if2 ho (by omega) h.1 h.2.1 h.2.2⟩
 have h3:(nd ns i).Kids.length=3:=by omega
 have hs3:1+(sz (kd ns i 0)+sz (kd ns i 1)+sz (kd ns i 2))=sz i:=by
  rw [hs,len3 h3];simp [kd];omega
 have k2:KL p ns b A sz m (kd ns i 2):=hk _ (getD_mem (by omega));refine tB (zeJ (k:=kd ns i 1) hx (hr _ (getD_mem (by omega))).2) fun en hen=>tC (fun e4=>?_) fun _=>?_
 .rw [KD (knt q3),zu]
  have pa:=c1.patch (y:=mkI 29 (r.2.length:Int) 0) q3;refine tI (by omega) fun _=>tB (P:=fun s=>s.1=A/\s.2.length<=r.2.length+4*sz (kd ns i 2)/\Co (r.2.set r1.length (mkI 29 (r.2.length:Int) 0)) s.2 fun c'=>CE p ns b c' (kd ns i 2) r.2.length s.2.length) ((k2 _ (by simp;omega)).mono fun s hs=>⟨hs.1,by have:=hs.2.1;simp at this ⊢;omega,by have:=hs.2.2;simpa using this⟩) fun s hs'=>tS ⟨hs'.1,by simp only;omega,(pa.t hs'.2.2).m fun c' h=>.ifE ho (by omega) h.1.1 h.1.2.1 h.1.2.2 (hen e4) h.2⟩
 .rw [XK (by omega),zu]
  have q4:=q3.t (Co.emit (x:=mkI 28 0 0));rw [KD (knt q4),zu];generalize hy:mkI 29 ((r.2++[mkI 28 0 0]).length:Int) 0=y;have pa:=c1.patch (y:=y) q3;have es:(r.2++[mkI 28 0 0]).set r1.length y=r.2.set r1.length y++[mkI 28 0 0]:=by rw [List.set_append_left _ _ (by omega)]
  rw [es];refine tI (by omega) fun _=>tB (P:=fun s=>s.1=A/\s.2.length<=r.2.length+1+4*sz (kd ns i 2)/\Co (r.2.set r1.length y++[mkI 28 0 0]) s.2 fun c'=>CE p ns b c' (kd ns i 2) (r.2.length+1) s.2.length) ((k2 _ (by simp;omega)).mono fun s hs=>⟨hs.1,by have:=hs.2.1;simp at this ⊢;omega,by have:=hs.2.2;simpa using this⟩) fun s hs'=>?_;have p2:=pa.patch (y:=mkI 28 (s.2.length:Int) 0) hs'.2.2;have kn:=knt hs'.2.2;rw [List.length_set] at p2 kn;rw [KD kn,zu];refine tS ⟨hs'.1,by simp;omega,p2.m fun c' h=>?_⟩;subst hy;simp only [List.length_append,List.length_singleton,List.length_set] at h ⊢;exact .if3 ho (by omega) h.1.1 h.1.2.1 h.1.2.2 h.2.1 h.2.2
theorem znU (hx:CX p ns b A) {m:Nat} (ho:opAt ns i=12) (h2:(nd ns i).Kids.length=2) (hr:∀k∈(nd ns i).Kids,0<=k/\k<(ns.length:Int)) (hk:∀k∈(nd ns i).Kids,KL p ns b A sz m k) (hs:sz i=1+((nd ns i).Kids.map sz).sum) (hc:c.length+4*sz i<=100000):Tot (Zk K (zh.at K m) i (nd ns i) A c) (NQ p ns b A sz c i):=by
 have k0:KL p ns b A sz m (kd ns i 0):=hk _ (getD_mem (by omega));have k1:KL p ns b A sz m (kd ns i 1):=hk _ (getD_mem (by omega));have hs2:1+(sz (kd ns i 0)+sz (kd ns i 1))=sz i:=by
  rw [hs,len2 h2];simp [kd]
 unfold Zk;refine tI (by omega) fun _=>zeI (k:=kd ns i 0) k0 (by omega) fun r1 l1 c1=>tI (by omega) fun _=>?_;refine tB (P:=fun r=>r.1=A/\r.2.length<=c.length+4*sz (kd ns i 0)+1+4*sz (kd ns i 1)/\Co (r1++[mkI 29 0 0]) r.2 fun c'=>CE p ns b c' (kd ns i 1) (r1.length+1) r.2.length) ((k1 _ (by simp;omega)).mono fun r hr=>⟨hr.1,by have:=hr.2.1;simp at this ⊢;omega,by have:=hr.2.2;simpa using this⟩) fun r hr'=>?_;obtain ⟨q1,q2,q3⟩:=hr';have rl:=q3.l;simp only [List.length_append,List.length_singleton] at rl;rw [q1];refine tB (P:=fun s=>s.1=A/\((s.2=r.2/\EN ns (kd ns i 1))\/s.2=r.2++[mkI 28 (c.length:Int) 0])) (tI (by omega) fun _=>tB (zeJ (k:=kd ns i 1) hx (hr _ (getD_mem (by omega))).2) fun en hen=>tC (fun _=>?_) fun e=>tS ⟨rfl,.inl ⟨rfl,hen (noB e)⟩⟩) fun s hs'=>?_
 .rw [XK (by omega),zu]
  exact tS ⟨rfl,.inr rfl⟩
 obtain ⟨s1,⟨s2,s3⟩|s2⟩:=hs'
 .rw [s2,KD (knt q3),zu]
  have pa:=c1.patch (y:=mkI 29 (r.2.length:Int) 0) q3;exact tS ⟨s1,by simp;omega,pa.m fun c' h=>by
   simp only [List.length_set] at h ⊢;exact .whE ho h.1 h.2.1 h.2.2 s3⟩
 .have q4:=q3.t (Co.emit (x:=mkI 28 (c.length:Int) 0))
  rw [s2,KD (knt q4),zu];have pa:=c1.patch (y:=mkI 29 ((r.2++[mkI 28 (c.length:Int) 0]).length:Int) 0) q4;exact tS ⟨s1,by simp;omega,pa.m fun c' h=>by
   simp only [List.length_append,List.length_singleton,List.length_set] at h ⊢;exact .wh ho h.1 h.2.1 h.2.2.1 h.2.2.2⟩
end
end Md
end Go.Proofs.YtbijabmjbgplbaaGreatDoor
namespace Go.Proofs.YtbijabmjbgplbaaGreatDoor
namespace Md
section
variable {p:Program} {ns:List Node} {b:Body} {c:List Instr} {A:yA} {i:Int} {sz:Int->Nat} {D:Int->Prop}
theorem ziz {t m:List UInt8} {x:Method} (h:zcd p t m=some x):(0<=tyI p.Types t/\tyI p.Types t<(p.Types.length:Int))/\(0<=meI (p.Types.getD (tyI p.Types t).toNat default).Methods m/\meI (p.Types.getD (tyI p.Types t).toNat default).Methods m<((p.Types.getD (tyI p.Types t).toNat default).Methods.length:Int))/\x=(p.Types.getD (tyI p.Types t).toNat default).Methods.getD (meI (p.Types.getD (tyI p.Types t).toNat default).Methods m).toNat default:=by
 unfold zcd at h;split at h
 .cases h
 split at h
 .cases h
 have h1:=zeX (fun x=>decide (x.Name=t)) p.Types;have h2:=zeX (fun x=>decide (x.Name=m)) (p.Types.getD (tyI p.Types t).toNat default).Methods;refine ⟨?_,?_,(Option.some.inj h).symm⟩
 .unfold tyI at *;omega
 .unfold meI at *;omega
theorem Xg {m:Nat} {f:yA×List Instr->Option (yA×List Instr)} {Q:yA×List Instr->Prop} (hl:(nd ns i).Kids.length<=6100) (hk:∀k∈(nd ns i).Kids,KL p ns b A sz m k) (hs:sz i=1+((nd ns i).Kids.map sz).sum) (hc:c.length+4*sz i<=100000) (h:∀r1,r1.length+4<=c.length+4*sz i->Co c r1 (fun c'=>CL p ns b c' (nd ns i).Kids c.length r1.length)->Tot (f (A,r1)) Q):Tot ((jf K (zh.at K m) i (nd ns i) A c).bind f) Q :=
 tB (zfw hl hk (by omega)) fun r hr=>by
  obtain ⟨r1,r2⟩:=r;obtain ⟨h1,h2,h3⟩:=hr;simp only at h1 h2 h3;subst h1;exact h r2 (by omega) h3
set_option maxHeartbeats 2000000 in
theorem znY (hx:CX p ns b A) (hsz:SZ ns ns.length sz):∀(N:Nat) (i:Int),i.toNat<N->0<=i->i<(ns.length:Int)->TW p ns D i->∀n,4*i.toNat+4<=n->KL p ns b A sz n i:=by
 intro N
 induction N with
 | zero=>intro i h;omega
 | succ N ih =>
  intro i hN h0 h1 ht n hn c hc;obtain ⟨m,rfl⟩:∃m,n=m+4:=⟨n - 4,by omega⟩;obtain ⟨lc,tk⟩:=ht;have ko:KO ns (nd ns i):=hx.n.b.ko i.toNat (by omega);have co:CO (nd ns i):=hx.n.b.co i.toNat (by omega);have hl:(nd ns i).Kids.length<=6100:=hx.n.kl h0 h1;have hs:sz i=1+((nd ns i).Kids.map sz).sum:=by
   have:=(hsz i.toNat (by omega)).1;rwa [show ((i.toNat:Nat):Int)=i by omega] at this
  have kr:∀k∈(nd ns i).Kids,0<=k/\k<(ns.length:Int):=fun k hk=>by have:=hx.n.kid h0 h1 hk;omega
  have hk:∀m',m<=m'->∀k∈(nd ns i).Kids,KL p ns b A sz m' k:=fun m' hm k hk=>by
   have:=hx.n.kid h0 h1 hk;exact ih k (by omega) this.1 (by omega) (tk k hk) m' (by omega)
  have hv:okV (nd ns i).Value:=(hx.n.k _ (getD_mem (l:=ns) (i:=i.toNat) (by omega))).v;have ho:opAt ns i=(nd ns i).Op:=rfl;show Tot (Zl K (zh.at K (m+3)) i A c) (NQ p ns b A sz c i);have fin:∀{X:Option (yA×List Instr)},Tot X (NQ p ns b A sz c i)->Tot (X.bind fun x2=>some (x2.1,x2.2)) (NQ p ns b A sz c i):=fun h=>tB h fun r hr=>tS hr;unfold Zl;have hns:=hx.ns;subst hns;refine tI ⟨h0,h1⟩ fun _=>tA (tS trivial) fun _=>tD (fun e=>fin ?_) fun n1=>tD (fun e=>fin ?_) fun n2=>tD (fun e=>fin ?_) fun n3=>tD (fun e=>fin ?_) fun n4=>tD (fun e=>fin ?_) fun n5=>tD (fun e=>fin ?_) fun n6=>tD (fun e=>fin ?_) fun n7=>tD (fun e=>fin ?_) fun n8=>tD (fun e=>fin ?_) fun n9=>tD (fun e=>fin ?_) fun n10=>tD (fun e=>fin ?_) fun n11=>tD (fun e=>fin ?_) fun n12=>tD (fun e=>fin ?_) fun n13=>tD (fun e=>fin ?_) fun n14=>tD (fun e=>fin ?_) fun n15=>tD (fun e=>fin ?_) fun n16=>tD (fun e=>fin ?_) fun n17=>tD (fun e=>fin ?_) fun n18=>?_
  .unfold kE
   rw [ziS hv (by omega),zu];exact tS (NQ.one Co.id (by omega) fun c' _ h=>.const e h)
  .unfold ZU
   rw [zhQ hx (by omega),zu];exact tS (NQ.one Co.id (by omega) fun c' _ h=>.var e h)
  .unfold ZV
   rw [XK (by omega),zu];exact tS (NQ.one Co.id (by omega) fun c' _ h=>.self e h)
  .refine Xg hl (hk (m+1) (by omega)) hs hc fun r1 l1 c1=>?_
   by_cases en:(nd A.nodes i).Name=[45]
   .rw [show decide ((A.nodes.getD i.toNat default).Name=([45]:List UInt8))=true from decide_eq_true en]
    simp only [cond_true];rw [XK (c:=r1) (by omega),zu];exact tS (NQ.one c1 (by omega) fun c' h1 h=>.un e h1 (by rw [if_pos en];exact h))
   .rw [show decide ((A.nodes.getD i.toNat default).Name=([45]:List UInt8))=false from decide_eq_false en]
    simp only [cond_false];rw [XK (c:=r1) (by omega),zu];exact tS (NQ.one c1 (by omega) fun c' h1 h=>.un e h1 (by rw [if_neg en];exact h))
  .have e5:opAt A.nodes i=5:=e
   have hb:=co.2 e;have l2:(nd A.nodes i).Kids.length=2:=by cases ko<;>omega
   refine tB (P:=fun o=>(∃x:Nat,o=.inl x/\((nd A.nodes i).Name,(x:Int))∈bOp)\/∃r,o=.inr r/\NQ p A.nodes b A sz c i r) ?_ ?_
   .refine tB (P:=fun b=>(b=true->(nd A.nodes i).Name=[38,38]\/(nd A.nodes i).Name=[124,124])/\(b=false->(nd A.nodes i).Name≠[38,38]/\(nd A.nodes i).Name≠[124,124])) (tD (fun e=>tS ⟨fun _=>.inl e,fun e2=>absurd e (of_decide_eq_false e2)⟩) fun e=>tS ⟨fun e2=>.inr (of_decide_eq_true e2),fun e2=>⟨e,of_decide_eq_false e2⟩⟩) fun d hd=>tC (fun e2=>?_) fun e2=>?_
    .exact tB (zmn (m:=m+1) hx e5 l2 (hk (m+1) (by omega)) hs (hd.1 e2) hc) fun r hr=>tS (.inr ⟨_,rfl,hr⟩)
    .have hn:=zhx hb (hd.2 e2).1 (hd.2 e2).2
     have at_:∀{s:List UInt8} {x:Nat},(nd A.nodes i).Name=s->(s,(x:Int))∈bOp->Tot (some (.inl x):Option (Nat ⊕ (yA×List Instr))) fun o=>(∃x:Nat,o=.inl x/\((nd A.nodes i).Name,(x:Int))∈bOp)\/∃r,o=.inr r/\NQ p A.nodes b A sz c i r:=fun e h=>tS (.inl ⟨_,rfl,by rw [e];exact h⟩);refine tD (fun e=>?_) fun m1=>tD (fun e=>at_ e (by simp [bOp])) fun m2=>tD (fun e=>at_ e (by simp [bOp])) fun m3=>tD (fun e=>at_ e (by simp [bOp])) fun m4=>tD (fun e=>at_ e (by simp [bOp])) fun m5=>tD (fun e=>at_ e (by simp [bOp])) fun m6=>tD (fun e=>at_ e (by simp [bOp])) fun m7=>tD (fun e=>at_ e (by simp [bOp])) fun m8=>tD (fun e=>at_ e (by simp [bOp])) fun m9=>tD (fun e=>at_ e (by simp [bOp])) fun m10=>tD (fun e=>at_ e (by simp [bOp])) fun m11=>?_
     .rw [zhI hx,zu]
      exact tE (fun _=>at_ e (by simp [bOp])) fun _=>at_ e (by simp [bOp])
     .simp only [List.mem_cons,List.not_mem_nil,or_false] at hn
      rcases hn with h|h|h|h|h|h|h|h|h|h|h<;>contradiction
   .rintro o (⟨x,rfl,h⟩|⟨r,rfl,hr⟩)
    .refine Xg hl (hk (m+1) (by omega)) hs hc fun r1 l1 c1=>?_
     rw [XK (c:=r1) (by omega),zu];exact tS (NQ.one c1 (by omega) fun c' h1 h2=>.bin e h h1 h2)
    .exact tS hr
  .have ar:=lc.2 e
   refine Xg hl (hk (m+1) (by omega)) hs hc fun r1 l1 c1=>?_;have ap:∀{s:List UInt8} {x y:Int},(nd A.nodes i).Name=s->(s,x,y)∈aOp (nd A.nodes i).Kids.length->Tot ((zA K x y 0 A r1).bind fun x2=>some (x2.2.1,x2.2.2)) (NQ p A.nodes b A sz c i):=fun {s x y} e2 h=>by
    rw [XK (c:=r1) (by omega),zu];exact tS (NQ.one c1 (by omega) fun c' h1 h2=>.app e (by rw [e2];exact h) h1 h2)
   refine tD (fun e=>ap e (by simp [aOp])) fun m1=>tD (fun e=>ap e (by simp [aOp])) fun m2=>tD (fun e=>ap e (by simp [aOp])) fun m3=>tD (fun e=>ap e (by simp [aOp])) fun m4=>tD (fun e=>ap e (by simp [aOp])) fun m5=>tD (fun e=>ap e (by simp [aOp])) fun m6=>tD (fun e=>ap e (by simp [aOp])) fun m7=>?_;rcases ar with h|h|⟨h,_⟩|⟨h,_⟩|⟨h,_⟩|⟨h,_⟩|⟨h,_⟩<;>contradiction
  .obtain ⟨x,hx1,hx2,_⟩:=lc.1 e
   obtain ⟨q1,q2,q3⟩:=ziz hx1;refine Xg hl (hk (m+1) (by omega)) hs hc fun r1 l1 c1=>?_;have h8:=hx.v.l;have h16:=(hx.v.t _ (getD_mem (l:=p.Types) (i:=(tyI p.Types (nd A.nodes i).Name).toNat) (by omega))).m;simp only [hx.p];rw [zoY (by omega),zu];refine tI q1 fun _=>?_;rw [zoL (l:=(p.Types.getD (tyI p.Types (nd A.nodes i).Name).toNat default).Methods) (by omega),zu,XK (c:=r1) (by omega),zu];exact tS (NQ.one c1 (by omega) fun c' h1 h2=>.call e h1 h2)
  .refine Xg hl (hk (m+1) (by omega)) hs hc fun r1 l1 c1=>?_
   rw [zhQ (c:=r1) hx (by omega),zu];exact tS (NQ.one c1 (by omega) fun c' h1 h2=>.asg (.inl e) h1 h2)
  .refine Xg hl (hk (m+1) (by omega)) hs hc fun r1 l1 c1=>?_
   rw [zhQ (c:=r1) hx (by omega),zu];exact tS (NQ.one c1 (by omega) fun c' h1 h2=>.asg (.inr e) h1 h2)
  .refine Xg hl (hk (m+1) (by omega)) hs hc fun r1 l1 c1=>?_
   have e10:opAt A.nodes i=10:=e;refine tI (show 0<(nd A.nodes i).Kids.length by cases ko<;>omega) fun _=>?_;rw [zhI hx,zu];refine tN (fun e2=>?_) fun e2=>tS ⟨rfl,by simp only;omega,c1.m fun c' h=>.do_ e h e2⟩;rw [XK (c:=r1) (by omega),zu];exact tS (NQ.one c1 (by omega) fun c' h1 h2=>.drop e h1 e2 h2)
  .have e11:opAt A.nodes i=11:=e
   exact zjF (m:=m+2) hx e (by cases ko<;>omega) kr (hk _ (by omega)) hs hc
  .have e12:opAt A.nodes i=12:=e
   exact znU (m:=m+2) hx e (by cases ko<;>omega) kr (hk _ (by omega)) hs hc
  .refine Xg hl (hk (m+1) (by omega)) hs hc fun r1 l1 c1=>?_
   rw [show ((A.nodes.getD i.toNat default).Op==(13:Int))=true by rw [e];rfl];simp only [cond_true];rw [XK (c:=r1) (by omega),zu];exact tS (NQ.one c1 (by omega) fun c' h1 h2=>.ret e h1 h2)
  .refine Xg hl (hk (m+1) (by omega)) hs hc fun r1 l1 c1=>?_
   rw [show ((A.nodes.getD i.toNat default).Op==(13:Int))=false by rw [e];rfl];simp only [cond_false];rw [XK (c:=r1) (by omega),zu];exact tS (NQ.one c1 (by omega) fun c' h1 h2=>.fail e h1 h2)
  .refine Xg hl (hk (m+1) (by omega)) hs hc fun r1 l1 c1=>?_
   rw [show W (W (34+(A.nodes.getD i.toNat default).Op) - 15)=19+opAt A.nodes i by rw [ho,e];rfl,XK (c:=r1) (by omega),zu];exact tS (NQ.one c1 (by omega) fun c' h1 h2=>.eff (by rw [ho,e];omega) h1 h2)
  .refine Xg hl (hk (m+1) (by omega)) hs hc fun r1 l1 c1=>?_
   rw [show W (W (34+(A.nodes.getD i.toNat default).Op) - 15)=19+opAt A.nodes i by rw [ho,e];rfl,XK (c:=r1) (by omega),zu];exact tS (NQ.one c1 (by omega) fun c' h1 h2=>.eff (by rw [ho,e];omega) h1 h2)
  .refine Xg hl (hk (m+1) (by omega)) hs hc fun r1 l1 c1=>?_
   rw [show W (W (34+(A.nodes.getD i.toNat default).Op) - 15)=19+opAt A.nodes i by rw [ho,e];rfl,XK (c:=r1) (by omega),zu];exact tS (NQ.one c1 (by omega) fun c' h1 h2=>.eff (by rw [ho,e];omega) h1 h2)
  .exact (zfw (i:=i) (m:=m+2) hl (hk _ (by omega)) (by omega)).mono fun r hr=>⟨hr.1,by have:=hr.2.1;omega,hr.2.2.m fun c' h=>.blk e h⟩
  .exfalso
   have:1<=(nd A.nodes i).Op/\(nd A.nodes i).Op<=18:=by cases ko<;>omega
   have n1:(nd A.nodes i).Op≠1:=n1;have n2:(nd A.nodes i).Op≠2:=n2;have n3:(nd A.nodes i).Op≠3:=n3;have n4:(nd A.nodes i).Op≠4:=n4;have n5:(nd A.nodes i).Op≠5:=n5;have n6:(nd A.nodes i).Op≠6:=n6;have n7:(nd A.nodes i).Op≠7:=n7;have n8:(nd A.nodes i).Op≠8:=n8;have n9:(nd A.nodes i).Op≠9:=n9;have n10:(nd A.nodes i).Op≠10:=n10;have n11:(nd A.nodes i).Op≠11:=n11;have n12:(nd A.nodes i).Op≠12:=n12;have n13:(nd A.nodes i).Op≠13:=n13;have n14:(nd A.nodes i).Op≠14:=n14;have n15:(nd A.nodes i).Op≠15:=n15;have n16:(nd A.nodes i).Op≠16:=n16;have n17:(nd A.nodes i).Op≠17:=n17;have n18:(nd A.nodes i).Op≠18:=n18;omega
end
end Md
end Go.Proofs.YtbijabmjbgplbaaGreatDoor
namespace Go.Proofs.YtbijabmjbgplbaaGreatDoor
namespace Md
theorem zg3 {s:List UInt8} (h:s.length<=6000):Tot (y8 K s) fun b=>b=true->s.length<=32:=by
 unfold y8;refine tB (P:=fun b=>b=true->s.length<=32) (tC (fun e=>?_) fun _=>tS fun e=>by cases e) fun b hb=>tB (P:=fun b=>b=true->s.length<=32) (tC (fun e=>tA (QA _) fun _=>tS fun _=>hb e) fun _=>tS fun e=>by cases e) fun c hc=>tS hc;have:s.length<=32:=by
  have:=of_decide_eq_true (Bool.and_eq_true _ _▸e).2;omega
 exact tA ((zji h).mono fun _ _=>trivial) fun _=>tS fun _=>this
theorem orJ {m c:Int}:Tot (some (m==c)) fun b=>b=true↔m=c:=tS (by simp)
theorem orI {m c:Int} {X:Option Bool} {R:Prop} (h2:Tot X fun b=>b=true↔R):Tot (bif m==c then some (m==c) else X) fun b=>b=true↔(m=c\/R) :=
 tE (fun e=>tS ⟨fun _=>.inl e,fun _=>by simpa using e⟩) fun e=>h2.mono fun b hb=>⟨fun h=>.inr (hb.1 h),fun h=>hb.2 (h.resolve_left e)⟩
structure szM (m:zk):Prop where
 n:m.Name.length<=6000
 p:m.Params.length<=4
 l:m.zK.length<=8
 c:m.Code.length<=100000
 v:∀x∈m.Code,okV x.Value
structure szT (t:zq):Prop where
 n:t.Name.length<=6000
 f:t.Fields.length<=8
 fi:∀f∈t.Fields,f.Name.length<=6000/\okV f.Init
 m:t.Methods.length<=16
 mi:∀m∈t.Methods,szM m
structure szC (c:Code):Prop where
 l:c.Types.length<=8
 t:∀t∈c.Types,szT t
structure okI (c:Code) (t:zq) (m:zk) (x:Instr):Prop where
 o:1<=x.Op/\x.Op<=36
 a:(2<=x.Op/\x.Op<=5)\/x.Op=26\/x.Op=27\/(28<=x.Op/\x.Op<=30)\/x.A=0
 b:x.Op=30\/x.B=0
 v:x.Op=1\/x.Value=vz
 push:x.Op=1->VV x.Value/\x.Value.Kind≠0
 loc:x.Op=2\/x.Op=3->0<=x.A/\x.A<(m.zK.length:Int)
 fld:x.Op=4\/x.Op=5->0<=x.A/\x.A<(t.Fields.length:Int)
 mak:x.Op=26\/x.Op=27->0<=x.A/\x.A<17
 jmp:x.Op=28\/x.Op=29->0<=x.A/\x.A<(m.Code.length:Int)
 call:x.Op=30->(0<=x.A/\x.A<(c.Types.length:Int))/\0<=x.B/\x.B<((c.Types.getD x.A.toNat default).Methods.length:Int)
structure okMt (c:Code) (t:zq) (m:zk):Prop where
 p:m.Params.length<=4
 r:0<=m.Result/\m.Result<=5
 l:m.zK.length<=8
 lk:∀k∈m.zK,1<=k/\k<=5
 pl:m.Params.length<=m.zK.length
 pe:m.zK.take m.Params.length=m.Params
 cl:0<m.Code.length
 i:∀x∈m.Code,okI c t m x
structure okTy (t:zq):Prop where
 f:∀f∈t.Fields,f.Name.length<=32/\(1<=f.Kind/\f.Kind<=5)/\f.Init.Kind=f.Kind/\VV f.Init
 m:∀m∈t.Methods,m.Name.length<=32
def cnt (t:zq):Nat:=(t.Methods.map (·.Code.length)).sum
structure okC (c:Code):Prop where
 tot:(c.Types.map cnt).sum<=3000
 n:∀t∈c.Types,t.Name.length<=32
 t:∀t∈c.Types,okTy t
 m:∀t∈c.Types,∀m∈t.Methods,okMt c t m/\m.Code.length<=3000
section
variable {c:Code} {t:zq} {m:zk}
theorem zgK {a n:Int}:Tot (xR K a n) fun b=>b=true->0<=a/\a<n:=tS fun e=>by simpa using e
theorem zkM {x:Instr} (hv:okV x.Value):Tot (ZE K c t m x) fun b=>b=true->okI c t m x:=by
 unfold ZE UR;refine tB (P:=fun b=>b=false->(1<=x.Op/\x.Op<=36)/\((2<=x.Op/\x.Op<=5)\/x.Op=26\/x.Op=27\/(28<=x.Op/\x.Op<=30)\/x.A=0)) (orB (fun e=>?_) (tS fun e=>?_)) fun b hb=>tC (fun _=>tS fun e=>by cases e) fun e=>?_
 .have e1:=of_decide_eq_false (Bool.or_eq_false_iff.1 e).1
  have e2:=of_decide_eq_false (Bool.or_eq_false_iff.1 e).2;omega
 .simp only [Bool.and_eq_false_iff,Bool.not_eq_false',Bool.or_eq_true,Bool.and_eq_true,decide_eq_true_eq,beq_iff_eq,bne_eq_false_iff_eq] at e
  omega
 obtain ⟨b1,b2⟩:=Bool.or_eq_false_iff.1 e;obtain ⟨h1,h2⟩:=hb b1;have h3:x.Op=30\/x.B=0:=by
  simp only [Bool.and_eq_false_iff,bne_eq_false_iff_eq] at b2;exact b2
 refine tB (P:=fun b=>b=false->x.Op=1\/x.Value=vz) (tN (fun _=>?_) fun e=>tS fun _=>.inl e) fun d hd=>tC (fun _=>tS fun e=>by cases e) fun e=>?_
 .rw [QC ⟨by have:=hv.i;omega,by have:=hv.l;omega⟩]
  exact tS fun e=>.inr (by simpa using e)
 have h4:=hd e;refine tE (fun e=>?_) fun n1=>?_
 .refine tB (Ur _) fun q hq=>tS fun e2=>?_
  obtain ⟨q1,q2⟩:=Bool.and_eq_true _ _▸e2;exact ⟨h1,h2,h3,h4,fun _=>⟨hq.1 q1,by simpa using q2⟩,by omega,by omega,by omega,by omega,by omega⟩
 have rest:(x.Op=2\/x.Op=3->0<=x.A/\x.A<(m.zK.length:Int))->(x.Op=4\/x.Op=5->0<=x.A/\x.A<(t.Fields.length:Int))->(x.Op=26\/x.Op=27->0<=x.A/\x.A<17)->(x.Op=28\/x.Op=29->0<=x.A/\x.A<(m.Code.length:Int))->(x.Op=30->(0<=x.A/\x.A<(c.Types.length:Int))/\0<=x.B/\x.B<((c.Types.getD x.A.toNat default).Methods.length:Int))->okI c t m x:=fun a1 a2 a3 a4 a5=>⟨h1,h2,h3,h4,fun h=>absurd h n1,a1,a2,a3,a4,a5⟩;have ne:∀{b:Bool} {P:Prop},(b=true↔P)->b=false->¬P:=fun h e p=>by rw [h.2 p] at e;cases e
 refine tB (orI orJ) fun b hb=>tC (fun e=>tB zgK fun r hr=>tS fun e2=>?_) fun e=>?_
 .have:=hb.1 e
  exact rest (fun _=>hr e2) (by omega) (by omega) (by omega) (by omega)
 have n2:=ne hb e;refine tB (orI orJ) fun b hb=>tC (fun e=>tB zgK fun r hr=>tS fun e2=>?_) fun e=>?_
 .have:=hb.1 e
  exact rest (by omega) (fun _=>hr e2) (by omega) (by omega) (by omega)
 have n3:=ne hb e;refine tB (orI orJ) fun b hb=>tC (fun e=>tB zgK fun r hr=>tS fun e2=>?_) fun e=>?_
 .have:=hb.1 e
  exact rest (by omega) (by omega) (fun _=>hr e2) (by omega) (by omega)
 have n4:=ne hb e;refine tB (orI orJ) fun b hb=>tC (fun e=>tB zgK fun r hr=>tS fun e2=>?_) fun e=>?_
 .have:=hb.1 e
  exact rest (by omega) (by omega) (by omega) (fun _=>hr e2) (by omega)
 have n5:=ne hb e;refine tE (fun e=>tB zgK fun r hr=>tC (fun e2=>tI (hr e2) fun _=>tB zgK fun s hs=>tS fun e3=>?_) fun _=>tS fun e=>by cases e) fun e=>tS fun _=>rest (by omega) (by omega) (by omega) (by omega) (by omega);exact rest (by omega) (by omega) (by omega) (by omega) fun _=>⟨hr e2,hs e3⟩
theorem ziF {α:Type} [Inhabited α] {l:List α} {f:α->Option Bool} {P:α->Prop} (hl:l.length<5000000) (hf:∀x∈l,Tot (f x) fun b=>b=false->P x) {body:(Nat->Option (Unit ⊕ Int))->Nat->Option (Unit ⊕ Int)} (hb:∀F x1,body F x1=bif (decide (((x1:Nat):Int)<((l.length:Nat):Int))) then (ifp (x1<l.length)<|(f (l.getD x1 default)).bind fun x2=>bif x2 then (some (.inr ((x1:Nat):Int))) else (ifp (x1+1<=9223372036854775807)<|F (x1+1))) else (some (.inl ()))) :
  Tot (((rounds body K 0).bind fun x4=>onS x4 (fun x3=>some (-1:Int)) (fun x5=>some x5)).bind fun x1=>some (decide (x1>=(0:Int)))) fun b=>b=false->∀x∈l,P x:=by
 refine tB (P:=fun n=>(n=-1/\∀x∈l,P x)\/0<=n) (tB (P:=fun o=>(o=.inl ()/\∀x∈l,P x)\/∃n,o=.inr n/\0<=n) (tK (fun i=>i<=l.length/\∀j,j<i->P (l.getD j default)) (fun i=>l.length - i) (fun F i hi hF=>?_) ⟨Nat.zero_le _,fun j hj=>by omega⟩ (by omega)) ?_) fun n hn=>tS fun e=>?_
 .rw [hb]
  refine tD (fun e=>tI (by omega) fun _=>tB (hf _ (getD_mem (by omega))) fun b hb=>tC (fun _=>tS (.inr ⟨_,rfl,by omega⟩)) fun e2=>tI (by omega) fun _=>hF _ ⟨by omega,fun j hj=>?_⟩ (by omega)) fun e=>tS (.inl ⟨rfl,fun x hx=>?_⟩)
  .by_cases e3:j=i
   .rw [e3];exact hb e2
   .exact hi.2 j (by omega)
  .obtain ⟨j,hj,rfl⟩:=List.getElem_of_mem hx
   have:=hi.2 j (by omega);rwa [gd hj] at this
 .rintro o (⟨rfl,h⟩|⟨n,rfl,h⟩)
  .exact tS (.inl ⟨rfl,h⟩)
  .exact tS (.inr h)
 .rcases hn with h|h
  .exact h.2
  .have:=of_decide_eq_false e;omega
theorem zd2 {l:List Int} (hl:l.length<=100):Tot (Xi K l) fun b=>b=true->∀k∈l,1<=k/\k<=5 :=
 tB (ziF (l:=l) (f:=XI K) (P:=fun k=>1<=k/\k<=5) (by omega) (fun x _=>tS fun e=>by simpa using e) fun _ _=>rfl) fun b hb=>tS fun e=>hb (by simpa using e)
theorem zjh (hs:szM m):Tot (kV K c t m) fun b=>b=true->okMt c t m:=by
 have hp:=hs.p;have hl:=hs.l;have hc:=hs.c;unfold kV;refine tB (P:=fun b=>b=false->True/\True) (orB (fun _=>trivial) ((badT (P:=True) (R:=True) ((zd2 (by omega)).mono fun _ _ _=>trivial)))) fun b _=>tB (P:=fun b=>b=false->True/\(0<=m.Result/\m.Result<=5)) (orB (fun _=>trivial) (tB (P:=fun b=>b=false->0<=m.Result/\m.Result<=5) (tN (fun _=>tS fun e=>?_) fun e=>tS fun _=>by omega) fun b hb=>tS hb)) fun d hd=>tC (fun _=>tS fun e=>by cases e) fun e1=>tD (fun _=>tS fun e=>by cases e) fun _=>tB (zd2 (by omega)) fun f hf=>tC (fun _=>tS fun e=>by cases e) fun e2=>tD (fun _=>tS fun e=>by cases e) fun e3=>tI (by omega) fun _=>?_
 .have:decide (m.Result>=1)=true/\decide (m.Result<=5)=true:=by simpa using e
  have h1:=of_decide_eq_true this.1;have h2:=of_decide_eq_true this.2;omega
 rw [KJ (by simp;omega)];refine tB (tS (Q:=fun b=>b=true->m.zK.take m.Params.length=m.Params) fun e=>of_decide_eq_true e) fun g hg=>tC (fun _=>tS fun e=>by cases e) fun e4=>tE (fun _=>tS fun e=>by cases e) fun e5=>tB (ziF (l:=m.Code) (f:=fun x=>ZT K x c t m) (P:=okI c t m) (by omega) (fun x hx=>badT (P:=True) (zkM (hs.v x hx))) fun _ _=>rfl) fun h hh=>tS fun e=>?_;exact ⟨hp,(hd e1).2,hl,hf (noB e2),by omega,hg (noB e4),by omega,hh (by simpa using e)⟩
theorem zhR {n:Nat} {f:Int->Option (List UInt8)} {g:Nat->List UInt8} (hn:n<=100) (hg:∀i,i<n->(g i).length<=6000) (hf:∀i:Nat,i<n->f (i:Int)=some (g i)) {body:(Nat×List (List UInt8×Bool)->Option (Unit ⊕ Bool))->Nat×List (List UInt8×Bool)->Option (Unit ⊕ Bool)} (hb:∀F x1,body F x1=bif (decide (((x1.1:Nat):Int)<(n:Int))) then ((f ((x1.1:Nat):Int)).bind fun x2=>(y8 K x2).bind fun x3=>bif ((!x3)||((mget x1.2 x2).getD false)) then (some (.inr false)) else (ifp (x1.1+1<=9223372036854775807)<|F ((x1.1+1),(mput x1.2 x2 true)))) else (some (.inl ()))) :
  Tot ((rounds body K (0,[])).bind fun x5=>onS x5 (fun x4=>some true) (fun x6=>some x6)) fun b=>b=true->∀i,i<n->(g i).length<=32:=by
 refine tB (P:=fun o=>(o=.inl ()/\∀i,i<n->(g i).length<=32)\/o=.inr false) (tK (fun x=>x.1<=n/\∀i,i<x.1->(g i).length<=32) (fun x=>n - x.1) (fun F x hx hF=>?_) ⟨Nat.zero_le _,fun j hj=>by simp only at hj;omega⟩ (by simp only;omega)) ?_
 .rw [hb]
  refine tD (fun e=>?_) fun e=>tS (.inl ⟨rfl,fun i hi=>hx.2 i (by omega)⟩);rw [hf x.1 (by omega),zu];refine tB (zg3 (hg x.1 (by omega))) fun b hb=>tC (fun _=>tS (.inr rfl)) fun e2=>tI (by omega) fun _=>hF _ ⟨by simp only;omega,fun i hi=>?_⟩ (by simp only;omega)
  by_cases e3:i=x.1
  .rw [e3];exact hb (noB (Bool.or_eq_false_iff.1 e2).1)
  .exact hx.2 i (by simp only at hi;omega)
 .rintro o (⟨rfl,h⟩|rfl)
  .exact tS fun _=>h
  .exact tS fun e=>by cases e
theorem QD {α:Type} [Inhabited α] {l:List α} {P:α->Prop} (h:∀i,i<l.length->P (l.getD i default)):∀x∈l,P x:=fun x hx=>by
 obtain ⟨j,hj,rfl⟩:=List.getElem_of_mem hx;have:=h j hj;rwa [gd hj] at this
theorem zna (hs:szT t):Tot (Z5 K t) fun b=>b=true->okTy t:=by
 have h1:=hs.f;have h2:=hs.m;unfold Z5 YQ YR;refine tC (fun _=>tS fun e=>by cases e) fun _=>tB (zhR (f:=fun i=>YU K i t) (g:=fun i=>(t.Fields.getD i default).Name) (n:=t.Fields.length) (by omega) (fun i hi=>(hs.fi _ (getD_mem hi)).1) (fun i hi=>zy (by omega)) fun _ _=>rfl) fun a ha=>tB (P:=fun b=>b=false->(∀i,i<t.Fields.length->(t.Fields.getD i default).Name.length<=32)/\∀i,i<t.Methods.length->(t.Methods.getD i default).Name.length<=32) (orB (fun e=>ha (noB e)) (badT (P:=True) (zhR (f:=fun i=>YV K i t) (g:=fun i=>(t.Methods.getD i default).Name) (n:=t.Methods.length) (by omega) (fun i hi=>(hs.mi _ (getD_mem hi)).n) (fun i hi=>zy (by omega)) fun _ _=>rfl))) fun b hb=>tC (fun _=>tS fun e=>by cases e) fun e=>tB (ziF (l:=t.Fields) (f:=kW K) (P:=fun f=>(1<=f.Kind/\f.Kind<=5)/\f.Init.Kind=f.Kind/\VV f.Init) (by omega) (fun f hf=>?_) fun _ _=>rfl) fun g hg=>tS fun e2=>?_
 .unfold kW Yl
  refine tB (tS (Q:=fun b=>b=true->1<=f.Kind/\f.Kind<=5) fun e=>by simpa using e) fun k hk=>tB (P:=fun b=>b=false->((1<=f.Kind/\f.Kind<=5)/\f.Init.Kind=f.Kind)/\VV f.Init) (orB (fun e=>?_) ?_) fun d hd=>tS fun e=>⟨(hd e).1.1,(hd e).1.2,(hd e).2⟩
  .obtain ⟨q1,q2⟩:=Bool.or_eq_false_iff.1 e
   exact ⟨hk (noB q1),by simpa using q2⟩
  .exact tB (Ur _) fun q hq=>tS fun e=>hq.1 (noB e)
 .obtain ⟨b1,b2⟩:=hb e
  exact ⟨fun f hf=>⟨QD (P:=fun f:Field=>f.Name.length<=32) b1 f hf,hg (by simpa using e2) f hf⟩,QD (P:=fun m:zk=>m.Name.length<=32) b2⟩
end
theorem zgg {α:Type} [Inhabited α] (f:α->Nat) {l:List α} {i:Nat} (h:i<l.length):((l.take (i+1)).map f).sum=((l.take i).map f).sum+f (l.getD i default):=by
 rw [List.take_succ_eq_append_getElem h,List.map_append,List.sum_append];simp [List.getD,h]
theorem zb0 {c:Code} (hs:szC c):Tot (xI K c) fun b=>b=true->okC c:=by
 have h8:=hs.l;unfold xI Wj;refine tB (P:=fun b=>b=false->True/\∀i,i<c.Types.length->(c.Types.getD i default).Name.length<=32) (orB (fun _=>trivial) (badT (P:=True) (zhR (f:=fun i=>YS K i c) (g:=fun i=>(c.Types.getD i default).Name) (n:=c.Types.length) (by omega) (fun i hi=>(hs.t _ (getD_mem hi)).n) (fun i hi=>zy (by omega)) fun _ _=>rfl))) fun a ha=>tB (P:=fun b=>b=false->(∀i,i<c.Types.length->(c.Types.getD i default).Name.length<=32)/\∀t∈c.Types,okTy t) (orB (fun e=>(ha e).2) (tB (ziF (l:=c.Types) (f:=YT K) (P:=okTy) (by omega) (fun t ht=>badT (P:=True) (zna (hs.t t ht))) fun _ _=>rfl) fun b hb=>tS hb)) fun b hb=>tC (fun _=>tS fun e=>by cases e) fun e=>?_;obtain ⟨b1,b2⟩:=hb e;refine tB (P:=fun o=>(o=.inl ()/\(c.Types.map cnt).sum<=3000/\∀t∈c.Types,∀m∈t.Methods,okMt c t m/\m.Code.length<=3000)\/o=.inr false) (tK (fun x=>x.1<=3000/\x.2<=c.Types.length/\x.1=((c.Types.take x.2).map cnt).sum/\∀i,i<x.2->∀m∈(c.Types.getD i default).Methods,okMt c (c.Types.getD i default) m/\m.Code.length<=3000) (fun x=>c.Types.length - x.2) (fun F x hx hF=>?_) ⟨by decide,Nat.zero_le _,rfl,fun i hi=>by simp only at hi;omega⟩ (by simp only;omega)) ?_
 .obtain ⟨x1,x2,x4,x3⟩:=hx
  refine tD (fun e=>tI (by omega) fun _=>?_) fun e=>tS (.inl ⟨rfl,by rw [List.take_of_length_le (by omega)] at x4;omega,QD fun i hi=>x3 i (by omega)⟩);have hxl:x.2<c.Types.length:=by omega
  have ht:=hs.t _ (getD_mem (l:=c.Types) (i:=x.2) hxl);have hm:=ht.m;refine tB (P:=fun o=>(∃n,o=.inl n/\n<=3000/\n=x.1+cnt (c.Types.getD x.2 default)/\∀m∈(c.Types.getD x.2 default).Methods,okMt c (c.Types.getD x.2 default) m/\m.Code.length<=3000)\/o=.inr (.inr false)) (tK (fun y=>y.1<=3000/\y.2<=(c.Types.getD x.2 default).Methods.length/\y.1=x.1+(((c.Types.getD x.2 default).Methods.take y.2).map (·.Code.length)).sum/\∀i,i<y.2->okMt c (c.Types.getD x.2 default) ((c.Types.getD x.2 default).Methods.getD i default)/\((c.Types.getD x.2 default).Methods.getD i default).Code.length<=3000) (fun y=>(c.Types.getD x.2 default).Methods.length - y.2) (fun G y hy hG=>?_) ⟨x1,Nat.zero_le _,rfl,fun i hi=>by simp only at hi;omega⟩ (by simp only;omega)) ?_
  .obtain ⟨y1,y2,y4,y3⟩:=hy
   refine tD (fun e=>tI (by omega) fun _=>?_) fun e=>tS (.inl ⟨_,rfl,y1,by rw [List.take_of_length_le (by omega)] at y4;exact y4,QD fun i hi=>y3 i (by omega)⟩);have hyl:y.2<(c.Types.getD x.2 default).Methods.length:=by omega
   have hq:=ht.mi _ (getD_mem (l:=(c.Types.getD x.2 default).Methods) (i:=y.2) hyl);have:=hq.c;refine tI (by omega) fun _=>tB (P:=fun b=>b=false->y.1+((c.Types.getD x.2 default).Methods.getD y.2 default).Code.length<=3000/\okMt c (c.Types.getD x.2 default) ((c.Types.getD x.2 default).Methods.getD y.2 default)) (orB (fun e=>by have:=of_decide_eq_false e;omega) (badT (P:=True) (zjh hq))) fun b hb=>tC (fun _=>tS (.inr rfl)) fun e2=>tI (by omega) fun _=>hG _ ⟨(hb e2).1,by simp only;omega,by simp only;rw [zgg _ hyl];omega,fun i hi=>?_⟩ (by simp only;omega)
   by_cases e3:i=y.2
   .rw [e3];exact ⟨(hb e2).2,by have:=(hb e2).1;omega⟩
   .exact y3 i (by simp only at hi;omega)
  .rintro o (⟨n,rfl,n1,n3,n2⟩|rfl)
   .refine tI (by omega) fun _=>hF _ ⟨n1,by simp only;omega,by simp only;rw [zgg _ hxl];omega,fun i hi=>?_⟩ (by simp only;omega)
    by_cases e3:i=x.2
    .rw [e3];exact n2
    .exact x3 i (by simp only at hi;omega)
   .exact tS (.inr rfl)
 .rintro o (⟨rfl,h0,h⟩|rfl)
  .exact tS fun _=>⟨h0,QD b1,b2,h⟩
  .exact tS fun e=>by cases e
end Md
end Go.Proofs.YtbijabmjbgplbaaGreatDoor
namespace Go.Proofs.YtbijabmjbgplbaaGreatDoor
namespace Md
def resK (m:zk):List Int:=if m.Result=0 then [] else [m.Result]
def xJ (c:Code) (x:Instr):zk:=(c.Types.getD x.A.toNat default).Methods.getD x.B.toNat default
inductive Ef (c:Code) (t:zq) (m:zk) (x:Instr):List Int->List Int->Prop
 | push (h:x.Op=1):Ef c t m x [] [x.Value.Kind]
 | load (h:x.Op=2):Ef c t m x [] [m.zK.getD x.A.toNat default]
 | store (h:x.Op=3):Ef c t m x [m.zK.getD x.A.toNat default] []
 | get (h:x.Op=4):Ef c t m x [] [(t.Fields.getD x.A.toNat default).Kind]
 | put (h:x.Op=5):Ef c t m x [(t.Fields.getD x.A.toNat default).Kind] []
 | self (h:x.Op=6):Ef c t m x [] [3]
 | neg (h:x.Op=7):Ef c t m x [1] [1]
 | not (h:x.Op=8):Ef c t m x [2] [2]
 | ar (h:x.Op=9\/x.Op=11\/x.Op=12\/x.Op=13\/x.Op=14):Ef c t m x [1,1] [1]
 | cat (h:x.Op=10):Ef c t m x [3,3] [3]
 | eq (k:Int) (h:x.Op=15\/x.Op=16):Ef c t m x [k,k] [2]
 | cmp (k:Int) (h:x.Op=17\/x.Op=18\/x.Op=19\/x.Op=20) (hk:k=1\/k=3):Ef c t m x [k,k] [2]
 | len (k:Int) (h:x.Op=21) (hk:k=3\/k=4\/k=5):Ef c t m x [k] [1]
 | at4 (h:x.Op=22):Ef c t m x [4,1] [1]
 | at5 (h:x.Op=22):Ef c t m x [5,1] [3]
 | app4 (h:x.Op=23):Ef c t m x [4,1] [4]
 | app5 (h:x.Op=23):Ef c t m x [5,3] [5]
 | set4 (h:x.Op=24):Ef c t m x [4,1,1] [4]
 | set5 (h:x.Op=24):Ef c t m x [5,1,3] [5]
 | str (h:x.Op=25):Ef c t m x [1] [3]
 | ints (h:x.Op=26):Ef c t m x (List.replicate x.A.toNat 1) [4]
 | strs (h:x.Op=27):Ef c t m x (List.replicate x.A.toNat 3) [5]
 | jif (h:x.Op=29):Ef c t m x [2] []
 | call (h:x.Op=30):Ef c t m x ([3]++(xJ c x).Params) (resK (xJ c x))
 | drop (k:Int) (h:x.Op=31):Ef c t m x [k] []
 | ret (h:x.Op=32):Ef c t m x (resK m) []
 | non (h:x.Op=28\/x.Op=33):Ef c t m x [] []
 | emit (h:x.Op=34):Ef c t m x [3,1] []
 | zls (h:x.Op=35):Ef c t m x [3,1,1] []
 | cancel (h:x.Op=36):Ef c t m x [3] []
section
variable {c:Code} {t:zq} {m:zk} {x:Instr}
theorem zf8:Yn K m=some (resK m):=by
 unfold Yn resK
 by_cases h:m.Result=0
 .rw [if_pos h,h];rfl
 .rw [if_neg h,beq_eq_false_iff_ne.2 h];rfl
theorem zlt:(resK m).length<=1:=by unfold resK;split<;>simp
def QE (c:Code) (t:zq) (m:zk) (x:Instr) (es:List Eff):Prop:=es.length<=3/\∀e∈es,Ef c t m x e.takes e.puts/\e.takes.length<=30/\e.puts.length<=1
theorem qe1 {a p:List Int} (h:Ef c t m x a p) (ha:a.length<=30) (hp:p.length<=1):QE c t m x [⟨a,p⟩] :=
 ⟨by simp,fun e he=>by rw [List.mem_singleton.1 he];exact ⟨h,ha,hp⟩⟩
theorem qe2 {a p b q:List Int} (h:Ef c t m x a p/\a.length<=30/\p.length<=1) (k:Ef c t m x b q/\b.length<=30/\q.length<=1):QE c t m x [⟨a,p⟩,⟨b,q⟩] :=
 ⟨by simp,fun e he=>by
  simp only [List.mem_cons,List.not_mem_nil,or_false] at he;rcases he with rfl|rfl
  .exact h
  .exact k⟩
theorem qb {a p:List Int} {P:List Eff->Prop} (h:P [⟨a,p⟩]):Tot ((zQ K a p).bind fun x=>some x) P:=tS h
theorem zhU {top:Int} (hx:okI c t m x) (hc:x.Op=30->(xJ c x).Params.length<=4):Tot (Xh K c t m x top) (QE c t m x):=by
 unfold Xh;refine tE (fun e=>qb (qe1 (.push e) (by simp) (by simp))) fun n1=>tE (fun e=>tI (hx.loc (.inl e)) fun _=>qb (qe1 (.load e) (by simp) (by simp))) fun n2=>tE (fun e=>tI (hx.loc (.inr e)) fun _=>qb (qe1 (.store e) (by simp) (by simp))) fun n3=>tE (fun e=>tI (hx.fld (.inl e)) fun _=>qb (qe1 (.get e) (by simp) (by simp))) fun n4=>tE (fun e=>tI (hx.fld (.inr e)) fun _=>qb (qe1 (.put e) (by simp) (by simp))) fun n5=>tE (fun e=>qb (qe1 (.self e) (by simp) (by simp))) fun n6=>tE (fun e=>qb (qe1 (.neg e) (by simp) (by simp))) fun n7=>tE (fun e=>qb (qe1 (.not e) (by simp) (by simp))) fun n8=>?_;refine tB (orI (orI (orI (orI orJ)))) fun b hb=>tC (fun e=>qb (qe1 (.ar (hb.1 e)) (by simp) (by simp))) fun e9=>tE (fun e=>qb (qe1 (.cat e) (by simp) (by simp))) fun n10=>tB (orI orJ) fun d hd=>tC (fun e=>qb (qe1 (.eq top (hd.1 e)) (by simp) (by simp))) fun e15=>tB (orI (orI (orI orJ))) fun f hf=>tC (fun e=>tS (qe2 ⟨.cmp 1 (hf.1 e) (.inl rfl),by simp,by simp⟩ ⟨.cmp 3 (hf.1 e) (.inr rfl),by simp,by simp⟩)) fun e17=>?_;refine tE (fun e=>tS ⟨by simp,fun y hy=>?_⟩) fun n21=>tE (fun e=>tS (qe2 ⟨.at4 e,by simp,by simp⟩ ⟨.at5 e,by simp,by simp⟩)) fun n22=>tE (fun e=>tS (qe2 ⟨.app4 e,by simp,by simp⟩ ⟨.app5 e,by simp,by simp⟩)) fun n23=>tE (fun e=>tS (qe2 ⟨.set4 e,by simp,by simp⟩ ⟨.set5 e,by simp,by simp⟩)) fun n24=>tE (fun e=>qb (qe1 (.str e) (by simp) (by simp))) fun n25=>tE (fun e=>?_) fun n26=>tE (fun e=>?_) fun n27=>tE (fun e=>qb (qe1 (.jif e) (by simp) (by simp))) fun n29=>tE (fun e=>tI (hx.call e).1 fun _=>tI (hx.call e).2 fun _=>tI (by have:(xJ c x).Params.length<=4:=hc e;show 1+(xJ c x).Params.length<=4000000;omega) fun _=>?_) fun n30=>tE (fun e=>qb (qe1 (.drop top e) (by simp) (by simp))) fun n31=>tE (fun e=>?_) fun n32=>tE (fun e=>qb (qe1 (.emit e) (by simp) (by simp))) fun n34=>tE (fun e=>qb (qe1 (.zls e) (by simp) (by simp))) fun n35=>tE (fun e=>qb (qe1 (.cancel e) (by simp) (by simp))) fun n36=>qb (qe1 (.non ?_) (by simp) (by simp))
 .simp only [List.mem_cons,List.not_mem_nil,or_false] at hy
  rcases hy with rfl|rfl|rfl
  .exact ⟨.len 3 e (.inl rfl),by simp,by simp⟩
  .exact ⟨.len 4 e (.inr (.inl rfl)),by simp,by simp⟩
  .exact ⟨.len 5 e (.inr (.inr rfl)),by simp,by simp⟩
 .have:=hx.mak (.inl e)
  unfold Ym kL;rw [zy (by simp;omega),zu,zu];exact qb (qe1 (.ints e) (by simp;omega) (by simp))
 .have:=hx.mak (.inr e)
  unfold Ym kL;rw [zy (by simp;omega),zu,zu];exact qb (qe1 (.strs e) (by simp;omega) (by simp))
 .rw [zf8,zu]
  exact qb (qe1 (.call e) (show ([3]++(xJ c x).Params).length<=30 by have:=hc e;simp only [List.length_append,List.length_singleton];omega) zlt)
 .rw [zf8,zu]
  exact qb (qe1 (.ret e) (Nat.le_trans zlt (by decide)) (by simp))
 .have:=hx.o
  have a9:¬_:=fun h=>by rw [hb.2 h] at e9;cases e9
  have a15:¬_:=fun h=>by rw [hd.2 h] at e15;cases e15
  have a17:¬_:=fun h=>by rw [hf.2 h] at e17;cases e17
  omega
structure Af (c:Code) (t:zq) (m:zk) (x:Instr) (s r:List Int):Prop where
 ex:∃S a p,Ef c t m x a p/\s=S++a/\r=S++p/\(x.Op=32\/x.Op=30->S=[])
 l:r.length<=40
theorem zlL {s:List Int} (hx:okI c t m x) (hc:x.Op=30->(xJ c x).Params.length<=4) (hs:s.length<=40):Tot (WH K c t m x s) fun r=>r.2=true->Af c t m x s r.1:=by
 unfold WH;refine tB (P:=fun o=>(∃n,o=.inl n)\/o=.inr ([],false)) (tD (fun e=>?_) fun _=>tC (fun _=>tS (.inr rfl)) fun _=>tS (.inl ⟨_,rfl⟩)) ?_
 .rw [W_id (by omega) (by omega)]
  exact tI (by omega) fun _=>tS (.inl ⟨_,rfl⟩)
 rintro o (⟨n,rfl⟩|rfl)
 .refine tB (zhU (top:=n) hx hc) fun es hes=>tB (P:=fun o=>o=.inl ()\/∃r:List Int×Bool,o=.inr r/\(r.2=true->Af c t m x s r.1)) (tK (fun i=>i<=es.length) (fun i=>es.length - i) (fun F i hi hF=>?_) (Nat.zero_le _) (by have:=hes.1;omega)) ?_
  .refine tD (fun e=>tI (by omega) fun _=>?_) fun _=>tS (.inl rfl)
   obtain ⟨q1,q2,q3⟩:=hes.2 _ (getD_mem (l:=es) (i:=i) (by omega));have l3:=hes.1;generalize es.getD i default=ef at q1 q2 q3 ⊢;rw [W_id (by omega) (by omega)];refine tI (by omega) fun _=>tD (fun _=>tI (by omega) fun _=>hF (i+1) (by omega) (by omega)) fun e2=>tI (by omega) fun _=>tI (by omega) fun _=>?_;rw [KJ (by simp;omega)];refine tB (tS (Q:=fun b=>b=true->_) fun e=>of_decide_eq_true e) fun b hb=>tC (fun _=>tI (by omega) fun _=>hF (i+1) (by omega) (by omega)) fun e3=>tC (fun _=>tS (.inr ⟨_,rfl,fun e=>by cases e⟩)) fun e4=>tI rfl fun _=>tI (by omega) fun _=>tI (by simp;omega) fun _=>tS (.inr ⟨_,rfl,fun e5=>?_⟩);rw [W_id (by omega) (by omega)] at e5;have e5:=of_decide_eq_true e5;refine ⟨⟨_,_,_,q1,?_,rfl,fun h=>?_⟩,by simp;omega⟩
   .have q4:=List.take_append_drop (((s.length:Nat):Int) - ((ef.takes.length:Nat):Int)).toNat s
    rw [hb (noB e3)] at q4;exact q4.symm
   .have:¬(((s.length:Nat):Int) - ((ef.takes.length:Nat):Int)>0):=fun h2=>by
     rw [decide_eq_true h2,Bool.true_and] at e4;rcases h with h|h<;>simp [h] at e4
    rw [show (((s.length:Nat):Int) - ((ef.takes.length:Nat):Int)).toNat=0 by omega];rfl
  .rintro o (rfl|⟨r,rfl,hr⟩)
   .exact tS fun e=>by cases e
   .exact tS hr
 .exact tS fun e=>by cases e
def SJ (m:zk) (i j:Nat):Prop:=((m.Code.getD i default).Op≠32/\(m.Code.getD i default).Op≠33/\(m.Code.getD i default).Op≠28/\j=i+1)\/(((m.Code.getD i default).Op=28\/(m.Code.getD i default).Op=29)/\(j:Int)=(m.Code.getD i default).A)
theorem zoh {i:Nat} (hi:i<m.Code.length) (hl:m.Code.length<=100000) (hx:okI c t m (m.Code.getD i default)):Tot (ZC K m (i:Int)) fun r=>r.1=true->r.2.length<=2/\(∀a∈r.2,0<=a/\a<(m.Code.length:Int))/\∀j:Nat,SJ m i j->(j:Int)∈r.2:=by
 unfold ZC;rw [W_id (by omega) (by omega)];simp only [Int.toNat_natCast];refine tI (by omega) fun _=>tB (orI orJ) fun b hb=>tC (fun e=>tS fun _=>⟨by simp,by simp,fun j hj=>?_⟩) fun e=>tE (fun e2=>tS fun _=>⟨by simp,fun a ha=>?_,fun j hj=>?_⟩) fun n28=>tE (fun _=>tS fun e=>by cases e) fun e3=>tE (fun e2=>tS fun _=>⟨by simp,fun a ha=>?_,fun j hj=>?_⟩) fun n29=>tS fun _=>⟨by simp,fun a ha=>?_,fun j hj=>?_⟩
 .have:=hb.1 e
  rcases hj with ⟨h1,h2,_⟩|⟨h1,_⟩<;>omega
 .rw [List.mem_singleton.1 ha];exact hx.jmp (.inl e2)
 .rcases hj with ⟨_,_,h,_⟩|⟨_,h⟩
  .exact absurd e2 h
  .rw [h];simp
 .have:=hx.jmp (.inr e2)
  simp only [List.mem_cons,List.not_mem_nil,or_false] at ha;rcases ha with rfl|rfl<;>omega
 .rcases hj with ⟨_,_,_,h⟩|⟨_,h⟩
  .rw [h];simp
  .rw [h];simp
 .rw [List.mem_singleton.1 ha];omega
 .rcases hj with ⟨_,_,_,h⟩|⟨h,_⟩
  .rw [h];simp
  .rcases h with h|h<;>contradiction
end
end Md
end Go.Proofs.YtbijabmjbgplbaaGreatDoor
