import Derived.Test.YtclffekkjfhpdaaQMd
namespace Go.Proofs.Ytclffekkjfhpdaa
set_option linter.unusedVariables false
namespace Md
structure Value where
  Kind : Int
  N : Int
  S : List UInt8
  I : List Int
  L : List (List UInt8)
  deriving Inhabited, DecidableEq
def Value.ok (x : Value) : Prop := Md.I64 x.Kind ∧ Md.I64 x.N ∧ (∀ y ∈ x.I, Md.I64 y)
structure Field where
  Name : List UInt8
  Kind : Int
  Init : Value
  deriving Inhabited, DecidableEq
def Field.ok (x : Field) : Prop := Md.I64 x.Kind ∧ x.Init.ok
structure Instr where
  Op : Int
  A : Int
  B : Int
  Value : Value
  deriving Inhabited, DecidableEq
def Instr.ok (x : Instr) : Prop := Md.I64 x.Op ∧ Md.I64 x.A ∧ Md.I64 x.B ∧ x.Value.ok
structure CodeMethod where
  Name : List UInt8
  Params : List Int
  Result : Int
  Locals : List Int
  Code : List Instr
  deriving Inhabited, DecidableEq
def CodeMethod.ok (x : CodeMethod) : Prop := (∀ y ∈ x.Params, Md.I64 y) ∧ Md.I64 x.Result ∧ (∀ y ∈ x.Locals, Md.I64 y) ∧ (∀ y ∈ x.Code, y.ok)
structure CodeType where
  Name : List UInt8
  Fields : List Field
  Methods : List CodeMethod
  deriving Inhabited, DecidableEq
def CodeType.ok (x : CodeType) : Prop := (∀ y ∈ x.Fields, y.ok) ∧ (∀ y ∈ x.Methods, y.ok)
structure Code where
  Types : List CodeType
  deriving Inhabited, DecidableEq
def Code.ok (x : Code) : Prop := (∀ y ∈ x.Types, y.ok)
def lexer_letter (k : Nat) (a0 : UInt8) : Option Bool :=
  some ((((decide ((a0.toNat : Int) ≥ 97)) && (decide ((a0.toNat : Int) ≤ 122))) || ((decide ((a0.toNat : Int) ≥ 65)) && (decide ((a0.toNat : Int) ≤ 90)))) || ((a0.toNat : Int) == 95))
def lexer_digit (k : Nat) (a0 : UInt8) : Option Bool :=
  some ((decide ((a0.toNat : Int) ≥ 48)) && (decide ((a0.toNat : Int) ≤ 57)))
def lexer_word_1 (k : Nat) (a0 : UInt8) : Option Bool :=
  (lexer_letter k a0).bind fun x1 => ((bif x1 then (some true) else ((lexer_digit k a0).bind fun x3 => some x3)) : Option Bool).bind fun x2 => some x2
def zqan (k : Nat) (a0 : List UInt8) : Nat → Nat → Option Nat
  | 0, _ => none
  | n2 + 1, s2_0 => ((bif (decide (((s2_0 : Nat) : Int) < ((a0.length : Nat) : Int))) then (Md.ifp (s2_0 < a0.length) <| (lexer_word_1 k (a0.getD s2_0 0)).bind fun x7 => some x7) else (some false)) : Option Bool).bind fun x3 => bif x3 then (Md.ifp (s2_0 + 1 ≤ 9223372036854775807) <| zqan k a0 n2 (s2_0 + 1)) else (some s2_0)
def lexer_run__lexer_word_1 (k : Nat) (a0 : List UInt8) : Option Int :=
  ((zqan k a0 k 0).bind fun x2_0 => some x2_0 : Option Nat).bind fun x1_0 => some ((x1_0 : Nat) : Int)
def lexer_word (k : Nat) (a0 : List UInt8) : Option Int :=
  ((bif (decide (a0 = ([] : List UInt8))) then (some true) else (Md.ifp (0 < a0.length) <| (lexer_letter k (a0.getD 0 0)).bind fun x5 => some (!x5))) : Option Bool).bind fun x1 => bif x1 then (some 0) else ((lexer_run__lexer_word_1 k a0).bind fun x3 => some x3)
def lexer_IsKeyword (k : Nat) (a0 : List UInt8) : Option Bool :=
  bif (decide (a0 = ([97, 99, 116, 111, 114] : List UInt8))) then (some true) else (bif (decide (a0 = ([115, 116, 97, 116, 101] : List UInt8))) then (some true) else (bif (decide (a0 = ([109, 101, 116, 104, 111, 100] : List UInt8))) then (some true) else (bif (decide (a0 = ([108, 101, 116] : List UInt8))) then (some true) else (bif (decide (a0 = ([105, 102] : List UInt8))) then (some true) else (bif (decide (a0 = ([101, 108, 115, 101] : List UInt8))) then (some true) else (bif (decide (a0 = ([119, 104, 105, 108, 101] : List UInt8))) then (some true) else (bif (decide (a0 = ([114, 101, 116, 117, 114, 110] : List UInt8))) then (some true) else (bif (decide (a0 = ([102, 97, 105, 108] : List UInt8))) then (some true) else (bif (decide (a0 = ([99, 97, 108, 108] : List UInt8))) then (some true) else (bif (decide (a0 = ([101, 109, 105, 116] : List UInt8))) then (some true) else (bif (decide (a0 = ([114, 101, 109, 105, 110, 100] : List UInt8))) then (some true) else (bif (decide (a0 = ([99, 97, 110, 99, 101, 108] : List UInt8))) then (some true) else (bif (decide (a0 = ([115, 101, 108, 102] : List UInt8))) then (some true) else (bif (decide (a0 = ([116, 114, 117, 101] : List UInt8))) then (some true) else (bif (decide (a0 = ([102, 97, 108, 115, 101] : List UInt8))) then (some true) else (bif (decide (a0 = ([105, 110, 116] : List UInt8))) then (some true) else (bif (decide (a0 = ([98, 111, 111, 108] : List UInt8))) then (some true) else (bif (decide (a0 = ([115, 116, 114, 105, 110, 103] : List UInt8))) then (some true) else (bif (decide (a0 = ([105, 110, 116, 115] : List UInt8))) then (some true) else (bif (decide (a0 = ([115, 116, 114, 105, 110, 103, 115] : List UInt8))) then (some true) else (some false)))))))))))))))))))))
def lexer_IsName (k : Nat) (a0 : List UInt8) : Option Bool :=
  ((bif ((!(decide (a0 = ([] : List UInt8)))) && (decide (((a0.length : Nat) : Int) ≤ 32))) then ((lexer_word k a0).bind fun x5 => some (x5 == ((a0.length : Nat) : Int))) else (some false)) : Option Bool).bind fun x2 => ((bif x2 then ((lexer_IsKeyword k a0).bind fun x4 => some (!x4)) else (some false)) : Option Bool).bind fun x3 => some x3
def bytecode_kindOf (k : Nat) (a0 : Int) : Option Bool :=
  some ((decide (a0 ≥ 1)) && (decide (a0 ≤ 5)))
def bytecode_validType_1 (k : Nat) (a0 : Int) (c0 : CodeType) : Option (List UInt8) :=
  Md.ifp (0 ≤ a0 ∧ a0 < ((c0.Fields.length : Nat) : Int)) <| some ((c0.Fields.getD ((a0).toNat) default).Name)
def bytecode_validType_2 (k : Nat) (a0 : Int) (c0 : CodeType) : Option (List UInt8) :=
  Md.ifp (0 ≤ a0 ∧ a0 < ((c0.Methods.length : Nat) : Int)) <| some ((c0.Methods.getD ((a0).toNat) default).Name)
def bytecode_rightForm_1 (k : Nat) (a0 : Int) (c0 : Code) : Option (List UInt8) :=
  Md.ifp (0 ≤ a0 ∧ a0 < ((c0.Types.length : Nat) : Int)) <| some ((c0.Types.getD ((a0).toNat) default).Name)
def bytecode_kindsOf_1 (k : Nat) (a0 : Int) : Option Bool :=
  (bytecode_kindOf k a0).bind fun x1 => some (!x1)
def zqbw (k : Nat) (a0 : List Int) : Nat → Nat → Option (Sum Unit Int)
  | 0, _ => none
  | n1 + 1, s1_0 => bif (decide (((s1_0 : Nat) : Int) < ((a0.length : Nat) : Int))) then (Md.ifp (s1_0 < a0.length) <| (bytecode_kindsOf_1 k (a0.getD s1_0 default)).bind fun x4 => bif x4 then (some (Sum.inr ((s1_0 : Nat) : Int))) else (Md.ifp (s1_0 + 1 ≤ 9223372036854775807) <| zqbw k a0 n1 (s1_0 + 1))) else (some (Sum.inl ()))
def zqbu (k : Nat) (a0 : List Int) : Option Int :=
  (zqbw k a0 k 0).bind fun o1 => Md.onS o1 (fun x1_0 => some (-1)) (fun r1 => some r1)
def zqau (k : Nat) (a0 : List Int) : Option Bool :=
  (zqbu k a0).bind fun x1 => some (decide (x1 ≥ 0))
def bytecode_kindsOf (k : Nat) (a0 : List Int) : Option Bool :=
  (zqau k a0).bind fun x1 => some (!x1)
def bytecode_FindType_1 (k : Nat) (a0 : CodeType) (c0 : List UInt8) : Option Bool :=
  some (decide (a0.Name = c0))
def zqbk (k : Nat) (a0 : List CodeType) (c1_0 : List UInt8) : Nat → Nat → Option (Sum Unit Int)
  | 0, _ => none
  | n1 + 1, s1_0 => bif (decide (((s1_0 : Nat) : Int) < ((a0.length : Nat) : Int))) then (Md.ifp (s1_0 < a0.length) <| (bytecode_FindType_1 k (a0.getD s1_0 default) c1_0).bind fun x4 => bif x4 then (some (Sum.inr ((s1_0 : Nat) : Int))) else (Md.ifp (s1_0 + 1 ≤ 9223372036854775807) <| zqbk k a0 c1_0 n1 (s1_0 + 1))) else (some (Sum.inl ()))
def zqbi (k : Nat) (a0 : List CodeType) (c1_0 : List UInt8) : Option Int :=
  (zqbk k a0 c1_0 k 0).bind fun o1 => Md.onS o1 (fun x1_0 => some (-1)) (fun r1 => some r1)
def zqaj (k : Nat) (a0 : List CodeType) (c1_0 : List UInt8) : Option (Int × Bool) :=
  (zqbi k a0 c1_0).bind fun x1 => some ((max x1 0), (decide (x1 ≥ 0)))
def bytecode_FindType (k : Nat) (a0 : Code) (a1 : List UInt8) : Option (Int × Bool) :=
  (zqaj k a0.Types a1).bind fun x1 => some (x1.1, x1.2)
end Md
end Go.Proofs.Ytclffekkjfhpdaa
namespace Go.Proofs.Ytclffekkjfhpdaa
set_option linter.unusedVariables false
namespace Md
def wire_ValidValue_loop1 (k : Nat) (a0 : Value) : Nat → Nat → Option (Sum Unit Bool)
  | 0, _ => none
  | n16 + 1, s16_0 => bif (decide (((s16_0 : Nat) : Int) < ((a0.L.length : Nat) : Int))) then (Md.ifp (s16_0 < a0.L.length) <| bif (decide ((((a0.L.getD s16_0 default).length : Nat) : Int) > 64)) then (some (Sum.inr false)) else (Md.ifp (s16_0 + 1 ≤ 9223372036854775807) <| wire_ValidValue_loop1 k a0 n16 (s16_0 + 1))) else (some (Sum.inl ()))
def wire_ValidValue (k : Nat) (a0 : Value) : Option Bool :=
  bif ((decide (a0.Kind < 0)) || (decide (a0.Kind > 5))) then (some false) else (bif (((a0.N != 0) && (a0.Kind != 1)) && ((a0.Kind != 2) || (a0.N != 1))) then (some false) else (bif ((!(decide (a0.S = ([] : List UInt8)))) && (a0.Kind != 3)) then (some false) else (bif ((decide (((a0.I.length : Nat) : Int) > 0)) && (a0.Kind != 4)) then (some false) else (bif ((decide (((a0.L.length : Nat) : Int) > 0)) && (a0.Kind != 5)) then (some false) else (bif (((decide (((a0.S.length : Nat) : Int) > 64)) || (decide (((a0.I.length : Nat) : Int) > 16))) || (decide (((a0.L.length : Nat) : Int) > 16))) then (some false) else ((wire_ValidValue_loop1 k a0 k 0).bind fun o16 => Md.onS o16 (fun x16_0 => some true) (fun r16 => some r16)))))))
def bytecode_validType_3 (k : Nat) (a0 : Field) : Option Bool :=
  (bytecode_kindOf k a0.Kind).bind fun x1 => ((bif ((!x1) || (a0.Init.Kind != a0.Kind)) then (some true) else ((wire_ValidValue k a0.Init).bind fun x4 => some (!x4))) : Option Bool).bind fun x3 => some x3
def zqbq (k : Nat) (a0 : List Field) : Nat → Nat → Option (Sum Unit Int)
  | 0, _ => none
  | n1 + 1, s1_0 => bif (decide (((s1_0 : Nat) : Int) < ((a0.length : Nat) : Int))) then (Md.ifp (s1_0 < a0.length) <| (bytecode_validType_3 k (a0.getD s1_0 default)).bind fun x4 => bif x4 then (some (Sum.inr ((s1_0 : Nat) : Int))) else (Md.ifp (s1_0 + 1 ≤ 9223372036854775807) <| zqbq k a0 n1 (s1_0 + 1))) else (some (Sum.inl ()))
def zqbo (k : Nat) (a0 : List Field) : Option Int :=
  (zqbq k a0 k 0).bind fun o1 => Md.onS o1 (fun x1_0 => some (-1)) (fun r1 => some r1)
def zqaq (k : Nat) (a0 : List Field) : Option Bool :=
  (zqbo k a0).bind fun x1 => some (decide (x1 ≥ 0))
def slices_Equal_loop1 (k : Nat) (a0 : List Int) (a1 : List Int) : Nat → Nat → Option (Sum Unit Bool)
  | 0, _ => none
  | n2 + 1, s2_0 => bif (decide (((s2_0 : Nat) : Int) < ((a0.length : Nat) : Int))) then (Md.ifp (s2_0 < a0.length) <| Md.ifp (s2_0 < a1.length) <| bif ((a0.getD s2_0 default) != (a1.getD s2_0 default)) then (some (Sum.inr false)) else (Md.ifp (s2_0 + 1 ≤ 9223372036854775807) <| slices_Equal_loop1 k a0 a1 n2 (s2_0 + 1))) else (some (Sum.inl ()))
def slices_Equal (k : Nat) (a0 : List Int) (a1 : List Int) : Option Bool :=
  bif (((a0.length : Nat) : Int) != ((a1.length : Nat) : Int)) then (some false) else ((slices_Equal_loop1 k a0 a1 k 0).bind fun o2 => Md.onS o2 (fun x2_0 => some true) (fun r2 => some r2))
def bytecode_usesA (k : Nat) (a0 : Int) : Option Bool :=
  some (((((decide (a0 ≥ 2)) && (decide (a0 ≤ 5))) || (a0 == 26)) || (a0 == 27)) || ((decide (a0 ≥ 28)) && (decide (a0 ≤ 30))))
def wire_same_int_loop1 (k : Nat) (a0 : List Int) (a1 : List Int) : Nat → Nat → Option (Sum Unit Bool)
  | 0, _ => none
  | n2 + 1, s2_0 => bif (decide (((s2_0 : Nat) : Int) < ((a0.length : Nat) : Int))) then (Md.ifp (s2_0 < a0.length) <| Md.ifp (s2_0 < a1.length) <| bif ((a0.getD s2_0 default) != (a1.getD s2_0 default)) then (some (Sum.inr false)) else (Md.ifp (s2_0 + 1 ≤ 9223372036854775807) <| wire_same_int_loop1 k a0 a1 n2 (s2_0 + 1))) else (some (Sum.inl ()))
def wire_same_int (k : Nat) (a0 : List Int) (a1 : List Int) : Option Bool :=
  bif (((a0.length : Nat) : Int) != ((a1.length : Nat) : Int)) then (some false) else ((wire_same_int_loop1 k a0 a1 k 0).bind fun o2 => Md.onS o2 (fun x2_0 => some true) (fun r2 => some r2))
def wire_same_string_loop1 (k : Nat) (a0 : List (List UInt8)) (a1 : List (List UInt8)) : Nat → Nat → Option (Sum Unit Bool)
  | 0, _ => none
  | n2 + 1, s2_0 => bif (decide (((s2_0 : Nat) : Int) < ((a0.length : Nat) : Int))) then (Md.ifp (s2_0 < a0.length) <| Md.ifp (s2_0 < a1.length) <| bif (!(decide ((a0.getD s2_0 default) = (a1.getD s2_0 default)))) then (some (Sum.inr false)) else (Md.ifp (s2_0 + 1 ≤ 9223372036854775807) <| wire_same_string_loop1 k a0 a1 n2 (s2_0 + 1))) else (some (Sum.inl ()))
def wire_same_string (k : Nat) (a0 : List (List UInt8)) (a1 : List (List UInt8)) : Option Bool :=
  bif (((a0.length : Nat) : Int) != ((a1.length : Nat) : Int)) then (some false) else ((wire_same_string_loop1 k a0 a1 k 0).bind fun o2 => Md.onS o2 (fun x2_0 => some true) (fun r2 => some r2))
def wire_SameValue (k : Nat) (a0 : Value) (a1 : Value) : Option Bool :=
  ((bif (((a0.Kind == a1.Kind) && (a0.N == a1.N)) && (decide (a0.S = a1.S))) then ((wire_same_int k a0.I a1.I).bind fun x6 => some x6) else (some false)) : Option Bool).bind fun x3 => ((bif x3 then ((wire_same_string k a0.L a1.L).bind fun x5 => some x5) else (some false)) : Option Bool).bind fun x4 => some x4
def bytecode_validInstr_1 (k : Nat) (a0 : Int) (a1 : Int) : Option Bool :=
  some ((decide (a0 ≥ 0)) && (decide (a0 < a1)))
def bytecode_validInstr (k : Nat) (a0 : Code) (a1 : CodeType) (a2 : CodeMethod) (a3 : Instr) : Option Bool :=
  ((bif ((decide (a3.Op < 1)) || (decide (a3.Op > 36))) then (some true) else ((bytecode_usesA k a3.Op).bind fun x33 => some ((!x33) && (a3.A != 0)))) : Option Bool).bind fun x2 => bif (x2 || ((a3.Op != 30) && (a3.B != 0))) then (some false) else (((bif (a3.Op != 1) then ((wire_SameValue k a3.Value (⟨0, 0, ([] : List UInt8), ([] : List Int), ([] : List (List UInt8))⟩ : Value)).bind fun x32 => some (!x32)) else (some false)) : Option Bool).bind fun x6 => bif x6 then (some false) else (bif (a3.Op == 1) then ((wire_ValidValue k a3.Value).bind fun x9 => some (x9 && (a3.Value.Kind != 0))) else (bif (a3.Op == 2) then ((bytecode_validInstr_1 k a3.A ((a2.Locals.length : Nat) : Int)).bind fun x12 => some x12) else (bif (a3.Op == 3) then ((bytecode_validInstr_1 k a3.A ((a2.Locals.length : Nat) : Int)).bind fun x14 => some x14) else (bif (a3.Op == 4) then ((bytecode_validInstr_1 k a3.A ((a1.Fields.length : Nat) : Int)).bind fun x16 => some x16) else (bif (a3.Op == 5) then ((bytecode_validInstr_1 k a3.A ((a1.Fields.length : Nat) : Int)).bind fun x18 => some x18) else (bif (a3.Op == 26) then ((bytecode_validInstr_1 k a3.A 17).bind fun x20 => some x20) else (bif (a3.Op == 27) then ((bytecode_validInstr_1 k a3.A 17).bind fun x22 => some x22) else (bif (a3.Op == 28) then ((bytecode_validInstr_1 k a3.A ((a2.Code.length : Nat) : Int)).bind fun x24 => some x24) else (bif (a3.Op == 29) then ((bytecode_validInstr_1 k a3.A ((a2.Code.length : Nat) : Int)).bind fun x26 => some x26) else (bif (a3.Op == 30) then ((bytecode_validInstr_1 k a3.A ((a0.Types.length : Nat) : Int)).bind fun x28 => bif x28 then (Md.ifp (0 ≤ a3.A ∧ a3.A < ((a0.Types.length : Nat) : Int)) <| (bytecode_validInstr_1 k a3.B ((((a0.Types.getD ((a3.A).toNat) default).Methods).length : Nat) : Int)).bind fun x31 => some x31) else (some false)) else (some true))))))))))))
def bytecode_validMethod_1 (k : Nat) (a0 : Instr) (c0 : Code) (c1 : CodeType) (c2 : CodeMethod) : Option Bool :=
  (bytecode_validInstr k c0 c1 c2 a0).bind fun x1 => some (!x1)
def zqbt (k : Nat) (a0 : List Instr) (c1_0 : Code) (c1_1 : CodeType) (c1_2 : CodeMethod) : Nat → Nat → Option (Sum Unit Int)
  | 0, _ => none
  | n1 + 1, s1_0 => bif (decide (((s1_0 : Nat) : Int) < ((a0.length : Nat) : Int))) then (Md.ifp (s1_0 < a0.length) <| (bytecode_validMethod_1 k (a0.getD s1_0 default) c1_0 c1_1 c1_2).bind fun x4 => bif x4 then (some (Sum.inr ((s1_0 : Nat) : Int))) else (Md.ifp (s1_0 + 1 ≤ 9223372036854775807) <| zqbt k a0 c1_0 c1_1 c1_2 n1 (s1_0 + 1))) else (some (Sum.inl ()))
def zqbr (k : Nat) (a0 : List Instr) (c1_0 : Code) (c1_1 : CodeType) (c1_2 : CodeMethod) : Option Int :=
  (zqbt k a0 c1_0 c1_1 c1_2 k 0).bind fun o1 => Md.onS o1 (fun x1_0 => some (-1)) (fun r1 => some r1)
def zqas (k : Nat) (a0 : List Instr) (c1_0 : Code) (c1_1 : CodeType) (c1_2 : CodeMethod) : Option Bool :=
  (zqbr k a0 c1_0 c1_1 c1_2).bind fun x1 => some (decide (x1 ≥ 0))
def bytecode_validMethod (k : Nat) (a0 : Code) (a1 : CodeType) (a2 : CodeMethod) : Option Bool :=
  ((bif (decide (((a2.Params.length : Nat) : Int) > 4)) then (some true) else ((bytecode_kindsOf k a2.Params).bind fun x15 => some (!x15))) : Option Bool).bind fun x1 => ((bif x1 then (some true) else (((bif (a2.Result != 0) then ((bytecode_kindOf k a2.Result).bind fun x14 => some (!x14)) else (some false)) : Option Bool).bind fun x13 => some x13)) : Option Bool).bind fun x2 => bif x2 then (some false) else (bif (decide (((a2.Locals.length : Nat) : Int) > 8)) then (some false) else ((bytecode_kindsOf k a2.Locals).bind fun x5 => bif (!x5) then (some false) else (bif (decide (((a2.Locals.length : Nat) : Int) < ((a2.Params.length : Nat) : Int))) then (some false) else (Md.ifp (a2.Params.length ≤ a2.Locals.length) <| (slices_Equal k (a2.Locals.take a2.Params.length) a2.Params).bind fun x9 => bif (!x9) then (some false) else (bif (((a2.Code.length : Nat) : Int) == 0) then (some false) else ((zqas k a2.Code a0 a1 a2).bind fun x12 => some (!x12)))))))
end Md
end Go.Proofs.Ytclffekkjfhpdaa
namespace Go.Proofs.Ytclffekkjfhpdaa
set_option linter.unusedVariables false
namespace Md
def zqac (k : Nat) (a0 : Int) (c1_0 : Code) : Nat → Nat → (List (List UInt8)) → Option (Sum Unit Bool)
  | 0, _, _ => none
  | n1 + 1, s1_0, s1_1 => bif (decide (((s1_0 : Nat) : Int) < a0)) then ((bytecode_rightForm_1 k ((s1_0 : Nat) : Int) c1_0).bind fun x3 => (lexer_IsName k x3).bind fun x4 => bif ((!x4) || (decide (x3 ∈ s1_1))) then (some (Sum.inr false)) else (Md.ifp (¬ (x3 ∈ s1_1)) <| Md.ifp (s1_0 + 1 ≤ 9223372036854775807) <| zqac k a0 c1_0 n1 (s1_0 + 1) (s1_1 ++ [x3]))) else (some (Sum.inl ()))
def zqaa (k : Nat) (a0 : Int) (c1_0 : Code) : Option Bool :=
  (zqac k a0 c1_0 k 0 ([] : List (List UInt8))).bind fun o1 => Md.onS o1 (fun x1_0 => some true) (fun r1 => some r1)
def zqaf (k : Nat) (a0 : Int) (c1_0 : CodeType) : Nat → Nat → (List (List UInt8)) → Option (Sum Unit Bool)
  | 0, _, _ => none
  | n1 + 1, s1_0, s1_1 => bif (decide (((s1_0 : Nat) : Int) < a0)) then ((bytecode_validType_1 k ((s1_0 : Nat) : Int) c1_0).bind fun x3 => (lexer_IsName k x3).bind fun x4 => bif ((!x4) || (decide (x3 ∈ s1_1))) then (some (Sum.inr false)) else (Md.ifp (¬ (x3 ∈ s1_1)) <| Md.ifp (s1_0 + 1 ≤ 9223372036854775807) <| zqaf k a0 c1_0 n1 (s1_0 + 1) (s1_1 ++ [x3]))) else (some (Sum.inl ()))
def zqad (k : Nat) (a0 : Int) (c1_0 : CodeType) : Option Bool :=
  (zqaf k a0 c1_0 k 0 ([] : List (List UInt8))).bind fun o1 => Md.onS o1 (fun x1_0 => some true) (fun r1 => some r1)
def zqai (k : Nat) (a0 : Int) (c1_0 : CodeType) : Nat → Nat → (List (List UInt8)) → Option (Sum Unit Bool)
  | 0, _, _ => none
  | n1 + 1, s1_0, s1_1 => bif (decide (((s1_0 : Nat) : Int) < a0)) then ((bytecode_validType_2 k ((s1_0 : Nat) : Int) c1_0).bind fun x3 => (lexer_IsName k x3).bind fun x4 => bif ((!x4) || (decide (x3 ∈ s1_1))) then (some (Sum.inr false)) else (Md.ifp (¬ (x3 ∈ s1_1)) <| Md.ifp (s1_0 + 1 ≤ 9223372036854775807) <| zqai k a0 c1_0 n1 (s1_0 + 1) (s1_1 ++ [x3]))) else (some (Sum.inl ()))
def zqag (k : Nat) (a0 : Int) (c1_0 : CodeType) : Option Bool :=
  (zqai k a0 c1_0 k 0 ([] : List (List UInt8))).bind fun o1 => Md.onS o1 (fun x1_0 => some true) (fun r1 => some r1)
def bytecode_validType (k : Nat) (a0 : CodeType) : Option Bool :=
  bif ((decide (((a0.Fields.length : Nat) : Int) > 8)) || (decide (((a0.Methods.length : Nat) : Int) > 16))) then (some false) else ((zqad k ((a0.Fields.length : Nat) : Int) a0).bind fun x3 => ((bif (!x3) then (some true) else ((zqag k ((a0.Methods.length : Nat) : Int) a0).bind fun x7 => some (!x7))) : Option Bool).bind fun x4 => bif x4 then (some false) else ((zqaq k a0.Fields).bind fun x6 => some (!x6)))
def bytecode_rightForm_2 (k : Nat) (a0 : CodeType) : Option Bool :=
  (bytecode_validType k a0).bind fun x1 => some (!x1)
def zqbn (k : Nat) (a0 : List CodeType) : Nat → Nat → Option (Sum Unit Int)
  | 0, _ => none
  | n1 + 1, s1_0 => bif (decide (((s1_0 : Nat) : Int) < ((a0.length : Nat) : Int))) then (Md.ifp (s1_0 < a0.length) <| (bytecode_rightForm_2 k (a0.getD s1_0 default)).bind fun x4 => bif x4 then (some (Sum.inr ((s1_0 : Nat) : Int))) else (Md.ifp (s1_0 + 1 ≤ 9223372036854775807) <| zqbn k a0 n1 (s1_0 + 1))) else (some (Sum.inl ()))
def zqbl (k : Nat) (a0 : List CodeType) : Option Int :=
  (zqbn k a0 k 0).bind fun o1 => Md.onS o1 (fun x1_0 => some (-1)) (fun r1 => some r1)
def zqao (k : Nat) (a0 : List CodeType) : Option Bool :=
  (zqbl k a0).bind fun x1 => some (decide (x1 ≥ 0))
def bytecode_rightForm_loop2 (k : Nat) (a0 : Code) (s4_1 : Nat) : Nat → Nat → Nat → Option (Sum Nat Bool)
  | 0, _, _ => none
  | n9 + 1, s9_0, s9_1 => bif (decide (((s9_1 : Nat) : Int) < ((((a0.Types.getD s4_1 default).Methods).length : Nat) : Int))) then (Md.ifp (s9_1 < ((a0.Types.getD s4_1 default).Methods).length) <| Md.ifp (s9_0 + (((((a0.Types.getD s4_1 default).Methods).getD s9_1 default).Code).length) ≤ 9223372036854775807) <| ((bif (decide ((((s9_0 + (((((a0.Types.getD s4_1 default).Methods).getD s9_1 default).Code).length)) : Nat) : Int) > 3000)) then (some true) else ((bytecode_validMethod k a0 (a0.Types.getD s4_1 default) (((a0.Types.getD s4_1 default).Methods).getD s9_1 default)).bind fun x16 => some (!x16))) : Option Bool).bind fun x13 => bif x13 then (some (Sum.inr false)) else (Md.ifp (s9_1 + 1 ≤ 9223372036854775807) <| bytecode_rightForm_loop2 k a0 s4_1 n9 (s9_0 + (((((a0.Types.getD s4_1 default).Methods).getD s9_1 default).Code).length)) (s9_1 + 1))) else (some (Sum.inl s9_0))
def bytecode_rightForm_loop1 (k : Nat) (a0 : Code) : Nat → Nat → Nat → Option (Sum Unit Bool)
  | 0, _, _ => none
  | n4 + 1, s4_0, s4_1 => bif (decide (((s4_1 : Nat) : Int) < ((a0.Types.length : Nat) : Int))) then ((Md.ifp (s4_1 < a0.Types.length) <| (bytecode_rightForm_loop2 k a0 s4_1 k s4_0 0).bind fun o9 => Md.onS o9 (fun x9_0 => some (Sum.inl x9_0)) (fun r9 => some (Sum.inr r9)) : Option (Sum Nat Bool)).bind fun o6 => Md.onS o6 (fun x6_0 => Md.ifp (s4_1 + 1 ≤ 9223372036854775807) <| bytecode_rightForm_loop1 k a0 n4 x6_0 (s4_1 + 1)) (fun r6 => some (Sum.inr r6))) else (some (Sum.inl ()))
def bytecode_rightForm (k : Nat) (a0 : Code) : Option Bool :=
  ((bif (decide (((a0.Types.length : Nat) : Int) > 8)) then (some true) else ((zqaa k ((a0.Types.length : Nat) : Int) a0).bind fun x18 => some (!x18))) : Option Bool).bind fun x1 => ((bif x1 then (some true) else ((zqao k a0.Types).bind fun x17 => some x17)) : Option Bool).bind fun x2 => bif x2 then (some false) else ((bytecode_rightForm_loop1 k a0 k 0 0).bind fun o4 => Md.onS o4 (fun x4_0 => some true) (fun r4 => some r4))
end Md
end Go.Proofs.Ytclffekkjfhpdaa
namespace Go.Proofs.Ytclffekkjfhpdaa
set_option linter.unusedVariables false
namespace Md
structure Bytecodewriter where
  b : List UInt8
  deriving Inhabited, DecidableEq
def wire_extend (k : Nat) (a0 : List UInt8) (a1 : Int) : Option (List UInt8) :=
  Md.ifp (0 ≤ (Md.W (((a0.length : Nat) : Int) + a1))) <| Md.ifp (((Md.W (((a0.length : Nat) : Int) + a1))).toNat ≤ 16000000) <| Md.ifp (a0.length ≤ ((Md.W (((a0.length : Nat) : Int) + a1))).toNat) <| some (a0.take (List.replicate a0.length (0 : UInt8)).length ++ (List.replicate a0.length (0 : UInt8)).drop a0.length)
def wire_putUint_loop1 (k : Nat) : Nat → UInt64 → (List UInt8) → Option (UInt64 × (List UInt8))
  | 0, _, _ => none
  | n3 + 1, s3_0, s3_1 => bif (decide ((s3_0.toNat : Int) ≥ 128)) then (Md.ifp (s3_1.length + [((s3_0.toUInt8) ||| (128 : UInt8))].length ≤ 4000000) <| wire_putUint_loop1 k n3 (Md.shr64 s3_0 7) (s3_1 ++ [((s3_0.toUInt8) ||| (128 : UInt8))])) else (some (s3_0, s3_1))
def wire_putUint (k : Nat) (a0 : List UInt8) (a1 : UInt64) : Option (List UInt8) :=
  ((wire_putUint_loop1 k k a1 a0).bind fun x3_0 => some (x3_0.1, x3_0.2) : Option (UInt64 × (List UInt8))).bind fun x1_0 => Md.ifp (x1_0.2.length + [(x1_0.1.toUInt8)].length ≤ 4000000) <| some (x1_0.2 ++ [(x1_0.1.toUInt8)])
def wire_AppendUint (k : Nat) (a0 : List UInt8) (a1 : UInt64) : Option (List UInt8) :=
  (wire_extend k a0 10).bind fun x1 => (wire_putUint k x1 a1).bind fun x2 => some x2
def bytecode_writer_number (k : Nat) (a0 : Bytecodewriter) (a1 : Int) : Option Bytecodewriter :=
  (wire_AppendUint k a0.b (UInt64.ofInt a1)).bind fun x1 => some (⟨x1⟩ : Bytecodewriter)
def wire_putString (k : Nat) (a0 : List UInt8) (a1 : List UInt8) : Option (List UInt8) :=
  (wire_putUint k a0 (UInt64.ofNat a1.length)).bind fun x1 => Md.ifp (x1.length + a1.length ≤ 4000000) <| some (x1 ++ a1)
def wire_AppendString (k : Nat) (a0 : List UInt8) (a1 : List UInt8) : Option (List UInt8) :=
  Md.ifp (a1.length + 10 ≤ 9223372036854775807) <| (wire_extend k a0 (((a1.length + 10) : Nat) : Int)).bind fun x2 => (wire_putString k x2 a1).bind fun x3 => some x3
def bytecode_writer_text (k : Nat) (a0 : Bytecodewriter) (a1 : List UInt8) : Option Bytecodewriter :=
  (wire_AppendString k a0.b a1).bind fun x1 => some (⟨x1⟩ : Bytecodewriter)
def wire_putInt (k : Nat) (a0 : List UInt8) (a1 : Int) : Option (List UInt8) :=
  (wire_putUint k a0 ((Md.shl64 (UInt64.ofInt a1) 1) ^^^ (UInt64.ofInt (Md.ishr a1 63)))).bind fun x1 => some x1
def wire_AppendInts_loop1 (k : Nat) (a1 : List Int) : Nat → Nat → (List UInt8) → Option (List UInt8)
  | 0, _, _ => none
  | n5 + 1, s5_0, s5_1 => bif (decide (((s5_0 : Nat) : Int) < ((a1.length : Nat) : Int))) then (Md.ifp (s5_0 < a1.length) <| (wire_putInt k s5_1 (a1.getD s5_0 default)).bind fun x8 => Md.ifp (s5_0 + 1 ≤ 9223372036854775807) <| wire_AppendInts_loop1 k a1 n5 (s5_0 + 1) x8) else (some s5_1)
def wire_AppendInts (k : Nat) (a0 : List UInt8) (a1 : List Int) : Option (List UInt8) :=
  Md.ifp (2 * a1.length ≤ 9223372036854775807) <| Md.ifp (10 + (2 * a1.length) ≤ 9223372036854775807) <| (wire_extend k a0 (((10 + (2 * a1.length)) : Nat) : Int)).bind fun x3 => (wire_putUint k x3 (UInt64.ofNat a1.length)).bind fun x4 => (wire_AppendInts_loop1 k a1 k 0 x4).bind fun x5_0 => some x5_0
def wire_AppendStrings_loop1 (k : Nat) (a1 : List (List UInt8)) : Nat → Nat → (List UInt8) → Option (List UInt8)
  | 0, _, _ => none
  | n5 + 1, s5_0, s5_1 => bif (decide (((s5_0 : Nat) : Int) < ((a1.length : Nat) : Int))) then (Md.ifp (s5_0 < a1.length) <| (wire_putString k s5_1 (a1.getD s5_0 default)).bind fun x8 => Md.ifp (s5_0 + 1 ≤ 9223372036854775807) <| wire_AppendStrings_loop1 k a1 n5 (s5_0 + 1) x8) else (some s5_1)
def wire_AppendStrings (k : Nat) (a0 : List UInt8) (a1 : List (List UInt8)) : Option (List UInt8) :=
  Md.ifp (10 * a1.length ≤ 9223372036854775807) <| Md.ifp (10 + (10 * a1.length) ≤ 9223372036854775807) <| (wire_extend k a0 (((10 + (10 * a1.length)) : Nat) : Int)).bind fun x3 => (wire_putUint k x3 (UInt64.ofNat a1.length)).bind fun x4 => (wire_AppendStrings_loop1 k a1 k 0 x4).bind fun x5_0 => some x5_0
def wire_AppendValue (k : Nat) (a0 : List UInt8) (a1 : Value) : Option (List UInt8) :=
  (wire_ValidValue k a1).bind fun x1 => bif (!x1) then (some ([] : List UInt8)) else ((wire_extend k a0 16).bind fun x3 => Md.ifp (x3.length + [(UInt8.ofInt a1.Kind)].length ≤ 4000000) <| bif (a1.Kind == 1) then ((wire_putInt k (x3 ++ [(UInt8.ofInt a1.Kind)]) a1.N).bind fun x6 => some x6) else (bif (a1.Kind == 2) then (Md.ifp ((x3 ++ [(UInt8.ofInt a1.Kind)]).length + [(UInt8.ofInt a1.N)].length ≤ 4000000) <| some ((x3 ++ [(UInt8.ofInt a1.Kind)]) ++ [(UInt8.ofInt a1.N)])) else (bif (a1.Kind == 3) then ((wire_putString k (x3 ++ [(UInt8.ofInt a1.Kind)]) a1.S).bind fun x10 => some x10) else (bif (a1.Kind == 4) then ((wire_AppendInts k (x3 ++ [(UInt8.ofInt a1.Kind)]) a1.I).bind fun x12 => some x12) else (bif (a1.Kind == 5) then ((wire_AppendStrings k (x3 ++ [(UInt8.ofInt a1.Kind)]) a1.L).bind fun x14 => some x14) else (some (x3 ++ [(UInt8.ofInt a1.Kind)])))))))
def zqam (k : Nat) (a1 : CodeMethod) : Nat → Nat → (List UInt8) → Option (List UInt8)
  | 0, _, _ => none
  | n6 + 1, s6_0, s6_1 => bif (decide (((s6_0 : Nat) : Int) < ((a1.Code.length : Nat) : Int))) then ((Md.ifp (s6_0 < a1.Code.length) <| (bytecode_writer_number k (⟨s6_1⟩ : Bytecodewriter) ((a1.Code.getD s6_0 default).Op)).bind fun x11 => (bytecode_writer_number k x11 ((a1.Code.getD s6_0 default).A)).bind fun x12 => (bytecode_writer_number k x12 ((a1.Code.getD s6_0 default).B)).bind fun x13 => bif (((a1.Code.getD s6_0 default).Op) == 1) then ((wire_AppendValue k x13.b ((a1.Code.getD s6_0 default).Value)).bind fun x15 => some x15) else (some x13.b) : Option (List UInt8)).bind fun x8_0 => Md.ifp (s6_0 + 1 ≤ 9223372036854775807) <| zqam k a1 n6 (s6_0 + 1) x8_0) else (some s6_1)
def bytecode_writer_method (k : Nat) (a0 : Bytecodewriter) (a1 : CodeMethod) : Option Bytecodewriter :=
  (bytecode_writer_text k a0 a1.Name).bind fun x1 => (wire_AppendInts k x1.b a1.Params).bind fun x2 => (wire_AppendInts k x2 a1.Locals).bind fun x3 => (bytecode_writer_number k (⟨x3⟩ : Bytecodewriter) a1.Result).bind fun x4 => (bytecode_writer_number k x4 ((a1.Code.length : Nat) : Int)).bind fun x5 => (zqam k a1 k 0 x5.b).bind fun x6_0 => some (⟨x6_0⟩ : Bytecodewriter)
end Md
end Go.Proofs.Ytclffekkjfhpdaa
namespace Go.Proofs.Ytclffekkjfhpdaa
set_option linter.unusedVariables false
namespace Md
def bytecode_Encode_loop3 (k : Nat) (a0 : Code) (s4_0 : Nat) : Nat → Nat → (List UInt8) → Option (List UInt8)
  | 0, _, _ => none
  | n13 + 1, s13_0, s13_1 => bif (decide (((s13_0 : Nat) : Int) < ((((a0.Types.getD s4_0 default).Methods).length : Nat) : Int))) then (Md.ifp (s13_0 < ((a0.Types.getD s4_0 default).Methods).length) <| (bytecode_writer_method k (⟨s13_1⟩ : Bytecodewriter) (((a0.Types.getD s4_0 default).Methods).getD s13_0 default)).bind fun x16 => Md.ifp (s13_0 + 1 ≤ 9223372036854775807) <| bytecode_Encode_loop3 k a0 s4_0 n13 (s13_0 + 1) x16.b) else (some s13_1)
def bytecode_Encode_loop2 (k : Nat) (a0 : Code) (s4_0 : Nat) : Nat → Nat → (List UInt8) → Option (List UInt8)
  | 0, _, _ => none
  | n11 + 1, s11_0, s11_1 => bif (decide (((s11_0 : Nat) : Int) < ((((a0.Types.getD s4_0 default).Fields).length : Nat) : Int))) then (Md.ifp (s11_0 < ((a0.Types.getD s4_0 default).Fields).length) <| (bytecode_writer_text k (⟨s11_1⟩ : Bytecodewriter) ((((a0.Types.getD s4_0 default).Fields).getD s11_0 default).Name)).bind fun x20 => (bytecode_writer_number k x20 ((((a0.Types.getD s4_0 default).Fields).getD s11_0 default).Kind)).bind fun x21 => (wire_AppendValue k x21.b ((((a0.Types.getD s4_0 default).Fields).getD s11_0 default).Init)).bind fun x22 => Md.ifp (s11_0 + 1 ≤ 9223372036854775807) <| bytecode_Encode_loop2 k a0 s4_0 n11 (s11_0 + 1) x22) else (some s11_1)
def bytecode_Encode_loop1 (k : Nat) (a0 : Code) : Nat → Nat → (List UInt8) → Option (List UInt8)
  | 0, _, _ => none
  | n4 + 1, s4_0, s4_1 => bif (decide (((s4_0 : Nat) : Int) < ((a0.Types.length : Nat) : Int))) then ((Md.ifp (s4_0 < a0.Types.length) <| (bytecode_writer_text k (⟨s4_1⟩ : Bytecodewriter) ((a0.Types.getD s4_0 default).Name)).bind fun x9 => (bytecode_writer_number k x9 ((((a0.Types.getD s4_0 default).Fields).length : Nat) : Int)).bind fun x10 => (bytecode_Encode_loop2 k a0 s4_0 k 0 x10.b).bind fun x11_0 => (bytecode_writer_number k (⟨x11_0⟩ : Bytecodewriter) ((((a0.Types.getD s4_0 default).Methods).length : Nat) : Int)).bind fun x12 => (bytecode_Encode_loop3 k a0 s4_0 k 0 x12.b).bind fun x13_0 => some x13_0 : Option (List UInt8)).bind fun x6_0 => Md.ifp (s4_0 + 1 ≤ 9223372036854775807) <| bytecode_Encode_loop1 k a0 n4 (s4_0 + 1) x6_0) else (some s4_1)
def bytecode_Encode (k : Nat) (a0 : Code) : Option (List UInt8) :=
  (bytecode_rightForm k a0).bind fun x1 => bif (!x1) then (some ([] : List UInt8)) else ((bytecode_writer_number k (⟨([] : List UInt8)⟩ : Bytecodewriter) ((a0.Types.length : Nat) : Int)).bind fun x3 => (bytecode_Encode_loop1 k a0 k 0 x3.b).bind fun x4_0 => some x4_0)
end Md
end Go.Proofs.Ytclffekkjfhpdaa
namespace Go.Proofs.Ytclffekkjfhpdaa
set_option linter.unusedVariables false
namespace Md
structure Bytecodereader where
  b : List UInt8
  failed : Bool
  deriving Inhabited, DecidableEq
def wire_Uint_loop1 (k : Nat) (a0 : List UInt8) : Nat → UInt64 → Nat → Option (Sum Unit (UInt64 × Int × Int))
  | 0, _, _ => none
  | n1 + 1, s1_0, s1_1 => bif (decide (((s1_1 : Nat) : Int) < ((a0.length : Nat) : Int))) then (Md.ifp (s1_1 < a0.length) <| bif (((((s1_1 : Nat) : Int) == 9) && (decide ((((a0.getD s1_1 default)).toNat : Int) > 1))) || ((decide (((s1_1 : Nat) : Int) > 0)) && ((((a0.getD s1_1 default)).toNat : Int) == 0))) then (some (Sum.inr ((0 : UInt64), 0, 3))) else (Md.ifp (7 * s1_1 ≤ 9223372036854775807) <| bif (decide ((((a0.getD s1_1 default)).toNat : Int) < 128)) then (Md.ifp (s1_1 + 1 ≤ 9223372036854775807) <| some (Sum.inr ((s1_0 ||| (Md.shl64 (((a0.getD s1_1 default) &&& (127 : UInt8)).toUInt64) (7 * s1_1))), (((s1_1 + 1) : Nat) : Int), 0))) else (Md.ifp (s1_1 + 1 ≤ 9223372036854775807) <| wire_Uint_loop1 k a0 n1 (s1_0 ||| (Md.shl64 (((a0.getD s1_1 default) &&& (127 : UInt8)).toUInt64) (7 * s1_1))) (s1_1 + 1)))) else (some (Sum.inl ()))
def wire_Uint (k : Nat) (a0 : List UInt8) : Option (UInt64 × Int × Int) :=
  (wire_Uint_loop1 k a0 k (0 : UInt64) 0).bind fun o1 => Md.onS o1 (fun x1_0 => some ((0 : UInt64), 0, 2)) (fun r1 => some r1)
def wire_Int (k : Nat) (a0 : List UInt8) : Option (Int × Int × Int) :=
  (wire_Uint k a0).bind fun x1 => some ((Md.ixor (Md.W ((Md.shr64 x1.1 1).toNat : Int)) (Md.W (-(Md.W ((x1.1 &&& (1 : UInt64)).toNat : Int))))), x1.2.1, x1.2.2)
def wire_length (k : Nat) (a0 : List UInt8) (a1 : Int) : Option (Int × Int × Int) :=
  bif (decide (a1 < 0)) then (some (0, 0, 1)) else ((wire_Uint k a0).bind fun x2 => bif (x2.2.2 != 0) then (some (0, 0, x2.2.2)) else (bif (decide ((x2.1.toNat : Int) > (((UInt64.ofInt a1)).toNat : Int))) then (some (0, 0, 5)) else (some ((Md.W (x2.1.toNat : Int)), x2.2.1, 0))))
def wire_String (k : Nat) (a0 : List UInt8) (a1 : Int) : Option ((List UInt8) × Int × Int) :=
  (wire_length k a0 a1).bind fun x1 => bif (x1.2.2 != 0) then (some (([] : List UInt8), 0, x1.2.2)) else (bif (decide ((Md.W (((a0.length : Nat) : Int) - x1.2.1)) < x1.1)) then (some (([] : List UInt8), 0, 2)) else (Md.ifp (0 ≤ x1.2.1) <| Md.ifp (0 ≤ (Md.W (x1.2.1 + x1.1))) <| Md.ifp ((x1.2.1).toNat ≤ ((Md.W (x1.2.1 + x1.1))).toNat ∧ ((Md.W (x1.2.1 + x1.1))).toNat ≤ a0.length) <| some (((a0.drop ((x1.2.1).toNat)).take (((Md.W (x1.2.1 + x1.1))).toNat - ((x1.2.1).toNat))), (Md.W (x1.2.1 + x1.1)), 0)))
def zqbx (k : Nat) (a0 : List UInt8) (x1 : Int × Int × Int) : Nat → Int → Int → Nat → (List Int) → Option (Int × Int × (List Int))
  | 0, _, _, _, _ => none
  | n2 + 1, s2_0, s2_1, s2_2, s2_3 => bif ((s2_1 == 0) && (decide (((s2_2 : Nat) : Int) < x1.1))) then (Md.ifp (0 ≤ s2_0) <| Md.ifp ((s2_0).toNat ≤ a0.length) <| (wire_Int k (a0.drop ((s2_0).toNat))).bind fun x8 => Md.ifp (s2_3.length + [x8.1].length ≤ 4000000) <| Md.ifp (s2_2 + 1 ≤ 9223372036854775807) <| zqbx k a0 x1 n2 (Md.W (s2_0 + x8.2.1)) x8.2.2 (s2_2 + 1) (s2_3 ++ [x8.1])) else (some (s2_0, s2_1, s2_3))
def wire_list_int__wire_Int (k : Nat) (a0 : List UInt8) (a1 : Int) : Option ((List Int) × Int × Int) :=
  (wire_length k a0 a1).bind fun x1 => (zqbx k a0 x1 k x1.2.1 x1.2.2 0 ([] : List Int)).bind fun x2_0 => bif (x2_0.2.1 != 0) then (some (([] : List Int), 0, x2_0.2.1)) else (some (x2_0.2.2, x2_0.1, 0))
def wire_IntList (k : Nat) (a0 : List UInt8) (a1 : Int) : Option ((List Int) × Int × Int) :=
  (wire_list_int__wire_Int k a0 a1).bind fun x1 => some (x1.1, x1.2.1, x1.2.2)
def wire_StringList_1 (k : Nat) (a0 : List UInt8) : Option ((List UInt8) × Int × Int) :=
  (wire_String k a0 64).bind fun x1 => some (x1.1, x1.2.1, x1.2.2)
def zqca (k : Nat) (a0 : List UInt8) (x1 : Int × Int × Int) : Nat → Int → Int → Nat → (List (List UInt8)) → Option (Int × Int × (List (List UInt8)))
  | 0, _, _, _, _ => none
  | n2 + 1, s2_0, s2_1, s2_2, s2_3 => bif ((s2_1 == 0) && (decide (((s2_2 : Nat) : Int) < x1.1))) then (Md.ifp (0 ≤ s2_0) <| Md.ifp ((s2_0).toNat ≤ a0.length) <| (wire_StringList_1 k (a0.drop ((s2_0).toNat))).bind fun x8 => Md.ifp (s2_3.length + [x8.1].length ≤ 4000000) <| Md.ifp (s2_2 + 1 ≤ 9223372036854775807) <| zqca k a0 x1 n2 (Md.W (s2_0 + x8.2.1)) x8.2.2 (s2_2 + 1) (s2_3 ++ [x8.1])) else (some (s2_0, s2_1, s2_3))
def zqby (k : Nat) (a0 : List UInt8) (a1 : Int) : Option ((List (List UInt8)) × Int × Int) :=
  (wire_length k a0 a1).bind fun x1 => (zqca k a0 x1 k x1.2.1 x1.2.2 0 ([] : List (List UInt8))).bind fun x2_0 => bif (x2_0.2.1 != 0) then (some (([] : List (List UInt8)), 0, x2_0.2.1)) else (some (x2_0.2.2, x2_0.1, 0))
def wire_StringList (k : Nat) (a0 : List UInt8) (a1 : Int) : Option ((List (List UInt8)) × Int × Int) :=
  (zqby k a0 a1).bind fun x1 => some (x1.1, x1.2.1, x1.2.2)
def wire_boolean (k : Nat) (a0 : List UInt8) : Option (Int × Int × Int) :=
  bif (((a0.length : Nat) : Int) == 0) then (some (0, 0, 2)) else (Md.ifp (0 < a0.length) <| bif (decide ((((a0.getD 0 default)).toNat : Int) > 1)) then (some (0, 0, 3)) else (Md.ifp (0 < a0.length) <| some ((((a0.getD 0 default).toNat : Nat) : Int), 1, 0)))
def wire_Value (k : Nat) (a0 : List UInt8) : Option (Value × Int × Int) :=
  bif (((a0.length : Nat) : Int) == 0) then (some ((⟨0, 0, ([] : List UInt8), ([] : List Int), ([] : List (List UInt8))⟩ : Value), 0, 2)) else (Md.ifp (0 < a0.length) <| Md.ifp (1 ≤ a0.length) <| bif ((((a0.getD 0 default).toNat : Nat) : Int) == 0) then (some ((⟨(((a0.getD 0 default).toNat : Nat) : Int), 0, ([] : List UInt8), ([] : List Int), ([] : List (List UInt8))⟩ : Value), 1, 0)) else (bif ((((a0.getD 0 default).toNat : Nat) : Int) == 1) then ((wire_Int k (a0.drop 1)).bind fun x6 => bif (x6.2.2 != 0) then (some ((⟨0, 0, ([] : List UInt8), ([] : List Int), ([] : List (List UInt8))⟩ : Value), 0, x6.2.2)) else (some ((⟨(((a0.getD 0 default).toNat : Nat) : Int), x6.1, ([] : List UInt8), ([] : List Int), ([] : List (List UInt8))⟩ : Value), (Md.W (x6.2.1 + 1)), 0))) else (bif ((((a0.getD 0 default).toNat : Nat) : Int) == 2) then ((wire_boolean k (a0.drop 1)).bind fun x9 => bif (x9.2.2 != 0) then (some ((⟨0, 0, ([] : List UInt8), ([] : List Int), ([] : List (List UInt8))⟩ : Value), 0, x9.2.2)) else (some ((⟨(((a0.getD 0 default).toNat : Nat) : Int), x9.1, ([] : List UInt8), ([] : List Int), ([] : List (List UInt8))⟩ : Value), (Md.W (x9.2.1 + 1)), 0))) else (bif ((((a0.getD 0 default).toNat : Nat) : Int) == 3) then ((wire_String k (a0.drop 1) 64).bind fun x12 => bif (x12.2.2 != 0) then (some ((⟨0, 0, ([] : List UInt8), ([] : List Int), ([] : List (List UInt8))⟩ : Value), 0, x12.2.2)) else (some ((⟨(((a0.getD 0 default).toNat : Nat) : Int), 0, x12.1, ([] : List Int), ([] : List (List UInt8))⟩ : Value), (Md.W (x12.2.1 + 1)), 0))) else (bif ((((a0.getD 0 default).toNat : Nat) : Int) == 4) then ((wire_IntList k (a0.drop 1) 16).bind fun x15 => bif (x15.2.2 != 0) then (some ((⟨0, 0, ([] : List UInt8), ([] : List Int), ([] : List (List UInt8))⟩ : Value), 0, x15.2.2)) else (some ((⟨(((a0.getD 0 default).toNat : Nat) : Int), 0, ([] : List UInt8), x15.1, ([] : List (List UInt8))⟩ : Value), (Md.W (x15.2.1 + 1)), 0))) else (bif ((((a0.getD 0 default).toNat : Nat) : Int) == 5) then ((wire_StringList k (a0.drop 1) 16).bind fun x18 => bif (x18.2.2 != 0) then (some ((⟨0, 0, ([] : List UInt8), ([] : List Int), ([] : List (List UInt8))⟩ : Value), 0, x18.2.2)) else (some ((⟨(((a0.getD 0 default).toNat : Nat) : Int), 0, ([] : List UInt8), ([] : List Int), x18.1⟩ : Value), (Md.W (x18.2.1 + 1)), 0))) else (some ((⟨0, 0, ([] : List UInt8), ([] : List Int), ([] : List (List UInt8))⟩ : Value), 0, 3))))))))
def bytecode_reader_take (k : Nat) (a0 : Bytecodereader) (a1 : Int) (a2 : Int) : Option Bytecodereader :=
  bif (a2 != 0) then (some (⟨a0.b, true⟩ : Bytecodereader)) else (Md.ifp (0 ≤ a1) <| Md.ifp ((a1).toNat ≤ a0.b.length) <| some (⟨(a0.b.drop ((a1).toNat)), a0.failed⟩ : Bytecodereader))
def bytecode_reader_number (k : Nat) (a0 : Bytecodereader) (a1 : Int) : Option (Int × Bytecodereader) :=
  (wire_Uint k a0.b).bind fun x1 => (bytecode_reader_take k a0 x1.2.1 x1.2.2).bind fun x2 => bif (decide ((x1.1.toNat : Int) > (((UInt64.ofInt a1)).toNat : Int))) then (some (0, (⟨x2.b, true⟩ : Bytecodereader))) else (some ((Md.W (x1.1.toNat : Int)), x2))
def bytecode_reader_text (k : Nat) (a0 : Bytecodereader) : Option ((List UInt8) × Bytecodereader) :=
  (wire_String k a0.b 32).bind fun x1 => (bytecode_reader_take k a0 x1.2.1 x1.2.2).bind fun x2 => some (x1.1, x2)
def bytecode_reader_value (k : Nat) (a0 : Bytecodereader) : Option (Value × Bytecodereader) :=
  (wire_Value k a0.b).bind fun x1 => (bytecode_reader_take k a0 x1.2.1 x1.2.2).bind fun x2 => some (x1.1, x2)
def bytecode_reader_list (k : Nat) (a0 : Bytecodereader) (a1 : Int) : Option ((List Int) × Bytecodereader) :=
  (wire_IntList k a0.b a1).bind fun x1 => (bytecode_reader_take k a0 x1.2.1 x1.2.2).bind fun x2 => some (x1.1, x2)
def zqal (k : Nat) : Nat → Int → Bytecodereader → (List Instr) → Option (Bytecodereader × (List Instr))
  | 0, _, _, _ => none
  | n6 + 1, s6_0, s6_1, s6_2 => bif ((decide (s6_0 > 0)) && (!s6_1.failed)) then (((bytecode_reader_number k s6_1 36).bind fun x10 => (bytecode_reader_number k x10.2 9223372036854775807).bind fun x11 => (bytecode_reader_number k x11.2 9223372036854775807).bind fun x12 => bif (x10.1 == 1) then ((bytecode_reader_value k x12.2).bind fun x14 => Md.ifp (s6_2.length + [(⟨x10.1, x11.1, x12.1, x14.1⟩ : Instr)].length ≤ 4000000) <| some (x14.2, (s6_2 ++ [(⟨x10.1, x11.1, x12.1, x14.1⟩ : Instr)]))) else (Md.ifp (s6_2.length + [(⟨x10.1, x11.1, x12.1, (⟨0, 0, ([] : List UInt8), [], []⟩ : Value)⟩ : Instr)].length ≤ 4000000) <| some (x12.2, (s6_2 ++ [(⟨x10.1, x11.1, x12.1, (⟨0, 0, ([] : List UInt8), [], []⟩ : Value)⟩ : Instr)]))) : Option (Bytecodereader × (List Instr))).bind fun x9_0 => zqal k n6 (Md.W (s6_0 - 1)) x9_0.1 x9_0.2) else (some (s6_1, s6_2))
def bytecode_reader_method (k : Nat) (a0 : Bytecodereader) : Option (CodeMethod × Bytecodereader) :=
  (bytecode_reader_text k a0).bind fun x1 => (bytecode_reader_list k x1.2 4).bind fun x2 => (bytecode_reader_list k x2.2 8).bind fun x3 => (bytecode_reader_number k x3.2 5).bind fun x4 => (bytecode_reader_number k x4.2 3000).bind fun x5 => (zqal k k x5.1 x5.2 ([] : List Instr)).bind fun x6_0 => some ((⟨x1.1, x2.1, x4.1, x3.1, x6_0.2⟩ : CodeMethod), x6_0.1)
def bytecode_reader_typ_loop2 (k : Nat) : Nat → Int → Bytecodereader → (List CodeMethod) → Option (Bytecodereader × (List CodeMethod))
  | 0, _, _, _ => none
  | n5 + 1, s5_0, s5_1, s5_2 => bif ((decide (s5_0 > 0)) && (!s5_1.failed)) then ((bytecode_reader_method k s5_1).bind fun x8 => Md.ifp (s5_2.length + [x8.1].length ≤ 4000000) <| bytecode_reader_typ_loop2 k n5 (Md.W (s5_0 - 1)) x8.2 (s5_2 ++ [x8.1])) else (some (s5_1, s5_2))
def bytecode_reader_typ_loop1 (k : Nat) : Nat → Int → Bytecodereader → (List Field) → Option (Bytecodereader × (List Field))
  | 0, _, _, _ => none
  | n3 + 1, s3_0, s3_1, s3_2 => bif ((decide (s3_0 > 0)) && (!s3_1.failed)) then ((bytecode_reader_text k s3_1).bind fun x12 => (bytecode_reader_number k x12.2 5).bind fun x13 => (bytecode_reader_value k x13.2).bind fun x14 => Md.ifp (s3_2.length + [(⟨x12.1, x13.1, x14.1⟩ : Field)].length ≤ 4000000) <| bytecode_reader_typ_loop1 k n3 (Md.W (s3_0 - 1)) x14.2 (s3_2 ++ [(⟨x12.1, x13.1, x14.1⟩ : Field)])) else (some (s3_1, s3_2))
def bytecode_reader_typ (k : Nat) (a0 : Bytecodereader) : Option (CodeType × Bytecodereader) :=
  (bytecode_reader_text k a0).bind fun x1 => (bytecode_reader_number k x1.2 8).bind fun x2 => (bytecode_reader_typ_loop1 k k x2.1 x2.2 ([] : List Field)).bind fun x3_0 => (bytecode_reader_number k x3_0.1 16).bind fun x4 => (bytecode_reader_typ_loop2 k k x4.1 x4.2 ([] : List CodeMethod)).bind fun x5_0 => some ((⟨x1.1, x3_0.2, x5_0.2⟩ : CodeType), x5_0.1)
end Md
end Go.Proofs.Ytclffekkjfhpdaa
namespace Go.Proofs.Ytclffekkjfhpdaa
set_option linter.unusedVariables false
namespace Md
def bytecode_Decode_loop1 (k : Nat) : Nat → Int → Bytecodereader → (List CodeType) → Option (Bytecodereader × (List CodeType))
  | 0, _, _, _ => none
  | n2 + 1, s2_0, s2_1, s2_2 => bif ((decide (s2_0 > 0)) && (!s2_1.failed)) then ((bytecode_reader_typ k s2_1).bind fun x8 => Md.ifp (s2_2.length + [x8.1].length ≤ 4000000) <| bytecode_Decode_loop1 k n2 (Md.W (s2_0 - 1)) x8.2 (s2_2 ++ [x8.1])) else (some (s2_1, s2_2))
def bytecode_Decode (k : Nat) (a0 : List UInt8) : Option (Code × Int × Int) :=
  (bytecode_reader_number k (⟨a0, false⟩ : Bytecodereader) 8).bind fun x1 => (bytecode_Decode_loop1 k k x1.1 x1.2 ([] : List CodeType)).bind fun x2_0 => bif x2_0.1.failed then (some ((⟨([] : List CodeType)⟩ : Code), 0, 3)) else ((bytecode_rightForm k (⟨x2_0.2⟩ : Code)).bind fun x4 => bif (!x4) then (some ((⟨([] : List CodeType)⟩ : Code), 0, 3)) else (some ((⟨x2_0.2⟩ : Code), (Md.W (((a0.length : Nat) : Int) - ((x2_0.1.b.length : Nat) : Int))), 0)))
end Md
end Go.Proofs.Ytclffekkjfhpdaa
namespace Go.Proofs.Ytclffekkjfhpdaa
set_option linter.unusedVariables false
namespace Md
def actorgridlaw20_small_loop1 (k : Nat) (a0 : Value) : Nat → Nat → Option (Sum Unit Bool)
  | 0, _ => none
  | n1 + 1, s1_0 => bif (decide (((s1_0 : Nat) : Int) < ((a0.L.length : Nat) : Int))) then (Md.ifp (s1_0 < a0.L.length) <| bif (decide ((((a0.L.getD s1_0 default).length : Nat) : Int) > 100)) then (some (Sum.inr false)) else (Md.ifp (s1_0 + 1 ≤ 9223372036854775807) <| actorgridlaw20_small_loop1 k a0 n1 (s1_0 + 1))) else (some (Sum.inl ()))
def actorgridlaw20_small (k : Nat) (a0 : Value) : Option Bool :=
  (actorgridlaw20_small_loop1 k a0 k 0).bind fun o1 => Md.onS o1 (fun x1_0 => some (((decide (((a0.S.length : Nat) : Int) ≤ 100)) && (decide (((a0.I.length : Nat) : Int) ≤ 40))) && (decide (((a0.L.length : Nat) : Int) ≤ 40)))) (fun r1 => some r1)
def actorgridlaw20_Small_loop4 (k : Nat) (a0 : Code) (s2_0 : Nat) (s11_0 : Nat) : Nat → Nat → Option (Sum Unit Bool)
  | 0, _ => none
  | n20 + 1, s20_0 => bif (decide (((s20_0 : Nat) : Int) < ((((((a0.Types.getD s2_0 default).Methods).getD s11_0 default).Code).length : Nat) : Int))) then (Md.ifp (s20_0 < ((((a0.Types.getD s2_0 default).Methods).getD s11_0 default).Code).length) <| (actorgridlaw20_small k ((((((a0.Types.getD s2_0 default).Methods).getD s11_0 default).Code).getD s20_0 default).Value)).bind fun x23 => bif (!x23) then (some (Sum.inr false)) else (Md.ifp (s20_0 + 1 ≤ 9223372036854775807) <| actorgridlaw20_Small_loop4 k a0 s2_0 s11_0 n20 (s20_0 + 1))) else (some (Sum.inl ()))
def actorgridlaw20_Small_loop3 (k : Nat) (a0 : Code) (s2_0 : Nat) : Nat → Nat → Option (Sum Unit Bool)
  | 0, _ => none
  | n11 + 1, s11_0 => bif (decide (((s11_0 : Nat) : Int) < ((((a0.Types.getD s2_0 default).Methods).length : Nat) : Int))) then ((Md.ifp (s11_0 < ((a0.Types.getD s2_0 default).Methods).length) <| bif ((((decide (((((((a0.Types.getD s2_0 default).Methods).getD s11_0 default).Name).length : Nat) : Int) > 100)) || (decide (((((((a0.Types.getD s2_0 default).Methods).getD s11_0 default).Params).length : Nat) : Int) > 20))) || (decide (((((((a0.Types.getD s2_0 default).Methods).getD s11_0 default).Locals).length : Nat) : Int) > 40))) || (decide (((((((a0.Types.getD s2_0 default).Methods).getD s11_0 default).Code).length : Nat) : Int) > 120))) then (some (Sum.inr false)) else ((actorgridlaw20_Small_loop4 k a0 s2_0 s11_0 k 0).bind fun o20 => Md.onS o20 (fun x20_0 => some (Sum.inl ())) (fun r20 => some (Sum.inr r20))) : Option (Sum Unit Bool)).bind fun o13 => Md.onS o13 (fun x13_0 => Md.ifp (s11_0 + 1 ≤ 9223372036854775807) <| actorgridlaw20_Small_loop3 k a0 s2_0 n11 (s11_0 + 1)) (fun r13 => some (Sum.inr r13))) else (some (Sum.inl ()))
def actorgridlaw20_Small_loop2 (k : Nat) (a0 : Code) (s2_0 : Nat) : Nat → Nat → Option (Sum Unit Bool)
  | 0, _ => none
  | n10 + 1, s10_0 => bif (decide (((s10_0 : Nat) : Int) < ((((a0.Types.getD s2_0 default).Fields).length : Nat) : Int))) then (Md.ifp (s10_0 < ((a0.Types.getD s2_0 default).Fields).length) <| ((bif (decide (((((((a0.Types.getD s2_0 default).Fields).getD s10_0 default).Name).length : Nat) : Int) > 100)) then (some true) else (Md.ifp (s10_0 < ((a0.Types.getD s2_0 default).Fields).length) <| (actorgridlaw20_small k ((((a0.Types.getD s2_0 default).Fields).getD s10_0 default).Init)).bind fun x32 => some (!x32))) : Option Bool).bind fun x28 => bif x28 then (some (Sum.inr false)) else (Md.ifp (s10_0 + 1 ≤ 9223372036854775807) <| actorgridlaw20_Small_loop2 k a0 s2_0 n10 (s10_0 + 1))) else (some (Sum.inl ()))
def actorgridlaw20_Small_loop1 (k : Nat) (a0 : Code) : Nat → Nat → Option (Sum Unit Bool)
  | 0, _ => none
  | n2 + 1, s2_0 => bif (decide (((s2_0 : Nat) : Int) < ((a0.Types.length : Nat) : Int))) then ((Md.ifp (s2_0 < a0.Types.length) <| bif (((decide (((((a0.Types.getD s2_0 default).Name).length : Nat) : Int) > 100)) || (decide (((((a0.Types.getD s2_0 default).Fields).length : Nat) : Int) > 20))) || (decide (((((a0.Types.getD s2_0 default).Methods).length : Nat) : Int) > 20))) then (some (Sum.inr false)) else ((actorgridlaw20_Small_loop2 k a0 s2_0 k 0).bind fun o10 => Md.onS o10 (fun x10_0 => (actorgridlaw20_Small_loop3 k a0 s2_0 k 0).bind fun o11 => Md.onS o11 (fun x11_0 => some (Sum.inl ())) (fun r11 => some (Sum.inr r11))) (fun r10 => some (Sum.inr r10))) : Option (Sum Unit Bool)).bind fun o4 => Md.onS o4 (fun x4_0 => Md.ifp (s2_0 + 1 ≤ 9223372036854775807) <| actorgridlaw20_Small_loop1 k a0 n2 (s2_0 + 1)) (fun r4 => some (Sum.inr r4))) else (some (Sum.inl ()))
def actorgridlaw20_Small (k : Nat) (a0 : Code) : Option Bool :=
  bif (decide (((a0.Types.length : Nat) : Int) > 20)) then (some false) else ((actorgridlaw20_Small_loop1 k a0 k 0).bind fun o2 => Md.onS o2 (fun x2_0 => some true) (fun r2 => some r2))
def bytecode_result (k : Nat) (a0 : CodeMethod) : Option (List Int) :=
  bif (a0.Result == 0) then (some ([] : List Int)) else (some [a0.Result])
def bytecode_successors (k : Nat) (a0 : CodeMethod) (a1 : Int) : Option ((List Int) × Bool) :=
  Md.ifp (0 ≤ a1 ∧ a1 < ((a0.Code.length : Nat) : Int)) <| bif (((a0.Code.getD ((a1).toNat) default).Op) == 32) then (some (([] : List Int), true)) else (bif (((a0.Code.getD ((a1).toNat) default).Op) == 33) then (some (([] : List Int), true)) else (bif (((a0.Code.getD ((a1).toNat) default).Op) == 28) then (some ([((a0.Code.getD ((a1).toNat) default).A)], true)) else (bif ((Md.W (a1 + 1)) == ((a0.Code.length : Nat) : Int)) then (some (([] : List Int), false)) else (bif (((a0.Code.getD ((a1).toNat) default).Op) == 29) then (some ([(Md.W (a1 + 1)), ((a0.Code.getD ((a1).toNat) default).A)], true)) else (some ([(Md.W (a1 + 1))], true))))))
end Md
end Go.Proofs.Ytclffekkjfhpdaa
namespace Go.Proofs.Ytclffekkjfhpdaa
set_option linter.unusedVariables false
namespace Md
def bytecode_repeat (k : Nat) (a0 : Int) (a1 : Int) : Option (List Int) :=
  Md.ifp (0 ≤ a1 ∧ a1 ≤ 16) <| some (List.replicate a1.toNat a0)
end Md
end Go.Proofs.Ytclffekkjfhpdaa
namespace Go.Proofs.Ytclffekkjfhpdaa
set_option linter.unusedVariables false
namespace Md
structure Bytecodeeffect where
  takes : List Int
  puts : List Int
  deriving Inhabited, DecidableEq
def Bytecodeeffect.ok (x : Bytecodeeffect) : Prop := (∀ y ∈ x.takes, Md.I64 y) ∧ (∀ y ∈ x.puts, Md.I64 y)
def bytecode_effects_1 (k : Nat) (a0 : List Int) (a1 : List Int) : Option (List Bytecodeeffect) :=
  some [(⟨a0, a1⟩ : Bytecodeeffect)]
def bytecode_effects (k : Nat) (a0 : Code) (a1 : CodeType) (a2 : CodeMethod) (a3 : Instr) (a4 : Int) : Option (List Bytecodeeffect) :=
  bif (a3.Op == 1) then ((bytecode_effects_1 k ([] : List Int) [a3.Value.Kind]).bind fun x2 => some x2) else (bif (a3.Op == 2) then (Md.ifp (0 ≤ a3.A ∧ a3.A < ((a2.Locals.length : Nat) : Int)) <| (bytecode_effects_1 k ([] : List Int) [(a2.Locals.getD ((a3.A).toNat) default)]).bind fun x5 => some x5) else (bif (a3.Op == 3) then (Md.ifp (0 ≤ a3.A ∧ a3.A < ((a2.Locals.length : Nat) : Int)) <| (bytecode_effects_1 k [(a2.Locals.getD ((a3.A).toNat) default)] ([] : List Int)).bind fun x8 => some x8) else (bif (a3.Op == 4) then (Md.ifp (0 ≤ a3.A ∧ a3.A < ((a1.Fields.length : Nat) : Int)) <| (bytecode_effects_1 k ([] : List Int) [((a1.Fields.getD ((a3.A).toNat) default).Kind)]).bind fun x11 => some x11) else (bif (a3.Op == 5) then (Md.ifp (0 ≤ a3.A ∧ a3.A < ((a1.Fields.length : Nat) : Int)) <| (bytecode_effects_1 k [((a1.Fields.getD ((a3.A).toNat) default).Kind)] ([] : List Int)).bind fun x14 => some x14) else (bif (a3.Op == 6) then ((bytecode_effects_1 k ([] : List Int) [3]).bind fun x16 => some x16) else (bif (a3.Op == 7) then ((bytecode_effects_1 k [1] [1]).bind fun x18 => some x18) else (bif (a3.Op == 8) then ((bytecode_effects_1 k [2] [2]).bind fun x20 => some x20) else (bif (a3.Op == 9) then ((bytecode_effects_1 k [1, 1] [1]).bind fun x22 => some x22) else (bif (a3.Op == 11) then ((bytecode_effects_1 k [1, 1] [1]).bind fun x24 => some x24) else (bif (a3.Op == 12) then ((bytecode_effects_1 k [1, 1] [1]).bind fun x26 => some x26) else (bif (a3.Op == 13) then ((bytecode_effects_1 k [1, 1] [1]).bind fun x28 => some x28) else (bif (a3.Op == 14) then ((bytecode_effects_1 k [1, 1] [1]).bind fun x30 => some x30) else (bif (a3.Op == 10) then ((bytecode_effects_1 k [3, 3] [3]).bind fun x32 => some x32) else (bif (a3.Op == 15) then ((bytecode_effects_1 k [a4, a4] [2]).bind fun x34 => some x34) else (bif (a3.Op == 16) then ((bytecode_effects_1 k [a4, a4] [2]).bind fun x36 => some x36) else (bif (a3.Op == 17) then (some [(⟨[1, 1], [2]⟩ : Bytecodeeffect), (⟨[3, 3], [2]⟩ : Bytecodeeffect)]) else (bif (a3.Op == 18) then (some [(⟨[1, 1], [2]⟩ : Bytecodeeffect), (⟨[3, 3], [2]⟩ : Bytecodeeffect)]) else (bif (a3.Op == 19) then (some [(⟨[1, 1], [2]⟩ : Bytecodeeffect), (⟨[3, 3], [2]⟩ : Bytecodeeffect)]) else (bif (a3.Op == 20) then (some [(⟨[1, 1], [2]⟩ : Bytecodeeffect), (⟨[3, 3], [2]⟩ : Bytecodeeffect)]) else (bif (a3.Op == 21) then (some [(⟨[3], [1]⟩ : Bytecodeeffect), (⟨[4], [1]⟩ : Bytecodeeffect), (⟨[5], [1]⟩ : Bytecodeeffect)]) else (bif (a3.Op == 22) then (some [(⟨[4, 1], [1]⟩ : Bytecodeeffect), (⟨[5, 1], [3]⟩ : Bytecodeeffect)]) else (bif (a3.Op == 23) then (some [(⟨[4, 1], [4]⟩ : Bytecodeeffect), (⟨[5, 3], [5]⟩ : Bytecodeeffect)]) else (bif (a3.Op == 24) then (some [(⟨[4, 1, 1], [4]⟩ : Bytecodeeffect), (⟨[5, 1, 3], [5]⟩ : Bytecodeeffect)]) else (bif (a3.Op == 25) then ((bytecode_effects_1 k [1] [3]).bind fun x46 => some x46) else (bif (a3.Op == 26) then ((bytecode_repeat k 1 a3.A).bind fun x48 => (bytecode_effects_1 k x48 [4]).bind fun x49 => some x49) else (bif (a3.Op == 27) then ((bytecode_repeat k 3 a3.A).bind fun x51 => (bytecode_effects_1 k x51 [5]).bind fun x52 => some x52) else (bif (a3.Op == 29) then ((bytecode_effects_1 k [2] ([] : List Int)).bind fun x54 => some x54) else (bif (a3.Op == 30) then (Md.ifp (0 ≤ a3.A ∧ a3.A < ((a0.Types.length : Nat) : Int)) <| Md.ifp (0 ≤ a3.B ∧ a3.B < ((((a0.Types.getD ((a3.A).toNat) default).Methods).length : Nat) : Int)) <| Md.ifp ([3].length + ((((a0.Types.getD ((a3.A).toNat) default).Methods).getD ((a3.B).toNat) default).Params).length ≤ 4000000) <| (bytecode_result k (((a0.Types.getD ((a3.A).toNat) default).Methods).getD ((a3.B).toNat) default)).bind fun x59 => (bytecode_effects_1 k ([3] ++ ((((a0.Types.getD ((a3.A).toNat) default).Methods).getD ((a3.B).toNat) default).Params)) x59).bind fun x60 => some x60) else (bif (a3.Op == 31) then ((bytecode_effects_1 k [a4] ([] : List Int)).bind fun x62 => some x62) else (bif (a3.Op == 32) then ((bytecode_result k a2).bind fun x64 => (bytecode_effects_1 k x64 ([] : List Int)).bind fun x65 => some x65) else (bif (a3.Op == 34) then ((bytecode_effects_1 k [3, 1] ([] : List Int)).bind fun x67 => some x67) else (bif (a3.Op == 35) then ((bytecode_effects_1 k [3, 1, 1] ([] : List Int)).bind fun x69 => some x69) else (bif (a3.Op == 36) then ((bytecode_effects_1 k [3] ([] : List Int)).bind fun x71 => some x71) else ((bytecode_effects_1 k ([] : List Int) ([] : List Int)).bind fun x72 => some x72))))))))))))))))))))))))))))))))))
def bytecode_after_loop1 (k : Nat) (a3 : Instr) (a4 : List Int) (x3 : (List Bytecodeeffect)) : Nat → Nat → Option (Sum Unit ((List Int) × Bool))
  | 0, _ => none
  | n4 + 1, s4_0 => bif (decide (((s4_0 : Nat) : Int) < ((x3.length : Nat) : Int))) then ((Md.ifp (s4_0 < x3.length) <| bif (decide ((Md.W (((a4.length : Nat) : Int) - ((((x3.getD s4_0 default).takes).length : Nat) : Int))) < 0)) then (some (Sum.inl ())) else (Md.ifp (0 ≤ (Md.W (((a4.length : Nat) : Int) - ((((x3.getD s4_0 default).takes).length : Nat) : Int)))) <| Md.ifp (((Md.W (((a4.length : Nat) : Int) - ((((x3.getD s4_0 default).takes).length : Nat) : Int)))).toNat ≤ a4.length) <| (slices_Equal k (a4.drop (((Md.W (((a4.length : Nat) : Int) - ((((x3.getD s4_0 default).takes).length : Nat) : Int)))).toNat)) ((x3.getD s4_0 default).takes)).bind fun x12 => bif (!x12) then (some (Sum.inl ())) else (bif ((decide ((Md.W (((a4.length : Nat) : Int) - ((((x3.getD s4_0 default).takes).length : Nat) : Int))) > 0)) && ((a3.Op == 32) || (a3.Op == 30))) then (some (Sum.inr (([] : List Int), false))) else (Md.ifp (0 ≤ (Md.W (((a4.length : Nat) : Int) - ((((x3.getD s4_0 default).takes).length : Nat) : Int)))) <| Md.ifp (((Md.W (((a4.length : Nat) : Int) - ((((x3.getD s4_0 default).takes).length : Nat) : Int)))).toNat ≤ a4.length) <| Md.ifp ((a4.take (((Md.W (((a4.length : Nat) : Int) - ((((x3.getD s4_0 default).takes).length : Nat) : Int)))).toNat)).length + ((x3.getD s4_0 default).puts).length ≤ 4000000) <| some (Sum.inr (((a4.take (((Md.W (((a4.length : Nat) : Int) - ((((x3.getD s4_0 default).takes).length : Nat) : Int)))).toNat)) ++ ((x3.getD s4_0 default).puts)), (decide ((Md.W ((Md.W (((a4.length : Nat) : Int) - ((((x3.getD s4_0 default).takes).length : Nat) : Int))) + ((((x3.getD s4_0 default).puts).length : Nat) : Int))) ≤ 40))))))) : Option (Sum Unit ((List Int) × Bool))).bind fun o6 => Md.onS o6 (fun x6_0 => Md.ifp (s4_0 + 1 ≤ 9223372036854775807) <| bytecode_after_loop1 k a3 a4 x3 n4 (s4_0 + 1)) (fun r6 => some (Sum.inr r6))) else (some (Sum.inl ()))
def bytecode_after (k : Nat) (a0 : Code) (a1 : CodeType) (a2 : CodeMethod) (a3 : Instr) (a4 : List Int) : Option ((List Int) × Bool) :=
  (bif (decide (((a4.length : Nat) : Int) > 0)) then (Md.ifp (0 ≤ (Md.W (((a4.length : Nat) : Int) - 1)) ∧ (Md.W (((a4.length : Nat) : Int) - 1)) < ((a4.length : Nat) : Int)) <| some (Sum.inl (a4.getD (((Md.W (((a4.length : Nat) : Int) - 1))).toNat) default))) else (bif (((a3.Op == 15) || (a3.Op == 16)) || (a3.Op == 31)) then (some (Sum.inr (([] : List Int), false))) else (some (Sum.inl 0))) : Option (Sum Int ((List Int) × Bool))).bind fun o1 => Md.onS o1 (fun x1_0 => ((bytecode_effects k a0 a1 a2 a3 x1_0).bind fun x3 => (bytecode_after_loop1 k a3 a4 x3 k 0).bind fun o4 => Md.onS o4 (fun x4_0 => some (Sum.inl ())) (fun r4 => some (Sum.inr r4)) : Option (Sum Unit ((List Int) × Bool))).bind fun o2 => Md.onS o2 (fun x2_0 => some (([] : List Int), false)) (fun r2 => some r2)) (fun r1 => some r1)
end Md
end Go.Proofs.Ytclffekkjfhpdaa
namespace Go.Proofs.Ytclffekkjfhpdaa
set_option linter.unusedVariables false
namespace Md
structure Bytecodestate where
  reached : Bool
  stack : List Int
  set : UInt64
  deriving Inhabited, DecidableEq
def Bytecodestate.ok (x : Bytecodestate) : Prop := (∀ y ∈ x.stack, Md.I64 y)
def bytecode_analyze_loop1 (k : Nat) (a2 : CodeMethod) (x3_0 : (List Bytecodestate)) : Nat → Nat → Option (Sum Unit ((List Bytecodestate) × Bool))
  | 0, _ => none
  | n5 + 1, s5_0 => bif (decide (((s5_0 : Nat) : Int) < ((x3_0.length : Nat) : Int))) then (Md.ifp (s5_0 < x3_0.length) <| Md.ifp (s5_0 < a2.Code.length) <| ((bif (!((x3_0.getD s5_0 default).reached)) then (some true) else (((bif (((a2.Code.getD s5_0 default).Op) == 2) then (Md.ifp (0 ≤ ((a2.Code.getD s5_0 default).A)) <| some (((((Md.shr64 ((x3_0.getD s5_0 default).set) ((((a2.Code.getD s5_0 default).A)).toNat)) &&& (1 : UInt64))).toNat : Int) == 0)) else (some false)) : Option Bool).bind fun x12 => some x12)) : Option Bool).bind fun x9 => bif x9 then (some (Sum.inr (([] : List Bytecodestate), false))) else (Md.ifp (s5_0 + 1 ≤ 9223372036854775807) <| bytecode_analyze_loop1 k a2 x3_0 n5 (s5_0 + 1))) else (some (Sum.inl ()))
def bytecode_analyze_loop3 (k : Nat) (x21 : (List Int) × Bool) (x22 : (List Int) × Bool) (x25_0 : UInt64) : Nat → Nat → (List Bytecodestate) → (List Int) → Option (Sum ((List Bytecodestate) × (List Int)) ((List Bytecodestate) × Bool))
  | 0, _, _, _ => none
  | n26 + 1, s26_0, s26_1, s26_2 => bif (decide (((s26_0 : Nat) : Int) < ((x22.1.length : Nat) : Int))) then ((Md.ifp (s26_0 < x22.1.length) <| Md.ifp (0 ≤ (x22.1.getD s26_0 default) ∧ (x22.1.getD s26_0 default) < ((s26_1.length : Nat) : Int)) <| bif (!((s26_1.getD (((x22.1.getD s26_0 default)).toNat) default).reached)) then (Md.ifp (s26_2.length + [(x22.1.getD s26_0 default)].length ≤ 4000000) <| some (Sum.inl ((s26_1.set (((x22.1.getD s26_0 default)).toNat) (⟨true, x21.1, x25_0⟩ : Bytecodestate)), (s26_2 ++ [(x22.1.getD s26_0 default)])))) else ((slices_Equal k ((s26_1.getD (((x22.1.getD s26_0 default)).toNat) default).stack) x21.1).bind fun x34 => bif (!x34) then (some (Sum.inr (([] : List Bytecodestate), false))) else (bif ((((((s26_1.getD (((x22.1.getD s26_0 default)).toNat) default).set) &&& x25_0)).toNat : Int) != (((s26_1.getD (((x22.1.getD s26_0 default)).toNat) default).set).toNat : Int)) then (Md.ifp (s26_2.length + [(x22.1.getD s26_0 default)].length ≤ 4000000) <| some (Sum.inl ((s26_1.set (((x22.1.getD s26_0 default)).toNat) (⟨((s26_1.getD (((x22.1.getD s26_0 default)).toNat) default).reached), ((s26_1.getD (((x22.1.getD s26_0 default)).toNat) default).stack), (((s26_1.getD (((x22.1.getD s26_0 default)).toNat) default).set) &&& x25_0)⟩ : Bytecodestate)), (s26_2 ++ [(x22.1.getD s26_0 default)])))) else (some (Sum.inl (s26_1, s26_2))))) : Option (Sum ((List Bytecodestate) × (List Int)) ((List Bytecodestate) × Bool))).bind fun o28 => Md.onS o28 (fun x28_0 => Md.ifp (s26_0 + 1 ≤ 9223372036854775807) <| bytecode_analyze_loop3 k x21 x22 x25_0 n26 (s26_0 + 1) x28_0.1 x28_0.2) (fun r28 => some (Sum.inr r28))) else (some (Sum.inl (s26_1, s26_2)))
def bytecode_analyze_loop2 (k : Nat) (a0 : Code) (a1 : CodeType) (a2 : CodeMethod) : Nat → (List Bytecodestate) → (List Int) → Option (Sum (List Bytecodestate) ((List Bytecodestate) × Bool))
  | 0, _, _ => none
  | n14 + 1, s14_0, s14_1 => bif (decide (((s14_1.length : Nat) : Int) > 0)) then (Md.ifp (0 ≤ (Md.W (((s14_1.length : Nat) : Int) - 1)) ∧ (Md.W (((s14_1.length : Nat) : Int) - 1)) < ((s14_1.length : Nat) : Int)) <| Md.ifp (0 ≤ (Md.W (((s14_1.length : Nat) : Int) - 1))) <| Md.ifp (((Md.W (((s14_1.length : Nat) : Int) - 1))).toNat ≤ s14_1.length) <| Md.ifp (0 ≤ (s14_1.getD (((Md.W (((s14_1.length : Nat) : Int) - 1))).toNat) default) ∧ (s14_1.getD (((Md.W (((s14_1.length : Nat) : Int) - 1))).toNat) default) < ((a2.Code.length : Nat) : Int)) <| Md.ifp (0 ≤ (s14_1.getD (((Md.W (((s14_1.length : Nat) : Int) - 1))).toNat) default) ∧ (s14_1.getD (((Md.W (((s14_1.length : Nat) : Int) - 1))).toNat) default) < ((s14_0.length : Nat) : Int)) <| (bytecode_after k a0 a1 a2 (a2.Code.getD (((s14_1.getD (((Md.W (((s14_1.length : Nat) : Int) - 1))).toNat) default)).toNat) default) ((s14_0.getD (((s14_1.getD (((Md.W (((s14_1.length : Nat) : Int) - 1))).toNat) default)).toNat) default).stack)).bind fun x21 => (bytecode_successors k a2 (s14_1.getD (((Md.W (((s14_1.length : Nat) : Int) - 1))).toNat) default)).bind fun x22 => bif ((!x21.2) || (!x22.2)) then (some (Sum.inr (([] : List Bytecodestate), false))) else ((bif (((a2.Code.getD (((s14_1.getD (((Md.W (((s14_1.length : Nat) : Int) - 1))).toNat) default)).toNat) default).Op) == 3) then (Md.ifp (0 ≤ ((a2.Code.getD (((s14_1.getD (((Md.W (((s14_1.length : Nat) : Int) - 1))).toNat) default)).toNat) default).A)) <| some (((s14_0.getD (((s14_1.getD (((Md.W (((s14_1.length : Nat) : Int) - 1))).toNat) default)).toNat) default).set) ||| (Md.shl64 (1 : UInt64) ((((a2.Code.getD (((s14_1.getD (((Md.W (((s14_1.length : Nat) : Int) - 1))).toNat) default)).toNat) default).A)).toNat)))) else (some ((s14_0.getD (((s14_1.getD (((Md.W (((s14_1.length : Nat) : Int) - 1))).toNat) default)).toNat) default).set)) : Option UInt64).bind fun x25_0 => (bytecode_analyze_loop3 k x21 x22 x25_0 k 0 s14_0 (s14_1.take (((Md.W (((s14_1.length : Nat) : Int) - 1))).toNat))).bind fun o26 => Md.onS o26 (fun x26_0 => bytecode_analyze_loop2 k a0 a1 a2 n14 x26_0.1 x26_0.2) (fun r26 => some (Sum.inr r26)))) else (some (Sum.inl s14_0))
def bytecode_analyze (k : Nat) (a0 : Code) (a1 : CodeType) (a2 : CodeMethod) : Option ((List Bytecodestate) × Bool) :=
  Md.ifp (a2.Code.length ≤ 16000000) <| Md.ifp (0 < (List.replicate a2.Code.length (⟨false, ([] : List Int), (0 : UInt64)⟩ : Bytecodestate)).length) <| ((bytecode_analyze_loop2 k a0 a1 a2 k ((List.replicate a2.Code.length (⟨false, ([] : List Int), (0 : UInt64)⟩ : Bytecodestate)).set 0 (⟨true, ([] : List Int), ((Md.shl64 (1 : UInt64) a2.Params.length) - (1 : UInt64))⟩ : Bytecodestate)) [0]).bind fun o14 => Md.onS o14 (fun x14_0 => some (Sum.inl x14_0)) (fun r14 => some (Sum.inr r14)) : Option (Sum (List Bytecodestate) ((List Bytecodestate) × Bool))).bind fun o3 => Md.onS o3 (fun x3_0 => ((bytecode_analyze_loop1 k a2 x3_0 k 0).bind fun o5 => Md.onS o5 (fun x5_0 => some (Sum.inl ())) (fun r5 => some (Sum.inr r5)) : Option (Sum Unit ((List Bytecodestate) × Bool))).bind fun o4 => Md.onS o4 (fun x4_0 => some (x3_0, true)) (fun r4 => some r4)) (fun r3 => some r3)
end Md
end Go.Proofs.Ytclffekkjfhpdaa
namespace Go.Proofs.Ytclffekkjfhpdaa
set_option linter.unusedVariables false
namespace Md
def bytecode_Verify_loop2 (k : Nat) (a0 : Code) (s3_0 : Nat) : Nat → Nat → Option (Sum Unit Int)
  | 0, _ => none
  | n8 + 1, s8_0 => bif (decide (((s8_0 : Nat) : Int) < ((((a0.Types.getD s3_0 default).Methods).length : Nat) : Int))) then (Md.ifp (s8_0 < ((a0.Types.getD s3_0 default).Methods).length) <| (bytecode_analyze k a0 (a0.Types.getD s3_0 default) (((a0.Types.getD s3_0 default).Methods).getD s8_0 default)).bind fun x11 => bif (!x11.2) then (some (Sum.inr 16)) else (Md.ifp (s8_0 + 1 ≤ 9223372036854775807) <| bytecode_Verify_loop2 k a0 s3_0 n8 (s8_0 + 1))) else (some (Sum.inl ()))
def bytecode_Verify_loop1 (k : Nat) (a0 : Code) : Nat → Nat → Option (Sum Unit Int)
  | 0, _ => none
  | n3 + 1, s3_0 => bif (decide (((s3_0 : Nat) : Int) < ((a0.Types.length : Nat) : Int))) then ((Md.ifp (s3_0 < a0.Types.length) <| (bytecode_Verify_loop2 k a0 s3_0 k 0).bind fun o8 => Md.onS o8 (fun x8_0 => some (Sum.inl ())) (fun r8 => some (Sum.inr r8)) : Option (Sum Unit Int)).bind fun o5 => Md.onS o5 (fun x5_0 => Md.ifp (s3_0 + 1 ≤ 9223372036854775807) <| bytecode_Verify_loop1 k a0 n3 (s3_0 + 1)) (fun r5 => some (Sum.inr r5))) else (some (Sum.inl ()))
def bytecode_Verify (k : Nat) (a0 : Code) : Option Int :=
  (bytecode_rightForm k a0).bind fun x1 => bif (!x1) then (some 1) else ((bytecode_Verify_loop1 k a0 k 0).bind fun o3 => Md.onS o3 (fun x3_0 => some 0) (fun r3 => some r3))
def bytecode_statesOf (k : Nat) (a0 : Code) (a1 : Int) (a2 : Int) : Option (List Bytecodestate) :=
  (bytecode_Verify k a0).bind fun x1 => ((bif ((((x1 != 0) || (decide (a1 < 0))) || (decide (a1 ≥ ((a0.Types.length : Nat) : Int)))) || (decide (a2 < 0))) then (some true) else (Md.ifp (0 ≤ a1 ∧ a1 < ((a0.Types.length : Nat) : Int)) <| some (decide (a2 ≥ ((((a0.Types.getD ((a1).toNat) default).Methods).length : Nat) : Int))))) : Option Bool).bind fun x5 => bif x5 then (some ([] : List Bytecodestate)) else (Md.ifp (0 ≤ a1 ∧ a1 < ((a0.Types.length : Nat) : Int)) <| Md.ifp (0 ≤ a1 ∧ a1 < ((a0.Types.length : Nat) : Int)) <| Md.ifp (0 ≤ a2 ∧ a2 < ((((a0.Types.getD ((a1).toNat) default).Methods).length : Nat) : Int)) <| (bytecode_analyze k a0 (a0.Types.getD ((a1).toNat) default) (((a0.Types.getD ((a1).toNat) default).Methods).getD ((a2).toNat) default)).bind fun x10 => some x10.1)
def bytecode_Depth_loop1 (k : Nat) (x1 : (List Bytecodestate)) : Nat → Nat → (List Int) → Option (List Int)
  | 0, _, _ => none
  | n2 + 1, s2_0, s2_1 => bif (decide (((s2_0 : Nat) : Int) < ((x1.length : Nat) : Int))) then (Md.ifp (s2_0 < x1.length) <| Md.ifp (s2_1.length + [((((x1.getD s2_0 default).stack).length : Nat) : Int)].length ≤ 4000000) <| Md.ifp (s2_0 + 1 ≤ 9223372036854775807) <| bytecode_Depth_loop1 k x1 n2 (s2_0 + 1) (s2_1 ++ [((((x1.getD s2_0 default).stack).length : Nat) : Int)])) else (some s2_1)
def bytecode_Depth (k : Nat) (a0 : Code) (a1 : Int) (a2 : Int) : Option (List Int) :=
  (bytecode_statesOf k a0 a1 a2).bind fun x1 => (bytecode_Depth_loop1 k x1 k 0 ([] : List Int)).bind fun x2_0 => some x2_0
end Md
end Go.Proofs.Ytclffekkjfhpdaa
namespace Go.Proofs.Ytclffekkjfhpdaa
set_option linter.unusedVariables false
namespace Md
def bytecode_Same_1 (k : Nat) (a0 : Field) (a1 : Field) : Option Bool :=
  ((bif ((decide (a0.Name = a1.Name)) && (a0.Kind == a1.Kind)) then ((wire_SameValue k a0.Init a1.Init).bind fun x3 => some x3) else (some false)) : Option Bool).bind fun x2 => some x2
def bytecode_Same_2 (k : Nat) (a0 : Instr) (a1 : Instr) : Option Bool :=
  ((bif (((a0.Op == a1.Op) && (a0.A == a1.A)) && (a0.B == a1.B)) then ((wire_SameValue k a0.Value a1.Value).bind fun x4 => some x4) else (some false)) : Option Bool).bind fun x3 => some x3
def zqbh (k : Nat) (a0 : List Instr) (a1 : List Instr) : Nat → Nat → Option (Sum Unit Bool)
  | 0, _ => none
  | n2 + 1, s2_0 => bif (decide (((s2_0 : Nat) : Int) < ((a0.length : Nat) : Int))) then (Md.ifp (s2_0 < a0.length) <| Md.ifp (s2_0 < a1.length) <| (bytecode_Same_2 k (a0.getD s2_0 default) (a1.getD s2_0 default)).bind fun x6 => bif (!x6) then (some (Sum.inr false)) else (Md.ifp (s2_0 + 1 ≤ 9223372036854775807) <| zqbh k a0 a1 n2 (s2_0 + 1))) else (some (Sum.inl ()))
def zqbf (k : Nat) (a0 : List Instr) (a1 : List Instr) : Option Bool :=
  bif (((a0.length : Nat) : Int) != ((a1.length : Nat) : Int)) then (some false) else ((zqbh k a0 a1 k 0).bind fun o2 => Md.onS o2 (fun x2_0 => some true) (fun r2 => some r2))
def bytecode_Same_3 (k : Nat) (a0 : CodeMethod) (a1 : CodeMethod) : Option Bool :=
  ((bif ((decide (a0.Name = a1.Name)) && (a0.Result == a1.Result)) then ((slices_Equal k a0.Params a1.Params).bind fun x7 => some x7) else (some false)) : Option Bool).bind fun x2 => ((bif x2 then ((slices_Equal k a0.Locals a1.Locals).bind fun x6 => some x6) else (some false)) : Option Bool).bind fun x3 => ((bif x3 then ((zqbf k a0.Code a1.Code).bind fun x5 => some x5) else (some false)) : Option Bool).bind fun x4 => some x4
def zqbe (k : Nat) (a0 : List Field) (a1 : List Field) : Nat → Nat → Option (Sum Unit Bool)
  | 0, _ => none
  | n2 + 1, s2_0 => bif (decide (((s2_0 : Nat) : Int) < ((a0.length : Nat) : Int))) then (Md.ifp (s2_0 < a0.length) <| Md.ifp (s2_0 < a1.length) <| (bytecode_Same_1 k (a0.getD s2_0 default) (a1.getD s2_0 default)).bind fun x6 => bif (!x6) then (some (Sum.inr false)) else (Md.ifp (s2_0 + 1 ≤ 9223372036854775807) <| zqbe k a0 a1 n2 (s2_0 + 1))) else (some (Sum.inl ()))
def zqbc (k : Nat) (a0 : List Field) (a1 : List Field) : Option Bool :=
  bif (((a0.length : Nat) : Int) != ((a1.length : Nat) : Int)) then (some false) else ((zqbe k a0 a1 k 0).bind fun o2 => Md.onS o2 (fun x2_0 => some true) (fun r2 => some r2))
def zqay (k : Nat) (a0 : List CodeMethod) (a1 : List CodeMethod) : Nat → Nat → Option (Sum Unit Bool)
  | 0, _ => none
  | n2 + 1, s2_0 => bif (decide (((s2_0 : Nat) : Int) < ((a0.length : Nat) : Int))) then (Md.ifp (s2_0 < a0.length) <| Md.ifp (s2_0 < a1.length) <| (bytecode_Same_3 k (a0.getD s2_0 default) (a1.getD s2_0 default)).bind fun x6 => bif (!x6) then (some (Sum.inr false)) else (Md.ifp (s2_0 + 1 ≤ 9223372036854775807) <| zqay k a0 a1 n2 (s2_0 + 1))) else (some (Sum.inl ()))
def zqaw (k : Nat) (a0 : List CodeMethod) (a1 : List CodeMethod) : Option Bool :=
  bif (((a0.length : Nat) : Int) != ((a1.length : Nat) : Int)) then (some false) else ((zqay k a0 a1 k 0).bind fun o2 => Md.onS o2 (fun x2_0 => some true) (fun r2 => some r2))
def bytecode_Same_4 (k : Nat) (a0 : CodeType) (a1 : CodeType) : Option Bool :=
  ((bif (decide (a0.Name = a1.Name)) then ((zqbc k a0.Fields a1.Fields).bind fun x4 => some x4) else (some false)) : Option Bool).bind fun x1 => ((bif x1 then ((zqaw k a0.Methods a1.Methods).bind fun x3 => some x3) else (some false)) : Option Bool).bind fun x2 => some x2
def zqbb (k : Nat) (a0 : List CodeType) (a1 : List CodeType) : Nat → Nat → Option (Sum Unit Bool)
  | 0, _ => none
  | n2 + 1, s2_0 => bif (decide (((s2_0 : Nat) : Int) < ((a0.length : Nat) : Int))) then (Md.ifp (s2_0 < a0.length) <| Md.ifp (s2_0 < a1.length) <| (bytecode_Same_4 k (a0.getD s2_0 default) (a1.getD s2_0 default)).bind fun x6 => bif (!x6) then (some (Sum.inr false)) else (Md.ifp (s2_0 + 1 ≤ 9223372036854775807) <| zqbb k a0 a1 n2 (s2_0 + 1))) else (some (Sum.inl ()))
def zqaz (k : Nat) (a0 : List CodeType) (a1 : List CodeType) : Option Bool :=
  bif (((a0.length : Nat) : Int) != ((a1.length : Nat) : Int)) then (some false) else ((zqbb k a0 a1 k 0).bind fun o2 => Md.onS o2 (fun x2_0 => some true) (fun r2 => some r2))
def bytecode_Same (k : Nat) (a0 : Code) (a1 : Code) : Option Bool :=
  (zqaz k a0.Types a1.Types).bind fun x1 => some x1
end Md
end Go.Proofs.Ytclffekkjfhpdaa
namespace Go.Proofs.Ytclffekkjfhpdaa
set_option linter.unusedVariables false
namespace Md
def actorgridlaw20_awake (k : Nat) : Option Bool :=
  (bytecode_Encode k (⟨[(⟨([65] : List UInt8), [], [(⟨([109] : List UInt8), [], 1, [], [(⟨1, 0, 0, (⟨1, 1, ([] : List UInt8), [], []⟩ : Value)⟩ : Instr), (⟨32, 0, 0, (⟨0, 0, ([] : List UInt8), [], []⟩ : Value)⟩ : Instr)]⟩ : CodeMethod)]⟩ : CodeType)]⟩ : Code)).bind fun x1 => Md.ifp (x1.length + [(7 : UInt8)].length ≤ 4000000) <| (bytecode_Decode k (x1 ++ [(7 : UInt8)])).bind fun x3 => (bytecode_Depth k (⟨[(⟨([65] : List UInt8), [], [(⟨([109] : List UInt8), [], 1, [], [(⟨1, 0, 0, (⟨1, 1, ([] : List UInt8), [], []⟩ : Value)⟩ : Instr), (⟨32, 0, 0, (⟨0, 0, ([] : List UInt8), [], []⟩ : Value)⟩ : Instr)]⟩ : CodeMethod)]⟩ : CodeType)]⟩ : Code) 0 0).bind fun x4 => (bytecode_FindType k (⟨[(⟨([65] : List UInt8), [], [(⟨([109] : List UInt8), [], 1, [], [(⟨1, 0, 0, (⟨1, 1, ([] : List UInt8), [], []⟩ : Value)⟩ : Instr), (⟨32, 0, 0, (⟨0, 0, ([] : List UInt8), [], []⟩ : Value)⟩ : Instr)]⟩ : CodeMethod)]⟩ : CodeType)]⟩ : Code) ([65] : List UInt8)).bind fun x5 => (bytecode_Verify k (⟨[(⟨([65] : List UInt8), [], [(⟨([109] : List UInt8), [], 1, [], [(⟨1, 0, 0, (⟨1, 1, ([] : List UInt8), [], []⟩ : Value)⟩ : Instr), (⟨32, 0, 0, (⟨0, 0, ([] : List UInt8), [], []⟩ : Value)⟩ : Instr)]⟩ : CodeMethod)]⟩ : CodeType)]⟩ : Code)).bind fun x6 => bif (x6 == 0) then ((bytecode_Verify k (⟨[(⟨([65] : List UInt8), [], [(⟨([109] : List UInt8), [], 1, [], [(⟨32, 0, 0, (⟨0, 0, ([] : List UInt8), [], []⟩ : Value)⟩ : Instr)]⟩ : CodeMethod)]⟩ : CodeType)]⟩ : Code)).bind fun x8 => ((bif (x8 == 16) then ((bytecode_Verify k (⟨[(⟨([] : List UInt8), [], []⟩ : CodeType)]⟩ : Code)).bind fun x21 => some (x21 == 1)) else (some false)) : Option Bool).bind fun x9 => ((bif (x9 && (x3.2.2 == 0)) then ((bytecode_Encode k (⟨[(⟨([65] : List UInt8), [], [(⟨([109] : List UInt8), [], 1, [], [(⟨1, 0, 0, (⟨1, 1, ([] : List UInt8), [], []⟩ : Value)⟩ : Instr), (⟨32, 0, 0, (⟨0, 0, ([] : List UInt8), [], []⟩ : Value)⟩ : Instr)]⟩ : CodeMethod)]⟩ : CodeType)]⟩ : Code)).bind fun x20 => some (x3.2.1 == ((x20.length : Nat) : Int))) else (some false)) : Option Bool).bind fun x11 => ((bif x11 then ((bytecode_Same k x3.1 (⟨[(⟨([65] : List UInt8), [], [(⟨([109] : List UInt8), [], 1, [], [(⟨1, 0, 0, (⟨1, 1, ([] : List UInt8), [], []⟩ : Value)⟩ : Instr), (⟨32, 0, 0, (⟨0, 0, ([] : List UInt8), [], []⟩ : Value)⟩ : Instr)]⟩ : CodeMethod)]⟩ : CodeType)]⟩ : Code)).bind fun x19 => some x19) else (some false)) : Option Bool).bind fun x12 => ((bif x12 then ((bytecode_Same k (⟨[(⟨([65] : List UInt8), [], [(⟨([109] : List UInt8), [], 1, [], [(⟨1, 0, 0, (⟨1, 1, ([] : List UInt8), [], []⟩ : Value)⟩ : Instr), (⟨32, 0, 0, (⟨0, 0, ([] : List UInt8), [], []⟩ : Value)⟩ : Instr)]⟩ : CodeMethod)]⟩ : CodeType)]⟩ : Code) (⟨[(⟨([65] : List UInt8), [], [(⟨([109] : List UInt8), [], 1, [], [(⟨32, 0, 0, (⟨0, 0, ([] : List UInt8), [], []⟩ : Value)⟩ : Instr)]⟩ : CodeMethod)]⟩ : CodeType)]⟩ : Code)).bind fun x18 => some (!x18)) else (some false)) : Option Bool).bind fun x13 => ((bif (x13 && (((x4.length : Nat) : Int) == 2)) then (Md.ifp (1 < x4.length) <| some ((x4.getD 1 default) == 1)) else (some false)) : Option Bool).bind fun x15 => some (x15 && x5.2)) else (some false)
end Md
end Go.Proofs.Ytclffekkjfhpdaa
namespace Go.Proofs.Ytclffekkjfhpdaa
set_option linter.unusedVariables false
namespace Md
def math_bits_Mul64 (k : Nat) (a0 : UInt64) (a1 : UInt64) : Option (UInt64 × UInt64) :=
  some (((((Md.shr64 a0 32) * (Md.shr64 a1 32)) + (Md.shr64 (((Md.shr64 a0 32) * (a1 &&& (4294967295 : UInt64))) + (Md.shr64 ((a0 &&& (4294967295 : UInt64)) * (a1 &&& (4294967295 : UInt64))) 32)) 32)) + (Md.shr64 (((((Md.shr64 a0 32) * (a1 &&& (4294967295 : UInt64))) + (Md.shr64 ((a0 &&& (4294967295 : UInt64)) * (a1 &&& (4294967295 : UInt64))) 32)) &&& (4294967295 : UInt64)) + ((a0 &&& (4294967295 : UInt64)) * (Md.shr64 a1 32))) 32)), (a0 * a1))
def math_bits_Mul (k : Nat) (a0 : UInt64) (a1 : UInt64) : Option (UInt64 × UInt64) :=
  (math_bits_Mul64 k a0 a1).bind fun x1 => some (x1.1, x1.2)
end Md
end Go.Proofs.Ytclffekkjfhpdaa
