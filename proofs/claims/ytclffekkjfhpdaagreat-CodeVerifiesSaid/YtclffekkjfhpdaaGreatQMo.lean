import Derived.Test.YtclffekkjfhpdaaGreatQMd
namespace Go.Proofs.YtclffekkjfhpdaaGreat
set_option linter.unusedVariables false
namespace Md
structure Value where
 Kind:Int
 N:Int
 S:List UInt8
 I:List Int
 L:List (List UInt8)
 deriving Inhabited,DecidableEq
def Value.ok (x:Value):Prop:=I64 x.Kind∧I64 x.N∧(∀y∈x.I,I64 y)
structure Field where
 Name:List UInt8
 Kind:Int
 Init:Value
 deriving Inhabited,DecidableEq
def Field.ok (x:Field):Prop:=I64 x.Kind∧x.Init.ok
structure Instr where
 Op:Int
 A:Int
 B:Int
 Value:Value
 deriving Inhabited,DecidableEq
def Instr.ok (x:Instr):Prop:=I64 x.Op∧I64 x.A∧I64 x.B∧x.Value.ok
structure CodeMethod where
 Name:List UInt8
 Params:List Int
 Result:Int
 Locals:List Int
 Code:List Instr
 deriving Inhabited,DecidableEq
def CodeMethod.ok (x:CodeMethod):Prop:=(∀y∈x.Params,I64 y)∧I64 x.Result∧(∀y∈x.Locals,I64 y)∧(∀y∈x.Code,y.ok)
structure CodeType where
 Name:List UInt8
 Fields:List Field
 Methods:List CodeMethod
 deriving Inhabited,DecidableEq
def CodeType.ok (x:CodeType):Prop:=(∀y∈x.Fields,y.ok)∧(∀y∈x.Methods,y.ok)
structure Code where
 Types:List CodeType
 deriving Inhabited,DecidableEq
def Code.ok (x:Code):Prop:=(∀y∈x.Types,y.ok)
def zeT (k:Nat) (a0:UInt8):Option Bool :=
 some ((((decide ((a0.toNat:Int)≥97))&&(decide ((a0.toNat:Int)≤122)))||((decide ((a0.toNat:Int)≥65))&&(decide ((a0.toNat:Int)≤90))))||((a0.toNat:Int)==95))
def zgx (k:Nat) (a0:UInt8):Option Bool :=
 some ((decide ((a0.toNat:Int)≥48))&&(decide ((a0.toNat:Int)≤57)))
def zfj (k:Nat) (a0:UInt8):Option Bool :=
 (zeT k a0).bind fun x1=>((bif x1 then (some true) else ((zgx k a0).bind fun x3=>some x3)):Option Bool).bind fun x2=>some x2
def zbH (k:Nat) (a0:List UInt8):Nat→Nat→Option Nat
 | 0,_=>none
 | n2+1,s2_0=>((bif (decide (((s2_0:Nat):Int)<((a0.length:Nat):Int))) then (ifp (s2_0<a0.length)<|(zfj k (a0.getD s2_0 0)).bind fun x7=>some x7) else (some false)):Option Bool).bind fun x3=>bif x3 then (ifp (s2_0+1≤9223372036854775807)<|zbH k a0 n2 (s2_0+1)) else (some s2_0)
def zdw (k:Nat) (a0:List UInt8):Option Int :=
 ((zbH k a0 k 0).bind fun x2_0=>some x2_0:Option Nat).bind fun x1_0=>some ((x1_0:Nat):Int)
def zgO (k:Nat) (a0:List UInt8):Option Int :=
 ((bif (decide (a0=([]:List UInt8))) then (some true) else (ifp (0<a0.length)<|(zeT k (a0.getD 0 0)).bind fun x5=>some (!x5))):Option Bool).bind fun x1=>bif x1 then (some 0) else ((zdw k a0).bind fun x3=>some x3)
def zcH (k:Nat) (a0:List UInt8):Option Bool :=
 bif (decide (a0=([97,99,116,111,114]:List UInt8))) then (some true) else (bif (decide (a0=([115,116,97,116,101]:List UInt8))) then (some true) else (bif (decide (a0=([109,101,116,104,111,100]:List UInt8))) then (some true) else (bif (decide (a0=([108,101,116]:List UInt8))) then (some true) else (bif (decide (a0=([105,102]:List UInt8))) then (some true) else (bif (decide (a0=([101,108,115,101]:List UInt8))) then (some true) else (bif (decide (a0=([119,104,105,108,101]:List UInt8))) then (some true) else (bif (decide (a0=([114,101,116,117,114,110]:List UInt8))) then (some true) else (bif (decide (a0=([102,97,105,108]:List UInt8))) then (some true) else (bif (decide (a0=([99,97,108,108]:List UInt8))) then (some true) else (bif (decide (a0=([101,109,105,116]:List UInt8))) then (some true) else (bif (decide (a0=([114,101,109,105,110,100]:List UInt8))) then (some true) else (bif (decide (a0=([99,97,110,99,101,108]:List UInt8))) then (some true) else (bif (decide (a0=([115,101,108,102]:List UInt8))) then (some true) else (bif (decide (a0=([116,114,117,101]:List UInt8))) then (some true) else (bif (decide (a0=([102,97,108,115,101]:List UInt8))) then (some true) else (bif (decide (a0=([105,110,116]:List UInt8))) then (some true) else (bif (decide (a0=([98,111,111,108]:List UInt8))) then (some true) else (bif (decide (a0=([115,116,114,105,110,103]:List UInt8))) then (some true) else (bif (decide (a0=([105,110,116,115]:List UInt8))) then (some true) else (bif (decide (a0=([115,116,114,105,110,103,115]:List UInt8))) then (some true) else (some false)))))))))))))))))))))
def zei (k:Nat) (a0:List UInt8):Option Bool :=
 ((bif ((!(decide (a0=([]:List UInt8))))&&(decide (((a0.length:Nat):Int)≤32))) then ((zgO k a0).bind fun x5=>some (x5==((a0.length:Nat):Int))) else (some false)):Option Bool).bind fun x2=>((bif x2 then ((zcH k a0).bind fun x4=>some (!x4)) else (some false)):Option Bool).bind fun x3=>some x3
def zdH (k:Nat) (a0:Int):Option Bool :=
 some ((decide (a0≥1))&&(decide (a0≤5)))
def zcW (k:Nat) (a0:Int) (c0:CodeType):Option (List UInt8) :=
 ifp (0≤a0∧a0<((c0.Fields.length:Nat):Int))<|some ((c0.Fields.getD ((a0).toNat) default).Name)
def zcY (k:Nat) (a0:Int) (c0:CodeType):Option (List UInt8) :=
 ifp (0≤a0∧a0<((c0.Methods.length:Nat):Int))<|some ((c0.Methods.getD ((a0).toNat) default).Name)
def zcT (k:Nat) (a0:Int) (c0:Code):Option (List UInt8) :=
 ifp (0≤a0∧a0<((c0.Types.length:Nat):Int))<|some ((c0.Types.getD ((a0).toNat) default).Name)
def zej (k:Nat) (a0:Int):Option Bool :=
 (zdH k a0).bind fun x1=>some (!x1)
def zaJ (k:Nat) (a0:List Int):Nat→Nat→Option (Sum Unit Int)
 | 0,_=>none
 | n1+1,s1_0=>bif (decide (((s1_0:Nat):Int)<((a0.length:Nat):Int))) then (ifp (s1_0<a0.length)<|(zej k (a0.getD s1_0 default)).bind fun x4=>bif x4 then (some (Sum.inr ((s1_0:Nat):Int))) else (ifp (s1_0+1≤9223372036854775807)<|zaJ k a0 n1 (s1_0+1))) else (some (Sum.inl ()))
def zbE (k:Nat) (a0:List Int):Option Int :=
 (zaJ k a0 k 0).bind fun o1=>onS o1 (fun x1_0=>some (-1)) (fun r1=>some r1)
def zbq (k:Nat) (a0:List Int):Option Bool :=
 (zbE k a0).bind fun x1=>some (decide (x1≥0))
def zdN (k:Nat) (a0:List Int):Option Bool :=
 (zbq k a0).bind fun x1=>some (!x1)
def zeD (k:Nat) (a0:CodeType) (c0:List UInt8):Option Bool :=
 some (decide (a0.Name=c0))
def zax (k:Nat) (a0:List CodeType) (c1_0:List UInt8):Nat→Nat→Option (Sum Unit Int)
 | 0,_=>none
 | n1+1,s1_0=>bif (decide (((s1_0:Nat):Int)<((a0.length:Nat):Int))) then (ifp (s1_0<a0.length)<|(zeD k (a0.getD s1_0 default) c1_0).bind fun x4=>bif x4 then (some (Sum.inr ((s1_0:Nat):Int))) else (ifp (s1_0+1≤9223372036854775807)<|zax k a0 c1_0 n1 (s1_0+1))) else (some (Sum.inl ()))
def zbm (k:Nat) (a0:List CodeType) (c1_0:List UInt8):Option Int :=
 (zax k a0 c1_0 k 0).bind fun o1=>onS o1 (fun x1_0=>some (-1)) (fun r1=>some r1)
def zcK (k:Nat) (a0:List CodeType) (c1_0:List UInt8):Option (Int×Bool) :=
 (zbm k a0 c1_0).bind fun x1=>some ((max x1 0),(decide (x1≥0)))
def zfe (k:Nat) (a0:Code) (a1:List UInt8):Option (Int×Bool) :=
 (zcK k a0.Types a1).bind fun x1=>some (x1.1,x1.2)
end Md
end Go.Proofs.YtclffekkjfhpdaaGreat
namespace Go.Proofs.YtclffekkjfhpdaaGreat
set_option linter.unusedVariables false
namespace Md
def zcq (k:Nat) (a0:Value):Nat→Nat→Option (Sum Unit Bool)
 | 0,_=>none
 | n16+1,s16_0=>bif (decide (((s16_0:Nat):Int)<((a0.L.length:Nat):Int))) then (ifp (s16_0<a0.L.length)<|bif (decide ((((a0.L.getD s16_0 default).length:Nat):Int)>64)) then (some (Sum.inr false)) else (ifp (s16_0+1≤9223372036854775807)<|zcq k a0 n16 (s16_0+1))) else (some (Sum.inl ()))
def zdF (k:Nat) (a0:Value):Option Bool :=
 bif ((decide (a0.Kind<0))||(decide (a0.Kind>5))) then (some false) else (bif (((a0.N != 0)&&(a0.Kind != 1))&&((a0.Kind != 2)||(a0.N != 1))) then (some false) else (bif ((!(decide (a0.S=([]:List UInt8))))&&(a0.Kind != 3)) then (some false) else (bif ((decide (((a0.I.length:Nat):Int)>0))&&(a0.Kind != 4)) then (some false) else (bif ((decide (((a0.L.length:Nat):Int)>0))&&(a0.Kind != 5)) then (some false) else (bif (((decide (((a0.S.length:Nat):Int)>64))||(decide (((a0.I.length:Nat):Int)>16)))||(decide (((a0.L.length:Nat):Int)>16))) then (some false) else ((zcq k a0 k 0).bind fun o16=>onS o16 (fun x16_0=>some true) (fun r16=>some r16)))))))
def zcU (k:Nat) (a0:Field):Option Bool :=
 (zdH k a0.Kind).bind fun x1=>((bif ((!x1)||(a0.Init.Kind != a0.Kind)) then (some true) else ((zdF k a0.Init).bind fun x4=>some (!x4))):Option Bool).bind fun x3=>some x3
def zav (k:Nat) (a0:List Field):Nat→Nat→Option (Sum Unit Int)
 | 0,_=>none
 | n1+1,s1_0=>bif (decide (((s1_0:Nat):Int)<((a0.length:Nat):Int))) then (ifp (s1_0<a0.length)<|(zcU k (a0.getD s1_0 default)).bind fun x4=>bif x4 then (some (Sum.inr ((s1_0:Nat):Int))) else (ifp (s1_0+1≤9223372036854775807)<|zav k a0 n1 (s1_0+1))) else (some (Sum.inl ()))
def zbc (k:Nat) (a0:List Field):Option Int :=
 (zav k a0 k 0).bind fun o1=>onS o1 (fun x1_0=>some (-1)) (fun r1=>some r1)
def zaG (k:Nat) (a0:List Field):Option Bool :=
 (zbc k a0).bind fun x1=>some (decide (x1≥0))
def zdc (k:Nat) (a0:List Int) (a1:List Int):Nat→Nat→Option (Sum Unit Bool)
 | 0,_=>none
 | n2+1,s2_0=>bif (decide (((s2_0:Nat):Int)<((a0.length:Nat):Int))) then (ifp (s2_0<a0.length)<|ifp (s2_0<a1.length)<|bif ((a0.getD s2_0 default) != (a1.getD s2_0 default)) then (some (Sum.inr false)) else (ifp (s2_0+1≤9223372036854775807)<|zdc k a0 a1 n2 (s2_0+1))) else (some (Sum.inl ()))
def zdU (k:Nat) (a0:List Int) (a1:List Int):Option Bool :=
 bif (((a0.length:Nat):Int) != ((a1.length:Nat):Int)) then (some false) else ((zdc k a0 a1 k 0).bind fun o2=>onS o2 (fun x2_0=>some true) (fun r2=>some r2))
def zfg (k:Nat) (a0:Int):Option Bool :=
 some (((((decide (a0≥2))&&(decide (a0≤5)))||(a0==26))||(a0==27))||((decide (a0≥28))&&(decide (a0≤30))))
def zcb (k:Nat) (a0:List Int) (a1:List Int):Nat→Nat→Option (Sum Unit Bool)
 | 0,_=>none
 | n2+1,s2_0=>bif (decide (((s2_0:Nat):Int)<((a0.length:Nat):Int))) then (ifp (s2_0<a0.length)<|ifp (s2_0<a1.length)<|bif ((a0.getD s2_0 default) != (a1.getD s2_0 default)) then (some (Sum.inr false)) else (ifp (s2_0+1≤9223372036854775807)<|zcb k a0 a1 n2 (s2_0+1))) else (some (Sum.inl ()))
def zew (k:Nat) (a0:List Int) (a1:List Int):Option Bool :=
 bif (((a0.length:Nat):Int) != ((a1.length:Nat):Int)) then (some false) else ((zcb k a0 a1 k 0).bind fun o2=>onS o2 (fun x2_0=>some true) (fun r2=>some r2))
def zci (k:Nat) (a0:List (List UInt8)) (a1:List (List UInt8)):Nat→Nat→Option (Sum Unit Bool)
 | 0,_=>none
 | n2+1,s2_0=>bif (decide (((s2_0:Nat):Int)<((a0.length:Nat):Int))) then (ifp (s2_0<a0.length)<|ifp (s2_0<a1.length)<|bif (!(decide ((a0.getD s2_0 default)=(a1.getD s2_0 default)))) then (some (Sum.inr false)) else (ifp (s2_0+1≤9223372036854775807)<|zci k a0 a1 n2 (s2_0+1))) else (some (Sum.inl ()))
def zeg (k:Nat) (a0:List (List UInt8)) (a1:List (List UInt8)):Option Bool :=
 bif (((a0.length:Nat):Int) != ((a1.length:Nat):Int)) then (some false) else ((zci k a0 a1 k 0).bind fun o2=>onS o2 (fun x2_0=>some true) (fun r2=>some r2))
def zdT (k:Nat) (a0:Value) (a1:Value):Option Bool :=
 ((bif (((a0.Kind==a1.Kind)&&(a0.N==a1.N))&&(decide (a0.S=a1.S))) then ((zew k a0.I a1.I).bind fun x6=>some x6) else (some false)):Option Bool).bind fun x3=>((bif x3 then ((zeg k a0.L a1.L).bind fun x5=>some x5) else (some false)):Option Bool).bind fun x4=>some x4
def zbo (k:Nat) (a0:Int) (a1:Int):Option Bool :=
 some ((decide (a0≥0))&&(decide (a0<a1)))
def zdz (k:Nat) (a0:Code) (a1:CodeType) (a2:CodeMethod) (a3:Instr):Option Bool :=
 ((bif ((decide (a3.Op<1))||(decide (a3.Op>36))) then (some true) else ((zfg k a3.Op).bind fun x33=>some ((!x33)&&(a3.A != 0)))):Option Bool).bind fun x2=>bif (x2||((a3.Op != 30)&&(a3.B != 0))) then (some false) else (((bif (a3.Op != 1) then ((zdT k a3.Value (⟨0,0,([]:List UInt8),([]:List Int),([]:List (List UInt8))⟩:Value)).bind fun x32=>some (!x32)) else (some false)):Option Bool).bind fun x6=>bif x6 then (some false) else (bif (a3.Op==1) then ((zdF k a3.Value).bind fun x9=>some (x9&&(a3.Value.Kind != 0))) else (bif (a3.Op==2) then ((zbo k a3.A ((a2.Locals.length:Nat):Int)).bind fun x12=>some x12) else (bif (a3.Op==3) then ((zbo k a3.A ((a2.Locals.length:Nat):Int)).bind fun x14=>some x14) else (bif (a3.Op==4) then ((zbo k a3.A ((a1.Fields.length:Nat):Int)).bind fun x16=>some x16) else (bif (a3.Op==5) then ((zbo k a3.A ((a1.Fields.length:Nat):Int)).bind fun x18=>some x18) else (bif (a3.Op==26) then ((zbo k a3.A 17).bind fun x20=>some x20) else (bif (a3.Op==27) then ((zbo k a3.A 17).bind fun x22=>some x22) else (bif (a3.Op==28) then ((zbo k a3.A ((a2.Code.length:Nat):Int)).bind fun x24=>some x24) else (bif (a3.Op==29) then ((zbo k a3.A ((a2.Code.length:Nat):Int)).bind fun x26=>some x26) else (bif (a3.Op==30) then ((zbo k a3.A ((a0.Types.length:Nat):Int)).bind fun x28=>bif x28 then (ifp (0≤a3.A∧a3.A<((a0.Types.length:Nat):Int))<|(zbo k a3.B ((((a0.Types.getD ((a3.A).toNat) default).Methods).length:Nat):Int)).bind fun x31=>some x31) else (some false)) else (some true))))))))))))
def zdf (k:Nat) (a0:Instr) (c0:Code) (c1:CodeType) (c2:CodeMethod):Option Bool :=
 (zdz k c0 c1 c2 a0).bind fun x1=>some (!x1)
def zat (k:Nat) (a0:List Instr) (c1_0:Code) (c1_1:CodeType) (c1_2:CodeMethod):Nat→Nat→Option (Sum Unit Int)
 | 0,_=>none
 | n1+1,s1_0=>bif (decide (((s1_0:Nat):Int)<((a0.length:Nat):Int))) then (ifp (s1_0<a0.length)<|(zdf k (a0.getD s1_0 default) c1_0 c1_1 c1_2).bind fun x4=>bif x4 then (some (Sum.inr ((s1_0:Nat):Int))) else (ifp (s1_0+1≤9223372036854775807)<|zat k a0 c1_0 c1_1 c1_2 n1 (s1_0+1))) else (some (Sum.inl ()))
def zaW (k:Nat) (a0:List Instr) (c1_0:Code) (c1_1:CodeType) (c1_2:CodeMethod):Option Int :=
 (zat k a0 c1_0 c1_1 c1_2 k 0).bind fun o1=>onS o1 (fun x1_0=>some (-1)) (fun r1=>some r1)
def zaE (k:Nat) (a0:List Instr) (c1_0:Code) (c1_1:CodeType) (c1_2:CodeMethod):Option Bool :=
 (zaW k a0 c1_0 c1_1 c1_2).bind fun x1=>some (decide (x1≥0))
def zds (k:Nat) (a0:Code) (a1:CodeType) (a2:CodeMethod):Option Bool :=
 ((bif (decide (((a2.Params.length:Nat):Int)>4)) then (some true) else ((zdN k a2.Params).bind fun x15=>some (!x15))):Option Bool).bind fun x1=>((bif x1 then (some true) else (((bif (a2.Result != 0) then ((zdH k a2.Result).bind fun x14=>some (!x14)) else (some false)):Option Bool).bind fun x13=>some x13)):Option Bool).bind fun x2=>bif x2 then (some false) else (bif (decide (((a2.Locals.length:Nat):Int)>8)) then (some false) else ((zdN k a2.Locals).bind fun x5=>bif (!x5) then (some false) else (bif (decide (((a2.Locals.length:Nat):Int)<((a2.Params.length:Nat):Int))) then (some false) else (ifp (a2.Params.length≤a2.Locals.length)<|(zdU k (a2.Locals.take a2.Params.length) a2.Params).bind fun x9=>bif (!x9) then (some false) else (bif (((a2.Code.length:Nat):Int)==0) then (some false) else ((zaE k a2.Code a0 a1 a2).bind fun x12=>some (!x12)))))))
end Md
end Go.Proofs.YtclffekkjfhpdaaGreat
namespace Go.Proofs.YtclffekkjfhpdaaGreat
set_option linter.unusedVariables false
namespace Md
def zaA (k:Nat) (a0:Int) (c1_0:Code):Nat→Nat→(List (List UInt8))→Option (Sum Unit Bool)
 | 0,_,_=>none
 | n1+1,s1_0,s1_1=>bif (decide (((s1_0:Nat):Int)<a0)) then ((zcT k ((s1_0:Nat):Int) c1_0).bind fun x3=>(zei k x3).bind fun x4=>bif ((!x4)||(decide (x3∈s1_1))) then (some (Sum.inr false)) else (ifp (¬(x3∈s1_1))<|ifp (s1_0+1≤9223372036854775807)<|zaA k a0 c1_0 n1 (s1_0+1) (s1_1++[x3]))) else (some (Sum.inl ()))
def zbz (k:Nat) (a0:Int) (c1_0:Code):Option Bool :=
 (zaA k a0 c1_0 k 0 ([]:List (List UInt8))).bind fun o1=>onS o1 (fun x1_0=>some true) (fun r1=>some r1)
def zaC (k:Nat) (a0:Int) (c1_0:CodeType):Nat→Nat→(List (List UInt8))→Option (Sum Unit Bool)
 | 0,_,_=>none
 | n1+1,s1_0,s1_1=>bif (decide (((s1_0:Nat):Int)<a0)) then ((zcW k ((s1_0:Nat):Int) c1_0).bind fun x3=>(zei k x3).bind fun x4=>bif ((!x4)||(decide (x3∈s1_1))) then (some (Sum.inr false)) else (ifp (¬(x3∈s1_1))<|ifp (s1_0+1≤9223372036854775807)<|zaC k a0 c1_0 n1 (s1_0+1) (s1_1++[x3]))) else (some (Sum.inl ()))
def zbA (k:Nat) (a0:Int) (c1_0:CodeType):Option Bool :=
 (zaC k a0 c1_0 k 0 ([]:List (List UInt8))).bind fun o1=>onS o1 (fun x1_0=>some true) (fun r1=>some r1)
def zaB (k:Nat) (a0:Int) (c1_0:CodeType):Nat→Nat→(List (List UInt8))→Option (Sum Unit Bool)
 | 0,_,_=>none
 | n1+1,s1_0,s1_1=>bif (decide (((s1_0:Nat):Int)<a0)) then ((zcY k ((s1_0:Nat):Int) c1_0).bind fun x3=>(zei k x3).bind fun x4=>bif ((!x4)||(decide (x3∈s1_1))) then (some (Sum.inr false)) else (ifp (¬(x3∈s1_1))<|ifp (s1_0+1≤9223372036854775807)<|zaB k a0 c1_0 n1 (s1_0+1) (s1_1++[x3]))) else (some (Sum.inl ()))
def zbv (k:Nat) (a0:Int) (c1_0:CodeType):Option Bool :=
 (zaB k a0 c1_0 k 0 ([]:List (List UInt8))).bind fun o1=>onS o1 (fun x1_0=>some true) (fun r1=>some r1)
def zdO (k:Nat) (a0:CodeType):Option Bool :=
 bif ((decide (((a0.Fields.length:Nat):Int)>8))||(decide (((a0.Methods.length:Nat):Int)>16))) then (some false) else ((zbA k ((a0.Fields.length:Nat):Int) a0).bind fun x3=>((bif (!x3) then (some true) else ((zbv k ((a0.Methods.length:Nat):Int) a0).bind fun x7=>some (!x7))):Option Bool).bind fun x4=>bif x4 then (some false) else ((zaG k a0.Fields).bind fun x6=>some (!x6)))
def zda (k:Nat) (a0:CodeType):Option Bool :=
 (zdO k a0).bind fun x1=>some (!x1)
def zap (k:Nat) (a0:List CodeType):Nat→Nat→Option (Sum Unit Int)
 | 0,_=>none
 | n1+1,s1_0=>bif (decide (((s1_0:Nat):Int)<((a0.length:Nat):Int))) then (ifp (s1_0<a0.length)<|(zda k (a0.getD s1_0 default)).bind fun x4=>bif x4 then (some (Sum.inr ((s1_0:Nat):Int))) else (ifp (s1_0+1≤9223372036854775807)<|zap k a0 n1 (s1_0+1))) else (some (Sum.inl ()))
def zaN (k:Nat) (a0:List CodeType):Option Int :=
 (zap k a0 k 0).bind fun o1=>onS o1 (fun x1_0=>some (-1)) (fun r1=>some r1)
def zay (k:Nat) (a0:List CodeType):Option Bool :=
 (zaN k a0).bind fun x1=>some (decide (x1≥0))
def zbX (k:Nat) (a0:Code) (s4_1:Nat):Nat→Nat→Nat→Option (Sum Nat Bool)
 | 0,_,_=>none
 | n9+1,s9_0,s9_1=>bif (decide (((s9_1:Nat):Int)<((((a0.Types.getD s4_1 default).Methods).length:Nat):Int))) then (ifp (s9_1<((a0.Types.getD s4_1 default).Methods).length)<|ifp (s9_0+(((((a0.Types.getD s4_1 default).Methods).getD s9_1 default).Code).length)≤9223372036854775807)<|((bif (decide ((((s9_0+(((((a0.Types.getD s4_1 default).Methods).getD s9_1 default).Code).length)):Nat):Int)>3000)) then (some true) else ((zds k a0 (a0.Types.getD s4_1 default) (((a0.Types.getD s4_1 default).Methods).getD s9_1 default)).bind fun x16=>some (!x16))):Option Bool).bind fun x13=>bif x13 then (some (Sum.inr false)) else (ifp (s9_1+1≤9223372036854775807)<|zbX k a0 s4_1 n9 (s9_0+(((((a0.Types.getD s4_1 default).Methods).getD s9_1 default).Code).length)) (s9_1+1))) else (some (Sum.inl s9_0))
def zbY (k:Nat) (a0:Code):Nat→Nat→Nat→Option (Sum Unit Bool)
 | 0,_,_=>none
 | n4+1,s4_0,s4_1=>bif (decide (((s4_1:Nat):Int)<((a0.Types.length:Nat):Int))) then ((ifp (s4_1<a0.Types.length)<|(zbX k a0 s4_1 k s4_0 0).bind fun o9=>onS o9 (fun x9_0=>some (Sum.inl x9_0)) (fun r9=>some (Sum.inr r9)):Option (Sum Nat Bool)).bind fun o6=>onS o6 (fun x6_0=>ifp (s4_1+1≤9223372036854775807)<|zbY k a0 n4 x6_0 (s4_1+1)) (fun r6=>some (Sum.inr r6))) else (some (Sum.inl ()))
def zcV (k:Nat) (a0:Code):Option Bool :=
 ((bif (decide (((a0.Types.length:Nat):Int)>8)) then (some true) else ((zbz k ((a0.Types.length:Nat):Int) a0).bind fun x18=>some (!x18))):Option Bool).bind fun x1=>((bif x1 then (some true) else ((zay k a0.Types).bind fun x17=>some x17)):Option Bool).bind fun x2=>bif x2 then (some false) else ((zbY k a0 k 0 0).bind fun o4=>onS o4 (fun x4_0=>some true) (fun r4=>some r4))
end Md
end Go.Proofs.YtclffekkjfhpdaaGreat
namespace Go.Proofs.YtclffekkjfhpdaaGreat
set_option linter.unusedVariables false
namespace Md
structure Bytecodewriter where
 b:List UInt8
 deriving Inhabited,DecidableEq
def zeL (k:Nat) (a0:List UInt8) (a1:Int):Option (List UInt8) :=
 ifp (0≤(W (((a0.length:Nat):Int)+a1)))<|ifp (((W (((a0.length:Nat):Int)+a1))).toNat≤16000000)<|ifp (a0.length≤((W (((a0.length:Nat):Int)+a1))).toNat)<|some (a0.take (List.replicate a0.length (0:UInt8)).length++(List.replicate a0.length (0:UInt8)).drop a0.length)
def zdM (k:Nat):Nat→UInt64→(List UInt8)→Option (UInt64×(List UInt8))
 | 0,_,_=>none
 | n3+1,s3_0,s3_1=>bif (decide ((s3_0.toNat:Int)≥128)) then (ifp (s3_1.length+[((s3_0.toUInt8) ||| (128:UInt8))].length≤4000000)<|zdM k n3 (shr64 s3_0 7) (s3_1++[((s3_0.toUInt8) ||| (128:UInt8))])) else (some (s3_0,s3_1))
def zet (k:Nat) (a0:List UInt8) (a1:UInt64):Option (List UInt8) :=
 ((zdM k k a1 a0).bind fun x3_0=>some (x3_0.1,x3_0.2):Option (UInt64×(List UInt8))).bind fun x1_0=>ifp (x1_0.2.length+[(x1_0.1.toUInt8)].length≤4000000)<|some (x1_0.2++[(x1_0.1.toUInt8)])
def zfF (k:Nat) (a0:List UInt8) (a1:UInt64):Option (List UInt8) :=
 (zeL k a0 10).bind fun x1=>(zet k x1 a1).bind fun x2=>some x2
def zbt (k:Nat) (a0:Bytecodewriter) (a1:Int):Option Bytecodewriter :=
 (zfF k a0.b (UInt64.ofInt a1)).bind fun x1=>some (⟨x1⟩:Bytecodewriter)
def zeG (k:Nat) (a0:List UInt8) (a1:List UInt8):Option (List UInt8) :=
 (zet k a0 (UInt64.ofNat a1.length)).bind fun x1=>ifp (x1.length+a1.length≤4000000)<|some (x1++a1)
def zff (k:Nat) (a0:List UInt8) (a1:List UInt8):Option (List UInt8) :=
 ifp (a1.length+10≤9223372036854775807)<|(zeL k a0 (((a1.length+10):Nat):Int)).bind fun x2=>(zeG k x2 a1).bind fun x3=>some x3
def zdo (k:Nat) (a0:Bytecodewriter) (a1:List UInt8):Option Bytecodewriter :=
 (zff k a0.b a1).bind fun x1=>some (⟨x1⟩:Bytecodewriter)
def zgw (k:Nat) (a0:List UInt8) (a1:Int):Option (List UInt8) :=
 (zet k a0 ((shl64 (UInt64.ofInt a1) 1) ^^^ (UInt64.ofInt (ishr a1 63)))).bind fun x1=>some x1
def zdk (k:Nat) (a1:List Int):Nat→Nat→(List UInt8)→Option (List UInt8)
 | 0,_,_=>none
 | n5+1,s5_0,s5_1=>bif (decide (((s5_0:Nat):Int)<((a1.length:Nat):Int))) then (ifp (s5_0<a1.length)<|(zgw k s5_1 (a1.getD s5_0 default)).bind fun x8=>ifp (s5_0+1≤9223372036854775807)<|zdk k a1 n5 (s5_0+1) x8) else (some s5_1)
def zeq (k:Nat) (a0:List UInt8) (a1:List Int):Option (List UInt8) :=
 ifp (2*a1.length≤9223372036854775807)<|ifp (10+(2*a1.length)≤9223372036854775807)<|(zeL k a0 (((10+(2*a1.length)):Nat):Int)).bind fun x3=>(zet k x3 (UInt64.ofNat a1.length)).bind fun x4=>(zdk k a1 k 0 x4).bind fun x5_0=>some x5_0
def zcL (k:Nat) (a1:List (List UInt8)):Nat→Nat→(List UInt8)→Option (List UInt8)
 | 0,_,_=>none
 | n5+1,s5_0,s5_1=>bif (decide (((s5_0:Nat):Int)<((a1.length:Nat):Int))) then (ifp (s5_0<a1.length)<|(zeG k s5_1 (a1.getD s5_0 default)).bind fun x8=>ifp (s5_0+1≤9223372036854775807)<|zcL k a1 n5 (s5_0+1) x8) else (some s5_1)
def zeO (k:Nat) (a0:List UInt8) (a1:List (List UInt8)):Option (List UInt8) :=
 ifp (10*a1.length≤9223372036854775807)<|ifp (10+(10*a1.length)≤9223372036854775807)<|(zeL k a0 (((10+(10*a1.length)):Nat):Int)).bind fun x3=>(zet k x3 (UInt64.ofNat a1.length)).bind fun x4=>(zcL k a1 k 0 x4).bind fun x5_0=>some x5_0
def zeA (k:Nat) (a0:List UInt8) (a1:Value):Option (List UInt8) :=
 (zdF k a1).bind fun x1=>bif (!x1) then (some ([]:List UInt8)) else ((zeL k a0 16).bind fun x3=>ifp (x3.length+[(UInt8.ofInt a1.Kind)].length≤4000000)<|bif (a1.Kind==1) then ((zgw k (x3++[(UInt8.ofInt a1.Kind)]) a1.N).bind fun x6=>some x6) else (bif (a1.Kind==2) then (ifp ((x3++[(UInt8.ofInt a1.Kind)]).length+[(UInt8.ofInt a1.N)].length≤4000000)<|some ((x3++[(UInt8.ofInt a1.Kind)])++[(UInt8.ofInt a1.N)])) else (bif (a1.Kind==3) then ((zeG k (x3++[(UInt8.ofInt a1.Kind)]) a1.S).bind fun x10=>some x10) else (bif (a1.Kind==4) then ((zeq k (x3++[(UInt8.ofInt a1.Kind)]) a1.I).bind fun x12=>some x12) else (bif (a1.Kind==5) then ((zeO k (x3++[(UInt8.ofInt a1.Kind)]) a1.L).bind fun x14=>some x14) else (some (x3++[(UInt8.ofInt a1.Kind)])))))))
def zcg (k:Nat) (a1:CodeMethod):Nat→Nat→(List UInt8)→Option (List UInt8)
 | 0,_,_=>none
 | n6+1,s6_0,s6_1=>bif (decide (((s6_0:Nat):Int)<((a1.Code.length:Nat):Int))) then ((ifp (s6_0<a1.Code.length)<|(zbt k (⟨s6_1⟩:Bytecodewriter) ((a1.Code.getD s6_0 default).Op)).bind fun x11=>(zbt k x11 ((a1.Code.getD s6_0 default).A)).bind fun x12=>(zbt k x12 ((a1.Code.getD s6_0 default).B)).bind fun x13=>bif (((a1.Code.getD s6_0 default).Op)==1) then ((zeA k x13.b ((a1.Code.getD s6_0 default).Value)).bind fun x15=>some x15) else (some x13.b):Option (List UInt8)).bind fun x8_0=>ifp (s6_0+1≤9223372036854775807)<|zcg k a1 n6 (s6_0+1) x8_0) else (some s6_1)
def zef (k:Nat) (a0:Bytecodewriter) (a1:CodeMethod):Option Bytecodewriter :=
 (zdo k a0 a1.Name).bind fun x1=>(zeq k x1.b a1.Params).bind fun x2=>(zeq k x2 a1.Locals).bind fun x3=>(zbt k (⟨x3⟩:Bytecodewriter) a1.Result).bind fun x4=>(zbt k x4 ((a1.Code.length:Nat):Int)).bind fun x5=>(zcg k a1 k 0 x5.b).bind fun x6_0=>some (⟨x6_0⟩:Bytecodewriter)
end Md
end Go.Proofs.YtclffekkjfhpdaaGreat
namespace Go.Proofs.YtclffekkjfhpdaaGreat
set_option linter.unusedVariables false
namespace Md
def zdl (k:Nat) (a0:Code) (s4_0:Nat):Nat→Nat→(List UInt8)→Option (List UInt8)
 | 0,_,_=>none
 | n13+1,s13_0,s13_1=>bif (decide (((s13_0:Nat):Int)<((((a0.Types.getD s4_0 default).Methods).length:Nat):Int))) then (ifp (s13_0<((a0.Types.getD s4_0 default).Methods).length)<|(zef k (⟨s13_1⟩:Bytecodewriter) (((a0.Types.getD s4_0 default).Methods).getD s13_0 default)).bind fun x16=>ifp (s13_0+1≤9223372036854775807)<|zdl k a0 s4_0 n13 (s13_0+1) x16.b) else (some s13_1)
def zdi (k:Nat) (a0:Code) (s4_0:Nat):Nat→Nat→(List UInt8)→Option (List UInt8)
 | 0,_,_=>none
 | n11+1,s11_0,s11_1=>bif (decide (((s11_0:Nat):Int)<((((a0.Types.getD s4_0 default).Fields).length:Nat):Int))) then (ifp (s11_0<((a0.Types.getD s4_0 default).Fields).length)<|(zdo k (⟨s11_1⟩:Bytecodewriter) ((((a0.Types.getD s4_0 default).Fields).getD s11_0 default).Name)).bind fun x20=>(zbt k x20 ((((a0.Types.getD s4_0 default).Fields).getD s11_0 default).Kind)).bind fun x21=>(zeA k x21.b ((((a0.Types.getD s4_0 default).Fields).getD s11_0 default).Init)).bind fun x22=>ifp (s11_0+1≤9223372036854775807)<|zdi k a0 s4_0 n11 (s11_0+1) x22) else (some s11_1)
def zdj (k:Nat) (a0:Code):Nat→Nat→(List UInt8)→Option (List UInt8)
 | 0,_,_=>none
 | n4+1,s4_0,s4_1=>bif (decide (((s4_0:Nat):Int)<((a0.Types.length:Nat):Int))) then ((ifp (s4_0<a0.Types.length)<|(zdo k (⟨s4_1⟩:Bytecodewriter) ((a0.Types.getD s4_0 default).Name)).bind fun x9=>(zbt k x9 ((((a0.Types.getD s4_0 default).Fields).length:Nat):Int)).bind fun x10=>(zdi k a0 s4_0 k 0 x10.b).bind fun x11_0=>(zbt k (⟨x11_0⟩:Bytecodewriter) ((((a0.Types.getD s4_0 default).Methods).length:Nat):Int)).bind fun x12=>(zdl k a0 s4_0 k 0 x12.b).bind fun x13_0=>some x13_0:Option (List UInt8)).bind fun x6_0=>ifp (s4_0+1≤9223372036854775807)<|zdj k a0 n4 (s4_0+1) x6_0) else (some s4_1)
def zeU (k:Nat) (a0:Code):Option (List UInt8) :=
 (zcV k a0).bind fun x1=>bif (!x1) then (some ([]:List UInt8)) else ((zbt k (⟨([]:List UInt8)⟩:Bytecodewriter) ((a0.Types.length:Nat):Int)).bind fun x3=>(zdj k a0 k 0 x3.b).bind fun x4_0=>some x4_0)
end Md
end Go.Proofs.YtclffekkjfhpdaaGreat
namespace Go.Proofs.YtclffekkjfhpdaaGreat
set_option linter.unusedVariables false
namespace Md
structure Bytecodereader where
 b:List UInt8
 failed:Bool
 deriving Inhabited,DecidableEq
def zep (k:Nat) (a0:List UInt8):Nat→UInt64→Nat→Option (Sum Unit (UInt64×Int×Int))
 | 0,_,_=>none
 | n1+1,s1_0,s1_1=>bif (decide (((s1_1:Nat):Int)<((a0.length:Nat):Int))) then (ifp (s1_1<a0.length)<|bif (((((s1_1:Nat):Int)==9)&&(decide ((((a0.getD s1_1 default)).toNat:Int)>1)))||((decide (((s1_1:Nat):Int)>0))&&((((a0.getD s1_1 default)).toNat:Int)==0))) then (some (Sum.inr ((0:UInt64),0,3))) else (ifp (7*s1_1≤9223372036854775807)<|bif (decide ((((a0.getD s1_1 default)).toNat:Int)<128)) then (ifp (s1_1+1≤9223372036854775807)<|some (Sum.inr ((s1_0 ||| (shl64 (((a0.getD s1_1 default) &&& (127:UInt8)).toUInt64) (7*s1_1))),(((s1_1+1):Nat):Int),0))) else (ifp (s1_1+1≤9223372036854775807)<|zep k a0 n1 (s1_0 ||| (shl64 (((a0.getD s1_1 default) &&& (127:UInt8)).toUInt64) (7*s1_1))) (s1_1+1)))) else (some (Sum.inl ()))
def wire_Uint (k:Nat) (a0:List UInt8):Option (UInt64×Int×Int) :=
 (zep k a0 k (0:UInt64) 0).bind fun o1=>onS o1 (fun x1_0=>some ((0:UInt64),0,2)) (fun r1=>some r1)
def wire_Int (k:Nat) (a0:List UInt8):Option (Int×Int×Int) :=
 (wire_Uint k a0).bind fun x1=>some ((ixor (W ((shr64 x1.1 1).toNat:Int)) (W (-(W ((x1.1 &&& (1:UInt64)).toNat:Int))))),x1.2.1,x1.2.2)
def zfI (k:Nat) (a0:List UInt8) (a1:Int):Option (Int×Int×Int) :=
 bif (decide (a1<0)) then (some (0,0,1)) else ((wire_Uint k a0).bind fun x2=>bif (x2.2.2 != 0) then (some (0,0,x2.2.2)) else (bif (decide ((x2.1.toNat:Int)>(((UInt64.ofInt a1)).toNat:Int))) then (some (0,0,5)) else (some ((W (x2.1.toNat:Int)),x2.2.1,0))))
def zfR (k:Nat) (a0:List UInt8) (a1:Int):Option ((List UInt8)×Int×Int) :=
 (zfI k a0 a1).bind fun x1=>bif (x1.2.2 != 0) then (some (([]:List UInt8),0,x1.2.2)) else (bif (decide ((W (((a0.length:Nat):Int) - x1.2.1))<x1.1)) then (some (([]:List UInt8),0,2)) else (ifp (0≤x1.2.1)<|ifp (0≤(W (x1.2.1+x1.1)))<|ifp ((x1.2.1).toNat≤((W (x1.2.1+x1.1))).toNat∧((W (x1.2.1+x1.1))).toNat≤a0.length)<|some (((a0.drop ((x1.2.1).toNat)).take (((W (x1.2.1+x1.1))).toNat - ((x1.2.1).toNat))),(W (x1.2.1+x1.1)),0)))
def zcc (k:Nat) (a0:List UInt8) (x1:Int×Int×Int):Nat→Int→Int→Nat→(List Int)→Option (Int×Int×(List Int))
 | 0,_,_,_,_=>none
 | n2+1,s2_0,s2_1,s2_2,s2_3=>bif ((s2_1==0)&&(decide (((s2_2:Nat):Int)<x1.1))) then (ifp (0≤s2_0)<|ifp ((s2_0).toNat≤a0.length)<|(wire_Int k (a0.drop ((s2_0).toNat))).bind fun x8=>ifp (s2_3.length+[x8.1].length≤4000000)<|ifp (s2_2+1≤9223372036854775807)<|zcc k a0 x1 n2 (W (s2_0+x8.2.1)) x8.2.2 (s2_2+1) (s2_3++[x8.1])) else (some (s2_0,s2_1,s2_3))
def zdZ (k:Nat) (a0:List UInt8) (a1:Int):Option ((List Int)×Int×Int) :=
 (zfI k a0 a1).bind fun x1=>(zcc k a0 x1 k x1.2.1 x1.2.2 0 ([]:List Int)).bind fun x2_0=>bif (x2_0.2.1 != 0) then (some (([]:List Int),0,x2_0.2.1)) else (some (x2_0.2.2,x2_0.1,0))
def zfT (k:Nat) (a0:List UInt8) (a1:Int):Option ((List Int)×Int×Int) :=
 (zdZ k a0 a1).bind fun x1=>some (x1.1,x1.2.1,x1.2.2)
def zfd (k:Nat) (a0:List UInt8):Option ((List UInt8)×Int×Int) :=
 (zfR k a0 64).bind fun x1=>some (x1.1,x1.2.1,x1.2.2)
def zbp (k:Nat) (a0:List UInt8) (x1:Int×Int×Int):Nat→Int→Int→Nat→(List (List UInt8))→Option (Int×Int×(List (List UInt8)))
 | 0,_,_,_,_=>none
 | n2+1,s2_0,s2_1,s2_2,s2_3=>bif ((s2_1==0)&&(decide (((s2_2:Nat):Int)<x1.1))) then (ifp (0≤s2_0)<|ifp ((s2_0).toNat≤a0.length)<|(zfd k (a0.drop ((s2_0).toNat))).bind fun x8=>ifp (s2_3.length+[x8.1].length≤4000000)<|ifp (s2_2+1≤9223372036854775807)<|zbp k a0 x1 n2 (W (s2_0+x8.2.1)) x8.2.2 (s2_2+1) (s2_3++[x8.1])) else (some (s2_0,s2_1,s2_3))
def zcF (k:Nat) (a0:List UInt8) (a1:Int):Option ((List (List UInt8))×Int×Int) :=
 (zfI k a0 a1).bind fun x1=>(zbp k a0 x1 k x1.2.1 x1.2.2 0 ([]:List (List UInt8))).bind fun x2_0=>bif (x2_0.2.1 != 0) then (some (([]:List (List UInt8)),0,x2_0.2.1)) else (some (x2_0.2.2,x2_0.1,0))
def zfv (k:Nat) (a0:List UInt8) (a1:Int):Option ((List (List UInt8))×Int×Int) :=
 (zcF k a0 a1).bind fun x1=>some (x1.1,x1.2.1,x1.2.2)
def zgG (k:Nat) (a0:List UInt8):Option (Int×Int×Int) :=
 bif (((a0.length:Nat):Int)==0) then (some (0,0,2)) else (ifp (0<a0.length)<|bif (decide ((((a0.getD 0 default)).toNat:Int)>1)) then (some (0,0,3)) else (ifp (0<a0.length)<|some ((((a0.getD 0 default).toNat:Nat):Int),1,0)))
def zhA (k:Nat) (a0:List UInt8):Option (Value×Int×Int) :=
 bif (((a0.length:Nat):Int)==0) then (some ((⟨0,0,([]:List UInt8),([]:List Int),([]:List (List UInt8))⟩:Value),0,2)) else (ifp (0<a0.length)<|ifp (1≤a0.length)<|bif ((((a0.getD 0 default).toNat:Nat):Int)==0) then (some ((⟨(((a0.getD 0 default).toNat:Nat):Int),0,([]:List UInt8),([]:List Int),([]:List (List UInt8))⟩:Value),1,0)) else (bif ((((a0.getD 0 default).toNat:Nat):Int)==1) then ((wire_Int k (a0.drop 1)).bind fun x6=>bif (x6.2.2 != 0) then (some ((⟨0,0,([]:List UInt8),([]:List Int),([]:List (List UInt8))⟩:Value),0,x6.2.2)) else (some ((⟨(((a0.getD 0 default).toNat:Nat):Int),x6.1,([]:List UInt8),([]:List Int),([]:List (List UInt8))⟩:Value),(W (x6.2.1+1)),0))) else (bif ((((a0.getD 0 default).toNat:Nat):Int)==2) then ((zgG k (a0.drop 1)).bind fun x9=>bif (x9.2.2 != 0) then (some ((⟨0,0,([]:List UInt8),([]:List Int),([]:List (List UInt8))⟩:Value),0,x9.2.2)) else (some ((⟨(((a0.getD 0 default).toNat:Nat):Int),x9.1,([]:List UInt8),([]:List Int),([]:List (List UInt8))⟩:Value),(W (x9.2.1+1)),0))) else (bif ((((a0.getD 0 default).toNat:Nat):Int)==3) then ((zfR k (a0.drop 1) 64).bind fun x12=>bif (x12.2.2 != 0) then (some ((⟨0,0,([]:List UInt8),([]:List Int),([]:List (List UInt8))⟩:Value),0,x12.2.2)) else (some ((⟨(((a0.getD 0 default).toNat:Nat):Int),0,x12.1,([]:List Int),([]:List (List UInt8))⟩:Value),(W (x12.2.1+1)),0))) else (bif ((((a0.getD 0 default).toNat:Nat):Int)==4) then ((zfT k (a0.drop 1) 16).bind fun x15=>bif (x15.2.2 != 0) then (some ((⟨0,0,([]:List UInt8),([]:List Int),([]:List (List UInt8))⟩:Value),0,x15.2.2)) else (some ((⟨(((a0.getD 0 default).toNat:Nat):Int),0,([]:List UInt8),x15.1,([]:List (List UInt8))⟩:Value),(W (x15.2.1+1)),0))) else (bif ((((a0.getD 0 default).toNat:Nat):Int)==5) then ((zfv k (a0.drop 1) 16).bind fun x18=>bif (x18.2.2 != 0) then (some ((⟨0,0,([]:List UInt8),([]:List Int),([]:List (List UInt8))⟩:Value),0,x18.2.2)) else (some ((⟨(((a0.getD 0 default).toNat:Nat):Int),0,([]:List UInt8),([]:List Int),x18.1⟩:Value),(W (x18.2.1+1)),0))) else (some ((⟨0,0,([]:List UInt8),([]:List Int),([]:List (List UInt8))⟩:Value),0,3))))))))
def zcX (k:Nat) (a0:Bytecodereader) (a1:Int) (a2:Int):Option Bytecodereader :=
 bif (a2 != 0) then (some (⟨a0.b,true⟩:Bytecodereader)) else (ifp (0≤a1)<|ifp ((a1).toNat≤a0.b.length)<|some (⟨(a0.b.drop ((a1).toNat)),a0.failed⟩:Bytecodereader))
def zbu (k:Nat) (a0:Bytecodereader) (a1:Int):Option (Int×Bytecodereader) :=
 (wire_Uint k a0.b).bind fun x1=>(zcX k a0 x1.2.1 x1.2.2).bind fun x2=>bif (decide ((x1.1.toNat:Int)>(((UInt64.ofInt a1)).toNat:Int))) then (some (0,(⟨x2.b,true⟩:Bytecodereader))) else (some ((W (x1.1.toNat:Int)),x2))
def zdt (k:Nat) (a0:Bytecodereader):Option ((List UInt8)×Bytecodereader) :=
 (zfR k a0.b 32).bind fun x1=>(zcX k a0 x1.2.1 x1.2.2).bind fun x2=>some (x1.1,x2)
def zdK (k:Nat) (a0:Bytecodereader):Option (Value×Bytecodereader) :=
 (zhA k a0.b).bind fun x1=>(zcX k a0 x1.2.1 x1.2.2).bind fun x2=>some (x1.1,x2)
def zdP (k:Nat) (a0:Bytecodereader) (a1:Int):Option ((List Int)×Bytecodereader) :=
 (zfT k a0.b a1).bind fun x1=>(zcX k a0 x1.2.1 x1.2.2).bind fun x2=>some (x1.1,x2)
def zcj (k:Nat):Nat→Int→Bytecodereader→(List Instr)→Option (Bytecodereader×(List Instr))
 | 0,_,_,_=>none
 | n6+1,s6_0,s6_1,s6_2=>bif ((decide (s6_0>0))&&(!s6_1.failed)) then (((zbu k s6_1 36).bind fun x10=>(zbu k x10.2 9223372036854775807).bind fun x11=>(zbu k x11.2 9223372036854775807).bind fun x12=>bif (x10.1==1) then ((zdK k x12.2).bind fun x14=>ifp (s6_2.length+[(⟨x10.1,x11.1,x12.1,x14.1⟩:Instr)].length≤4000000)<|some (x14.2,(s6_2++[(⟨x10.1,x11.1,x12.1,x14.1⟩:Instr)]))) else (ifp (s6_2.length+[(⟨x10.1,x11.1,x12.1,(⟨0,0,([]:List UInt8),[],[]⟩:Value)⟩:Instr)].length≤4000000)<|some (x12.2,(s6_2++[(⟨x10.1,x11.1,x12.1,(⟨0,0,([]:List UInt8),[],[]⟩:Value)⟩:Instr)]))):Option (Bytecodereader×(List Instr))).bind fun x9_0=>zcj k n6 (W (s6_0 - 1)) x9_0.1 x9_0.2) else (some (s6_1,s6_2))
def zeh (k:Nat) (a0:Bytecodereader):Option (CodeMethod×Bytecodereader) :=
 (zdt k a0).bind fun x1=>(zdP k x1.2 4).bind fun x2=>(zdP k x2.2 8).bind fun x3=>(zbu k x3.2 5).bind fun x4=>(zbu k x4.2 3000).bind fun x5=>(zcj k k x5.1 x5.2 ([]:List Instr)).bind fun x6_0=>some ((⟨x1.1,x2.1,x4.1,x3.1,x6_0.2⟩:CodeMethod),x6_0.1)
def zcy (k:Nat):Nat→Int→Bytecodereader→(List CodeMethod)→Option (Bytecodereader×(List CodeMethod))
 | 0,_,_,_=>none
 | n5+1,s5_0,s5_1,s5_2=>bif ((decide (s5_0>0))&&(!s5_1.failed)) then ((zeh k s5_1).bind fun x8=>ifp (s5_2.length+[x8.1].length≤4000000)<|zcy k n5 (W (s5_0 - 1)) x8.2 (s5_2++[x8.1])) else (some (s5_1,s5_2))
def zcz (k:Nat):Nat→Int→Bytecodereader→(List Field)→Option (Bytecodereader×(List Field))
 | 0,_,_,_=>none
 | n3+1,s3_0,s3_1,s3_2=>bif ((decide (s3_0>0))&&(!s3_1.failed)) then ((zdt k s3_1).bind fun x12=>(zbu k x12.2 5).bind fun x13=>(zdK k x13.2).bind fun x14=>ifp (s3_2.length+[(⟨x12.1,x13.1,x14.1⟩:Field)].length≤4000000)<|zcz k n3 (W (s3_0 - 1)) x14.2 (s3_2++[(⟨x12.1,x13.1,x14.1⟩:Field)])) else (some (s3_1,s3_2))
def zeE (k:Nat) (a0:Bytecodereader):Option (CodeType×Bytecodereader) :=
 (zdt k a0).bind fun x1=>(zbu k x1.2 8).bind fun x2=>(zcz k k x2.1 x2.2 ([]:List Field)).bind fun x3_0=>(zbu k x3_0.1 16).bind fun x4=>(zcy k k x4.1 x4.2 ([]:List CodeMethod)).bind fun x5_0=>some ((⟨x1.1,x3_0.2,x5_0.2⟩:CodeType),x5_0.1)
end Md
end Go.Proofs.YtclffekkjfhpdaaGreat
namespace Go.Proofs.YtclffekkjfhpdaaGreat
set_option linter.unusedVariables false
namespace Md
def zdh (k:Nat):Nat→Int→Bytecodereader→(List CodeType)→Option (Bytecodereader×(List CodeType))
 | 0,_,_,_=>none
 | n2+1,s2_0,s2_1,s2_2=>bif ((decide (s2_0>0))&&(!s2_1.failed)) then ((zeE k s2_1).bind fun x8=>ifp (s2_2.length+[x8.1].length≤4000000)<|zdh k n2 (W (s2_0 - 1)) x8.2 (s2_2++[x8.1])) else (some (s2_1,s2_2))
def zfG (k:Nat) (a0:List UInt8):Option (Code×Int×Int) :=
 (zbu k (⟨a0,false⟩:Bytecodereader) 8).bind fun x1=>(zdh k k x1.1 x1.2 ([]:List CodeType)).bind fun x2_0=>bif x2_0.1.failed then (some ((⟨([]:List CodeType)⟩:Code),0,3)) else ((zcV k (⟨x2_0.2⟩:Code)).bind fun x4=>bif (!x4) then (some ((⟨([]:List CodeType)⟩:Code),0,3)) else (some ((⟨x2_0.2⟩:Code),(W (((a0.length:Nat):Int) - ((x2_0.1.b.length:Nat):Int))),0)))
end Md
end Go.Proofs.YtclffekkjfhpdaaGreat
namespace Go.Proofs.YtclffekkjfhpdaaGreat
set_option linter.unusedVariables false
namespace Md
def zbj (k:Nat) (a0:Value):Nat→Nat→Option (Sum Unit Bool)
 | 0,_=>none
 | n1+1,s1_0=>bif (decide (((s1_0:Nat):Int)<((a0.L.length:Nat):Int))) then (ifp (s1_0<a0.L.length)<|bif (decide ((((a0.L.getD s1_0 default).length:Nat):Int)>100)) then (some (Sum.inr false)) else (ifp (s1_0+1≤9223372036854775807)<|zbj k a0 n1 (s1_0+1))) else (some (Sum.inl ()))
def zcZ (k:Nat) (a0:Value):Option Bool :=
 (zbj k a0 k 0).bind fun o1=>onS o1 (fun x1_0=>some (((decide (((a0.S.length:Nat):Int)≤100))&&(decide (((a0.I.length:Nat):Int)≤40)))&&(decide (((a0.L.length:Nat):Int)≤40)))) (fun r1=>some r1)
def zaV (k:Nat) (a0:Code) (s2_0:Nat) (s11_0:Nat):Nat→Nat→Option (Sum Unit Bool)
 | 0,_=>none
 | n20+1,s20_0=>bif (decide (((s20_0:Nat):Int)<((((((a0.Types.getD s2_0 default).Methods).getD s11_0 default).Code).length:Nat):Int))) then (ifp (s20_0<((((a0.Types.getD s2_0 default).Methods).getD s11_0 default).Code).length)<|(zcZ k ((((((a0.Types.getD s2_0 default).Methods).getD s11_0 default).Code).getD s20_0 default).Value)).bind fun x23=>bif (!x23) then (some (Sum.inr false)) else (ifp (s20_0+1≤9223372036854775807)<|zaV k a0 s2_0 s11_0 n20 (s20_0+1))) else (some (Sum.inl ()))
def zaT (k:Nat) (a0:Code) (s2_0:Nat):Nat→Nat→Option (Sum Unit Bool)
 | 0,_=>none
 | n11+1,s11_0=>bif (decide (((s11_0:Nat):Int)<((((a0.Types.getD s2_0 default).Methods).length:Nat):Int))) then ((ifp (s11_0<((a0.Types.getD s2_0 default).Methods).length)<|bif ((((decide (((((((a0.Types.getD s2_0 default).Methods).getD s11_0 default).Name).length:Nat):Int)>100))||(decide (((((((a0.Types.getD s2_0 default).Methods).getD s11_0 default).Params).length:Nat):Int)>20)))||(decide (((((((a0.Types.getD s2_0 default).Methods).getD s11_0 default).Locals).length:Nat):Int)>40)))||(decide (((((((a0.Types.getD s2_0 default).Methods).getD s11_0 default).Code).length:Nat):Int)>120))) then (some (Sum.inr false)) else ((zaV k a0 s2_0 s11_0 k 0).bind fun o20=>onS o20 (fun x20_0=>some (Sum.inl ())) (fun r20=>some (Sum.inr r20))):Option (Sum Unit Bool)).bind fun o13=>onS o13 (fun x13_0=>ifp (s11_0+1≤9223372036854775807)<|zaT k a0 s2_0 n11 (s11_0+1)) (fun r13=>some (Sum.inr r13))) else (some (Sum.inl ()))
def zaU (k:Nat) (a0:Code) (s2_0:Nat):Nat→Nat→Option (Sum Unit Bool)
 | 0,_=>none
 | n10+1,s10_0=>bif (decide (((s10_0:Nat):Int)<((((a0.Types.getD s2_0 default).Fields).length:Nat):Int))) then (ifp (s10_0<((a0.Types.getD s2_0 default).Fields).length)<|((bif (decide (((((((a0.Types.getD s2_0 default).Fields).getD s10_0 default).Name).length:Nat):Int)>100)) then (some true) else (ifp (s10_0<((a0.Types.getD s2_0 default).Fields).length)<|(zcZ k ((((a0.Types.getD s2_0 default).Fields).getD s10_0 default).Init)).bind fun x32=>some (!x32))):Option Bool).bind fun x28=>bif x28 then (some (Sum.inr false)) else (ifp (s10_0+1≤9223372036854775807)<|zaU k a0 s2_0 n10 (s10_0+1))) else (some (Sum.inl ()))
def zbi (k:Nat) (a0:Code):Nat→Nat→Option (Sum Unit Bool)
 | 0,_=>none
 | n2+1,s2_0=>bif (decide (((s2_0:Nat):Int)<((a0.Types.length:Nat):Int))) then ((ifp (s2_0<a0.Types.length)<|bif (((decide (((((a0.Types.getD s2_0 default).Name).length:Nat):Int)>100))||(decide (((((a0.Types.getD s2_0 default).Fields).length:Nat):Int)>20)))||(decide (((((a0.Types.getD s2_0 default).Methods).length:Nat):Int)>20))) then (some (Sum.inr false)) else ((zaU k a0 s2_0 k 0).bind fun o10=>onS o10 (fun x10_0=>(zaT k a0 s2_0 k 0).bind fun o11=>onS o11 (fun x11_0=>some (Sum.inl ())) (fun r11=>some (Sum.inr r11))) (fun r10=>some (Sum.inr r10))):Option (Sum Unit Bool)).bind fun o4=>onS o4 (fun x4_0=>ifp (s2_0+1≤9223372036854775807)<|zbi k a0 n2 (s2_0+1)) (fun r4=>some (Sum.inr r4))) else (some (Sum.inl ()))
def zdp (k:Nat) (a0:Code):Option Bool :=
 bif (decide (((a0.Types.length:Nat):Int)>20)) then (some false) else ((zbi k a0 k 0).bind fun o2=>onS o2 (fun x2_0=>some true) (fun r2=>some r2))
def zbK (k:Nat) (a0:List Int) (a1:List Int):Nat→Nat→Option (Sum Unit Bool)
 | 0,_=>none
 | n2+1,s2_0=>bif (decide (((s2_0:Nat):Int)<((a0.length:Nat):Int))) then (ifp (s2_0<a0.length)<|ifp (s2_0<a1.length)<|bif ((a0.getD s2_0 default) != (a1.getD s2_0 default)) then (some (Sum.inr false)) else (ifp (s2_0+1≤9223372036854775807)<|zbK k a0 a1 n2 (s2_0+1))) else (some (Sum.inl ()))
def zbP (k:Nat) (a0:List Int) (a1:List Int):Option Bool :=
 bif (((a0.length:Nat):Int) != ((a1.length:Nat):Int)) then (some false) else ((zbK k a0 a1 k 0).bind fun o2=>onS o2 (fun x2_0=>some true) (fun r2=>some r2))
def zdG (k:Nat) (a0:CodeMethod):Option (List Int) :=
 bif (a0.Result==0) then (some ([]:List Int)) else (some [a0.Result])
def zdC (k:Nat) (a0:CodeMethod) (a1:Int):Option ((List Int)×Bool) :=
 ifp (0≤a1∧a1<((a0.Code.length:Nat):Int))<|bif (((a0.Code.getD ((a1).toNat) default).Op)==32) then (some (([]:List Int),true)) else (bif (((a0.Code.getD ((a1).toNat) default).Op)==33) then (some (([]:List Int),true)) else (bif (((a0.Code.getD ((a1).toNat) default).Op)==28) then (some ([((a0.Code.getD ((a1).toNat) default).A)],true)) else (bif ((W (a1+1))==((a0.Code.length:Nat):Int)) then (some (([]:List Int),false)) else (bif (((a0.Code.getD ((a1).toNat) default).Op)==29) then (some ([(W (a1+1)),((a0.Code.getD ((a1).toNat) default).A)],true)) else (some ([(W (a1+1))],true))))))
end Md
end Go.Proofs.YtclffekkjfhpdaaGreat
namespace Go.Proofs.YtclffekkjfhpdaaGreat
set_option linter.unusedVariables false
namespace Md
def zdE (k:Nat) (a0:Int) (a1:Int):Option (List Int) :=
 ifp (0≤a1∧a1≤16)<|some (List.replicate a1.toNat a0)
end Md
end Go.Proofs.YtclffekkjfhpdaaGreat
namespace Go.Proofs.YtclffekkjfhpdaaGreat
set_option linter.unusedVariables false
namespace Md
structure Bytecodeeffect where
 takes:List Int
 puts:List Int
 deriving Inhabited,DecidableEq
def Bytecodeeffect.ok (x:Bytecodeeffect):Prop:=(∀y∈x.takes,I64 y)∧(∀y∈x.puts,I64 y)
def zaw (k:Nat) (a0:List Int) (a1:List Int):Option (List Bytecodeeffect) :=
 some [(⟨a0,a1⟩:Bytecodeeffect)]
def zal (k:Nat) (a0:Code) (a1:CodeType) (a2:CodeMethod) (a3:Instr) (a4:Int):Option (List Bytecodeeffect) :=
 bif (a3.Op==1) then ((zaw k ([]:List Int) [a3.Value.Kind]).bind fun x2=>some x2) else (bif (a3.Op==2) then (ifp (0≤a3.A∧a3.A<((a2.Locals.length:Nat):Int))<|(zaw k ([]:List Int) [(a2.Locals.getD ((a3.A).toNat) default)]).bind fun x5=>some x5) else (bif (a3.Op==3) then (ifp (0≤a3.A∧a3.A<((a2.Locals.length:Nat):Int))<|(zaw k [(a2.Locals.getD ((a3.A).toNat) default)] ([]:List Int)).bind fun x8=>some x8) else (bif (a3.Op==4) then (ifp (0≤a3.A∧a3.A<((a1.Fields.length:Nat):Int))<|(zaw k ([]:List Int) [((a1.Fields.getD ((a3.A).toNat) default).Kind)]).bind fun x11=>some x11) else (bif (a3.Op==5) then (ifp (0≤a3.A∧a3.A<((a1.Fields.length:Nat):Int))<|(zaw k [((a1.Fields.getD ((a3.A).toNat) default).Kind)] ([]:List Int)).bind fun x14=>some x14) else (bif (a3.Op==6) then ((zaw k ([]:List Int) [3]).bind fun x16=>some x16) else (bif (a3.Op==7) then ((zaw k [1] [1]).bind fun x18=>some x18) else (bif (a3.Op==8) then ((zaw k [2] [2]).bind fun x20=>some x20) else (bif (a3.Op==9) then ((zaw k [1,1] [1]).bind fun x22=>some x22) else (bif (a3.Op==11) then ((zaw k [1,1] [1]).bind fun x24=>some x24) else (bif (a3.Op==12) then ((zaw k [1,1] [1]).bind fun x26=>some x26) else (bif (a3.Op==13) then ((zaw k [1,1] [1]).bind fun x28=>some x28) else (bif (a3.Op==14) then ((zaw k [1,1] [1]).bind fun x30=>some x30) else (bif (a3.Op==10) then ((zaw k [3,3] [3]).bind fun x32=>some x32) else (bif (a3.Op==15) then ((zaw k [a4,a4] [2]).bind fun x34=>some x34) else (bif (a3.Op==16) then ((zaw k [a4,a4] [2]).bind fun x36=>some x36) else (bif (a3.Op==17) then (some [(⟨[1,1],[2]⟩:Bytecodeeffect),(⟨[3,3],[2]⟩:Bytecodeeffect)]) else (bif (a3.Op==18) then (some [(⟨[1,1],[2]⟩:Bytecodeeffect),(⟨[3,3],[2]⟩:Bytecodeeffect)]) else (bif (a3.Op==19) then (some [(⟨[1,1],[2]⟩:Bytecodeeffect),(⟨[3,3],[2]⟩:Bytecodeeffect)]) else (bif (a3.Op==20) then (some [(⟨[1,1],[2]⟩:Bytecodeeffect),(⟨[3,3],[2]⟩:Bytecodeeffect)]) else (bif (a3.Op==21) then (some [(⟨[3],[1]⟩:Bytecodeeffect),(⟨[4],[1]⟩:Bytecodeeffect),(⟨[5],[1]⟩:Bytecodeeffect)]) else (bif (a3.Op==22) then (some [(⟨[4,1],[1]⟩:Bytecodeeffect),(⟨[5,1],[3]⟩:Bytecodeeffect)]) else (bif (a3.Op==23) then (some [(⟨[4,1],[4]⟩:Bytecodeeffect),(⟨[5,3],[5]⟩:Bytecodeeffect)]) else (bif (a3.Op==24) then (some [(⟨[4,1,1],[4]⟩:Bytecodeeffect),(⟨[5,1,3],[5]⟩:Bytecodeeffect)]) else (bif (a3.Op==25) then ((zaw k [1] [3]).bind fun x46=>some x46) else (bif (a3.Op==26) then ((zdE k 1 a3.A).bind fun x48=>(zaw k x48 [4]).bind fun x49=>some x49) else (bif (a3.Op==27) then ((zdE k 3 a3.A).bind fun x51=>(zaw k x51 [5]).bind fun x52=>some x52) else (bif (a3.Op==29) then ((zaw k [2] ([]:List Int)).bind fun x54=>some x54) else (bif (a3.Op==30) then (ifp (0≤a3.A∧a3.A<((a0.Types.length:Nat):Int))<|ifp (0≤a3.B∧a3.B<((((a0.Types.getD ((a3.A).toNat) default).Methods).length:Nat):Int))<|ifp ([3].length+((((a0.Types.getD ((a3.A).toNat) default).Methods).getD ((a3.B).toNat) default).Params).length≤4000000)<|(zdG k (((a0.Types.getD ((a3.A).toNat) default).Methods).getD ((a3.B).toNat) default)).bind fun x59=>(zaw k ([3]++((((a0.Types.getD ((a3.A).toNat) default).Methods).getD ((a3.B).toNat) default).Params)) x59).bind fun x60=>some x60) else (bif (a3.Op==31) then ((zaw k [a4] ([]:List Int)).bind fun x62=>some x62) else (bif (a3.Op==32) then ((zdG k a2).bind fun x64=>(zaw k x64 ([]:List Int)).bind fun x65=>some x65) else (bif (a3.Op==34) then ((zaw k [3,1] ([]:List Int)).bind fun x67=>some x67) else (bif (a3.Op==35) then ((zaw k [3,1,1] ([]:List Int)).bind fun x69=>some x69) else (bif (a3.Op==36) then ((zaw k [3] ([]:List Int)).bind fun x71=>some x71) else ((zaw k ([]:List Int) ([]:List Int)).bind fun x72=>some x72))))))))))))))))))))))))))))))))))
def zcl (k:Nat) (a3:Instr) (a4:List Int) (x3:(List Bytecodeeffect)):Nat→Nat→Option (Sum Unit ((List Int)×Bool))
 | 0,_=>none
 | n4+1,s4_0=>bif (decide (((s4_0:Nat):Int)<((x3.length:Nat):Int))) then ((ifp (s4_0<x3.length)<|bif (decide ((W (((a4.length:Nat):Int) - ((((x3.getD s4_0 default).takes).length:Nat):Int)))<0)) then (some (Sum.inl ())) else (ifp (0≤(W (((a4.length:Nat):Int) - ((((x3.getD s4_0 default).takes).length:Nat):Int))))<|ifp (((W (((a4.length:Nat):Int) - ((((x3.getD s4_0 default).takes).length:Nat):Int)))).toNat≤a4.length)<|(zdU k (a4.drop (((W (((a4.length:Nat):Int) - ((((x3.getD s4_0 default).takes).length:Nat):Int)))).toNat)) ((x3.getD s4_0 default).takes)).bind fun x12=>bif (!x12) then (some (Sum.inl ())) else (bif ((decide ((W (((a4.length:Nat):Int) - ((((x3.getD s4_0 default).takes).length:Nat):Int)))>0))&&((a3.Op==32)||(a3.Op==30))) then (some (Sum.inr (([]:List Int),false))) else (ifp (0≤(W (((a4.length:Nat):Int) - ((((x3.getD s4_0 default).takes).length:Nat):Int))))<|ifp (((W (((a4.length:Nat):Int) - ((((x3.getD s4_0 default).takes).length:Nat):Int)))).toNat≤a4.length)<|ifp ((a4.take (((W (((a4.length:Nat):Int) - ((((x3.getD s4_0 default).takes).length:Nat):Int)))).toNat)).length+((x3.getD s4_0 default).puts).length≤4000000)<|some (Sum.inr (((a4.take (((W (((a4.length:Nat):Int) - ((((x3.getD s4_0 default).takes).length:Nat):Int)))).toNat))++((x3.getD s4_0 default).puts)),(decide ((W ((W (((a4.length:Nat):Int) - ((((x3.getD s4_0 default).takes).length:Nat):Int)))+((((x3.getD s4_0 default).puts).length:Nat):Int)))≤40))))))):Option (Sum Unit ((List Int)×Bool))).bind fun o6=>onS o6 (fun x6_0=>ifp (s4_0+1≤9223372036854775807)<|zcl k a3 a4 x3 n4 (s4_0+1)) (fun r6=>some (Sum.inr r6))) else (some (Sum.inl ()))
def zeC (k:Nat) (a0:Code) (a1:CodeType) (a2:CodeMethod) (a3:Instr) (a4:List Int):Option ((List Int)×Bool) :=
 (bif (decide (((a4.length:Nat):Int)>0)) then (ifp (0≤(W (((a4.length:Nat):Int) - 1))∧(W (((a4.length:Nat):Int) - 1))<((a4.length:Nat):Int))<|some (Sum.inl (a4.getD (((W (((a4.length:Nat):Int) - 1))).toNat) default))) else (bif (((a3.Op==15)||(a3.Op==16))||(a3.Op==31)) then (some (Sum.inr (([]:List Int),false))) else (some (Sum.inl 0))):Option (Sum Int ((List Int)×Bool))).bind fun o1=>onS o1 (fun x1_0=>((zal k a0 a1 a2 a3 x1_0).bind fun x3=>(zcl k a3 a4 x3 k 0).bind fun o4=>onS o4 (fun x4_0=>some (Sum.inl ())) (fun r4=>some (Sum.inr r4)):Option (Sum Unit ((List Int)×Bool))).bind fun o2=>onS o2 (fun x2_0=>some (([]:List Int),false)) (fun r2=>some r2)) (fun r1=>some r1)
end Md
end Go.Proofs.YtclffekkjfhpdaaGreat
namespace Go.Proofs.YtclffekkjfhpdaaGreat
set_option linter.unusedVariables false
namespace Md
structure Bytecodestate where
 reached:Bool
 stack:List Int
 set:UInt64
 deriving Inhabited,DecidableEq
def Bytecodestate.ok (x:Bytecodestate):Prop:=(∀y∈x.stack,I64 y)
def zaF (k:Nat) (a2:CodeMethod) (x3_0:(List Bytecodestate)):Nat→Nat→Option (Sum Unit ((List Bytecodestate)×Bool))
 | 0,_=>none
 | n5+1,s5_0=>bif (decide (((s5_0:Nat):Int)<((x3_0.length:Nat):Int))) then (ifp (s5_0<x3_0.length)<|ifp (s5_0<a2.Code.length)<|((bif (!((x3_0.getD s5_0 default).reached)) then (some true) else (((bif (((a2.Code.getD s5_0 default).Op)==2) then (ifp (0≤((a2.Code.getD s5_0 default).A))<|some (((((shr64 ((x3_0.getD s5_0 default).set) ((((a2.Code.getD s5_0 default).A)).toNat)) &&& (1:UInt64))).toNat:Int)==0)) else (some false)):Option Bool).bind fun x12=>some x12)):Option Bool).bind fun x9=>bif x9 then (some (Sum.inr (([]:List Bytecodestate),false))) else (ifp (s5_0+1≤9223372036854775807)<|zaF k a2 x3_0 n5 (s5_0+1))) else (some (Sum.inl ()))
def zck (k:Nat) (x21:(List Int)×Bool) (x22:(List Int)×Bool) (x25_0:UInt64):Nat→Nat→(List Bytecodestate)→(List Int)→Option (Sum ((List Bytecodestate)×(List Int)) ((List Bytecodestate)×Bool))
 | 0,_,_,_=>none
 | n26+1,s26_0,s26_1,s26_2=>bif (decide (((s26_0:Nat):Int)<((x22.1.length:Nat):Int))) then ((ifp (s26_0<x22.1.length)<|ifp (0≤(x22.1.getD s26_0 default)∧(x22.1.getD s26_0 default)<((s26_1.length:Nat):Int))<|bif (!((s26_1.getD (((x22.1.getD s26_0 default)).toNat) default).reached)) then (ifp (s26_2.length+[(x22.1.getD s26_0 default)].length≤4000000)<|some (Sum.inl ((s26_1.set (((x22.1.getD s26_0 default)).toNat) (⟨true,x21.1,x25_0⟩:Bytecodestate)),(s26_2++[(x22.1.getD s26_0 default)])))) else ((zdU k ((s26_1.getD (((x22.1.getD s26_0 default)).toNat) default).stack) x21.1).bind fun x34=>bif (!x34) then (some (Sum.inr (([]:List Bytecodestate),false))) else (bif ((((((s26_1.getD (((x22.1.getD s26_0 default)).toNat) default).set) &&& x25_0)).toNat:Int) != (((s26_1.getD (((x22.1.getD s26_0 default)).toNat) default).set).toNat:Int)) then (ifp (s26_2.length+[(x22.1.getD s26_0 default)].length≤4000000)<|some (Sum.inl ((s26_1.set (((x22.1.getD s26_0 default)).toNat) (⟨((s26_1.getD (((x22.1.getD s26_0 default)).toNat) default).reached),((s26_1.getD (((x22.1.getD s26_0 default)).toNat) default).stack),(((s26_1.getD (((x22.1.getD s26_0 default)).toNat) default).set) &&& x25_0)⟩:Bytecodestate)),(s26_2++[(x22.1.getD s26_0 default)])))) else (some (Sum.inl (s26_1,s26_2))))):Option (Sum ((List Bytecodestate)×(List Int)) ((List Bytecodestate)×Bool))).bind fun o28=>onS o28 (fun x28_0=>ifp (s26_0+1≤9223372036854775807)<|zck k x21 x22 x25_0 n26 (s26_0+1) x28_0.1 x28_0.2) (fun r28=>some (Sum.inr r28))) else (some (Sum.inl (s26_1,s26_2)))
def zbg (k:Nat) (a0:Code) (a1:CodeType) (a2:CodeMethod):Nat→(List Bytecodestate)→(List Int)→Option (Sum (List Bytecodestate) ((List Bytecodestate)×Bool))
 | 0,_,_=>none
 | n14+1,s14_0,s14_1=>bif (decide (((s14_1.length:Nat):Int)>0)) then (ifp (0≤(W (((s14_1.length:Nat):Int) - 1))∧(W (((s14_1.length:Nat):Int) - 1))<((s14_1.length:Nat):Int))<|ifp (0≤(W (((s14_1.length:Nat):Int) - 1)))<|ifp (((W (((s14_1.length:Nat):Int) - 1))).toNat≤s14_1.length)<|ifp (0≤(s14_1.getD (((W (((s14_1.length:Nat):Int) - 1))).toNat) default)∧(s14_1.getD (((W (((s14_1.length:Nat):Int) - 1))).toNat) default)<((a2.Code.length:Nat):Int))<|ifp (0≤(s14_1.getD (((W (((s14_1.length:Nat):Int) - 1))).toNat) default)∧(s14_1.getD (((W (((s14_1.length:Nat):Int) - 1))).toNat) default)<((s14_0.length:Nat):Int))<|(zeC k a0 a1 a2 (a2.Code.getD (((s14_1.getD (((W (((s14_1.length:Nat):Int) - 1))).toNat) default)).toNat) default) ((s14_0.getD (((s14_1.getD (((W (((s14_1.length:Nat):Int) - 1))).toNat) default)).toNat) default).stack)).bind fun x21=>(zdC k a2 (s14_1.getD (((W (((s14_1.length:Nat):Int) - 1))).toNat) default)).bind fun x22=>bif ((!x21.2)||(!x22.2)) then (some (Sum.inr (([]:List Bytecodestate),false))) else ((bif (((a2.Code.getD (((s14_1.getD (((W (((s14_1.length:Nat):Int) - 1))).toNat) default)).toNat) default).Op)==3) then (ifp (0≤((a2.Code.getD (((s14_1.getD (((W (((s14_1.length:Nat):Int) - 1))).toNat) default)).toNat) default).A))<|some (((s14_0.getD (((s14_1.getD (((W (((s14_1.length:Nat):Int) - 1))).toNat) default)).toNat) default).set) ||| (shl64 (1:UInt64) ((((a2.Code.getD (((s14_1.getD (((W (((s14_1.length:Nat):Int) - 1))).toNat) default)).toNat) default).A)).toNat)))) else (some ((s14_0.getD (((s14_1.getD (((W (((s14_1.length:Nat):Int) - 1))).toNat) default)).toNat) default).set)):Option UInt64).bind fun x25_0=>(zck k x21 x22 x25_0 k 0 s14_0 (s14_1.take (((W (((s14_1.length:Nat):Int) - 1))).toNat))).bind fun o26=>onS o26 (fun x26_0=>zbg k a0 a1 a2 n14 x26_0.1 x26_0.2) (fun r26=>some (Sum.inr r26)))) else (some (Sum.inl s14_0))
def zcI (k:Nat) (a0:Code) (a1:CodeType) (a2:CodeMethod):Option ((List Bytecodestate)×Bool) :=
 ifp (a2.Code.length≤16000000)<|ifp (0<(List.replicate a2.Code.length (⟨false,([]:List Int),(0:UInt64)⟩:Bytecodestate)).length)<|((zbg k a0 a1 a2 k ((List.replicate a2.Code.length (⟨false,([]:List Int),(0:UInt64)⟩:Bytecodestate)).set 0 (⟨true,([]:List Int),((shl64 (1:UInt64) a2.Params.length) - (1:UInt64))⟩:Bytecodestate)) [0]).bind fun o14=>onS o14 (fun x14_0=>some (Sum.inl x14_0)) (fun r14=>some (Sum.inr r14)):Option (Sum (List Bytecodestate) ((List Bytecodestate)×Bool))).bind fun o3=>onS o3 (fun x3_0=>((zaF k a2 x3_0 k 0).bind fun o5=>onS o5 (fun x5_0=>some (Sum.inl ())) (fun r5=>some (Sum.inr r5)):Option (Sum Unit ((List Bytecodestate)×Bool))).bind fun o4=>onS o4 (fun x4_0=>some (x3_0,true)) (fun r4=>some r4)) (fun r3=>some r3)
end Md
end Go.Proofs.YtclffekkjfhpdaaGreat
namespace Go.Proofs.YtclffekkjfhpdaaGreat
set_option linter.unusedVariables false
namespace Md
def zbF (k:Nat) (a0:Code) (s3_0:Nat):Nat→Nat→Option (Sum Unit Int)
 | 0,_=>none
 | n8+1,s8_0=>bif (decide (((s8_0:Nat):Int)<((((a0.Types.getD s3_0 default).Methods).length:Nat):Int))) then (ifp (s8_0<((a0.Types.getD s3_0 default).Methods).length)<|(zcI k a0 (a0.Types.getD s3_0 default) (((a0.Types.getD s3_0 default).Methods).getD s8_0 default)).bind fun x11=>bif (!x11.2) then (some (Sum.inr 16)) else (ifp (s8_0+1≤9223372036854775807)<|zbF k a0 s3_0 n8 (s8_0+1))) else (some (Sum.inl ()))
def zbG (k:Nat) (a0:Code):Nat→Nat→Option (Sum Unit Int)
 | 0,_=>none
 | n3+1,s3_0=>bif (decide (((s3_0:Nat):Int)<((a0.Types.length:Nat):Int))) then ((ifp (s3_0<a0.Types.length)<|(zbF k a0 s3_0 k 0).bind fun o8=>onS o8 (fun x8_0=>some (Sum.inl ())) (fun r8=>some (Sum.inr r8)):Option (Sum Unit Int)).bind fun o5=>onS o5 (fun x5_0=>ifp (s3_0+1≤9223372036854775807)<|zbG k a0 n3 (s3_0+1)) (fun r5=>some (Sum.inr r5))) else (some (Sum.inl ()))
def zdd (k:Nat) (a0:Code):Option Int :=
 (zcV k a0).bind fun x1=>bif (!x1) then (some 1) else ((zbG k a0 k 0).bind fun o3=>onS o3 (fun x3_0=>some 0) (fun r3=>some r3))
def zcO (k:Nat) (a0:Code) (a1:Int) (a2:Int):Option (List Bytecodestate) :=
 (zdd k a0).bind fun x1=>((bif ((((x1 != 0)||(decide (a1<0)))||(decide (a1≥((a0.Types.length:Nat):Int))))||(decide (a2<0))) then (some true) else (ifp (0≤a1∧a1<((a0.Types.length:Nat):Int))<|some (decide (a2≥((((a0.Types.getD ((a1).toNat) default).Methods).length:Nat):Int))))):Option Bool).bind fun x5=>bif x5 then (some ([]:List Bytecodestate)) else (ifp (0≤a1∧a1<((a0.Types.length:Nat):Int))<|ifp (0≤a1∧a1<((a0.Types.length:Nat):Int))<|ifp (0≤a2∧a2<((((a0.Types.getD ((a1).toNat) default).Methods).length:Nat):Int))<|(zcI k a0 (a0.Types.getD ((a1).toNat) default) (((a0.Types.getD ((a1).toNat) default).Methods).getD ((a2).toNat) default)).bind fun x10=>some x10.1)
def zcw (k:Nat) (x1:(List Bytecodestate)):Nat→Nat→(List Int)→Option (List Int)
 | 0,_,_=>none
 | n2+1,s2_0,s2_1=>bif (decide (((s2_0:Nat):Int)<((x1.length:Nat):Int))) then (ifp (s2_0<x1.length)<|ifp (s2_1.length+[((((x1.getD s2_0 default).stack).length:Nat):Int)].length≤4000000)<|ifp (s2_0+1≤9223372036854775807)<|zcw k x1 n2 (s2_0+1) (s2_1++[((((x1.getD s2_0 default).stack).length:Nat):Int)])) else (some s2_1)
def zde (k:Nat) (a0:Code) (a1:Int) (a2:Int):Option (List Int) :=
 (zcO k a0 a1 a2).bind fun x1=>(zcw k x1 k 0 ([]:List Int)).bind fun x2_0=>some x2_0
end Md
end Go.Proofs.YtclffekkjfhpdaaGreat
namespace Go.Proofs.YtclffekkjfhpdaaGreat
set_option linter.unusedVariables false
namespace Md
def zfC (k:Nat) (a0:Field) (a1:Field):Option Bool :=
 ((bif ((decide (a0.Name=a1.Name))&&(a0.Kind==a1.Kind)) then ((zdT k a0.Init a1.Init).bind fun x3=>some x3) else (some false)):Option Bool).bind fun x2=>some x2
def zfA (k:Nat) (a0:Instr) (a1:Instr):Option Bool :=
 ((bif (((a0.Op==a1.Op)&&(a0.A==a1.A))&&(a0.B==a1.B)) then ((zdT k a0.Value a1.Value).bind fun x4=>some x4) else (some false)):Option Bool).bind fun x3=>some x3
def zar (k:Nat) (a0:List Instr) (a1:List Instr):Nat→Nat→Option (Sum Unit Bool)
 | 0,_=>none
 | n2+1,s2_0=>bif (decide (((s2_0:Nat):Int)<((a0.length:Nat):Int))) then (ifp (s2_0<a0.length)<|ifp (s2_0<a1.length)<|(zfA k (a0.getD s2_0 default) (a1.getD s2_0 default)).bind fun x6=>bif (!x6) then (some (Sum.inr false)) else (ifp (s2_0+1≤9223372036854775807)<|zar k a0 a1 n2 (s2_0+1))) else (some (Sum.inl ()))
def zaY (k:Nat) (a0:List Instr) (a1:List Instr):Option Bool :=
 bif (((a0.length:Nat):Int) != ((a1.length:Nat):Int)) then (some false) else ((zar k a0 a1 k 0).bind fun o2=>onS o2 (fun x2_0=>some true) (fun r2=>some r2))
def zfH (k:Nat) (a0:CodeMethod) (a1:CodeMethod):Option Bool :=
 ((bif ((decide (a0.Name=a1.Name))&&(a0.Result==a1.Result)) then ((zdU k a0.Params a1.Params).bind fun x7=>some x7) else (some false)):Option Bool).bind fun x2=>((bif x2 then ((zdU k a0.Locals a1.Locals).bind fun x6=>some x6) else (some false)):Option Bool).bind fun x3=>((bif x3 then ((zaY k a0.Code a1.Code).bind fun x5=>some x5) else (some false)):Option Bool).bind fun x4=>some x4
def zaq (k:Nat) (a0:List Field) (a1:List Field):Nat→Nat→Option (Sum Unit Bool)
 | 0,_=>none
 | n2+1,s2_0=>bif (decide (((s2_0:Nat):Int)<((a0.length:Nat):Int))) then (ifp (s2_0<a0.length)<|ifp (s2_0<a1.length)<|(zfC k (a0.getD s2_0 default) (a1.getD s2_0 default)).bind fun x6=>bif (!x6) then (some (Sum.inr false)) else (ifp (s2_0+1≤9223372036854775807)<|zaq k a0 a1 n2 (s2_0+1))) else (some (Sum.inl ()))
def zaX (k:Nat) (a0:List Field) (a1:List Field):Option Bool :=
 bif (((a0.length:Nat):Int) != ((a1.length:Nat):Int)) then (some false) else ((zaq k a0 a1 k 0).bind fun o2=>onS o2 (fun x2_0=>some true) (fun r2=>some r2))
def zaj (k:Nat) (a0:List CodeMethod) (a1:List CodeMethod):Nat→Nat→Option (Sum Unit Bool)
 | 0,_=>none
 | n2+1,s2_0=>bif (decide (((s2_0:Nat):Int)<((a0.length:Nat):Int))) then (ifp (s2_0<a0.length)<|ifp (s2_0<a1.length)<|(zfH k (a0.getD s2_0 default) (a1.getD s2_0 default)).bind fun x6=>bif (!x6) then (some (Sum.inr false)) else (ifp (s2_0+1≤9223372036854775807)<|zaj k a0 a1 n2 (s2_0+1))) else (some (Sum.inl ()))
def zaD (k:Nat) (a0:List CodeMethod) (a1:List CodeMethod):Option Bool :=
 bif (((a0.length:Nat):Int) != ((a1.length:Nat):Int)) then (some false) else ((zaj k a0 a1 k 0).bind fun o2=>onS o2 (fun x2_0=>some true) (fun r2=>some r2))
def zfw (k:Nat) (a0:CodeType) (a1:CodeType):Option Bool :=
 ((bif (decide (a0.Name=a1.Name)) then ((zaX k a0.Fields a1.Fields).bind fun x4=>some x4) else (some false)):Option Bool).bind fun x1=>((bif x1 then ((zaD k a0.Methods a1.Methods).bind fun x3=>some x3) else (some false)):Option Bool).bind fun x2=>some x2
def zam (k:Nat) (a0:List CodeType) (a1:List CodeType):Nat→Nat→Option (Sum Unit Bool)
 | 0,_=>none
 | n2+1,s2_0=>bif (decide (((s2_0:Nat):Int)<((a0.length:Nat):Int))) then (ifp (s2_0<a0.length)<|ifp (s2_0<a1.length)<|(zfw k (a0.getD s2_0 default) (a1.getD s2_0 default)).bind fun x6=>bif (!x6) then (some (Sum.inr false)) else (ifp (s2_0+1≤9223372036854775807)<|zam k a0 a1 n2 (s2_0+1))) else (some (Sum.inl ()))
def zaH (k:Nat) (a0:List CodeType) (a1:List CodeType):Option Bool :=
 bif (((a0.length:Nat):Int) != ((a1.length:Nat):Int)) then (some false) else ((zam k a0 a1 k 0).bind fun o2=>onS o2 (fun x2_0=>some true) (fun r2=>some r2))
def zfq (k:Nat) (a0:Code) (a1:Code):Option Bool :=
 (zaH k a0.Types a1.Types).bind fun x1=>some x1
end Md
end Go.Proofs.YtclffekkjfhpdaaGreat
namespace Go.Proofs.YtclffekkjfhpdaaGreat
set_option linter.unusedVariables false
namespace Md
def zdq (k:Nat):Option Bool :=
 (zeU k (⟨[(⟨([65]:List UInt8),[],[(⟨([109]:List UInt8),[],1,[],[(⟨1,0,0,(⟨1,1,([]:List UInt8),[],[]⟩:Value)⟩:Instr),(⟨32,0,0,(⟨0,0,([]:List UInt8),[],[]⟩:Value)⟩:Instr)]⟩:CodeMethod)]⟩:CodeType)]⟩:Code)).bind fun x1=>ifp (x1.length+[(7:UInt8)].length≤4000000)<|(zfG k (x1++[(7:UInt8)])).bind fun x3=>(zde k (⟨[(⟨([65]:List UInt8),[],[(⟨([109]:List UInt8),[],1,[],[(⟨1,0,0,(⟨1,1,([]:List UInt8),[],[]⟩:Value)⟩:Instr),(⟨32,0,0,(⟨0,0,([]:List UInt8),[],[]⟩:Value)⟩:Instr)]⟩:CodeMethod)]⟩:CodeType)]⟩:Code) 0 0).bind fun x4=>(zfe k (⟨[(⟨([65]:List UInt8),[],[(⟨([109]:List UInt8),[],1,[],[(⟨1,0,0,(⟨1,1,([]:List UInt8),[],[]⟩:Value)⟩:Instr),(⟨32,0,0,(⟨0,0,([]:List UInt8),[],[]⟩:Value)⟩:Instr)]⟩:CodeMethod)]⟩:CodeType)]⟩:Code) ([65]:List UInt8)).bind fun x5=>(zdd k (⟨[(⟨([65]:List UInt8),[],[(⟨([109]:List UInt8),[],1,[],[(⟨1,0,0,(⟨1,1,([]:List UInt8),[],[]⟩:Value)⟩:Instr),(⟨32,0,0,(⟨0,0,([]:List UInt8),[],[]⟩:Value)⟩:Instr)]⟩:CodeMethod)]⟩:CodeType)]⟩:Code)).bind fun x6=>bif (x6==0) then ((zdd k (⟨[(⟨([65]:List UInt8),[],[(⟨([109]:List UInt8),[],1,[],[(⟨32,0,0,(⟨0,0,([]:List UInt8),[],[]⟩:Value)⟩:Instr)]⟩:CodeMethod)]⟩:CodeType)]⟩:Code)).bind fun x8=>((bif (x8==16) then ((zdd k (⟨[(⟨([]:List UInt8),[],[]⟩:CodeType)]⟩:Code)).bind fun x21=>some (x21==1)) else (some false)):Option Bool).bind fun x9=>((bif (x9&&(x3.2.2==0)) then ((zeU k (⟨[(⟨([65]:List UInt8),[],[(⟨([109]:List UInt8),[],1,[],[(⟨1,0,0,(⟨1,1,([]:List UInt8),[],[]⟩:Value)⟩:Instr),(⟨32,0,0,(⟨0,0,([]:List UInt8),[],[]⟩:Value)⟩:Instr)]⟩:CodeMethod)]⟩:CodeType)]⟩:Code)).bind fun x20=>some (x3.2.1==((x20.length:Nat):Int))) else (some false)):Option Bool).bind fun x11=>((bif x11 then ((zfq k x3.1 (⟨[(⟨([65]:List UInt8),[],[(⟨([109]:List UInt8),[],1,[],[(⟨1,0,0,(⟨1,1,([]:List UInt8),[],[]⟩:Value)⟩:Instr),(⟨32,0,0,(⟨0,0,([]:List UInt8),[],[]⟩:Value)⟩:Instr)]⟩:CodeMethod)]⟩:CodeType)]⟩:Code)).bind fun x19=>some x19) else (some false)):Option Bool).bind fun x12=>((bif x12 then ((zfq k (⟨[(⟨([65]:List UInt8),[],[(⟨([109]:List UInt8),[],1,[],[(⟨1,0,0,(⟨1,1,([]:List UInt8),[],[]⟩:Value)⟩:Instr),(⟨32,0,0,(⟨0,0,([]:List UInt8),[],[]⟩:Value)⟩:Instr)]⟩:CodeMethod)]⟩:CodeType)]⟩:Code) (⟨[(⟨([65]:List UInt8),[],[(⟨([109]:List UInt8),[],1,[],[(⟨32,0,0,(⟨0,0,([]:List UInt8),[],[]⟩:Value)⟩:Instr)]⟩:CodeMethod)]⟩:CodeType)]⟩:Code)).bind fun x18=>some (!x18)) else (some false)):Option Bool).bind fun x13=>((bif (x13&&(((x4.length:Nat):Int)==2)) then (ifp (1<x4.length)<|some ((x4.getD 1 default)==1)) else (some false)):Option Bool).bind fun x15=>some (x15&&x5.2)) else (some false)
end Md
end Go.Proofs.YtclffekkjfhpdaaGreat
namespace Go.Proofs.YtclffekkjfhpdaaGreat
set_option linter.unusedVariables false
namespace Md
def zaO (k:Nat) (a0:Code) (a1:List UInt8):Nat→Nat→Option (Sum Unit (Int×Bool))
 | 0,_=>none
 | n1+1,s1_0=>bif (decide (((s1_0:Nat):Int)<((a0.Types.length:Nat):Int))) then (ifp (s1_0<a0.Types.length)<|bif (decide (((a0.Types.getD s1_0 default).Name)=a1)) then (some (Sum.inr (((s1_0:Nat):Int),true))) else (ifp (s1_0+1≤9223372036854775807)<|zaO k a0 a1 n1 (s1_0+1))) else (some (Sum.inl ()))
def zcR (k:Nat) (a0:Code) (a1:List UInt8):Option (Int×Bool) :=
 (zaO k a0 a1 k 0).bind fun o1=>onS o1 (fun x1_0=>some (0,false)) (fun r1=>some r1)
def zdL (k:Nat) (a0:UInt8):Option Bool :=
 some ((((decide ((a0.toNat:Int)≥97))&&(decide ((a0.toNat:Int)≤122)))||((decide ((a0.toNat:Int)≥65))&&(decide ((a0.toNat:Int)≤90))))||((a0.toNat:Int)==95))
def zdb (k:Nat) (a0:UInt8):Option Bool :=
 some ((decide ((a0.toNat:Int)≥48))&&(decide ((a0.toNat:Int)≤57)))
def zdD (k:Nat) (a0:UInt8):Option Bool :=
 (zdL k a0).bind fun x1=>((bif x1 then (some true) else ((zdb k a0).bind fun x3=>some x3)):Option Bool).bind fun x2=>some x2
def zcJ (k:Nat) (a0:List UInt8):Option Bool :=
 bif (decide (a0=([97,99,116,111,114]:List UInt8))) then (some true) else (bif (decide (a0=([115,116,97,116,101]:List UInt8))) then (some true) else (bif (decide (a0=([109,101,116,104,111,100]:List UInt8))) then (some true) else (bif (decide (a0=([108,101,116]:List UInt8))) then (some true) else (bif (decide (a0=([105,102]:List UInt8))) then (some true) else (bif (decide (a0=([101,108,115,101]:List UInt8))) then (some true) else (bif (decide (a0=([119,104,105,108,101]:List UInt8))) then (some true) else (bif (decide (a0=([114,101,116,117,114,110]:List UInt8))) then (some true) else (bif (decide (a0=([102,97,105,108]:List UInt8))) then (some true) else (bif (decide (a0=([99,97,108,108]:List UInt8))) then (some true) else (bif (decide (a0=([101,109,105,116]:List UInt8))) then (some true) else (bif (decide (a0=([114,101,109,105,110,100]:List UInt8))) then (some true) else (bif (decide (a0=([99,97,110,99,101,108]:List UInt8))) then (some true) else (bif (decide (a0=([115,101,108,102]:List UInt8))) then (some true) else (bif (decide (a0=([116,114,117,101]:List UInt8))) then (some true) else (bif (decide (a0=([102,97,108,115,101]:List UInt8))) then (some true) else (bif (decide (a0=([105,110,116]:List UInt8))) then (some true) else (bif (decide (a0=([98,111,111,108]:List UInt8))) then (some true) else (bif (decide (a0=([115,116,114,105,110,103]:List UInt8))) then (some true) else (bif (decide (a0=([105,110,116,115]:List UInt8))) then (some true) else (bif (decide (a0=([115,116,114,105,110,103,115]:List UInt8))) then (some true) else (some false)))))))))))))))))))))
def zaQ (k:Nat) (a0:List UInt8):Nat→Nat→Option (Sum Unit Bool)
 | 0,_=>none
 | n1+1,s1_0=>bif (decide (((s1_0:Nat):Int)<((a0.length:Nat):Int))) then (ifp (s1_0<a0.length)<|(zdD k (a0.getD s1_0 0)).bind fun x10=>bif (!x10) then (some (Sum.inr false)) else (ifp (s1_0+1≤9223372036854775807)<|zaQ k a0 n1 (s1_0+1))) else (some (Sum.inl ()))
def zcr (k:Nat) (a0:List UInt8):Option Bool :=
 (zaQ k a0 k 0).bind fun o1=>onS o1 (fun x1_0=>((bif ((decide (((a0.length:Nat):Int)≥1))&&(decide (((a0.length:Nat):Int)≤32))) then (ifp (0<a0.length)<|(zdb k (a0.getD 0 0)).bind fun x7=>some (!x7)) else (some false)):Option Bool).bind fun x3=>((bif x3 then ((zcJ k a0).bind fun x5=>some (!x5)) else (some false)):Option Bool).bind fun x4=>some x4) (fun r1=>some r1)
def zbB (k:Nat) (a0:Value):Nat→Nat→Option (Sum Unit Bool)
 | 0,_=>none
 | n18+1,s18_0=>bif (decide (((s18_0:Nat):Int)<((a0.L.length:Nat):Int))) then (ifp (s18_0<a0.L.length)<|bif (decide ((((a0.L.getD s18_0 default).length:Nat):Int)>64)) then (some (Sum.inr false)) else (ifp (s18_0+1≤9223372036854775807)<|zbB k a0 n18 (s18_0+1))) else (some (Sum.inl ()))
def zcn (k:Nat) (a0:Value):Option Bool :=
 bif ((((((a0.Kind != 1)&&(a0.Kind != 2))&&(a0.N != 0))||((a0.Kind != 3)&&(!(decide (a0.S=([]:List UInt8))))))||((a0.Kind != 4)&&(decide (((a0.I.length:Nat):Int)>0))))||((a0.Kind != 5)&&(decide (((a0.L.length:Nat):Int)>0)))) then (some false) else (bif ((((((decide (a0.Kind<0))||(decide (a0.Kind>5)))||(((a0.Kind==2)&&(a0.N != 0))&&(a0.N != 1)))||(decide (((a0.S.length:Nat):Int)>64)))||(decide (((a0.I.length:Nat):Int)>16)))||(decide (((a0.L.length:Nat):Int)>16))) then (some false) else ((zbB k a0 k 0).bind fun o18=>onS o18 (fun x18_0=>some true) (fun r18=>some r18)))
def zaK (k:Nat) (a0:CodeType) (a1:List UInt8):Nat→Nat→Option (Sum Unit (Int×Bool))
 | 0,_=>none
 | n1+1,s1_0=>bif (decide (((s1_0:Nat):Int)<((a0.Methods.length:Nat):Int))) then (ifp (s1_0<a0.Methods.length)<|bif (decide (((a0.Methods.getD s1_0 default).Name)=a1)) then (some (Sum.inr (((s1_0:Nat):Int),true))) else (ifp (s1_0+1≤9223372036854775807)<|zaK k a0 a1 n1 (s1_0+1))) else (some (Sum.inl ()))
def zcC (k:Nat) (a0:CodeType) (a1:List UInt8):Option (Int×Bool) :=
 (zaK k a0 a1 k 0).bind fun o1=>onS o1 (fun x1_0=>some (0,false)) (fun r1=>some r1)
def zbe (k:Nat) (a0:List Int):Nat→Nat→Option (Sum Unit Bool)
 | 0,_=>none
 | n1+1,s1_0=>bif (decide (((s1_0:Nat):Int)<((a0.length:Nat):Int))) then (ifp (s1_0<a0.length)<|((bif (decide ((a0.getD s1_0 default)<1)) then (some true) else (ifp (s1_0<a0.length)<|some (decide ((a0.getD s1_0 default)>5)))):Option Bool).bind fun x4=>bif x4 then (some (Sum.inr false)) else (ifp (s1_0+1≤9223372036854775807)<|zbe k a0 n1 (s1_0+1))) else (some (Sum.inl ()))
def zdu (k:Nat) (a0:List Int):Option Bool :=
 (zbe k a0 k 0).bind fun o1=>onS o1 (fun x1_0=>some true) (fun r1=>some r1)
def zbs (k:Nat) (a0:List (List UInt8)) (a1:List (List UInt8)):Nat→Nat→Option (Sum Unit Bool)
 | 0,_=>none
 | n2+1,s2_0=>bif (decide (((s2_0:Nat):Int)<((a0.length:Nat):Int))) then (ifp (s2_0<a0.length)<|ifp (s2_0<a1.length)<|bif (!(decide ((a0.getD s2_0 default)=(a1.getD s2_0 default)))) then (some (Sum.inr false)) else (ifp (s2_0+1≤9223372036854775807)<|zbs k a0 a1 n2 (s2_0+1))) else (some (Sum.inl ()))
def zcB (k:Nat) (a0:List (List UInt8)) (a1:List (List UInt8)):Option Bool :=
 bif (((a0.length:Nat):Int) != ((a1.length:Nat):Int)) then (some false) else ((zbs k a0 a1 k 0).bind fun o2=>onS o2 (fun x2_0=>some true) (fun r2=>some r2))
def zcv (k:Nat) (a0:Value) (a1:Value):Option Bool :=
 ((bif (((a0.Kind==a1.Kind)&&(a0.N==a1.N))&&(decide (a0.S=a1.S))) then ((zbP k a0.I a1.I).bind fun x6=>some x6) else (some false)):Option Bool).bind fun x3=>((bif x3 then ((zcB k a0.L a1.L).bind fun x5=>some x5) else (some false)):Option Bool).bind fun x4=>some x4
end Md
end Go.Proofs.YtclffekkjfhpdaaGreat
namespace Go.Proofs.YtclffekkjfhpdaaGreat
set_option linter.unusedVariables false
namespace Md
def zdr (k:Nat) (a0:Code) (a1:CodeType) (a2:CodeMethod) (a3:Instr):Option Bool :=
 (bif (a3.Op==1) then ((zcn k a3.Value).bind fun x8=>some (0,0,(x8&&(a3.Value.Kind != 0)),a3.Value)) else ((bif (a3.Op==2) then (some (a3.Op==2)) else (some (a3.Op==3)):Option Bool).bind fun x10_0=>bif x10_0 then (some (a3.A,0,((decide (a3.A≥0))&&(decide (a3.A<((a2.Locals.length:Nat):Int)))),(⟨0,0,([]:List UInt8),([]:List Int),([]:List (List UInt8))⟩:Value))) else ((bif (a3.Op==4) then (some (a3.Op==4)) else (some (a3.Op==5)):Option Bool).bind fun x13_0=>bif x13_0 then (some (a3.A,0,((decide (a3.A≥0))&&(decide (a3.A<((a1.Fields.length:Nat):Int)))),(⟨0,0,([]:List UInt8),([]:List Int),([]:List (List UInt8))⟩:Value))) else ((bif (a3.Op==26) then (some (a3.Op==26)) else (some (a3.Op==27)):Option Bool).bind fun x16_0=>bif x16_0 then (some (a3.A,0,((decide (a3.A≥0))&&(decide (a3.A≤16))),(⟨0,0,([]:List UInt8),([]:List Int),([]:List (List UInt8))⟩:Value))) else ((bif (a3.Op==28) then (some (a3.Op==28)) else (some (a3.Op==29)):Option Bool).bind fun x19_0=>bif x19_0 then (some (a3.A,0,((decide (a3.A≥0))&&(decide (a3.A<((a2.Code.length:Nat):Int)))),(⟨0,0,([]:List UInt8),([]:List Int),([]:List (List UInt8))⟩:Value))) else (bif (a3.Op==30) then (((bif (((decide (a3.A≥0))&&(decide (a3.A<((a0.Types.length:Nat):Int))))&&(decide (a3.B≥0))) then (ifp (0≤a3.A∧a3.A<((a0.Types.length:Nat):Int))<|some (decide (a3.B<((((a0.Types.getD ((a3.A).toNat) default).Methods).length:Nat):Int)))) else (some false)):Option Bool).bind fun x25=>some (a3.A,a3.B,x25,(⟨0,0,([]:List UInt8),([]:List Int),([]:List (List UInt8))⟩:Value))) else (some (0,0,((decide (a3.Op≥1))&&(decide (a3.Op≤36))),(⟨0,0,([]:List UInt8),([]:List Int),([]:List (List UInt8))⟩:Value)))))))):Option (Int×Int×Bool×Value)).bind fun x2_0=>((bif ((x2_0.2.2.1&&(a3.A==x2_0.1))&&(a3.B==x2_0.2.1)) then ((zcv k a3.Value x2_0.2.2.2).bind fun x6=>some x6) else (some false)):Option Bool).bind fun x5=>some x5
def zaR (k:Nat) (a0:Code) (a1:CodeType) (a2:CodeMethod):Nat→Nat→Option (Sum Unit Bool)
 | 0,_=>none
 | n15+1,s15_0=>bif (decide (((s15_0:Nat):Int)<((a2.Code.length:Nat):Int))) then (ifp (s15_0<a2.Code.length)<|(zdr k a0 a1 a2 (a2.Code.getD s15_0 default)).bind fun x18=>bif (!x18) then (some (Sum.inr false)) else (ifp (s15_0+1≤9223372036854775807)<|zaR k a0 a1 a2 n15 (s15_0+1))) else (some (Sum.inl ()))
def zdm (k:Nat) (a0:Code) (a1:CodeType) (a2:CodeMethod):Option Bool :=
 (zcr k a2.Name).bind fun x1=>bif (!x1) then (some false) else (bif (decide (((a2.Params.length:Nat):Int)>4)) then (some false) else (bif (decide (((a2.Locals.length:Nat):Int)>8)) then (some false) else (bif (decide (((a2.Params.length:Nat):Int)>((a2.Locals.length:Nat):Int))) then (some false) else ((zdu k a2.Locals).bind fun x6=>bif (!x6) then (some false) else (ifp (a2.Params.length≤a2.Locals.length)<|(zbP k a2.Params (a2.Locals.take a2.Params.length)).bind fun x9=>bif (!x9) then (some false) else (bif (decide (a2.Result<0)) then (some false) else (bif (decide (a2.Result>5)) then (some false) else (bif (decide (((a2.Code.length:Nat):Int)<1)) then (some false) else (((zaR k a0 a1 a2 k 0).bind fun o15=>onS o15 (fun x15_0=>some (Sum.inl ())) (fun r15=>some (Sum.inr r15)):Option (Sum Unit Bool)).bind fun o14=>onS o14 (fun x14_0=>some true) (fun r14=>some r14))))))))))
def zbT (k:Nat) (a0:Code) (s3_1:Nat):Nat→Nat→Nat→Option (Sum Nat Bool)
 | 0,_,_=>none
 | n14+1,s14_0,s14_1=>bif (decide (((s14_1:Nat):Int)<((((a0.Types.getD s3_1 default).Methods).length:Nat):Int))) then (ifp (s14_1<((a0.Types.getD s3_1 default).Methods).length)<|ifp (s14_0+(min (((((a0.Types.getD s3_1 default).Methods).getD s14_1 default).Code).length) 3001)≤9223372036854775807)<|ifp (s14_1<((a0.Types.getD s3_1 default).Methods).length)<|(zcC k (a0.Types.getD s3_1 default) ((((a0.Types.getD s3_1 default).Methods).getD s14_1 default).Name)).bind fun x19=>bif (x19.1 != ((s14_1:Nat):Int)) then (some (Sum.inr false)) else (bif (decide ((((s14_0+(min (((((a0.Types.getD s3_1 default).Methods).getD s14_1 default).Code).length) 3001)):Nat):Int)>3000)) then (some (Sum.inr false)) else (ifp (s14_1<((a0.Types.getD s3_1 default).Methods).length)<|(zdm k a0 (a0.Types.getD s3_1 default) (((a0.Types.getD s3_1 default).Methods).getD s14_1 default)).bind fun x23=>bif (!x23) then (some (Sum.inr false)) else (ifp (s14_1+1≤9223372036854775807)<|zbT k a0 s3_1 n14 (s14_0+(min (((((a0.Types.getD s3_1 default).Methods).getD s14_1 default).Code).length) 3001)) (s14_1+1))))) else (some (Sum.inl s14_0))
def zbd (k:Nat) (a0:Code) (s3_1:Nat) (s26_0:Nat):Nat→Nat→Option (Sum Unit Bool)
 | 0,_=>none
 | n37+1,s37_0=>bif (decide (((s37_0:Nat):Int)<((s26_0:Nat):Int))) then (ifp (s37_0<((a0.Types.getD s3_1 default).Fields).length)<|bif (decide (((((a0.Types.getD s3_1 default).Fields).getD s37_0 default).Name)=((((a0.Types.getD s3_1 default).Fields).getD s26_0 default).Name))) then (some (Sum.inr false)) else (ifp (s37_0+1≤9223372036854775807)<|zbd k a0 s3_1 s26_0 n37 (s37_0+1))) else (some (Sum.inl ()))
def zbW (k:Nat) (a0:Code) (s3_1:Nat):Nat→Nat→Option (Sum Unit Bool)
 | 0,_=>none
 | n26+1,s26_0=>bif (decide (((s26_0:Nat):Int)<((((a0.Types.getD s3_1 default).Fields).length:Nat):Int))) then ((ifp (s26_0<((a0.Types.getD s3_1 default).Fields).length)<|(zcr k ((((a0.Types.getD s3_1 default).Fields).getD s26_0 default).Name)).bind fun x31=>((bif ((((!x31)||(decide (((((a0.Types.getD s3_1 default).Fields).getD s26_0 default).Kind)<1)))||(decide (((((a0.Types.getD s3_1 default).Fields).getD s26_0 default).Kind)>5)))||((((((a0.Types.getD s3_1 default).Fields).getD s26_0 default).Init).Kind) != ((((a0.Types.getD s3_1 default).Fields).getD s26_0 default).Kind))) then (some true) else ((zcn k ((((a0.Types.getD s3_1 default).Fields).getD s26_0 default).Init)).bind fun x42=>some (!x42))):Option Bool).bind fun x35=>bif x35 then (some (Sum.inr false)) else ((zbd k a0 s3_1 s26_0 k 0).bind fun o37=>onS o37 (fun x37_0=>some (Sum.inl ())) (fun r37=>some (Sum.inr r37))):Option (Sum Unit Bool)).bind fun o28=>onS o28 (fun x28_0=>ifp (s26_0+1≤9223372036854775807)<|zbW k a0 s3_1 n26 (s26_0+1)) (fun r28=>some (Sum.inr r28))) else (some (Sum.inl ()))
def zbV (k:Nat) (a0:Code):Nat→Nat→Nat→Option (Sum Unit Bool)
 | 0,_,_=>none
 | n3+1,s3_0,s3_1=>bif (decide (((s3_1:Nat):Int)<((a0.Types.length:Nat):Int))) then ((ifp (s3_1<a0.Types.length)<|(zcR k a0 ((a0.Types.getD s3_1 default).Name)).bind fun x8=>((bif (x8.1 != ((s3_1:Nat):Int)) then (some true) else ((zcr k ((a0.Types.getD s3_1 default).Name)).bind fun x43=>some (!x43))):Option Bool).bind fun x9=>bif ((x9||(decide (((((a0.Types.getD s3_1 default).Fields).length:Nat):Int)>8)))||(decide (((((a0.Types.getD s3_1 default).Methods).length:Nat):Int)>16))) then (some (Sum.inr false)) else (((zbW k a0 s3_1 k 0).bind fun o26=>onS o26 (fun x26_0=>some (Sum.inl ())) (fun r26=>some (Sum.inr r26)):Option (Sum Unit Bool)).bind fun o13=>onS o13 (fun x13_0=>(zbT k a0 s3_1 k s3_0 0).bind fun o14=>onS o14 (fun x14_0=>some (Sum.inl x14_0)) (fun r14=>some (Sum.inr r14))) (fun r13=>some (Sum.inr r13))):Option (Sum Nat Bool)).bind fun o5=>onS o5 (fun x5_0=>ifp (s3_1+1≤9223372036854775807)<|zbV k a0 n3 x5_0 (s3_1+1)) (fun r5=>some (Sum.inr r5))) else (some (Sum.inl ()))
def zdA (k:Nat) (a0:Code):Option Bool :=
 bif (decide (((a0.Types.length:Nat):Int)>8)) then (some false) else (((zbV k a0 k 0 0).bind fun o3=>onS o3 (fun x3_0=>some (Sum.inl ())) (fun r3=>some (Sum.inr r3)):Option (Sum Unit Bool)).bind fun o2=>onS o2 (fun x2_0=>some true) (fun r2=>some r2))
end Md
end Go.Proofs.YtclffekkjfhpdaaGreat
namespace Go.Proofs.YtclffekkjfhpdaaGreat
set_option linter.unusedVariables false
namespace Md
structure Actorgridref20Effect where
 Takes:Int
 Puts:List Int
 OK:Bool
 deriving Inhabited,DecidableEq
def Actorgridref20Effect.ok (x:Actorgridref20Effect):Prop:=I64 x.Takes∧(∀y∈x.Puts,I64 y)
def zbw (k:Nat) (a0:List Int) (a1:List Int):Option Bool :=
 ((bif (decide (((a0.length:Nat):Int)≥((a1.length:Nat):Int))) then (ifp (0≤(W (((a0.length:Nat):Int) - ((a1.length:Nat):Int))))<|ifp (((W (((a0.length:Nat):Int) - ((a1.length:Nat):Int)))).toNat≤a0.length)<|(zbP k (a0.drop (((W (((a0.length:Nat):Int) - ((a1.length:Nat):Int)))).toNat)) a1).bind fun x4=>some x4) else (some false)):Option Bool).bind fun x1=>some x1
def zak (k:Nat) (a0:List Int) (a1:List Int) (a2:List Int):Option Actorgridref20Effect :=
 (zbw k a0 a1).bind fun x1=>some (⟨((a1.length:Nat):Int),a2,x1⟩:Actorgridref20Effect)
def zaS (k:Nat) (a0:List Int) (a1:Int):Option Int :=
 bif (decide (a1≥((a0.length:Nat):Int))) then (some (-1)) else (ifp (0≤(W ((W (((a0.length:Nat):Int) - 1)) - a1))∧(W ((W (((a0.length:Nat):Int) - 1)) - a1))<((a0.length:Nat):Int))<|some (a0.getD (((W ((W (((a0.length:Nat):Int) - 1)) - a1))).toNat) default))
def zbU (k:Nat) (a0:Int) (a1:Int):Nat→Nat→(List Int)→Option (List Int)
 | 0,_,_=>none
 | n1+1,s1_0,s1_1=>bif (decide (((s1_0:Nat):Int)<a1)) then (ifp (s1_1.length+[a0].length≤4000000)<|ifp (s1_0+1≤9223372036854775807)<|zbU k a0 a1 n1 (s1_0+1) (s1_1++[a0])) else (some s1_1)
def zcs (k:Nat) (a0:Int) (a1:Int):Option (List Int) :=
 (zbU k a0 a1 k 0 ([]:List Int)).bind fun x1_0=>some x1_0
def zag (k:Nat) (a0:Code) (a1:CodeType) (a2:CodeMethod) (a3:Instr) (a4:List Int):Option Actorgridref20Effect :=
 bif (a3.Op==1) then ((zak k a4 ([]:List Int) [a3.Value.Kind]).bind fun x2=>some x2) else (bif (a3.Op==2) then (ifp (0≤a3.A∧a3.A<((a2.Locals.length:Nat):Int))<|(zak k a4 ([]:List Int) [(a2.Locals.getD ((a3.A).toNat) default)]).bind fun x5=>some x5) else (bif (a3.Op==4) then (ifp (0≤a3.A∧a3.A<((a1.Fields.length:Nat):Int))<|(zak k a4 ([]:List Int) [((a1.Fields.getD ((a3.A).toNat) default).Kind)]).bind fun x8=>some x8) else (bif (a3.Op==3) then (ifp (0≤a3.A∧a3.A<((a2.Locals.length:Nat):Int))<|(zak k a4 [(a2.Locals.getD ((a3.A).toNat) default)] ([]:List Int)).bind fun x11=>some x11) else (bif (a3.Op==5) then (ifp (0≤a3.A∧a3.A<((a1.Fields.length:Nat):Int))<|(zak k a4 [((a1.Fields.getD ((a3.A).toNat) default).Kind)] ([]:List Int)).bind fun x14=>some x14) else (bif (a3.Op==6) then ((zak k a4 ([]:List Int) [3]).bind fun x16=>some x16) else (bif (a3.Op==7) then ((zak k a4 [1] [1]).bind fun x18=>some x18) else (bif (a3.Op==8) then ((zak k a4 [2] [2]).bind fun x20=>some x20) else (bif (a3.Op==9) then ((zak k a4 [1,1] [1]).bind fun x22=>some x22) else (bif (a3.Op==11) then ((zak k a4 [1,1] [1]).bind fun x24=>some x24) else (bif (a3.Op==12) then ((zak k a4 [1,1] [1]).bind fun x26=>some x26) else (bif (a3.Op==13) then ((zak k a4 [1,1] [1]).bind fun x28=>some x28) else (bif (a3.Op==14) then ((zak k a4 [1,1] [1]).bind fun x30=>some x30) else (bif (a3.Op==10) then ((zak k a4 [3,3] [3]).bind fun x32=>some x32) else (bif (a3.Op==15) then (((bif (decide (((a4.length:Nat):Int)≥2)) then ((zaS k a4 0).bind fun x35=>(zaS k a4 1).bind fun x36=>some (x35==x36)) else (some false)):Option Bool).bind fun x34=>some (⟨2,[2],x34⟩:Actorgridref20Effect)) else (bif (a3.Op==16) then (((bif (decide (((a4.length:Nat):Int)≥2)) then ((zaS k a4 0).bind fun x39=>(zaS k a4 1).bind fun x40=>some (x39==x40)) else (some false)):Option Bool).bind fun x38=>some (⟨2,[2],x38⟩:Actorgridref20Effect)) else (bif (a3.Op==17) then ((zbw k a4 [1,1]).bind fun x42=>((bif x42 then (some true) else ((zbw k a4 [3,3]).bind fun x44=>some x44)):Option Bool).bind fun x43=>some (⟨2,[2],x43⟩:Actorgridref20Effect)) else (bif (a3.Op==18) then ((zbw k a4 [1,1]).bind fun x46=>((bif x46 then (some true) else ((zbw k a4 [3,3]).bind fun x48=>some x48)):Option Bool).bind fun x47=>some (⟨2,[2],x47⟩:Actorgridref20Effect)) else (bif (a3.Op==19) then ((zbw k a4 [1,1]).bind fun x50=>((bif x50 then (some true) else ((zbw k a4 [3,3]).bind fun x52=>some x52)):Option Bool).bind fun x51=>some (⟨2,[2],x51⟩:Actorgridref20Effect)) else (bif (a3.Op==20) then ((zbw k a4 [1,1]).bind fun x54=>((bif x54 then (some true) else ((zbw k a4 [3,3]).bind fun x56=>some x56)):Option Bool).bind fun x55=>some (⟨2,[2],x55⟩:Actorgridref20Effect)) else (bif (a3.Op==21) then ((zaS k a4 0).bind fun x58=>some (⟨1,[1],(((x58==3)||(x58==4))||(x58==5))⟩:Actorgridref20Effect)) else (bif (a3.Op==22) then ((zaS k a4 1).bind fun x62=>bif (x62==4) then ((zak k a4 [4,1] [1]).bind fun x64=>some x64) else ((zak k a4 [5,1] [3]).bind fun x65=>some x65)) else (bif (a3.Op==23) then ((zaS k a4 1).bind fun x67=>bif (x67==4) then ((zak k a4 [4,1] [4]).bind fun x69=>some x69) else ((zak k a4 [5,3] [5]).bind fun x70=>some x70)) else (bif (a3.Op==24) then ((zaS k a4 2).bind fun x72=>bif (x72==4) then ((zak k a4 [4,1,1] [4]).bind fun x74=>some x74) else ((zak k a4 [5,1,3] [5]).bind fun x75=>some x75)) else (bif (a3.Op==25) then ((zak k a4 [1] [3]).bind fun x77=>some x77) else (bif (a3.Op==26) then ((zcs k 1 a3.A).bind fun x79=>(zak k a4 x79 [4]).bind fun x80=>some x80) else (bif (a3.Op==27) then ((zcs k 3 a3.A).bind fun x82=>(zak k a4 x82 [5]).bind fun x83=>some x83) else (bif (a3.Op==29) then ((zak k a4 [2] ([]:List Int)).bind fun x85=>some x85) else (bif (a3.Op==30) then (ifp (0≤a3.A∧a3.A<((a0.Types.length:Nat):Int))<|ifp (0≤a3.B∧a3.B<((((a0.Types.getD ((a3.A).toNat) default).Methods).length:Nat):Int))<|ifp ([3].length+((((a0.Types.getD ((a3.A).toNat) default).Methods).getD ((a3.B).toNat) default).Params).length≤4000000)<|(zak k a4 ([3]++((((a0.Types.getD ((a3.A).toNat) default).Methods).getD ((a3.B).toNat) default).Params)) ([]:List Int)).bind fun x90=>bif (((((a0.Types.getD ((a3.A).toNat) default).Methods).getD ((a3.B).toNat) default).Result) != 0) then (some (⟨x90.Takes,[((((a0.Types.getD ((a3.A).toNat) default).Methods).getD ((a3.B).toNat) default).Result)],(x90.OK&&(((a4.length:Nat):Int)==((([3]++((((a0.Types.getD ((a3.A).toNat) default).Methods).getD ((a3.B).toNat) default).Params)).length:Nat):Int)))⟩:Actorgridref20Effect)) else (some (⟨x90.Takes,x90.Puts,(x90.OK&&(((a4.length:Nat):Int)==((([3]++((((a0.Types.getD ((a3.A).toNat) default).Methods).getD ((a3.B).toNat) default).Params)).length:Nat):Int)))⟩:Actorgridref20Effect))) else (bif (a3.Op==31) then (some (⟨1,([]:List Int),(decide (((a4.length:Nat):Int)≥1))⟩:Actorgridref20Effect)) else (bif (a3.Op==32) then (bif (a2.Result != 0) then ((zak k a4 [a2.Result] ([]:List Int)).bind fun x97=>some (⟨x97.Takes,x97.Puts,(x97.OK&&(((a4.length:Nat):Int)==(([a2.Result].length:Nat):Int)))⟩:Actorgridref20Effect)) else ((zak k a4 ([]:List Int) ([]:List Int)).bind fun x99=>some (⟨x99.Takes,x99.Puts,(x99.OK&&(((a4.length:Nat):Int)==0))⟩:Actorgridref20Effect))) else (bif (a3.Op==34) then ((zak k a4 [3,1] ([]:List Int)).bind fun x102=>some x102) else (bif (a3.Op==35) then ((zak k a4 [3,1,1] ([]:List Int)).bind fun x104=>some x104) else (bif (a3.Op==36) then ((zak k a4 [3] ([]:List Int)).bind fun x106=>some x106) else ((zak k a4 ([]:List Int) ([]:List Int)).bind fun x107=>some x107))))))))))))))))))))))))))))))))))
def zcf (k:Nat) (a0:CodeMethod) (a1:Int):Option (List Int) :=
 bif (decide ((W (a1+1))≥((a0.Code.length:Nat):Int))) then (ifp (0≤a1∧a1<((a0.Code.length:Nat):Int))<|bif (((a0.Code.getD ((a1).toNat) default).Op)==28) then (ifp (0≤a1∧a1<((a0.Code.length:Nat):Int))<|some [((a0.Code.getD ((a1).toNat) default).A)]) else (bif (((a0.Code.getD ((a1).toNat) default).Op)==29) then (ifp (0≤a1∧a1<((a0.Code.length:Nat):Int))<|some [(-1),((a0.Code.getD ((a1).toNat) default).A)]) else (bif (((a0.Code.getD ((a1).toNat) default).Op)==32) then (some ([]:List Int)) else (bif (((a0.Code.getD ((a1).toNat) default).Op)==33) then (some ([]:List Int)) else (some [(-1)]))))) else (ifp (0≤a1∧a1<((a0.Code.length:Nat):Int))<|bif (((a0.Code.getD ((a1).toNat) default).Op)==28) then (ifp (0≤a1∧a1<((a0.Code.length:Nat):Int))<|some [((a0.Code.getD ((a1).toNat) default).A)]) else (bif (((a0.Code.getD ((a1).toNat) default).Op)==29) then (ifp (0≤a1∧a1<((a0.Code.length:Nat):Int))<|some [(W (a1+1)),((a0.Code.getD ((a1).toNat) default).A)]) else (bif (((a0.Code.getD ((a1).toNat) default).Op)==32) then (some ([]:List Int)) else (bif (((a0.Code.getD ((a1).toNat) default).Op)==33) then (some ([]:List Int)) else (some [(W (a1+1))])))))
end Md
end Go.Proofs.YtclffekkjfhpdaaGreat
namespace Go.Proofs.YtclffekkjfhpdaaGreat
set_option linter.unusedVariables false
namespace Md
structure Actorgridref20Point where
 Known:Bool
 Stack:List Int
 Set:List Bool
 deriving Inhabited,DecidableEq
def Actorgridref20Point.ok (x:Actorgridref20Point):Prop:=(∀y∈x.Stack,I64 y)
def zbh (k:Nat) (a0:Actorgridref20Point) (a2:List Bool):Nat→Bool→Nat→(List Bool)→Option (Bool×(List Bool))
 | 0,_,_,_=>none
 | n5+1,s5_0,s5_1,s5_2=>bif (decide (((s5_1:Nat):Int)<((a2.length:Nat):Int))) then ((ifp (s5_1<a0.Set.length)<|bif (a0.Set.getD s5_1 default) then (ifp (s5_1<a2.length)<|ifp (s5_2.length+[(a2.getD s5_1 default)].length≤4000000)<|((bif s5_0 then (some true) else (ifp (s5_1<a0.Set.length)<|ifp (s5_1<a2.length)<|some (!(a2.getD s5_1 default)))):Option Bool).bind fun x13=>some (x13,(s5_2++[(a2.getD s5_1 default)]))) else (ifp (s5_2.length+[false].length≤4000000)<|((bif s5_0 then (some true) else (ifp (s5_1<a0.Set.length)<|some false)):Option Bool).bind fun x17=>some (x17,(s5_2++[false]))):Option (Bool×(List Bool))).bind fun x7_0=>ifp (s5_1+1≤9223372036854775807)<|zbh k a0 a2 n5 x7_0.1 (s5_1+1) x7_0.2) else (some (s5_0,s5_2))
def zct (k:Nat) (a0:Actorgridref20Point) (a1:List Int) (a2:List Bool):Option (Actorgridref20Point×Bool×Bool) :=
 bif (!a0.Known) then (ifp (([]:List Bool).length+a2.length≤4000000)<|some ((⟨true,a1,(([]:List Bool)++a2)⟩:Actorgridref20Point),true,true)) else ((zbP k a0.Stack a1).bind fun x3=>bif (!x3) then (some (a0,false,false)) else ((zbh k a0 a2 k false 0 ([]:List Bool)).bind fun x5_0=>some ((⟨true,a0.Stack,x5_0.2⟩:Actorgridref20Point),x5_0.1,true)))
end Md
end Go.Proofs.YtclffekkjfhpdaaGreat
namespace Go.Proofs.YtclffekkjfhpdaaGreat
set_option linter.unusedVariables false
namespace Md
def zaL (k:Nat) (a2:CodeMethod) (x5_0:(List Actorgridref20Point)):Nat→Nat→Option (Sum Unit ((List Actorgridref20Point)×Bool))
 | 0,_=>none
 | n6+1,s6_0=>bif (decide (((s6_0:Nat):Int)<((x5_0.length:Nat):Int))) then ((ifp (s6_0<x5_0.length)<|bif (!((x5_0.getD s6_0 default).Known)) then (some (Sum.inr (([]:List Actorgridref20Point),false))) else (ifp (s6_0<a2.Code.length)<|bif (((a2.Code.getD s6_0 default).Op)==2) then (ifp (s6_0<x5_0.length)<|ifp (s6_0<a2.Code.length)<|ifp (0≤((a2.Code.getD s6_0 default).A)∧((a2.Code.getD s6_0 default).A)<((((x5_0.getD s6_0 default).Set).length:Nat):Int))<|bif (!(((x5_0.getD s6_0 default).Set).getD ((((a2.Code.getD s6_0 default).A)).toNat) default)) then (some (Sum.inr (([]:List Actorgridref20Point),false))) else (some (Sum.inl ()))) else (some (Sum.inl ()))):Option (Sum Unit ((List Actorgridref20Point)×Bool))).bind fun o8=>onS o8 (fun x8_0=>ifp (s6_0+1≤9223372036854775807)<|zaL k a2 x5_0 n6 (s6_0+1)) (fun r8=>some (Sum.inr r8))) else (some (Sum.inl ()))
def zbC (k:Nat) (a2:CodeMethod) (s19_1:Nat) (s19_2:List Actorgridref20Point) (x29_0:(List Int)) (x35:(List Int)):Nat→Bool→Nat→(List Actorgridref20Point)→Option (Sum (Bool×(List Actorgridref20Point)) ((List Actorgridref20Point)×Bool))
 | 0,_,_,_=>none
 | n36+1,s36_0,s36_1,s36_2=>bif (decide (((s36_1:Nat):Int)<((x35.length:Nat):Int))) then (ifp (s36_1<x35.length)<|bif (decide ((x35.getD s36_1 default)<0)) then (some (Sum.inr (([]:List Actorgridref20Point),false))) else (ifp (s36_1<x35.length)<|ifp (0≤(x35.getD s36_1 default)∧(x35.getD s36_1 default)<((s36_2.length:Nat):Int))<|(zct k (s36_2.getD (((x35.getD s36_1 default)).toNat) default) x29_0 ((([]:List Bool)++((s19_2.getD s19_1 default).Set)).set ((((a2.Code.getD s19_1 default).A)).toNat) true)).bind fun x42=>bif (!x42.2.2) then (some (Sum.inr (([]:List Actorgridref20Point),false))) else (ifp (s36_1<x35.length)<|ifp (0≤(x35.getD s36_1 default)∧(x35.getD s36_1 default)<((s36_2.length:Nat):Int))<|ifp (s36_1+1≤9223372036854775807)<|zbC k a2 s19_1 s19_2 x29_0 x35 n36 (s36_0||x42.2.1) (s36_1+1) (s36_2.set (((x35.getD s36_1 default)).toNat) x42.1)))) else (some (Sum.inl (s36_0,s36_2)))
def zbD (k:Nat) (s19_1:Nat) (s19_2:List Actorgridref20Point) (x29_0:(List Int)) (x48:(List Int)):Nat→Bool→Nat→(List Actorgridref20Point)→Option (Sum (Bool×(List Actorgridref20Point)) ((List Actorgridref20Point)×Bool))
 | 0,_,_,_=>none
 | n49+1,s49_0,s49_1,s49_2=>bif (decide (((s49_1:Nat):Int)<((x48.length:Nat):Int))) then (ifp (s49_1<x48.length)<|bif (decide ((x48.getD s49_1 default)<0)) then (some (Sum.inr (([]:List Actorgridref20Point),false))) else (ifp (s49_1<x48.length)<|ifp (0≤(x48.getD s49_1 default)∧(x48.getD s49_1 default)<((s49_2.length:Nat):Int))<|(zct k (s49_2.getD (((x48.getD s49_1 default)).toNat) default) x29_0 (([]:List Bool)++((s19_2.getD s19_1 default).Set))).bind fun x55=>bif (!x55.2.2) then (some (Sum.inr (([]:List Actorgridref20Point),false))) else (ifp (s49_1<x48.length)<|ifp (0≤(x48.getD s49_1 default)∧(x48.getD s49_1 default)<((s49_2.length:Nat):Int))<|ifp (s49_1+1≤9223372036854775807)<|zbD k s19_1 s19_2 x29_0 x48 n49 (s49_0||x55.2.1) (s49_1+1) (s49_2.set (((x48.getD s49_1 default)).toNat) x55.1)))) else (some (Sum.inl (s49_0,s49_2)))
def zbf (k:Nat) (a0:Code) (a1:CodeType) (a2:CodeMethod):Nat→Bool→Nat→(List Actorgridref20Point)→Option (Sum (Bool×(List Actorgridref20Point)) ((List Actorgridref20Point)×Bool))
 | 0,_,_,_=>none
 | n19+1,s19_0,s19_1,s19_2=>bif (decide (((s19_1:Nat):Int)<((a2.Code.length:Nat):Int))) then ((ifp (s19_1<s19_2.length)<|bif (!((s19_2.getD s19_1 default).Known)) then (some (Sum.inl (s19_0,s19_2))) else (ifp (s19_1<a2.Code.length)<|ifp (s19_1<s19_2.length)<|(zag k a0 a1 a2 (a2.Code.getD s19_1 default) ((s19_2.getD s19_1 default).Stack)).bind fun x27=>bif (!x27.OK) then (some (Sum.inr (([]:List Actorgridref20Point),false))) else ((ifp (s19_1<s19_2.length)<|ifp (s19_1<s19_2.length)<|ifp (0≤(W (((((s19_2.getD s19_1 default).Stack).length:Nat):Int) - x27.Takes)))<|ifp (((W (((((s19_2.getD s19_1 default).Stack).length:Nat):Int) - x27.Takes))).toNat≤((s19_2.getD s19_1 default).Stack).length)<|bif (decide ((((s19_2.getD s19_1 default).Stack).take (((W (((((s19_2.getD s19_1 default).Stack).length:Nat):Int) - x27.Takes))).toNat))=[])) then (ifp (x27.Puts.length≤4000000)<|some x27.Puts) else (ifp ((((s19_2.getD s19_1 default).Stack).take (((W (((((s19_2.getD s19_1 default).Stack).length:Nat):Int) - x27.Takes))).toNat)).length≤4000000)<|ifp ((((s19_2.getD s19_1 default).Stack).take (((W (((((s19_2.getD s19_1 default).Stack).length:Nat):Int) - x27.Takes))).toNat)).length+x27.Puts.length≤4000000)<|some ((((s19_2.getD s19_1 default).Stack).take (((W (((((s19_2.getD s19_1 default).Stack).length:Nat):Int) - x27.Takes))).toNat))++x27.Puts)):Option (List Int)).bind fun x29_0=>bif (decide (((x29_0.length:Nat):Int)>40)) then (some (Sum.inr (([]:List Actorgridref20Point),false))) else (ifp (s19_1<s19_2.length)<|ifp (([]:List Bool).length+((s19_2.getD s19_1 default).Set).length≤4000000)<|bif (((a2.Code.getD s19_1 default).Op)==3) then (ifp (0≤((a2.Code.getD s19_1 default).A)∧((a2.Code.getD s19_1 default).A)<(((([]:List Bool)++((s19_2.getD s19_1 default).Set)).length:Nat):Int))<|(zcf k a2 ((s19_1:Nat):Int)).bind fun x35=>(zbC k a2 s19_1 s19_2 x29_0 x35 k s19_0 0 s19_2).bind fun o36=>onS o36 (fun x36_0=>some (Sum.inl (x36_0.1,x36_0.2))) (fun r36=>some (Sum.inr r36))) else ((zcf k a2 ((s19_1:Nat):Int)).bind fun x48=>(zbD k s19_1 s19_2 x29_0 x48 k s19_0 0 s19_2).bind fun o49=>onS o49 (fun x49_0=>some (Sum.inl (x49_0.1,x49_0.2))) (fun r49=>some (Sum.inr r49)))))):Option (Sum (Bool×(List Actorgridref20Point)) ((List Actorgridref20Point)×Bool))).bind fun o21=>onS o21 (fun x21_0=>ifp (s19_1+1≤9223372036854775807)<|zbf k a0 a1 a2 n19 x21_0.1 (s19_1+1) x21_0.2) (fun r21=>some (Sum.inr r21))) else (some (Sum.inl (s19_0,s19_2)))
def zaZ (k:Nat) (a0:Code) (a1:CodeType) (a2:CodeMethod):Nat→Bool→(List Actorgridref20Point)→Option (Sum (List Actorgridref20Point) ((List Actorgridref20Point)×Bool))
 | 0,_,_=>none
 | n5+1,s5_0,s5_1=>bif s5_0 then ((zbf k a0 a1 a2 k false 0 s5_1).bind fun o19=>onS o19 (fun x19_0=>zaZ k a0 a1 a2 n5 x19_0.1 x19_0.2) (fun r19=>some (Sum.inr r19))) else (some (Sum.inl s5_1))
def zbN (k:Nat) (a2:CodeMethod):Nat→Nat→(List Bool)→Option (List Bool)
 | 0,_,_=>none
 | n3+1,s3_0,s3_1=>bif (decide (((s3_0:Nat):Int)<((a2.Params.length:Nat):Int))) then (ifp (s3_0<s3_1.length)<|ifp (s3_0+1≤9223372036854775807)<|zbN k a2 n3 (s3_0+1) (s3_1.set s3_0 true)) else (some s3_1)
def zca (k:Nat) (a0:Code) (a1:CodeType) (a2:CodeMethod):Option ((List Actorgridref20Point)×Bool) :=
 ifp (a2.Code.length≤16000000)<|ifp (a2.Locals.length≤16000000)<|(zbN k a2 k 0 (List.replicate a2.Locals.length false)).bind fun x3_0=>ifp (0<(List.replicate a2.Code.length (⟨false,([]:List Int),([]:List Bool)⟩:Actorgridref20Point)).length)<|(zaZ k a0 a1 a2 k true ((List.replicate a2.Code.length (⟨false,([]:List Int),([]:List Bool)⟩:Actorgridref20Point)).set 0 (⟨true,([]:List Int),x3_0⟩:Actorgridref20Point))).bind fun o5=>onS o5 (fun x5_0=>(zaL k a2 x5_0 k 0).bind fun o6=>onS o6 (fun x6_0=>some (x5_0,true)) (fun r6=>some r6)) (fun r5=>some r5)
end Md
end Go.Proofs.YtclffekkjfhpdaaGreat
namespace Go.Proofs.YtclffekkjfhpdaaGreat
set_option linter.unusedVariables false
namespace Md
def zba (k:Nat) (a0:Code) (s3_0:Nat):Nat→Nat→Option (Sum Unit Int)
 | 0,_=>none
 | n7+1,s7_0=>ifp (s3_0<a0.Types.length)<|bif (decide (((s7_0:Nat):Int)<((((a0.Types.getD s3_0 default).Methods).length:Nat):Int))) then (ifp (s3_0<a0.Types.length)<|ifp (s3_0<a0.Types.length)<|ifp (s7_0<((a0.Types.getD s3_0 default).Methods).length)<|(zca k a0 (a0.Types.getD s3_0 default) (((a0.Types.getD s3_0 default).Methods).getD s7_0 default)).bind fun x13=>bif (!x13.2) then (some (Sum.inr 16)) else (ifp (s7_0+1≤9223372036854775807)<|zba k a0 s3_0 n7 (s7_0+1))) else (some (Sum.inl ()))
def zbb (k:Nat) (a0:Code):Nat→Nat→Option (Sum Unit Int)
 | 0,_=>none
 | n3+1,s3_0=>bif (decide (((s3_0:Nat):Int)<((a0.Types.length:Nat):Int))) then (((zba k a0 s3_0 k 0).bind fun o7=>onS o7 (fun x7_0=>some (Sum.inl ())) (fun r7=>some (Sum.inr r7)):Option (Sum Unit Int)).bind fun o5=>onS o5 (fun x5_0=>ifp (s3_0+1≤9223372036854775807)<|zbb k a0 n3 (s3_0+1)) (fun r5=>some (Sum.inr r5))) else (some (Sum.inl ()))
def zcN (k:Nat) (a0:Code):Option Int :=
 (zdA k a0).bind fun x1=>bif (!x1) then (some 1) else ((zbb k a0 k 0).bind fun o3=>onS o3 (fun x3_0=>some 0) (fun r3=>some r3))
def zbQ (k:Nat) (x10:(List Actorgridref20Point)×Bool):Nat→Nat→(List Int)→Option (List Int)
 | 0,_,_=>none
 | n11+1,s11_0,s11_1=>bif (decide (((s11_0:Nat):Int)<((x10.1.length:Nat):Int))) then (ifp (s11_0<x10.1.length)<|ifp (s11_1.length+[((((x10.1.getD s11_0 default).Stack).length:Nat):Int)].length≤4000000)<|ifp (s11_0+1≤9223372036854775807)<|zbQ k x10 n11 (s11_0+1) (s11_1++[((((x10.1.getD s11_0 default).Stack).length:Nat):Int)])) else (some s11_1)
def zch (k:Nat) (a0:Code) (a1:Int) (a2:Int):Option (List Int) :=
 (zcN k a0).bind fun x1=>((bif ((((x1 != 0)||(decide (a1<0)))||(decide (a1≥((a0.Types.length:Nat):Int))))||(decide (a2<0))) then (some true) else (ifp (0≤a1∧a1<((a0.Types.length:Nat):Int))<|some (decide (a2≥((((a0.Types.getD ((a1).toNat) default).Methods).length:Nat):Int))))):Option Bool).bind fun x5=>bif x5 then (some ([]:List Int)) else (ifp (0≤a1∧a1<((a0.Types.length:Nat):Int))<|ifp (0≤a1∧a1<((a0.Types.length:Nat):Int))<|ifp (0≤a2∧a2<((((a0.Types.getD ((a1).toNat) default).Methods).length:Nat):Int))<|(zca k a0 (a0.Types.getD ((a1).toNat) default) (((a0.Types.getD ((a1).toNat) default).Methods).getD ((a2).toNat) default)).bind fun x10=>(zbQ k x10 k 0 ([]:List Int)).bind fun x11_0=>some x11_0)
end Md
end Go.Proofs.YtclffekkjfhpdaaGreat
namespace Go.Proofs.YtclffekkjfhpdaaGreat
set_option linter.unusedVariables false
namespace Md
def zcp (k:Nat) (a0:Code) (a1:Int) (a2:Int):Option Bool :=
 (zdq k).bind fun x1=>bif (!x1) then (some false) else ((zdp k a0).bind fun x3=>bif (!x3) then (some true) else ((zdd k a0).bind fun x5=>(zcN k a0).bind fun x6=>bif (x5==x6) then ((zde k a0 a1 a2).bind fun x8=>(zch k a0 a1 a2).bind fun x9=>(zbP k x8 x9).bind fun x10=>some x10) else (some false)))
end Md
end Go.Proofs.YtclffekkjfhpdaaGreat
namespace Go.Proofs.YtclffekkjfhpdaaGreat
set_option linter.unusedVariables false
namespace Md
def zfB (k:Nat) (a0:UInt64) (a1:UInt64):Option (UInt64×UInt64) :=
 some (((((shr64 a0 32)*(shr64 a1 32))+(shr64 (((shr64 a0 32)*(a1 &&& (4294967295:UInt64)))+(shr64 ((a0 &&& (4294967295:UInt64))*(a1 &&& (4294967295:UInt64))) 32)) 32))+(shr64 (((((shr64 a0 32)*(a1 &&& (4294967295:UInt64)))+(shr64 ((a0 &&& (4294967295:UInt64))*(a1 &&& (4294967295:UInt64))) 32)) &&& (4294967295:UInt64))+((a0 &&& (4294967295:UInt64))*(shr64 a1 32))) 32)),(a0*a1))
def zfu (k:Nat) (a0:UInt64) (a1:UInt64):Option (UInt64×UInt64) :=
 (zfB k a0 a1).bind fun x1=>some (x1.1,x1.2)
end Md
end Go.Proofs.YtclffekkjfhpdaaGreat

