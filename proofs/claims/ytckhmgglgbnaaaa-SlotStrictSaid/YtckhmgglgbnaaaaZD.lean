/- What the Go functions compute, as plain Lean functions (printed by our lift.py). -/
import Derived.Test.YtckhmgglgbnaaaaZT
set_option linter.unusedVariables false
set_option linter.unusedSimpArgs false
namespace Go.Lf
open Go
def ref10_May.l0 (a0 : List Pair) : Nat → Int → Option (Unit ⊕ Bool)
 | 0, _ => none
 | k + 1, y140 =>
  bif decide (y140 < (a0.length : Int)) then
   (
     gd (0 ≤ y140 ∧ y140 < (a0.length : Int)) <|
     bif decide ((((gt a0 y140).key_).size : Int) < 1) then
      some true
     else
      gd (0 ≤ y140 ∧ y140 < (a0.length : Int)) <|
      bif decide ((((gt a0 y140).key_).size : Int) > 8) then
       some true
      else
       gd (0 ≤ y140 ∧ y140 < (a0.length : Int)) <|
       bif decide ((((gt a0 y140).value_).size : Int) > 16) then
        some true
       else
        bif decide (y140 > 0) then
         gd (0 ≤ y140 ∧ y140 < (a0.length : Int)) <|
         gd (0 ≤ w64 (y140 - 1) ∧ w64 (y140 - 1) < (a0.length : Int)) <|
         some (slt ((gt a0 y140).key_) ((gt a0 (w64 (y140 - 1))).key_) || seq_ ((gt a0 y140).key_) ((gt a0 (w64 (y140 - 1))).key_))
        else
         some false).bind fun y268 =>
   bif y268 then
    some (.inr false)
   else
    ref10_May.l0 a0 k (w64 (y140 + 1))
  else
   some (.inl ())
def ref10_May.f (a0 : List Pair) : Option Bool :=
 (ref10_May.l0 a0 BIG 0).bind fun
 | .inl () =>
  some true
 | .inr r283 =>
  some r283

def ref02_Of.l0 (a0 : ByteArray) : Nat → (List Int × Int) → Option (List Int)
 | 0, _ => none
 | k + 1, (y56, y61) =>
  bif decide (y61 < (a0.size : Int)) then
   gd (0 ≤ y61 ∧ y61 < (a0.size : Int)) <|
   gd (0 ≤ y61 ∧ y61 < (a0.size : Int)) <|
   gd (y56.length + 2 ≤ 274877906944) <|
   ref02_Of.l0 a0 k (y56 ++ [wu8 ((bt a0 y61).tdiv 16), (bt a0 y61).tmod 16], w64 (y61 + 1))
  else
   some y56
def ref02_Of.f (a0 : ByteArray) : Option ByteArray :=
 (ref02_Of.l0 a0 BIG (([] : List Int), 0)).bind fun y77 =>
 some (strOfNums y77)

def ref02_Common.l0 (a0 : ByteArray) (a1 : ByteArray) : Nat → Int → Option Int
 | 0, _ => none
 | k + 1, y78 =>
  (
    bif decide (y78 < (a0.size : Int)) then
     bif decide (y78 < (a1.size : Int)) then
      gd (0 ≤ y78 ∧ y78 < (a0.size : Int)) <|
      gd (0 ≤ y78 ∧ y78 < (a1.size : Int)) <|
      some ((bt a0 y78) == (bt a1 y78))
     else
      some false
    else
     some false).bind fun y150 =>
  bif y150 then
   ref02_Common.l0 a0 a1 k (w64 (y78 + 1))
  else
   some y78
def ref02_Common.f (a0 : ByteArray) (a1 : ByteArray) : Option Int :=
 (ref02_Common.l0 a0 a1 BIG 0).bind fun y117 =>
 some y117

def ref10_maker_add.l1 (a0_p_n : List ByteArray) (a2 : Int) (a3 : Int) (y565 : Int) : Nat → Int → Option Int
 | 0, _ => none
 | k + 1, y877 =>
  (
    bif decide (y877 < a2) then
     gd (0 ≤ y877 ∧ y877 < (a0_p_n.length : Int)) <|
     gd (0 ≤ a3 ∧ a3 < ((gt a0_p_n y877).size : Int)) <|
     gd (0 ≤ y565 ∧ y565 < (a0_p_n.length : Int)) <|
     gd (0 ≤ a3 ∧ a3 < ((gt a0_p_n y565).size : Int)) <|
     some ((bt (gt a0_p_n y877) a3) == (bt (gt a0_p_n y565) a3))
    else
     some false).bind fun y960 =>
  bif y960 then
   ref10_maker_add.l1 a0_p_n a2 a3 y565 k (w64 (y877 + 1))
  else
   some y877
def ref10_maker_add.l0 (a0_p_l : List Pair) (a0_p_n : List ByteArray) (a0_p_t : List Node) (a2 : Int) (a3 : Int) (rec_ref10_maker_add : (List Pair) → (List ByteArray) → (List Node) → (List ByteArray) → Int → Int → Int → Option (Int × List Node × List ByteArray)) : Nat → (List ByteArray × List Node × Int) → Option (List ByteArray × List Node)
 | 0, _ => none
 | k + 1, (y555, y560, y565) =>
  bif decide (y565 < a2) then
   (ref10_maker_add.l1 a0_p_n a2 a3 y565 BIG y565).bind fun y922 =>
   (rec_ref10_maker_add a0_p_l a0_p_n y560 y555 y565 y922 (w64 (a3 + 1))).bind fun (y971, y972, y973) =>
   gd (0 ≤ y565 ∧ y565 < (a0_p_n.length : Int)) <|
   gd (0 ≤ a3 ∧ a3 < ((gt a0_p_n y565).size : Int)) <|
   gd (0 ≤ (a0_p_t.length : Int) ∧ (a0_p_t.length : Int) < (y972.length : Int)) <|
   gd (0 ≤ bt (gt a0_p_n y565) a3 ∧ bt (gt a0_p_n y565) a3 < 16) <|
   ref10_maker_add.l0 a0_p_l a0_p_n a0_p_t a2 a3 rec_ref10_maker_add k (y973, y972.set (a0_p_t.length : Int).toNat ({ gt y972 (a0_p_t.length : Int) with kids_ := vset (gt y972 (a0_p_t.length : Int)).kids_ (bt (gt a0_p_n y565) a3) y971 }), y922)
  else
   some (y555, y560)
def ref10_maker_add.f : Nat → (List Pair) → (List ByteArray) → (List Node) → (List ByteArray) → Int → Int → Int → Option (Int × List Node × List ByteArray)
 | 0, _, _, _, _, _, _, _ => none
 | kk + 1, a0_p_l, a0_p_n, a0_p_t, a0_p_p, a1, a2, a3 =>
  gd (a0_p_t.length + 1 ≤ 274877906944) <|
  gd (0 ≤ a1 ∧ a1 < (a0_p_n.length : Int)) <|
  gd (0 ≤ a3 ∧ a3 ≤ ((gt a0_p_n a1).size : Int)) <|
  gd (a0_p_p.length + 1 ≤ 274877906944) <|
  bif a2 == (w64 (a1 + 1)) then
   gd (0 ≤ a1 ∧ a1 < (a0_p_n.length : Int)) <|
   gd (0 ≤ a3 ∧ a3 ≤ ((gt a0_p_n a1).size : Int)) <|
   gd (0 ≤ a1 ∧ a1 < (a0_p_l.length : Int)) <|
   gd (0 ≤ (a0_p_t.length : Int) ∧ (a0_p_t.length : Int) < ((a0_p_t ++ [(⟨0, (⟨#[]⟩ : ByteArray), false, (⟨#[]⟩ : ByteArray), (Vector.replicate 16 0 : Vector Int 16)⟩ : Node)]).length : Int)) <|
   some ((a0_p_t.length : Int), (a0_p_t ++ [(⟨0, (⟨#[]⟩ : ByteArray), false, (⟨#[]⟩ : ByteArray), (Vector.replicate 16 0 : Vector Int 16)⟩ : Node)]).set (a0_p_t.length : Int).toNat (⟨1, sub (gt a0_p_n a1) a3 ((gt a0_p_n a1).size : Int), true, (gt a0_p_l a1).value_, (Vector.replicate 16 0 : Vector Int 16)⟩ : Node), a0_p_p ++ [sub (gt a0_p_n a1) 0 a3])
  else
   gd (0 ≤ a1 ∧ a1 < (a0_p_n.length : Int)) <|
   gd (0 ≤ a3 ∧ a3 ≤ ((gt a0_p_n a1).size : Int)) <|
   gd (0 ≤ w64 (a2 - 1) ∧ w64 (a2 - 1) < (a0_p_n.length : Int)) <|
   gd (0 ≤ a3 ∧ a3 ≤ ((gt a0_p_n (w64 (a2 - 1))).size : Int)) <|
   (ref02_Common.f (sub (gt a0_p_n a1) a3 ((gt a0_p_n a1).size : Int)) (sub (gt a0_p_n (w64 (a2 - 1))) a3 ((gt a0_p_n (w64 (a2 - 1))).size : Int))).bind fun y42 =>
   bif decide (y42 > 0) then
    gd (0 ≤ a1 ∧ a1 < (a0_p_n.length : Int)) <|
    gd (0 ≤ a3 ∧ a3 ≤ w64 (a3 + y42) ∧ w64 (a3 + y42) ≤ ((gt a0_p_n a1).size : Int)) <|
    gd (0 ≤ (a0_p_t.length : Int) ∧ (a0_p_t.length : Int) < ((a0_p_t ++ [(⟨0, (⟨#[]⟩ : ByteArray), false, (⟨#[]⟩ : ByteArray), (Vector.replicate 16 0 : Vector Int 16)⟩ : Node)]).length : Int)) <|
    ((ref10_maker_add.f kk) a0_p_l a0_p_n ((a0_p_t ++ [(⟨0, (⟨#[]⟩ : ByteArray), false, (⟨#[]⟩ : ByteArray), (Vector.replicate 16 0 : Vector Int 16)⟩ : Node)]).set (a0_p_t.length : Int).toNat (⟨2, sub (gt a0_p_n a1) a3 (w64 (a3 + y42)), false, (⟨#[]⟩ : ByteArray), (Vector.replicate 16 0 : Vector Int 16)⟩ : Node)) (a0_p_p ++ [sub (gt a0_p_n a1) 0 a3]) a1 a2 (w64 (a3 + y42))).bind fun (y56, y57, y58) =>
    gd (0 ≤ (a0_p_t.length : Int) ∧ (a0_p_t.length : Int) < (y57.length : Int)) <|
    gd (0 ≤ (0 : Int) ∧ (0 : Int) < 16) <|
    some ((a0_p_t.length : Int), y57.set (a0_p_t.length : Int).toNat ({ gt y57 (a0_p_t.length : Int) with kids_ := vset (gt y57 (a0_p_t.length : Int)).kids_ 0 y56 }), y58)
   else
    gd (0 ≤ (a0_p_t.length : Int) ∧ (a0_p_t.length : Int) < ((a0_p_t ++ [(⟨0, (⟨#[]⟩ : ByteArray), false, (⟨#[]⟩ : ByteArray), (Vector.replicate 16 0 : Vector Int 16)⟩ : Node)]).length : Int)) <|
    (
      gd (0 ≤ a1 ∧ a1 < (a0_p_n.length : Int)) <|
      bif ((gt a0_p_n a1).size : Int) == a3 then
       gd (0 ≤ a1 ∧ a1 < (a0_p_l.length : Int)) <|
       gd (0 ≤ (a0_p_t.length : Int) ∧ (a0_p_t.length : Int) < (((a0_p_t ++ [(⟨0, (⟨#[]⟩ : ByteArray), false, (⟨#[]⟩ : ByteArray), (Vector.replicate 16 0 : Vector Int 16)⟩ : Node)]).set (a0_p_t.length : Int).toNat ({ gt (a0_p_t ++ [(⟨0, (⟨#[]⟩ : ByteArray), false, (⟨#[]⟩ : ByteArray), (Vector.replicate 16 0 : Vector Int 16)⟩ : Node)]) (a0_p_t.length : Int) with kind_ := 3 })).length : Int)) <|
       gd (0 ≤ (a0_p_t.length : Int) ∧ (a0_p_t.length : Int) < ((((a0_p_t ++ [(⟨0, (⟨#[]⟩ : ByteArray), false, (⟨#[]⟩ : ByteArray), (Vector.replicate 16 0 : Vector Int 16)⟩ : Node)]).set (a0_p_t.length : Int).toNat ({ gt (a0_p_t ++ [(⟨0, (⟨#[]⟩ : ByteArray), false, (⟨#[]⟩ : ByteArray), (Vector.replicate 16 0 : Vector Int 16)⟩ : Node)]) (a0_p_t.length : Int) with kind_ := 3 })).set (a0_p_t.length : Int).toNat ({ gt ((a0_p_t ++ [(⟨0, (⟨#[]⟩ : ByteArray), false, (⟨#[]⟩ : ByteArray), (Vector.replicate 16 0 : Vector Int 16)⟩ : Node)]).set (a0_p_t.length : Int).toNat ({ gt (a0_p_t ++ [(⟨0, (⟨#[]⟩ : ByteArray), false, (⟨#[]⟩ : ByteArray), (Vector.replicate 16 0 : Vector Int 16)⟩ : Node)]) (a0_p_t.length : Int) with kind_ := 3 })) (a0_p_t.length : Int) with has_ := true })).length : Int)) <|
       some ((((a0_p_t ++ [(⟨0, (⟨#[]⟩ : ByteArray), false, (⟨#[]⟩ : ByteArray), (Vector.replicate 16 0 : Vector Int 16)⟩ : Node)]).set (a0_p_t.length : Int).toNat ({ gt (a0_p_t ++ [(⟨0, (⟨#[]⟩ : ByteArray), false, (⟨#[]⟩ : ByteArray), (Vector.replicate 16 0 : Vector Int 16)⟩ : Node)]) (a0_p_t.length : Int) with kind_ := 3 })).set (a0_p_t.length : Int).toNat ({ gt ((a0_p_t ++ [(⟨0, (⟨#[]⟩ : ByteArray), false, (⟨#[]⟩ : ByteArray), (Vector.replicate 16 0 : Vector Int 16)⟩ : Node)]).set (a0_p_t.length : Int).toNat ({ gt (a0_p_t ++ [(⟨0, (⟨#[]⟩ : ByteArray), false, (⟨#[]⟩ : ByteArray), (Vector.replicate 16 0 : Vector Int 16)⟩ : Node)]) (a0_p_t.length : Int) with kind_ := 3 })) (a0_p_t.length : Int) with has_ := true })).set (a0_p_t.length : Int).toNat ({ gt (((a0_p_t ++ [(⟨0, (⟨#[]⟩ : ByteArray), false, (⟨#[]⟩ : ByteArray), (Vector.replicate 16 0 : Vector Int 16)⟩ : Node)]).set (a0_p_t.length : Int).toNat ({ gt (a0_p_t ++ [(⟨0, (⟨#[]⟩ : ByteArray), false, (⟨#[]⟩ : ByteArray), (Vector.replicate 16 0 : Vector Int 16)⟩ : Node)]) (a0_p_t.length : Int) with kind_ := 3 })).set (a0_p_t.length : Int).toNat ({ gt ((a0_p_t ++ [(⟨0, (⟨#[]⟩ : ByteArray), false, (⟨#[]⟩ : ByteArray), (Vector.replicate 16 0 : Vector Int 16)⟩ : Node)]).set (a0_p_t.length : Int).toNat ({ gt (a0_p_t ++ [(⟨0, (⟨#[]⟩ : ByteArray), false, (⟨#[]⟩ : ByteArray), (Vector.replicate 16 0 : Vector Int 16)⟩ : Node)]) (a0_p_t.length : Int) with kind_ := 3 })) (a0_p_t.length : Int) with has_ := true })) (a0_p_t.length : Int) with value_ := (gt a0_p_l a1).value_ }), w64 (a1 + 1))
      else
       some ((a0_p_t ++ [(⟨0, (⟨#[]⟩ : ByteArray), false, (⟨#[]⟩ : ByteArray), (Vector.replicate 16 0 : Vector Int 16)⟩ : Node)]).set (a0_p_t.length : Int).toNat ({ gt (a0_p_t ++ [(⟨0, (⟨#[]⟩ : ByteArray), false, (⟨#[]⟩ : ByteArray), (Vector.replicate 16 0 : Vector Int 16)⟩ : Node)]) (a0_p_t.length : Int) with kind_ := 3 }), a1)).bind fun (y107, y112) =>
    (ref10_maker_add.l0 a0_p_l a0_p_n a0_p_t a2 a3 (ref10_maker_add.f kk) BIG (a0_p_p ++ [sub (gt a0_p_n a1) 0 a3], y107, y112)).bind fun (y774, y779) =>
    some ((a0_p_t.length : Int), y779, y774)

def ref10_Build.l0 (a0 : List Pair) : Nat → (List ByteArray × Int) → Option (List ByteArray)
 | 0, _ => none
 | k + 1, (y171, y176) =>
  bif decide (y176 < (a0.length : Int)) then
   gd (0 ≤ y176 ∧ y176 < (a0.length : Int)) <|
   (ref02_Of.f ((gt a0 y176).key_)).bind fun y209 =>
   gd (y171.length + 1 ≤ 274877906944) <|
   ref10_Build.l0 a0 k (y171 ++ [y209], w64 (y176 + 1))
  else
   some y171
def ref10_Build.f (a0 : List Pair) : Option ref10_Both_T :=
 (ref10_May.f a0).bind fun y284 =>
 bif !y284 then
  some (⟨([] : List Node), ([] : List ByteArray), false⟩ : ref10_Both_T)
 else
  (ref10_Build.l0 a0 BIG (([] : List ByteArray), 0)).bind fun y198 =>
  (
    bif decide ((a0.length : Int) > 0) then
     (ref10_maker_add.f BIG a0 y198 ([] : List Node) ([] : List ByteArray) 0 (a0.length : Int) 0).bind fun (y1071, y1072, y1073) =>
     some (y1072, y1073)
    else
     some (([] : List Node), ([] : List ByteArray))).bind fun (y1058, y1063) =>
  some (⟨y1058, y1063, true⟩ : ref10_Both_T)

def ref02_Key.l0 (a0 : ByteArray) : Nat → (List Int × Int) → Option ((List Int) ⊕ ref02_Text_T)
 | 0, _ => none
 | k + 1, (y415, y420) =>
  bif decide (y420 < (a0.size : Int)) then
   (
     (
       (
         gd (0 ≤ y420 ∧ y420 < (a0.size : Int)) <|
         bif decide ((bt a0 y420) > 15) then
          some true
         else
          some (((a0.size : Int).tmod 2) != 0)).bind fun y646 =>
       bif y646 then
        some (.inr (⟨(⟨#[]⟩ : ByteArray), false⟩ : ref02_Text_T))
       else
        bif (y420.tmod 2) == 1 then
         gd (0 ≤ w64 (y420 - 1) ∧ w64 (y420 - 1) < (a0.size : Int)) <|
         gd (0 ≤ y420 ∧ y420 < (a0.size : Int)) <|
         gd (y415.length + 1 ≤ 274877906944) <|
         some (.inl (y415 ++ [wu8 ((wu8 ((bt a0 (w64 (y420 - 1))) * 16)) + (bt a0 y420))]))
        else
         some (.inl y415)) : Option ((List Int) ⊕ ref02_Text_T)).bind fun
   | .inl y624 =>
    ref02_Key.l0 a0 k (y624, w64 (y420 + 1))
   | .inr r668 =>
    some (.inr r668)
  else
   some (.inl y415)
def ref02_Key.f (a0 : ByteArray) : Option ref02_Text_T :=
 (ref02_Key.l0 a0 BIG (([] : List Int), 0)).bind fun
 | .inl y541 =>
  some (⟨strOfNums y541, true⟩ : ref02_Text_T)
 | .inr r671 =>
  some r671

def ref10_Same.l0 (a0 : List Node) (a1 : List Node) : Nat → Int → Option (Unit ⊕ Bool)
 | 0, _ => none
 | k + 1, y13 =>
  bif decide (y13 < (a0.length : Int)) then
   gd (0 ≤ y13 ∧ y13 < (a0.length : Int)) <|
   gd (0 ≤ y13 ∧ y13 < (a1.length : Int)) <|
   bif !(eq_Node (gt a0 y13) (gt a1 y13)) then
    some (.inr false)
   else
    ref10_Same.l0 a0 a1 k (w64 (y13 + 1))
  else
   some (.inl ())
def ref10_Same.f (a0 : List Node) (a1 : List Node) : Option Bool :=
 bif (a0.length : Int) != (a1.length : Int) then
  some false
 else
  (ref10_Same.l0 a0 a1 BIG 0).bind fun
  | .inl () =>
   some true
  | .inr r28 =>
   some r28

def ref10_Pairs.l1 (a0 : List Node) (y5701 : List ByteArray) (y5706 : Int) : Nat → (List Bool × List ByteArray × Int) → Option ((List Bool × List ByteArray) ⊕ ref10_Got_T)
 | 0, _ => none
 | k + 1, (y8690, y8695, y8700) =>
  bif decide (y8700 < 16) then
   (
     (
       gd (0 ≤ y8700 ∧ y8700 < 16) <|
       bif (vg ((gt a0 y5706).kids_) y8700) == 0 then
        some (.inl (y8690, y8695))
       else
        (
          bif decide ((vg ((gt a0 y5706).kids_) y8700) ≤ y5706) then
           some true
          else
           bif decide ((vg ((gt a0 y5706).kids_) y8700) ≥ (a0.length : Int)) then
            some true
           else
            gd (0 ≤ vg ((gt a0 y5706).kids_) y8700 ∧ vg ((gt a0 y5706).kids_) y8700 < (y8690.length : Int)) <|
            some (gt y8690 (vg ((gt a0 y5706).kids_) y8700))).bind fun y9018 =>
        bif y9018 then
         some (.inr (⟨([] : List Pair), false⟩ : ref10_Got_T))
        else
         gd (0 ≤ vg ((gt a0 y5706).kids_) y8700 ∧ vg ((gt a0 y5706).kids_) y8700 < (y8690.length : Int)) <|
         gd (0 ≤ vg ((gt a0 y5706).kids_) y8700 ∧ vg ((gt a0 y5706).kids_) y8700 < (y8695.length : Int)) <|
         bif ((gt a0 y5706).kind_) == 3 then
          gd (0 ≤ vg ((gt a0 y5706).kids_) y8700 ∧ vg ((gt a0 y5706).kids_) y8700 < ((y8695.set (vg ((gt a0 y5706).kids_) y8700).toNat ((gt y5701 y5706) ++ ((gt a0 y5706).path_))).length : Int)) <|
          gd ((gt (y8695.set (vg ((gt a0 y5706).kids_) y8700).toNat ((gt y5701 y5706) ++ ((gt a0 y5706).path_))) (vg ((gt a0 y5706).kids_) y8700)).size + (strOfNums [wu8 y8700]).size ≤ 9223372036854775807) <|
          gd (0 ≤ vg ((gt a0 y5706).kids_) y8700 ∧ vg ((gt a0 y5706).kids_) y8700 < ((y8695.set (vg ((gt a0 y5706).kids_) y8700).toNat ((gt y5701 y5706) ++ ((gt a0 y5706).path_))).length : Int)) <|
          some (.inl (y8690.set (vg ((gt a0 y5706).kids_) y8700).toNat true, (y8695.set (vg ((gt a0 y5706).kids_) y8700).toNat ((gt y5701 y5706) ++ ((gt a0 y5706).path_))).set (vg ((gt a0 y5706).kids_) y8700).toNat ((gt (y8695.set (vg ((gt a0 y5706).kids_) y8700).toNat ((gt y5701 y5706) ++ ((gt a0 y5706).path_))) (vg ((gt a0 y5706).kids_) y8700)) ++ (strOfNums [wu8 y8700]))))
         else
          some (.inl (y8690.set (vg ((gt a0 y5706).kids_) y8700).toNat true, y8695.set (vg ((gt a0 y5706).kids_) y8700).toNat ((gt y5701 y5706) ++ ((gt a0 y5706).path_))))) : Option ((List Bool × List ByteArray) ⊕ ref10_Got_T)).bind fun
   | .inl (y8984, y8989) =>
    ref10_Pairs.l1 a0 y5701 y5706 k (y8984, y8989, w64 (y8700 + 1))
   | .inr r9047 =>
    some (.inr r9047)
  else
   some (.inl (y8690, y8695))
def ref10_Pairs.l0 (a0 : List Node) : Nat → (List Bool × List Pair × List ByteArray × Int) → Option ((List Bool × List Pair × List ByteArray) ⊕ ref10_Got_T)
 | 0, _ => none
 | k + 1, (y5691, y5696, y5701, y5706) =>
  bif decide (y5706 < (a0.length : Int)) then
   (
     bif decide (y5706 > 0) then
      gd (0 ≤ y5706 ∧ y5706 < (y5691.length : Int)) <|
      some (!(gt y5691 y5706))
     else
      some false).bind fun y8235 =>
   bif y8235 then
    some (.inr (⟨([] : List Pair), false⟩ : ref10_Got_T))
   else
    gd (0 ≤ y5706 ∧ y5706 < (a0.length : Int)) <|
    gd (0 ≤ y5706 ∧ y5706 < (y5701.length : Int)) <|
    gd ((gt y5701 y5706).size + ((gt a0 y5706).path_).size ≤ 9223372036854775807) <|
    (
      bif decide ((((gt a0 y5706).path_).size : Int) > 16) then
       some true
      else
       some (decide ((((gt y5701 y5706) ++ ((gt a0 y5706).path_)).size : Int) > 16))).bind fun y8260 =>
    bif y8260 then
     some (.inr (⟨([] : List Pair), false⟩ : ref10_Got_T))
    else
     (
       (
         bif (gt a0 y5706).has_ then
          (ref02_Key.f ((gt y5701 y5706) ++ ((gt a0 y5706).path_))).bind fun y8322 =>
          bif !y8322.ok_ then
           some (.inr (⟨([] : List Pair), false⟩ : ref10_Got_T))
          else
           gd (y5696.length + 1 ≤ 274877906944) <|
           some (.inl (y5696 ++ [(⟨y8322.s_, (gt a0 y5706).value_⟩ : Pair)]))
         else
          some (.inl y5696)) : Option ((List Pair) ⊕ ref10_Got_T)).bind fun
     | .inl y8314 =>
      (ref10_Pairs.l1 a0 y5701 y5706 BIG (y5691, y5701, 0)).bind fun
      | .inl (y8868, y8873) =>
       ref10_Pairs.l0 a0 k (y8868, y8314, y8873, w64 (y5706 + 1))
      | .inr r9049 =>
       some (.inr r9049)
     | .inr r9050 =>
      some (.inr r9050)
  else
   some (.inl (y5691, y5696, y5701))
def ref10_Pairs.f (a0 : List Node) : Option ref10_Got_T :=
 gd (0 ≤ (a0.length : Int) ∧ (a0.length : Int) ≤ 274877906944) <|
 gd (0 ≤ (a0.length : Int) ∧ (a0.length : Int) ≤ 274877906944) <|
 (ref10_Pairs.l0 a0 BIG (List.replicate (a0.length : Int).toNat false, ([] : List Pair), List.replicate (a0.length : Int).toNat (⟨#[]⟩ : ByteArray), 0)).bind fun
 | .inl (y7370, y7375, y7380) =>
  (ref10_Build.f y7375).bind fun y9055 =>
  (
    bif !y9055.ok_ then
     some true
    else
     (ref10_Same.f y9055.t_ a0).bind fun y72 =>
     some (!y72)).bind fun y68 =>
  bif y68 then
   some (⟨([] : List Pair), false⟩ : ref10_Got_T)
  else
   some (⟨y7375, true⟩ : ref10_Got_T)
 | .inr r81 =>
  some r81

def ref19_size.l0 (a0 : Node) : Nat → (Int × Int) → Option Int
 | 0, _ => none
 | k + 1, (y34, y35) =>
  bif decide (y35 < 16) then
   (
     gd (0 ≤ y35 ∧ y35 < 16) <|
     bif (vg a0.kids_ y35) != 0 then
      some (w64 (y34 + 3))
     else
      some y34).bind fun y55 =>
   ref19_size.l0 a0 k (y55, w64 (y35 + 1))
  else
   some y34
def ref19_size.f (a0 : Node) : Option Int :=
 bif a0.kind_ == 1 then
  some (w64 ((w64 ((w64 (1 + (w64 (1 + (w64 ((w64 ((a0.path_.size : Int) + 1)).tdiv 2)))))) + 1)) + (a0.value_.size : Int)))
 else
  bif a0.kind_ == 2 then
   some (w64 ((w64 (1 + (w64 (1 + (w64 ((w64 ((a0.path_.size : Int) + 1)).tdiv 2)))))) + 3))
  else
   (
     bif a0.has_ then
      some (w64 (4 + (w64 (1 + (a0.value_.size : Int)))))
     else
      some 4).bind fun y8 =>
   (ref19_size.l0 a0 BIG (y8, 0)).bind fun y46 =>
   some y46

def ref19_maker_grow.l0 (a0_p_t : List Node) (a0_p_p : List ByteArray) (a1 : Int) (a2 : Int) (rec_ref19_maker_grow : (List Node) → (List ByteArray) → (List Int) → (List Int) → Int → Int → Int → Option (Int × List Int × List Int)) : Nat → (List Int × List Int × Int × Int) → Option (List Int × List Int × Int)
 | 0, _ => none
 | k + 1, (y293, y298, y303, y304) =>
  bif decide (y304 < 16) then
   (
     gd (0 ≤ a1 ∧ a1 < (a0_p_t.length : Int)) <|
     gd (0 ≤ y304 ∧ y304 < 16) <|
     bif (vg (gt a0_p_t a1).kids_ y304) == 0 then
      some (y293, y298, y303)
     else
      gd (0 ≤ vg (gt a0_p_t a1).kids_ y304 ∧ vg (gt a0_p_t a1).kids_ y304 < (a0_p_t.length : Int)) <|
      (ref19_size.f (gt a0_p_t (vg (gt a0_p_t a1).kids_ y304))).bind fun y561 =>
      bif decide ((w64 ((w64 (y303 + y561)) - 3)) ≤ 243) then
       gd (0 ≤ vg (gt a0_p_t a1).kids_ y304 ∧ vg (gt a0_p_t a1).kids_ y304 < (y293.length : Int)) <|
       gd (0 ≤ vg (gt a0_p_t a1).kids_ y304 ∧ vg (gt a0_p_t a1).kids_ y304 < (a0_p_t.length : Int)) <|
       (ref19_size.f (gt a0_p_t (vg (gt a0_p_t a1).kids_ y304))).bind fun y573 =>
       (rec_ref19_maker_grow a0_p_t a0_p_p (y293.set (vg (gt a0_p_t a1).kids_ y304).toNat a2) y298 (vg (gt a0_p_t a1).kids_ y304) a2 (w64 ((w64 (y303 + y573)) - 3))).bind fun (y579, y580, y581) =>
       some (y580, y581, y579)
      else
       gd (0 ≤ vg (gt a0_p_t a1).kids_ y304 ∧ vg (gt a0_p_t a1).kids_ y304 < (y298.length : Int)) <|
       some (y293, y298.set (vg (gt a0_p_t a1).kids_ y304).toNat 1, y303)).bind fun (y544, y549, y554) =>
   ref19_maker_grow.l0 a0_p_t a0_p_p a1 a2 rec_ref19_maker_grow k (y544, y549, y554, w64 (y304 + 1))
  else
   some (y293, y298, y303)
def ref19_maker_grow.f : Nat → (List Node) → (List ByteArray) → (List Int) → (List Int) → Int → Int → Int → Option (Int × List Int × List Int)
 | 0, _, _, _, _, _, _, _ => none
 | kk + 1, a0_p_t, a0_p_p, a0_p_of, a0_p_tops, a1, a2, a3 =>
  (ref19_maker_grow.l0 a0_p_t a0_p_p a1 a2 (ref19_maker_grow.f kk) BIG (a0_p_of, a0_p_tops, a3, 0)).bind fun (y445, y450, y455) =>
  some (y455, y445, y450)

def ref19_Of.l0 (a0 : List Node) (y98 : ref10_Both_T) : Nat → (List Int × List Int × List Plan × Int) → Option (List Int × List Int × List Plan)
 | 0, _ => none
 | k + 1, (y2527, y2532, y2537, y2545) =>
  bif decide (y2545 < (a0.length : Int)) then
   (
     (
       bif decide (y2545 > 0) then
        gd (0 ≤ y2545 ∧ y2545 < (y2532.length : Int)) <|
        some ((gt y2532 y2545) == 0)
       else
        some false).bind fun y3628 =>
     bif y3628 then
      some (y2527, y2532, y2537)
     else
      gd (0 ≤ y2545 ∧ y2545 < (y2527.length : Int)) <|
      gd (0 ≤ y2545 ∧ y2545 < (y2532.length : Int)) <|
      gd (0 ≤ y2545 ∧ y2545 < (y98.p_.length : Int)) <|
      gd (y2537.length + 1 ≤ 274877906944) <|
      (
        gd (0 ≤ y2545 ∧ y2545 < (a0.length : Int)) <|
        gd (0 ≤ y2545 ∧ y2545 < ((y2527.set y2545.toNat (y2537.length : Int)).length : Int)) <|
        (ref19_size.f (gt a0 y2545)).bind fun y3743 =>
        (ref19_maker_grow.f BIG a0 y98.p_ (y2527.set y2545.toNat (y2537.length : Int)) (y2532.set y2545.toNat (w64 ((y2537.length : Int) + 1))) y2545 (gt (y2527.set y2545.toNat (y2537.length : Int)) y2545) y3743).bind fun (y3749, y3750, y3751) =>
        some (y3750, y3751)).bind fun (y3672, y3673) =>
      some (y3672, y3673, y2537 ++ [(⟨gt y98.p_ y2545, y2545, ([] : List Int), ([] : List Int)⟩ : Plan)])).bind fun (y3594, y3599, y3604) =>
   ref19_Of.l0 a0 y98 k (y3594, y3599, y3604, w64 (y2545 + 1))
  else
   some (y2527, y2532, y2537)
def ref19_Of.l1 (a0 : List Node) (y3170 : List Int) : Nat → (List Plan × Int) → Option (List Plan)
 | 0, _ => none
 | k + 1, (y3869, y3877) =>
  bif decide (y3877 < (a0.length : Int)) then
   gd (0 ≤ y3877 ∧ y3877 < (y3170.length : Int)) <|
   gd (0 ≤ y3877 ∧ y3877 < (y3170.length : Int)) <|
   gd (0 ≤ gt y3170 y3877 ∧ gt y3170 y3877 < (y3869.length : Int)) <|
   gd ((gt y3869 (gt y3170 y3877)).nodes_.length + 1 ≤ 274877906944) <|
   gd (0 ≤ gt y3170 y3877 ∧ gt y3170 y3877 < (y3869.length : Int)) <|
   ref19_Of.l1 a0 y3170 k (y3869.set (gt y3170 y3877).toNat { gt y3869 (gt y3170 y3877) with nodes_ := (gt y3869 (gt y3170 y3877)).nodes_ ++ [y3877] }, w64 (y3877 + 1))
  else
   some y3869
def ref19_Of.l4 (a0 : List Node) (y3170 : List Int) (y7165 : Int) (y9590 : Int) : Nat → (List Plan × Int) → Option (List Plan)
 | 0, _ => none
 | k + 1, (y10197, y10205) =>
  bif decide (y10205 < 16) then
   (
     gd (0 ≤ y9590 ∧ y9590 < (a0.length : Int)) <|
     gd (0 ≤ y10205 ∧ y10205 < 16) <|
     bif (vg (gt a0 y9590).kids_ y10205) == y7165 then
      gd (0 ≤ y9590 ∧ y9590 < (y3170.length : Int)) <|
      gd (0 ≤ y9590 ∧ y9590 < (y3170.length : Int)) <|
      gd (0 ≤ gt y3170 y9590 ∧ gt y3170 y9590 < (y10197.length : Int)) <|
      gd (0 ≤ y7165 ∧ y7165 < (y3170.length : Int)) <|
      gd ((gt y10197 (gt y3170 y9590)).kids_.length + 1 ≤ 274877906944) <|
      gd (0 ≤ gt y3170 y9590 ∧ gt y3170 y9590 < (y10197.length : Int)) <|
      some (y10197.set (gt y3170 y9590).toNat { gt y10197 (gt y3170 y9590) with kids_ := (gt y10197 (gt y3170 y9590)).kids_ ++ [gt y3170 y7165] })
     else
      some y10197).bind fun y10354 =>
   ref19_Of.l4 a0 y3170 y7165 y9590 k (y10354, w64 (y10205 + 1))
  else
   some y10197
def ref19_Of.l3 (a0 : List Node) (y3170 : List Int) (y3175 : List Int) (y7165 : Int) : Nat → (List Plan × Int) → Option (List Plan)
 | 0, _ => none
 | k + 1, (y9582, y9590) =>
  (
    bif decide (y9590 < y7165) then
     gd (0 ≤ y7165 ∧ y7165 < (y3175.length : Int)) <|
     some (decide ((gt y3175 y7165) > 0))
    else
     some false).bind fun y10010 =>
  bif y10010 then
   (ref19_Of.l4 a0 y3170 y7165 y9590 BIG (y9582, 0)).bind fun y10292 =>
   ref19_Of.l3 a0 y3170 y3175 y7165 k (y10292, w64 (y9590 + 1))
  else
   some y9582
def ref19_Of.l2 (a0 : List Node) (y3170 : List Int) (y3175 : List Int) : Nat → (List Plan × Int) → Option (List Plan)
 | 0, _ => none
 | k + 1, (y7157, y7165) =>
  bif decide (y7165 < (a0.length : Int)) then
   (ref19_Of.l3 a0 y3170 y3175 y7165 BIG (y7157, 0)).bind fun y9985 =>
   ref19_Of.l2 a0 y3170 y3175 k (y9985, w64 (y7165 + 1))
  else
   some y7157
def ref19_Of.f (a0 : List Node) : Option ref19_All_T :=
 (ref10_Pairs.f a0).bind fun y82 =>
 bif !y82.ok_ then
  some (⟨([] : List Plan), false⟩ : ref19_All_T)
 else
  (
    (ref10_Build.f y82.l_).bind fun y262 =>
    gd (0 ≤ (a0.length : Int) ∧ (a0.length : Int) ≤ 274877906944) <|
    gd (0 ≤ (a0.length : Int) ∧ (a0.length : Int) ≤ 274877906944) <|
    some y262).bind fun y98 =>
  (ref19_Of.l0 a0 y98 BIG (List.replicate (a0.length : Int).toNat 0, List.replicate (a0.length : Int).toNat 0, ([] : List Plan), 0)).bind fun (y3170, y3175, y3180) =>
  (ref19_Of.l1 a0 y3170 BIG (y3180, 0)).bind fun y3900 =>
  (ref19_Of.l2 a0 y3170 y3175 BIG (y3900, 1)).bind fun y8773 =>
  some (⟨y8773, true⟩ : ref19_All_T)

def nibble_small.l0 (a0 : ByteArray) : Nat → Int → Option (Unit ⊕ Bool)
 | 0, _ => none
 | k + 1, y8 =>
  bif decide (y8 < (a0.size : Int)) then
   gd (0 ≤ y8 ∧ y8 < (a0.size : Int)) <|
   bif decide ((bt a0 y8) > 15) then
    some (.inr false)
   else
    nibble_small.l0 a0 k (w64 (y8 + 1))
  else
   some (.inl ())
def nibble_small.f (a0 : ByteArray) : Option Bool :=
 (nibble_small.l0 a0 BIG 0).bind fun
 | .inl () =>
  some true
 | .inr r19 =>
  some r19

def nibble_two.l0 (a0 : ByteArray) : Nat → (List Int × Int) → Option (List Int)
 | 0, _ => none
 | k + 1, (y33, y38) =>
  bif decide (y38 < (a0.size : Int)) then
   gd (0 ≤ y38.tmod 2 ∧ y38.tmod 2 < 2) <|
   gd (0 ≤ w64 (y38.tdiv 2) ∧ w64 (y38.tdiv 2) < (y33.length : Int)) <|
   gd (0 ≤ y38 ∧ y38 < (a0.size : Int)) <|
   gd (0 ≤ vg (#v[4, 0] : Vector Int 2) (y38.tmod 2)) <|
   gd (0 ≤ w64 (y38.tdiv 2) ∧ w64 (y38.tdiv 2) < (y33.length : Int)) <|
   nibble_two.l0 a0 k (y33.set (w64 (y38.tdiv 2)).toNat (bor .u8 (gt y33 (w64 (y38.tdiv 2))) (shl .u8 (bt a0 y38) (vg (#v[4, 0] : Vector Int 2) (y38.tmod 2)))), w64 (y38 + 1))
  else
   some y33
def nibble_two.f (a0 : ByteArray) : Option ByteArray :=
 gd (0 ≤ w64 ((w64 ((a0.size : Int) + 1)).tdiv 2) ∧ w64 ((w64 ((a0.size : Int) + 1)).tdiv 2) ≤ 274877906944) <|
 (nibble_two.l0 a0 BIG (List.replicate (w64 ((w64 ((a0.size : Int) + 1)).tdiv 2)).toNat 0, 0)).bind fun y49 =>
 some (strOfNums y49)

def nibble_Key.f (a0 : ByteArray) : Option (ByteArray × Bool) :=
 (
   bif ((a0.size : Int).tmod 2) != 0 then
    some true
   else
    (nibble_small.f a0).bind fun y62 =>
    some (!y62)).bind fun y58 =>
 bif y58 then
  some ((⟨#[]⟩ : ByteArray), false)
 else
  (nibble_two.f a0).bind fun y68 =>
  some (y68, true)

def trie_walker_pair.f (a0_p_t : List Node) (a0_p_next : Int) (a0_p_l : List Pair) (a0_p_paths : List ByteArray) (a1 : ByteArray) (a2 : ByteArray) : Option (Bool × List Pair) :=
 (nibble_Key.f a1).bind fun (y1, y2) =>
 gd (a0_p_l.length + 1 ≤ 274877906944) <|
 some (y2, a0_p_l ++ [(⟨y1, a2⟩ : Pair)])

def trie_walker_walk.l0 (a0_p_t : List Node) (a1 : Int) (a2 : ByteArray) (rec_trie_walker_walk : (List Node) → Int → (List Pair) → (List ByteArray) → Int → ByteArray → Option (Bool × Int × List Pair × List ByteArray)) : Nat → (List Pair × List ByteArray × Int × Int) → Option ((List Pair × List ByteArray × Int) ⊕ (Bool × Int × List Pair × List ByteArray))
 | 0, _ => none
 | k + 1, (y520, y525, y530, y531) =>
  bif decide (y531 < 16) then
   gd (0 ≤ y531 ∧ y531 < 16) <|
   (
     bif ((gt a0_p_t a1).kind_) == 3 then
      gd ((a2 ++ ((gt a0_p_t a1).path_)).size + (strOfNums [wu8 y531]).size ≤ 9223372036854775807) <|
      some ((a2 ++ ((gt a0_p_t a1).path_)) ++ (strOfNums [wu8 y531]))
     else
      some (a2 ++ ((gt a0_p_t a1).path_))).bind fun y845 =>
   (
     bif (vg ((gt a0_p_t a1).kids_) y531) != 0 then
      (rec_trie_walker_walk a0_p_t y530 y520 y525 (vg ((gt a0_p_t a1).kids_) y531) y845).bind fun (y906, y907, y908, y909) =>
      some (y908, y909, y907, !y906)
     else
      some (y520, y525, y530, false)).bind fun (y891, y896, y901, y902) =>
   bif y902 then
    some (.inr (false, y901, y891, y896))
   else
    trie_walker_walk.l0 a0_p_t a1 a2 rec_trie_walker_walk k (y891, y896, y901, w64 (y531 + 1))
  else
   some (.inl (y520, y525, y530))
def trie_walker_walk.f : Nat → (List Node) → Int → (List Pair) → (List ByteArray) → Int → ByteArray → Option (Bool × Int × List Pair × List ByteArray)
 | 0, _, _, _, _, _, _ => none
 | kk + 1, a0_p_t, a0_p_next, a0_p_l, a0_p_paths, a1, a2 =>
  (
    bif a1 != a0_p_next then
     some true
    else
     bif decide (a1 ≥ (a0_p_t.length : Int)) then
      some true
     else
      some (decide ((a2.size : Int) > 16))).bind fun y15 =>
  bif y15 then
   some (false, a0_p_next, a0_p_l, a0_p_paths)
  else
   gd (a0_p_paths.length + 1 ≤ 274877906944) <|
   gd (0 ≤ a1 ∧ a1 < (a0_p_t.length : Int)) <|
   gd (a2.size + ((gt a0_p_t a1).path_).size ≤ 9223372036854775807) <|
   (
     bif (gt a0_p_t a1).has_ then
      (trie_walker_pair.f a0_p_t (w64 (a0_p_next + 1)) a0_p_l (a0_p_paths ++ [a2]) (a2 ++ ((gt a0_p_t a1).path_)) ((gt a0_p_t a1).value_)).bind fun (y118, y119) =>
      some (y119, !y118)
     else
      some (a0_p_l, false)).bind fun (y109, y114) =>
   bif y114 then
    some (false, w64 (a0_p_next + 1), y109, a0_p_paths ++ [a2])
   else
    (trie_walker_walk.l0 a0_p_t a1 a2 (trie_walker_walk.f kk) BIG (y109, a0_p_paths ++ [a2], w64 (a0_p_next + 1), 0)).bind fun
    | .inl (y721, y726, y731) =>
     some (true, y731, y721, y726)
    | .inr r925 =>
     some r925

def trie_may.l0 (a0 : List Pair) : Nat → Int → Option (Unit ⊕ Bool)
 | 0, _ => none
 | k + 1, y112 =>
  bif decide (y112 < (a0.length : Int)) then
   gd (0 ≤ y112 ∧ y112 < (a0.length : Int)) <|
   (
     bif seq_ ((gt a0 y112).key_) (⟨#[]⟩ : ByteArray) then
      some true
     else
      bif decide ((((gt a0 y112).key_).size : Int) > 8) then
       some true
      else
       bif decide ((((gt a0 y112).value_).size : Int) > 16) then
        some true
       else
        bif decide (y112 > 0) then
         gd (0 ≤ w64 (y112 - 1) ∧ w64 (y112 - 1) < (a0.length : Int)) <|
         some (slt ((gt a0 y112).key_) ((gt a0 (w64 (y112 - 1))).key_) || seq_ ((gt a0 y112).key_) ((gt a0 (w64 (y112 - 1))).key_))
        else
         some false).bind fun y216 =>
   bif y216 then
    some (.inr false)
   else
    trie_may.l0 a0 k (w64 (y112 + 1))
  else
   some (.inl ())
def trie_may.f (a0 : List Pair) : Option Bool :=
 (trie_may.l0 a0 BIG 0).bind fun
 | .inl () =>
  some true
 | .inr r227 =>
  some r227

def nibble_Of.l0 (a0 : ByteArray) : Nat → (List Int × Int) → Option (List Int)
 | 0, _ => none
 | k + 1, (y43, y48) =>
  bif decide (y48 < (a0.size : Int)) then
   gd (0 ≤ y48 ∧ y48 < (a0.size : Int)) <|
   gd (0 ≤ y48 ∧ y48 < (a0.size : Int)) <|
   gd (y43.length + 2 ≤ 274877906944) <|
   nibble_Of.l0 a0 k (y43 ++ [shr .u8 (bt a0 y48) 4, band .u8 (bt a0 y48) 15], w64 (y48 + 1))
  else
   some y43
def nibble_Of.f (a0 : ByteArray) : Option ByteArray :=
 gd (0 ≤ w64 (2 * (a0.size : Int)) ∧ w64 (2 * (a0.size : Int)) ≤ 274877906944) <|
 (nibble_Of.l0 a0 BIG (([] : List Int), 0)).bind fun y64 =>
 some (strOfNums y64)

def nibble_Common.l0 (a0 : ByteArray) (a1 : ByteArray) : Nat → Int → Option Int
 | 0, _ => none
 | k + 1, y66 =>
  (
    bif decide (y66 < (if (a1.size : Int) < (a0.size : Int) then (a1.size : Int) else (a0.size : Int))) then
     gd (0 ≤ y66 ∧ y66 < (a0.size : Int)) <|
     gd (0 ≤ y66 ∧ y66 < (a1.size : Int)) <|
     some ((bt a0 y66) == (bt a1 y66))
    else
     some false).bind fun y127 =>
  bif y127 then
   nibble_Common.l0 a0 a1 k (w64 (y66 + 1))
  else
   some y66
def nibble_Common.f (a0 : ByteArray) (a1 : ByteArray) : Option Int :=
 (nibble_Common.l0 a0 a1 BIG 0).bind fun y99 =>
 some y99

def trie_builder_branch.l1 (a0_p_n : List ByteArray) (a2 : Int) (a3 : Int) (y298 : Int) : Nat → Int → Option Int
 | 0, _ => none
 | k + 1, y491 =>
  (
    bif decide (y491 < a2) then
     gd (0 ≤ y491 ∧ y491 < (a0_p_n.length : Int)) <|
     gd (0 ≤ a3 ∧ a3 < ((gt a0_p_n y491).size : Int)) <|
     some ((bt (gt a0_p_n y491) a3) == (bt (gt a0_p_n y298) a3))
    else
     some false).bind fun y541 =>
  bif y541 then
   trie_builder_branch.l1 a0_p_n a2 a3 y298 k (w64 (y491 + 1))
  else
   some y491
def trie_builder_branch.l0 (a0_p_l : List Pair) (a0_p_n : List ByteArray) (a2 : Int) (a3 : Int) (rec_trie_builder_build : (List Pair) → (List ByteArray) → (List Node) → Int → Int → Int → Option (Int × List Node)) : Nat → (List Node × Vector Int 16 × Int) → Option (List Node × Vector Int 16)
 | 0, _ => none
 | k + 1, (y292, y297, y298) =>
  bif decide (y298 < a2) then
   gd (0 ≤ y298 ∧ y298 < (a0_p_n.length : Int)) <|
   gd (0 ≤ a3 ∧ a3 < ((gt a0_p_n y298).size : Int)) <|
   (trie_builder_branch.l1 a0_p_n a2 a3 y298 BIG y298).bind fun y518 =>
   (rec_trie_builder_build a0_p_l a0_p_n y292 y298 y518 (w64 (a3 + 1))).bind fun (y549, y550) =>
   gd (0 ≤ bt (gt a0_p_n y298) a3 ∧ bt (gt a0_p_n y298) a3 < 16) <|
   trie_builder_branch.l0 a0_p_l a0_p_n a2 a3 rec_trie_builder_build k (y550, vset y297 (bt (gt a0_p_n y298) a3) y549, y518)
  else
   some (y292, y297)
mutual
def trie_builder_build.f : Nat → (List Pair) → (List ByteArray) → (List Node) → Int → Int → Int → Option (Int × List Node)
 | 0, _, _, _, _, _, _ => none
 | kk + 1, a0_p_l, a0_p_n, a0_p_t, a1, a2, a3 =>
  gd (a0_p_t.length + 1 ≤ 274877906944) <|
  gd (0 ≤ a1 ∧ a1 < (a0_p_n.length : Int)) <|
  gd (0 ≤ a3 ∧ a3 ≤ ((gt a0_p_n a1).size : Int)) <|
  bif (w64 (a2 - a1)) == 1 then
   gd (0 ≤ a1 ∧ a1 < (a0_p_l.length : Int)) <|
   gd (0 ≤ (a0_p_t.length : Int) ∧ (a0_p_t.length : Int) < ((a0_p_t ++ [(⟨0, (⟨#[]⟩ : ByteArray), false, (⟨#[]⟩ : ByteArray), (Vector.replicate 16 0 : Vector Int 16)⟩ : Node)]).length : Int)) <|
   some ((a0_p_t.length : Int), (a0_p_t ++ [(⟨0, (⟨#[]⟩ : ByteArray), false, (⟨#[]⟩ : ByteArray), (Vector.replicate 16 0 : Vector Int 16)⟩ : Node)]).set (a0_p_t.length : Int).toNat (⟨1, sub (gt a0_p_n a1) a3 ((gt a0_p_n a1).size : Int), true, (gt a0_p_l a1).value_, (Vector.replicate 16 0 : Vector Int 16)⟩ : Node))
  else
   gd (0 ≤ w64 (a2 - 1) ∧ w64 (a2 - 1) < (a0_p_n.length : Int)) <|
   gd (0 ≤ a3 ∧ a3 ≤ ((gt a0_p_n (w64 (a2 - 1))).size : Int)) <|
   (nibble_Common.f (sub (gt a0_p_n a1) a3 ((gt a0_p_n a1).size : Int)) (sub (gt a0_p_n (w64 (a2 - 1))) a3 ((gt a0_p_n (w64 (a2 - 1))).size : Int))).bind fun y24 =>
   bif decide (y24 > 0) then
    gd (0 ≤ y24 ∧ y24 ≤ ((sub (gt a0_p_n a1) a3 ((gt a0_p_n a1).size : Int)).size : Int)) <|
    ((trie_builder_build.f kk) a0_p_l a0_p_n (a0_p_t ++ [(⟨0, (⟨#[]⟩ : ByteArray), false, (⟨#[]⟩ : ByteArray), (Vector.replicate 16 0 : Vector Int 16)⟩ : Node)]) a1 a2 (w64 (a3 + y24))).bind fun (y36, y37) =>
    gd (0 ≤ (0 : Int) ∧ (0 : Int) < 16) <|
    gd (0 ≤ (a0_p_t.length : Int) ∧ (a0_p_t.length : Int) < (y37.length : Int)) <|
    some ((a0_p_t.length : Int), y37.set (a0_p_t.length : Int).toNat (⟨2, sub (sub (gt a0_p_n a1) a3 ((gt a0_p_n a1).size : Int)) 0 y24, false, (⟨#[]⟩ : ByteArray), vset (Vector.replicate 16 0 : Vector Int 16) 0 y36⟩ : Node))
   else
    ((trie_builder_branch.f kk) a0_p_l a0_p_n (a0_p_t ++ [(⟨0, (⟨#[]⟩ : ByteArray), false, (⟨#[]⟩ : ByteArray), (Vector.replicate 16 0 : Vector Int 16)⟩ : Node)]) a1 a2 a3).bind fun (y54, y55) =>
    gd (0 ≤ (a0_p_t.length : Int) ∧ (a0_p_t.length : Int) < (y55.length : Int)) <|
    some ((a0_p_t.length : Int), y55.set (a0_p_t.length : Int).toNat y54)
def trie_builder_branch.f : Nat → (List Pair) → (List ByteArray) → (List Node) → Int → Int → Int → Option (Node × List Node)
 | 0, _, _, _, _, _, _ => none
 | kk + 1, a0_p_l, a0_p_n, a0_p_t, a1, a2, a3 =>
  (
    gd (0 ≤ a1 ∧ a1 < (a0_p_n.length : Int)) <|
    bif ((gt a0_p_n a1).size : Int) == a3 then
     gd (0 ≤ a1 ∧ a1 < (a0_p_l.length : Int)) <|
     some (true, (gt a0_p_l a1).value_, w64 (a1 + 1))
    else
     some (false, (⟨#[]⟩ : ByteArray), a1)).bind fun (y20, y21, y22) =>
  (trie_builder_branch.l0 a0_p_l a0_p_n a2 a3 (trie_builder_build.f kk) BIG (a0_p_t, (Vector.replicate 16 0 : Vector Int 16), y22)).bind fun (y426, y431) =>
  some ((⟨3, (⟨#[]⟩ : ByteArray), y20, y21, y431⟩ : Node), y426)
end

def trie_Build.l0 (a0 : List Pair) : Nat → (List ByteArray × Int) → Option (List ByteArray)
 | 0, _ => none
 | k + 1, (y166, y171) =>
  bif decide (y171 < (a0.length : Int)) then
   gd (0 ≤ y171 ∧ y171 < (a0.length : Int)) <|
   (nibble_Of.f ((gt a0 y171).key_)).bind fun y212 =>
   gd (y166.length + 1 ≤ 274877906944) <|
   trie_Build.l0 a0 k (y166 ++ [y212], w64 (y171 + 1))
  else
   some y166
def trie_Build.f (a0 : List Pair) : Option (List Node × Bool) :=
 (trie_may.f a0).bind fun y228 =>
 bif !y228 then
  some (([] : List Node), false)
 else
  (trie_Build.l0 a0 BIG (([] : List ByteArray), 0)).bind fun y197 =>
  (
    bif decide ((a0.length : Int) > 0) then
     (trie_builder_build.f BIG a0 y197 ([] : List Node) 0 (a0.length : Int) 0).bind fun (y613, y614) =>
     some y614
    else
     some ([] : List Node)).bind fun y605 =>
  some (y605, true)

def trie_Same.l0 (a0 : List Node) (a1 : List Node) : Nat → Int → Option (Unit ⊕ Bool)
 | 0, _ => none
 | k + 1, y13 =>
  bif decide (y13 < (a0.length : Int)) then
   gd (0 ≤ y13 ∧ y13 < (a0.length : Int)) <|
   gd (0 ≤ y13 ∧ y13 < (a1.length : Int)) <|
   bif !(eq_Node (gt a0 y13) (gt a1 y13)) then
    some (.inr false)
   else
    trie_Same.l0 a0 a1 k (w64 (y13 + 1))
  else
   some (.inl ())
def trie_Same.f (a0 : List Node) (a1 : List Node) : Option Bool :=
 bif (a0.length : Int) != (a1.length : Int) then
  some false
 else
  (trie_Same.l0 a0 a1 BIG 0).bind fun
  | .inl () =>
   some true
  | .inr r28 =>
   some r28

def trie_walked.f (a0 : List Node) : Option (trie_walker_T × Bool) :=
 (
   bif decide ((a0.length : Int) > 0) then
    (trie_walker_walk.f BIG a0 0 ([] : List Pair) ([] : List ByteArray) 0 (⟨#[]⟩ : ByteArray)).bind fun (y1105, y1106, y1107, y1108) =>
    some (y1107, y1108, y1106, !y1105)
   else
    some (([] : List Pair), ([] : List ByteArray), (0 : Int), false)).bind fun (y1090, y1095, y1100, y1101) =>
 bif y1101 then
  some ((⟨a0, y1100, y1090, y1095⟩ : trie_walker_T), false)
 else
  (trie_Build.f y1090).bind fun (y630, y631) =>
  (
    bif y631 then
     (trie_Same.f a0 y630).bind fun y46 =>
     some y46
    else
     some false).bind fun y42 =>
  some ((⟨a0, y1100, y1090, y1095⟩ : trie_walker_T), y42)

def trie_Paths.f (a0 : List Node) : Option (List ByteArray × Bool) :=
 (trie_walked.f a0).bind fun (y55, y56) =>
 bif !y56 then
  some (([] : List ByteArray), false)
 else
  some (y55.p_paths_, true)

def nibble_Good.f (a0 : ByteArray) : Option Bool :=
 (
   bif decide ((a0.size : Int) ≤ 16) then
    (nibble_small.f a0).bind fun y19 =>
    some y19
   else
    some false).bind fun y15 =>
 some y15

def nibble_Pack.f (a0 : ByteArray) : Option (ByteArray × Bool) :=
 (nibble_Good.f a0).bind fun y25 =>
 bif !y25 then
  some ((⟨#[]⟩ : ByteArray), false)
 else
  (nibble_two.f a0).bind fun y38 =>
  gd ((strOfNums [wu8 (a0.size : Int)]).size + y38.size ≤ 9223372036854775807) <|
  some ((strOfNums [wu8 (a0.size : Int)]) ++ y38, true)

def pack_size.l0 (a0 : Node) : Nat → (Int × Int) → Option Int
 | 0, _ => none
 | k + 1, (y33, y34) =>
  bif decide (y33 < 16) then
   (
     gd (0 ≤ y33 ∧ y33 < 16) <|
     bif (vg a0.kids_ y33) != 0 then
      some (w64 (y34 + 3))
     else
      some y34).bind fun y54 =>
   pack_size.l0 a0 k (w64 (y33 + 1), y54)
  else
   some y34
def pack_size.f (a0 : Node) : Option Int :=
 bif a0.kind_ == 3 then
  (
    bif a0.has_ then
     some (w64 (4 + (w64 (1 + (a0.value_.size : Int)))))
    else
     some 4).bind fun y7 =>
  (pack_size.l0 a0 BIG (0, y7)).bind fun y45 =>
  some y45
 else
  (nibble_Pack.f a0.path_).bind fun (y64, y65) =>
  bif a0.kind_ == 2 then
   some (w64 ((w64 (1 + (y64.size : Int))) + 3))
  else
   some (w64 ((w64 ((w64 (1 + (y64.size : Int))) + 1)) + (a0.value_.size : Int)))

def pack_packer_grow.l0 (a0_p_t : List Node) (a0_p_paths : List ByteArray) (a0_p_sheets : List Plan) (a2 : Int) (rec_pack_packer_grow : (List Node) → (List ByteArray) → (List Plan) → (List Int) → Int → (List Int) → Int → Option (Int × List Int × List Int)) : Nat → (List Int × List Int × Int × Int) → Option (List Int × List Int × Int)
 | 0, _ => none
 | k + 1, (y288, y293, y298, y299) =>
  bif decide (y299 < 16) then
   (
     gd (0 ≤ y299 ∧ y299 < 16) <|
     bif (vg ((gt a0_p_t a2).kids_) y299) == 0 then
      some (y288, y293, y298)
     else
      gd (0 ≤ vg ((gt a0_p_t a2).kids_) y299 ∧ vg ((gt a0_p_t a2).kids_) y299 < (a0_p_t.length : Int)) <|
      (pack_size.f (gt a0_p_t (vg ((gt a0_p_t a2).kids_) y299))).bind fun y540 =>
      bif decide ((w64 (y298 + (w64 (y540 - 3)))) > 243) then
       gd (y293.length + 1 ≤ 274877906944) <|
       some (y288, y293 ++ [vg ((gt a0_p_t a2).kids_) y299], y298)
      else
       (rec_pack_packer_grow a0_p_t a0_p_paths a0_p_sheets y288 (w64 (y298 + (w64 (y540 - 3)))) y293 (vg ((gt a0_p_t a2).kids_) y299)).bind fun (y560, y561, y562) =>
       some (y561, y562, y560)).bind fun (y524, y529, y534) =>
   pack_packer_grow.l0 a0_p_t a0_p_paths a0_p_sheets a2 rec_pack_packer_grow k (y524, y529, y534, w64 (y299 + 1))
  else
   some (y288, y293, y298)
def pack_packer_grow.f : Nat → (List Node) → (List ByteArray) → (List Plan) → (List Int) → Int → (List Int) → Int → Option (Int × List Int × List Int)
 | 0, _, _, _, _, _, _, _ => none
 | kk + 1, a0_p_t, a0_p_paths, a0_p_sheets, a1_p_nodes, a1_p_used, a1_p_tops, a2 =>
  gd (a1_p_nodes.length + 1 ≤ 274877906944) <|
  gd (0 ≤ a2 ∧ a2 < (a0_p_t.length : Int)) <|
  (pack_packer_grow.l0 a0_p_t a0_p_paths a0_p_sheets a2 (pack_packer_grow.f kk) BIG (a1_p_nodes ++ [a2], a1_p_tops, a1_p_used, 0)).bind fun (y431, y436, y441) =>
  some (y441, y431, y436)

def pack_packer_sheet.l0 (a0_p_t : List Node) (a0_p_paths : List ByteArray) (y17 : List Int) (rec_pack_packer_sheet : (List Node) → (List ByteArray) → (List Plan) → Int → Option (Int × List Plan)) : Nat → (List Int × List Plan × Int) → Option (List Int × List Plan)
 | 0, _ => none
 | k + 1, (y148, y153, y158) =>
  bif decide (y158 < (y17.length : Int)) then
   gd (0 ≤ y158 ∧ y158 < (y17.length : Int)) <|
   (rec_pack_packer_sheet a0_p_t a0_p_paths y153 (gt y17 y158)).bind fun (y203, y204) =>
   gd (y148.length + 1 ≤ 274877906944) <|
   pack_packer_sheet.l0 a0_p_t a0_p_paths y17 rec_pack_packer_sheet k (y148 ++ [y203], y204, w64 (y158 + 1))
  else
   some (y148, y153)
def pack_packer_sheet.f : Nat → (List Node) → (List ByteArray) → (List Plan) → Int → Option (Int × List Plan)
 | 0, _, _, _, _ => none
 | kk + 1, a0_p_t, a0_p_paths, a0_p_sheets, a1 =>
  gd (0 ≤ a1 ∧ a1 < (a0_p_t.length : Int)) <|
  (pack_size.f (gt a0_p_t a1)).bind fun y2 =>
  (pack_packer_grow.f BIG a0_p_t a0_p_paths a0_p_sheets ([] : List Int) y2 ([] : List Int) a1).bind fun (y15, y16, y17) =>
  gd (a0_p_sheets.length + 1 ≤ 274877906944) <|
  gd (0 ≤ a1 ∧ a1 < (a0_p_paths.length : Int)) <|
  (pack_packer_sheet.l0 a0_p_t a0_p_paths y17 (pack_packer_sheet.f kk) BIG (([] : List Int), a0_p_sheets ++ [(⟨(⟨#[]⟩ : ByteArray), 0, ([] : List Int), ([] : List Int)⟩ : Plan)], 0)).bind fun (y187, y192) =>
  gd (0 ≤ (a0_p_sheets.length : Int) ∧ (a0_p_sheets.length : Int) < (y192.length : Int)) <|
  some ((a0_p_sheets.length : Int), y192.set (a0_p_sheets.length : Int).toNat (⟨gt a0_p_paths a1, a1, y16, y187⟩ : Plan))

def pack_Of.f (a0 : List Node) : Option (List Plan × Bool) :=
 (trie_Paths.f a0).bind fun (y72, y73) =>
 bif !y73 then
  some (([] : List Plan), false)
 else
  (
    bif decide ((a0.length : Int) > 0) then
     (pack_packer_sheet.f BIG a0 y72 ([] : List Plan) 0).bind fun (y292, y293) =>
     some y293
    else
     some ([] : List Plan)).bind fun y284 =>
  some (y284, true)

def slot_page.f (a0 : Int) : Option Bool :=
 (
   bif decide (a0 ≥ 2) then
    some (decide (a0 < 200))
   else
    some false).bind fun y3 =>
 some y3

def slot_Encode_c1.f (a0 : Int) : Option Bool :=
 (slot_page.f a0).bind fun y7 =>
 some (!y7)

def slices_IndexFunc_int_slot_Encode_c1.l0 (a0 : List Int) : Nat → Int → Option (Unit ⊕ Int)
 | 0, _ => none
 | k + 1, y30 =>
  bif decide (y30 < (a0.length : Int)) then
   gd (0 ≤ y30 ∧ y30 < (a0.length : Int)) <|
   (slot_Encode_c1.f (gt a0 y30)).bind fun y45 =>
   bif y45 then
    some (.inr y30)
   else
    slices_IndexFunc_int_slot_Encode_c1.l0 a0 k (w64 (y30 + 1))
  else
   some (.inl ())
def slices_IndexFunc_int_slot_Encode_c1.f (a0 : List Int) : Option Int :=
 (slices_IndexFunc_int_slot_Encode_c1.l0 a0 BIG 0).bind fun
 | .inl () =>
  some (-1)
 | .inr r53 =>
  some r53

def slices_ContainsFunc_int_slot_Encode_c1.f (a0 : List Int) : Option Bool :=
 (slices_IndexFunc_int_slot_Encode_c1.f a0).bind fun y54 =>
 some (decide (y54 ≥ 0))

def slices_Equal_int.l0 (a0 : List Int) (a1 : List Int) : Nat → Int → Option (Unit ⊕ Bool)
 | 0, _ => none
 | k + 1, y13 =>
  bif decide (y13 < (a0.length : Int)) then
   gd (0 ≤ y13 ∧ y13 < (a0.length : Int)) <|
   gd (0 ≤ y13 ∧ y13 < (a1.length : Int)) <|
   bif (gt a0 y13) != (gt a1 y13) then
    some (.inr false)
   else
    slices_Equal_int.l0 a0 a1 k (w64 (y13 + 1))
  else
   some (.inl ())
def slices_Equal_int.f (a0 : List Int) (a1 : List Int) : Option Bool :=
 bif (a0.length : Int) != (a1.length : Int) then
  some false
 else
  (slices_Equal_int.l0 a0 a1 BIG 0).bind fun
  | .inl () =>
   some true
  | .inr r28 =>
   some r28

def slot_same.f (a0 : Plan) (a1 : Plan) : Option Bool :=
 (
   bif seq_ a0.prefix_ a1.prefix_ then
    bif a0.top_ == a1.top_ then
     (slices_Equal_int.f a0.nodes_ a1.nodes_).bind fun y62 =>
     bif y62 then
      (slices_Equal_int.f a0.kids_ a1.kids_).bind fun y69 =>
      some y69
     else
      some false
    else
     some false
   else
    some false).bind fun y57 =>
 some y57

def slot_Encode_c2.f (a0 : Plan) (a1_prefix : ByteArray) (a1_top : Int) (a1_nodes : List Int) (a1_kids : List Int) : Option Bool :=
 (slot_same.f a0 (⟨a1_prefix, a1_top, a1_nodes, a1_kids⟩ : Plan)).bind fun y75 =>
 some y75

def slices_IndexFunc_api_Plan_slot_Encode_c2.l0 (a0 : List Plan) (a1c0_prefix : ByteArray) (a1c0_top : Int) (a1c0_nodes : List Int) (a1c0_kids : List Int) : Nat → Int → Option (Unit ⊕ Int)
 | 0, _ => none
 | k + 1, y104 =>
  bif decide (y104 < (a0.length : Int)) then
   gd (0 ≤ y104 ∧ y104 < (a0.length : Int)) <|
   (slot_Encode_c2.f (gt a0 y104) a1c0_prefix a1c0_top a1c0_nodes a1c0_kids).bind fun y131 =>
   bif y131 then
    some (.inr y104)
   else
    slices_IndexFunc_api_Plan_slot_Encode_c2.l0 a0 a1c0_prefix a1c0_top a1c0_nodes a1c0_kids k (w64 (y104 + 1))
  else
   some (.inl ())
def slices_IndexFunc_api_Plan_slot_Encode_c2.f (a0 : List Plan) (a1c0_prefix : ByteArray) (a1c0_top : Int) (a1c0_nodes : List Int) (a1c0_kids : List Int) : Option Int :=
 (slices_IndexFunc_api_Plan_slot_Encode_c2.l0 a0 a1c0_prefix a1c0_top a1c0_nodes a1c0_kids BIG 0).bind fun
 | .inl () =>
  some (-1)
 | .inr r139 =>
  some r139

def slices_ContainsFunc_api_Plan_slot_Encode_c2.f (a0 : List Plan) (a1c0_prefix : ByteArray) (a1c0_top : Int) (a1c0_nodes : List Int) (a1c0_kids : List Int) : Option Bool :=
 (slices_IndexFunc_api_Plan_slot_Encode_c2.f a0 a1c0_prefix a1c0_top a1c0_nodes a1c0_kids).bind fun y140 =>
 some (decide (y140 ≥ 0))

def slot_writer_bytes.l0 (a1 : List Int) : Nat → (List Int × Int) → Option (List Int)
 | 0, _ => none
 | k + 1, (y29, y36) =>
  bif decide (y36 < (a1.length : Int)) then
   gd (0 ≤ y36 ∧ y36 < (a1.length : Int)) <|
   gd (y29.length + 1 ≤ 274877906944) <|
   slot_writer_bytes.l0 a1 k (y29 ++ [wu8 (gt a1 y36)], w64 (y36 + 1))
  else
   some y29
def slot_writer_bytes.f (a0_p_t : List Node) (a0_p_p_prefix : ByteArray) (a0_p_p_top : Int) (a0_p_p_nodes : List Int) (a0_p_p_kids : List Int) (a0_p_tops : List (Int × Int)) (a0_p_b_p_buf : List Int) (a0_p_plans : List Plan) (a1 : List Int) : Option (List Int) :=
 (slot_writer_bytes.l0 a1 BIG (a0_p_b_p_buf, 0)).bind fun y47 =>
 some y47

def slot_writer_path.f (a0_p_t : List Node) (a0_p_p_prefix : ByteArray) (a0_p_p_top : Int) (a0_p_p_nodes : List Int) (a0_p_p_kids : List Int) (a0_p_tops : List (Int × Int)) (a0_p_b_p_buf : List Int) (a0_p_plans : List Plan) (a1 : ByteArray) : Option (List Int) :=
 (nibble_Pack.f a1).bind fun (y1, y2) =>
 gd (a0_p_b_p_buf.length + y1.size ≤ 274877906944) <|
 some (a0_p_b_p_buf ++ nums y1)

def slot_writer_value.f (a0_p_t : List Node) (a0_p_p_prefix : ByteArray) (a0_p_p_top : Int) (a0_p_p_nodes : List Int) (a0_p_p_kids : List Int) (a0_p_tops : List (Int × Int)) (a0_p_b_p_buf : List Int) (a0_p_plans : List Plan) (a1 : ByteArray) : Option (List Int) :=
 (slot_writer_bytes.f a0_p_t a0_p_p_prefix a0_p_p_top a0_p_p_nodes a0_p_p_kids a0_p_tops a0_p_b_p_buf a0_p_plans [(a1.size : Int)]).bind fun y9 =>
 gd (y9.length + a1.size ≤ 274877906944) <|
 some (y9 ++ nums a1)

def slot_writer_branch.l0 (a1 : Node) : Nat → (Int × Int) → Option Int
 | 0, _ => none
 | k + 1, (y29, y30) =>
  bif decide (y30 < 16) then
   (
     gd (0 ≤ y30 ∧ y30 < 16) <|
     bif (vg a1.kids_ y30) != 0 then
      gd (0 ≤ y30) <|
      some (bor .i64 y29 (shl .i64 1 y30))
     else
      some y29).bind fun y55 =>
   slot_writer_branch.l0 a1 k (y55, w64 (y30 + 1))
  else
   some y29
def slot_writer_branch.f (a0_p_t : List Node) (a0_p_p_prefix : ByteArray) (a0_p_p_top : Int) (a0_p_p_nodes : List Int) (a0_p_p_kids : List Int) (a0_p_tops : List (Int × Int)) (a0_p_b_p_buf : List Int) (a0_p_plans : List Plan) (a1 : Node) : Option (List Int) :=
 (slot_writer_branch.l0 a1 BIG (0, 0)).bind fun y44 =>
 (slot_writer_bytes.f a0_p_t a0_p_p_prefix a0_p_p_top a0_p_p_nodes a0_p_p_kids a0_p_tops a0_p_b_p_buf a0_p_plans [shr .i64 y44 8, y44]).bind fun y70 =>
 bif !a1.has_ then
  (slot_writer_bytes.f a0_p_t a0_p_p_prefix a0_p_p_top a0_p_p_nodes a0_p_p_kids a0_p_tops y70 a0_p_plans [0]).bind fun y91 =>
  some y91
 else
  (slot_writer_bytes.f a0_p_t a0_p_p_prefix a0_p_p_top a0_p_p_nodes a0_p_p_kids a0_p_tops y70 a0_p_plans [1]).bind fun y111 =>
  (slot_writer_value.f a0_p_t a0_p_p_prefix a0_p_p_top a0_p_p_nodes a0_p_p_kids a0_p_tops y111 a0_p_plans a1.value_).bind fun y123 =>
  some y123

def slot_writer_node.l0 (a0_p_t : List Node) (a0_p_p_prefix : ByteArray) (a0_p_p_top : Int) (a0_p_p_nodes : List Int) (a0_p_p_kids : List Int) (a0_p_tops : List (Int × Int)) (a0_p_plans : List Plan) (a1 : Int) (rec_slot_writer_child : (List Node) → ByteArray → Int → (List Int) → (List Int) → (List (Int × Int)) → (List Int) → (List Plan) → Int → Option (List Int)) : Nat → (List Int × Int) → Option (List Int)
 | 0, _ => none
 | k + 1, (y300, y307) =>
  bif decide (y307 < 16) then
   (
     gd (0 ≤ y307 ∧ y307 < 16) <|
     bif (vg ((gt a0_p_t a1).kids_) y307) != 0 then
      (rec_slot_writer_child a0_p_t a0_p_p_prefix a0_p_p_top a0_p_p_nodes a0_p_p_kids a0_p_tops y300 a0_p_plans (vg ((gt a0_p_t a1).kids_) y307)).bind fun y410 =>
      some y410
     else
      some y300).bind fun y399 =>
   slot_writer_node.l0 a0_p_t a0_p_p_prefix a0_p_p_top a0_p_p_nodes a0_p_p_kids a0_p_tops a0_p_plans a1 rec_slot_writer_child k (y399, w64 (y307 + 1))
  else
   some y300
mutual
def slot_writer_node.f : Nat → (List Node) → ByteArray → Int → (List Int) → (List Int) → (List (Int × Int)) → (List Int) → (List Plan) → Int → Option (List Int)
 | 0, _, _, _, _, _, _, _, _, _ => none
 | kk + 1, a0_p_t, a0_p_p_prefix, a0_p_p_top, a0_p_p_nodes, a0_p_p_kids, a0_p_tops, a0_p_b_p_buf, a0_p_plans, a1 =>
  gd (0 ≤ a1 ∧ a1 < (a0_p_t.length : Int)) <|
  (slot_writer_bytes.f a0_p_t a0_p_p_prefix a0_p_p_top a0_p_p_nodes a0_p_p_kids a0_p_tops a0_p_b_p_buf a0_p_plans [(gt a0_p_t a1).kind_]).bind fun y14 =>
  (
    bif ((gt a0_p_t a1).kind_) == 1 then
     (slot_writer_path.f a0_p_t a0_p_p_prefix a0_p_p_top a0_p_p_nodes a0_p_p_kids a0_p_tops y14 a0_p_plans ((gt a0_p_t a1).path_)).bind fun y138 =>
     (slot_writer_value.f a0_p_t a0_p_p_prefix a0_p_p_top a0_p_p_nodes a0_p_p_kids a0_p_tops y138 a0_p_plans ((gt a0_p_t a1).value_)).bind fun y150 =>
     some y150
    else
     bif ((gt a0_p_t a1).kind_) == 2 then
      (slot_writer_path.f a0_p_t a0_p_p_prefix a0_p_p_top a0_p_p_nodes a0_p_p_kids a0_p_tops y14 a0_p_plans ((gt a0_p_t a1).path_)).bind fun y163 =>
      some y163
     else
      bif ((gt a0_p_t a1).kind_) == 3 then
       (slot_writer_branch.f a0_p_t a0_p_p_prefix a0_p_p_top a0_p_p_nodes a0_p_p_kids a0_p_tops y14 a0_p_plans (gt a0_p_t a1)).bind fun y176 =>
       some y176
      else
       some y14).bind fun y128 =>
  (slot_writer_node.l0 a0_p_t a0_p_p_prefix a0_p_p_top a0_p_p_nodes a0_p_p_kids a0_p_tops a0_p_plans a1 (slot_writer_child.f kk) BIG (y128, 0)).bind fun y360 =>
  some y360
def slot_writer_child.f : Nat → (List Node) → ByteArray → Int → (List Int) → (List Int) → (List (Int × Int)) → (List Int) → (List Plan) → Int → Option (List Int)
 | 0, _, _, _, _, _, _, _, _, _ => none
 | kk + 1, a0_p_t, a0_p_p_prefix, a0_p_p_top, a0_p_p_nodes, a0_p_p_kids, a0_p_tops, a0_p_b_p_buf, a0_p_plans, a1 =>
  bif (mhas a0_p_tops a1) then
   (slot_writer_bytes.f a0_p_t a0_p_p_prefix a0_p_p_top a0_p_p_nodes a0_p_p_kids a0_p_tops a0_p_b_p_buf a0_p_plans [0, shr .i64 (mget a0_p_tops a1) 8, (mget a0_p_tops a1)]).bind fun y10 =>
   some y10
  else
   ((slot_writer_node.f kk) a0_p_t a0_p_p_prefix a0_p_p_top a0_p_p_nodes a0_p_p_kids a0_p_tops a0_p_b_p_buf a0_p_plans a1).bind fun y22 =>
   some y22
end

def slot_Encode.l0 (a1 : Plan) (a2 : List Int) (y308 : List Plan) : Nat → (List (Int × Int) × Int) → Option (List (Int × Int))
 | 0, _ => none
 | k + 1, (y183, y188) =>
  bif decide (y188 < (a1.kids_.length : Int)) then
   gd (0 ≤ y188 ∧ y188 < (a1.kids_.length : Int)) <|
   gd (0 ≤ gt a1.kids_ y188 ∧ gt a1.kids_ y188 < (y308.length : Int)) <|
   gd (0 ≤ gt a1.kids_ y188 ∧ gt a1.kids_ y188 < (a2.length : Int)) <|
   slot_Encode.l0 a1 a2 y308 k (mput y183 ((gt y308 (gt a1.kids_ y188)).top_) (gt a2 (gt a1.kids_ y188)), w64 (y188 + 1))
  else
   some y183
def slot_Encode.f (a0 : List Node) (a1 : Plan) (a2 : List Int) : Option (ByteArray × Bool) :=
 (pack_Of.f a0).bind fun (y308, y309) =>
 (
   bif !y309 then
    some true
   else
    bif (a2.length : Int) != (y308.length : Int) then
     some true
    else
     (slices_ContainsFunc_int_slot_Encode_c1.f a2).bind fun y107 =>
     some y107).bind fun y102 =>
 bif y102 then
  some ((⟨#[]⟩ : ByteArray), false)
 else
  (slices_ContainsFunc_api_Plan_slot_Encode_c2.f y308 a1.prefix_ a1.top_ a1.nodes_ a1.kids_).bind fun y146 =>
  bif !y146 then
   some ((⟨#[]⟩ : ByteArray), false)
  else
   (slot_Encode.l0 a1 a2 y308 BIG (([] : List (Int × Int)), 0)).bind fun y198 =>
   (slot_writer_node.f BIG a0 (⟨#[]⟩ : ByteArray) 0 ([] : List Int) ([] : List Int) y198 ([] : List Int) ([] : List Plan) a1.top_).bind fun y36 =>
   gd (bytesOK y36 = true) <|
   some ((strOfNums y36), true)

def slot_reader_take.f (a0_p_s : ByteArray) (a0_p_l : List Slot) (a0_p_bad : Bool) (a1 : Int) : Option (ByteArray × ByteArray × Bool) :=
 bif decide (a1 > (a0_p_s.size : Int)) then
  some ((⟨#[]⟩ : ByteArray), a0_p_s, true)
 else
  gd (0 ≤ a1 ∧ a1 ≤ (a0_p_s.size : Int)) <|
  gd (0 ≤ a1 ∧ a1 ≤ (a0_p_s.size : Int)) <|
  some (sub a0_p_s 0 a1, sub a0_p_s a1 (a0_p_s.size : Int), a0_p_bad)

def slot_reader_number.f (a0_p_s : ByteArray) (a0_p_l : List Slot) (a0_p_bad : Bool) : Option (Int × ByteArray × Bool) :=
 (slot_reader_take.f a0_p_s a0_p_l a0_p_bad 1).bind fun (y1, y2, y3) =>
 bif seq_ y1 (⟨#[]⟩ : ByteArray) then
  some (0, y2, y3)
 else
  gd (0 ≤ (0 : Int) ∧ (0 : Int) < (y1.size : Int)) <|
  some (w64 (bt y1 0), y2, y3)

def nibble_Unpack.f (a0 : ByteArray) : Option (ByteArray × Int × Bool) :=
 (
   bif seq_ a0 (⟨#[]⟩ : ByteArray) then
    some true
   else
    gd (0 ≤ (0 : Int) ∧ (0 : Int) < (a0.size : Int)) <|
    some (decide ((w64 (bt a0 0)) > 16))).bind fun y15 =>
 bif y15 then
  some ((⟨#[]⟩ : ByteArray), 0, false)
 else
  gd (0 ≤ (0 : Int) ∧ (0 : Int) < (a0.size : Int)) <|
  bif decide ((w64 (1 + (w64 ((w64 ((w64 (bt a0 0)) + 1)).tdiv 2)))) > (a0.size : Int)) then
   some ((⟨#[]⟩ : ByteArray), 0, false)
  else
   gd (0 ≤ (1 : Int) ∧ (1 : Int) ≤ w64 (1 + (w64 ((w64 ((w64 (bt a0 0)) + 1)).tdiv 2))) ∧ w64 (1 + (w64 ((w64 ((w64 (bt a0 0)) + 1)).tdiv 2))) ≤ (a0.size : Int)) <|
   (nibble_Of.f (sub a0 1 (w64 (1 + (w64 ((w64 ((w64 (bt a0 0)) + 1)).tdiv 2)))))).bind fun y24 =>
   (
     bif decide ((w64 (bt a0 0)) < (y24.size : Int)) then
      gd (0 ≤ w64 (bt a0 0) ∧ w64 (bt a0 0) < (y24.size : Int)) <|
      some ((bt y24 (w64 (bt a0 0))) != 0)
     else
      some false).bind fun y44 =>
   bif y44 then
    some ((⟨#[]⟩ : ByteArray), 0, false)
   else
    gd (0 ≤ w64 (bt a0 0) ∧ w64 (bt a0 0) ≤ (y24.size : Int)) <|
    some (sub y24 0 (w64 (bt a0 0)), w64 (1 + (w64 ((w64 ((w64 (bt a0 0)) + 1)).tdiv 2))), true)

def slot_reader_path.f (a0_p_s : ByteArray) (a0_p_l : List Slot) (a0_p_bad : Bool) : Option (ByteArray × ByteArray × Bool) :=
 (nibble_Unpack.f a0_p_s).bind fun (y1, y2, y3) =>
 (
   bif a0_p_bad then
    some true
   else
    some (!y3)).bind fun y15 =>
 (slot_reader_take.f a0_p_s a0_p_l y15 y2).bind fun (y21, y22, y23) =>
 some (y1, y22, y23)

def slot_reader_value.f (a0_p_s : ByteArray) (a0_p_l : List Slot) (a0_p_bad : Bool) : Option (ByteArray × ByteArray × Bool) :=
 (slot_reader_number.f a0_p_s a0_p_l a0_p_bad).bind fun (y1, y2, y3) =>
 (
   bif y3 then
    some true
   else
    some (decide (y1 > 16))).bind fun y15 =>
 (slot_reader_take.f y2 a0_p_l y15 y1).bind fun (y21, y22, y23) =>
 some (y21, y22, y23)

def slot_reader_two.f (a0_p_s : ByteArray) (a0_p_l : List Slot) (a0_p_bad : Bool) : Option (Int × ByteArray × Bool) :=
 (slot_reader_number.f a0_p_s a0_p_l a0_p_bad).bind fun (y1, y2, y3) =>
 (slot_reader_number.f y2 a0_p_l y3).bind fun (y9, y10, y11) =>
 some (bor .i64 (shl .i64 y1 8) y9, y10, y11)

def slot_reader_branch.f (a0_p_s : ByteArray) (a0_p_l : List Slot) (a0_p_bad : Bool) (a1_kind : Int) (a1_path : ByteArray) (a1_has : Bool) (a1_value : ByteArray) (a1_kids : Vector Int 16) : Option (Int × ByteArray × Bool × Bool × ByteArray) :=
 (slot_reader_two.f a0_p_s a0_p_l a0_p_bad).bind fun (y1, y2, y3) =>
 (slot_reader_number.f y2 a0_p_l y3).bind fun (y9, y10, y11) =>
 (
   bif y11 then
    some true
   else
    some (decide (y9 > 1))).bind fun y23 =>
 (
   bif y9 == 1 then
    (slot_reader_value.f y10 a0_p_l y23).bind fun (y58, y59, y60) =>
    some (y59, y60, true, y58)
   else
    some (y10, y23, a1_has, a1_value)).bind fun (y51, y52, y53, y54) =>
 (
   bif (band .i64 y1 (w64 (y1 - 1))) != 0 then
    some true
   else
    bif y1 != 0 then
     some y53
    else
     some false).bind fun y72 =>
 (
   bif y52 then
    some true
   else
    some (!y72)).bind fun y83 =>
 some (y1, y51, y83, y53, y54)

def slot_reader_node.l0 (y131 : Int) (rec_slot_reader_child : ByteArray → (List Slot) → Bool → Option (Int × ByteArray × Bool × List Slot)) : Nat → (List Slot × Vector Int 16 × ByteArray × Bool × Int) → Option (List Slot × Vector Int 16 × ByteArray × Bool)
 | 0, _ => none
 | k + 1, (y360, y365, y366, y367, y368) =>
  bif decide (y368 < 16) then
   (
     (
       gd (0 ≤ y368) <|
       bif (band .i64 (shr .i64 y131 y368) 1) == 1 then
        some (!y367)
       else
        some false).bind fun y531 =>
     bif y531 then
      (rec_slot_reader_child y366 y360 y367).bind fun (y537, y538, y539, y540) =>
      gd (0 ≤ y368 ∧ y368 < 16) <|
      some (y540, vset y365 y368 y537, y538, y539)
     else
      some (y360, y365, y366, y367)).bind fun (y517, y522, y523, y524) =>
   slot_reader_node.l0 y131 rec_slot_reader_child k (y517, y522, y523, y524, w64 (y368 + 1))
  else
   some (y360, y365, y366, y367)
mutual
def slot_reader_node.f : Nat → ByteArray → (List Slot) → Bool → Int → Option (Int × ByteArray × Bool × List Slot)
 | 0, _, _, _, _ => none
 | kk + 1, a0_p_s, a0_p_l, a0_p_bad, a1 =>
  gd (a0_p_l.length + 1 ≤ 274877906944) <|
  (
    bif a1 == 1 then
     (slot_reader_path.f a0_p_s (a0_p_l ++ [(⟨a1, (⟨#[]⟩ : ByteArray), false, (⟨#[]⟩ : ByteArray), (Vector.replicate 16 0 : Vector Int 16)⟩ : Slot)]) a0_p_bad).bind fun (y135, y136, y137) =>
     (slot_reader_value.f y136 (a0_p_l ++ [(⟨a1, (⟨#[]⟩ : ByteArray), false, (⟨#[]⟩ : ByteArray), (Vector.replicate 16 0 : Vector Int 16)⟩ : Slot)]) y137).bind fun (y144, y145, y146) =>
     some (y135, true, y144, y145, y146, (0 : Int))
    else
     bif a1 == 2 then
      (slot_reader_path.f a0_p_s (a0_p_l ++ [(⟨a1, (⟨#[]⟩ : ByteArray), false, (⟨#[]⟩ : ByteArray), (Vector.replicate 16 0 : Vector Int 16)⟩ : Slot)]) a0_p_bad).bind fun (y155, y156, y157) =>
      (
        bif y157 then
         some true
        else
         some (seq_ y155 (⟨#[]⟩ : ByteArray))).bind fun y170 =>
      some (y155, false, (⟨#[]⟩ : ByteArray), y156, y170, (1 : Int))
     else
      bif a1 == 3 then
       (slot_reader_branch.f a0_p_s (a0_p_l ++ [(⟨a1, (⟨#[]⟩ : ByteArray), false, (⟨#[]⟩ : ByteArray), (Vector.replicate 16 0 : Vector Int 16)⟩ : Slot)]) a0_p_bad a1 (⟨#[]⟩ : ByteArray) false (⟨#[]⟩ : ByteArray) (Vector.replicate 16 0 : Vector Int 16)).bind fun (y177, y178, y179, y180, y181) =>
       some ((⟨#[]⟩ : ByteArray), y180, y181, y178, y179, y177)
      else
       some ((⟨#[]⟩ : ByteArray), false, (⟨#[]⟩ : ByteArray), a0_p_s, true, (0 : Int))).bind fun (y126, y127, y128, y129, y130, y131) =>
  (slot_reader_node.l0 y131 (slot_reader_child.f kk) BIG (a0_p_l ++ [(⟨a1, (⟨#[]⟩ : ByteArray), false, (⟨#[]⟩ : ByteArray), (Vector.replicate 16 0 : Vector Int 16)⟩ : Slot)], (Vector.replicate 16 0 : Vector Int 16), y129, y130, 0)).bind fun (y455, y460, y461, y462) =>
  gd (0 ≤ (a0_p_l.length : Int) ∧ (a0_p_l.length : Int) < (y455.length : Int)) <|
  some ((a0_p_l.length : Int), y461, y462, y455.set (a0_p_l.length : Int).toNat (⟨a1, y126, y127, y128, y460⟩ : Slot))
def slot_reader_child.f : Nat → ByteArray → (List Slot) → Bool → Option (Int × ByteArray × Bool × List Slot)
 | 0, _, _, _ => none
 | kk + 1, a0_p_s, a0_p_l, a0_p_bad =>
  (slot_reader_number.f a0_p_s a0_p_l a0_p_bad).bind fun (y1, y2, y3) =>
  bif y1 != 0 then
   ((slot_reader_node.f kk) y2 a0_p_l y3 y1).bind fun (y10, y11, y12, y13) =>
   some (y10, y11, y12, y13)
  else
   (slot_reader_two.f y2 a0_p_l y3).bind fun (y23, y24, y25) =>
   (
     bif y25 then
      some true
     else
      (slot_page.f y23).bind fun y54 =>
      some (!y54)).bind fun y49 =>
   some (w64 (0 - y23), y24, y49, a0_p_l)
end

def slot_Decode.f (a0 : ByteArray) : Option (List Slot × Bool) :=
 (slot_reader_number.f a0 ([] : List Slot) false).bind fun (y13, y14, y15) =>
 (slot_reader_node.f BIG y14 ([] : List Slot) y15 y13).bind fun (y61, y62, y63, y64) =>
 (
   bif y63 then
    some true
   else
    some (!(seq_ y62 (⟨#[]⟩ : ByteArray)))).bind fun y83 =>
 bif y83 then
  some (([] : List Slot), false)
 else
  some (y64, true)

def law20_wakes.f : Option Bool :=
 (ref10_Build.f [(⟨(⟨#[97]⟩ : ByteArray), (⟨#[49]⟩ : ByteArray)⟩ : Pair), (⟨(⟨#[98]⟩ : ByteArray), (⟨#[]⟩ : ByteArray)⟩ : Pair)]).bind fun y1106 =>
 (ref19_Of.f y1106.t_).bind fun y10399 =>
 gd (0 ≤ (0 : Int) ∧ (0 : Int) < (y10399.l_.length : Int)) <|
 (slot_Encode.f y1106.t_ (gt y10399.l_ 0) [7]).bind fun (y55, y56) =>
 gd (0 ≤ (0 : Int) ∧ (0 : Int) < (y10399.l_.length : Int)) <|
 (slot_Encode.f y1106.t_ (gt y10399.l_ 0) [1]).bind fun (y77, y78) =>
 (slot_Decode.f y55).bind fun (y91, y92) =>
 (slot_Decode.f (⟨#[2, 1, 96, 0, 0, 9]⟩ : ByteArray)).bind fun (y101, y102) =>
 gd (y55.size + (⟨#[120]⟩ : ByteArray).size ≤ 9223372036854775807) <|
 (slot_Decode.f (y55 ++ (⟨#[120]⟩ : ByteArray))).bind fun (y112, y113) =>
 (
   bif !y56 then
    some true
   else
    bif !y92 then
     some true
    else
     bif (y91.length : Int) != 4 then
      some true
     else
      bif !y102 then
       some true
      else
       some ((y101.length : Int) != 1)).bind fun y146 =>
 bif y146 then
  some false
 else
  (
    bif seq_ y55 (⟨#[2, 1, 96, 3, 0, 6, 0, 1, 0, 1, 49, 1, 0, 0]⟩ : ByteArray) then
     bif !y78 then
      gd (0 ≤ (0 : Int) ∧ (0 : Int) < (y91.length : Int)) <|
      gd (0 ≤ (0 : Int) ∧ (0 : Int) < 16) <|
      bif (vg (gt y91 0).kids_ 0) == 1 then
       gd (0 ≤ (1 : Int) ∧ (1 : Int) < (y91.length : Int)) <|
       gd (0 ≤ (1 : Int) ∧ (1 : Int) < 16) <|
       bif (vg (gt y91 1).kids_ 1) == 2 then
        gd (0 ≤ (2 : Int) ∧ (2 : Int) < (y91.length : Int)) <|
        bif seq_ ((gt y91 2).value_) (⟨#[49]⟩ : ByteArray) then
         gd (0 ≤ (0 : Int) ∧ (0 : Int) < (y101.length : Int)) <|
         gd (0 ≤ (0 : Int) ∧ (0 : Int) < 16) <|
         bif (vg (gt y101 0).kids_ 0) == (-9) then
          some (!y113)
         else
          some false
        else
         some false
       else
        some false
      else
       some false
     else
      some false
    else
     some false).bind fun y180 =>
  some y180

def ref20_Page.f (a0 : Int) : Option Bool :=
 (
   bif decide (a0 ≥ 2) then
    some (decide (a0 < 200))
   else
    some false).bind fun y3 =>
 some y3

def law20_SlotStrict.l1 (y202 : List Slot) (y7027 : Int) : Nat → (List Int × Int × Int) → Option ((List Int × Int) ⊕ Bool)
 | 0, _ => none
 | k + 1, (y13041, y13046, y13047) =>
  bif decide (y13047 < 16) then
   (
     (
       gd (0 ≤ y7027 ∧ y7027 < (y202.length : Int)) <|
       gd (0 ≤ y13047 ∧ y13047 < 16) <|
       bif (vg (gt y202 y7027).kids_ y13047) == 0 then
        some (.inl (y13041, y13046))
       else
        (
          bif decide ((vg (gt y202 y7027).kids_ y13047) > 0) then
           bif decide ((vg (gt y202 y7027).kids_ y13047) ≤ y7027) then
            some true
           else
            bif decide ((vg (gt y202 y7027).kids_ y13047) ≥ (y202.length : Int)) then
             some true
            else
             bif decide ((vg (gt y202 y7027).kids_ y13047) < 0) then
              (ref20_Page.f (w64 (0 - (vg (gt y202 y7027).kids_ y13047)))).bind fun y13770 =>
              some (!y13770)
             else
              some false
          else
           bif decide ((vg (gt y202 y7027).kids_ y13047) < 0) then
            (ref20_Page.f (w64 (0 - (vg (gt y202 y7027).kids_ y13047)))).bind fun y13777 =>
            some (!y13777)
           else
            some false).bind fun y13763 =>
        bif y13763 then
         some (.inr false)
        else
         bif decide ((vg (gt y202 y7027).kids_ y13047) > 0) then
          gd (0 ≤ vg (gt y202 y7027).kids_ y13047 ∧ vg (gt y202 y7027).kids_ y13047 < (y13041.length : Int)) <|
          gd (0 ≤ vg (gt y202 y7027).kids_ y13047 ∧ vg (gt y202 y7027).kids_ y13047 < (y13041.length : Int)) <|
          some (.inl (y13041.set (vg (gt y202 y7027).kids_ y13047).toNat (w64 ((gt y13041 (vg (gt y202 y7027).kids_ y13047)) + 1)), w64 (y13046 + 1)))
         else
          some (.inl (y13041, w64 (y13046 + 1)))) : Option ((List Int × Int) ⊕ Bool)).bind fun
   | .inl (y13663, y13668) =>
    law20_SlotStrict.l1 y202 y7027 k (y13663, y13668, w64 (y13047 + 1))
   | .inr r13790 =>
    some (.inr r13790)
  else
   some (.inl (y13041, y13046))
def law20_SlotStrict.l0 (y202 : List Slot) : Nat → (List Int × Int) → Option ((List Int) ⊕ Bool)
 | 0, _ => none
 | k + 1, (y7022, y7027) =>
  bif decide (y7027 < (y202.length : Int)) then
   (law20_SlotStrict.l1 y202 y7027 BIG (y7022, 0, 0)).bind fun
   | .inl (y13415, y13420) =>
    gd (0 ≤ y7027 ∧ y7027 < (y202.length : Int)) <|
    (
      bif ((gt y202 y7027).kind_) == 1 then
       bif y13420 == 0 then
        bif (gt y202 y7027).has_ then
         some true
        else
         bif ((gt y202 y7027).kind_) == 2 then
          bif y13420 == 1 then
           gd (0 ≤ (0 : Int) ∧ (0 : Int) < 16) <|
           bif (vg ((gt y202 y7027).kids_) 0) != 0 then
            bif !((gt y202 y7027).has_) then
             bif !(seq_ ((gt y202 y7027).path_) (⟨#[]⟩ : ByteArray)) then
              some true
             else
              bif ((gt y202 y7027).kind_) == 3 then
               bif seq_ ((gt y202 y7027).path_) (⟨#[]⟩ : ByteArray) then
                bif decide (y13420 ≥ 2) then
                 some true
                else
                 bif y13420 == 1 then
                  some ((gt y202 y7027).has_)
                 else
                  some false
               else
                some false
              else
               some false
            else
             bif ((gt y202 y7027).kind_) == 3 then
              bif seq_ ((gt y202 y7027).path_) (⟨#[]⟩ : ByteArray) then
               bif decide (y13420 ≥ 2) then
                some true
               else
                bif y13420 == 1 then
                 some ((gt y202 y7027).has_)
                else
                 some false
              else
               some false
             else
              some false
           else
            bif ((gt y202 y7027).kind_) == 3 then
             bif seq_ ((gt y202 y7027).path_) (⟨#[]⟩ : ByteArray) then
              bif decide (y13420 ≥ 2) then
               some true
              else
               bif y13420 == 1 then
                some ((gt y202 y7027).has_)
               else
                some false
             else
              some false
            else
             some false
          else
           bif ((gt y202 y7027).kind_) == 3 then
            bif seq_ ((gt y202 y7027).path_) (⟨#[]⟩ : ByteArray) then
             bif decide (y13420 ≥ 2) then
              some true
             else
              bif y13420 == 1 then
               some ((gt y202 y7027).has_)
              else
               some false
            else
             some false
           else
            some false
         else
          bif ((gt y202 y7027).kind_) == 3 then
           bif seq_ ((gt y202 y7027).path_) (⟨#[]⟩ : ByteArray) then
            bif decide (y13420 ≥ 2) then
             some true
            else
             bif y13420 == 1 then
              some ((gt y202 y7027).has_)
             else
              some false
           else
            some false
          else
           some false
       else
        bif ((gt y202 y7027).kind_) == 2 then
         bif y13420 == 1 then
          gd (0 ≤ (0 : Int) ∧ (0 : Int) < 16) <|
          bif (vg ((gt y202 y7027).kids_) 0) != 0 then
           bif !((gt y202 y7027).has_) then
            bif !(seq_ ((gt y202 y7027).path_) (⟨#[]⟩ : ByteArray)) then
             some true
            else
             bif ((gt y202 y7027).kind_) == 3 then
              bif seq_ ((gt y202 y7027).path_) (⟨#[]⟩ : ByteArray) then
               bif decide (y13420 ≥ 2) then
                some true
               else
                bif y13420 == 1 then
                 some ((gt y202 y7027).has_)
                else
                 some false
              else
               some false
             else
              some false
           else
            bif ((gt y202 y7027).kind_) == 3 then
             bif seq_ ((gt y202 y7027).path_) (⟨#[]⟩ : ByteArray) then
              bif decide (y13420 ≥ 2) then
               some true
              else
               bif y13420 == 1 then
                some ((gt y202 y7027).has_)
               else
                some false
             else
              some false
            else
             some false
          else
           bif ((gt y202 y7027).kind_) == 3 then
            bif seq_ ((gt y202 y7027).path_) (⟨#[]⟩ : ByteArray) then
             bif decide (y13420 ≥ 2) then
              some true
             else
              bif y13420 == 1 then
               some ((gt y202 y7027).has_)
              else
               some false
            else
             some false
           else
            some false
         else
          bif ((gt y202 y7027).kind_) == 3 then
           bif seq_ ((gt y202 y7027).path_) (⟨#[]⟩ : ByteArray) then
            bif decide (y13420 ≥ 2) then
             some true
            else
             bif y13420 == 1 then
              some ((gt y202 y7027).has_)
             else
              some false
           else
            some false
          else
           some false
        else
         bif ((gt y202 y7027).kind_) == 3 then
          bif seq_ ((gt y202 y7027).path_) (⟨#[]⟩ : ByteArray) then
           bif decide (y13420 ≥ 2) then
            some true
           else
            bif y13420 == 1 then
             some ((gt y202 y7027).has_)
            else
             some false
          else
           some false
         else
          some false
      else
       bif ((gt y202 y7027).kind_) == 2 then
        bif y13420 == 1 then
         gd (0 ≤ (0 : Int) ∧ (0 : Int) < 16) <|
         bif (vg ((gt y202 y7027).kids_) 0) != 0 then
          bif !((gt y202 y7027).has_) then
           bif !(seq_ ((gt y202 y7027).path_) (⟨#[]⟩ : ByteArray)) then
            some true
           else
            bif ((gt y202 y7027).kind_) == 3 then
             bif seq_ ((gt y202 y7027).path_) (⟨#[]⟩ : ByteArray) then
              bif decide (y13420 ≥ 2) then
               some true
              else
               bif y13420 == 1 then
                some ((gt y202 y7027).has_)
               else
                some false
             else
              some false
            else
             some false
          else
           bif ((gt y202 y7027).kind_) == 3 then
            bif seq_ ((gt y202 y7027).path_) (⟨#[]⟩ : ByteArray) then
             bif decide (y13420 ≥ 2) then
              some true
             else
              bif y13420 == 1 then
               some ((gt y202 y7027).has_)
              else
               some false
            else
             some false
           else
            some false
         else
          bif ((gt y202 y7027).kind_) == 3 then
           bif seq_ ((gt y202 y7027).path_) (⟨#[]⟩ : ByteArray) then
            bif decide (y13420 ≥ 2) then
             some true
            else
             bif y13420 == 1 then
              some ((gt y202 y7027).has_)
             else
              some false
           else
            some false
          else
           some false
        else
         bif ((gt y202 y7027).kind_) == 3 then
          bif seq_ ((gt y202 y7027).path_) (⟨#[]⟩ : ByteArray) then
           bif decide (y13420 ≥ 2) then
            some true
           else
            bif y13420 == 1 then
             some ((gt y202 y7027).has_)
            else
             some false
          else
           some false
         else
          some false
       else
        bif ((gt y202 y7027).kind_) == 3 then
         bif seq_ ((gt y202 y7027).path_) (⟨#[]⟩ : ByteArray) then
          bif decide (y13420 ≥ 2) then
           some true
          else
           bif y13420 == 1 then
            some ((gt y202 y7027).has_)
           else
            some false
         else
          some false
        else
         some false).bind fun y13959 =>
    (
      bif !y13959 then
       some true
      else
       bif decide ((((gt y202 y7027).value_).size : Int) > 16) then
        some true
       else
        some (decide ((((gt y202 y7027).path_).size : Int) > 16))).bind fun y14047 =>
    bif y14047 then
     some (.inr false)
    else
     law20_SlotStrict.l0 y202 k (y13415, w64 (y7027 + 1))
   | .inr r14053 =>
    some (.inr r14053)
  else
   some (.inl y7022)
def law20_SlotStrict.l2 (y10537 : List Int) : Nat → Int → Option (Unit ⊕ Bool)
 | 0, _ => none
 | k + 1, y14062 =>
  bif decide (y14062 < (y10537.length : Int)) then
   gd (0 ≤ y14062 ∧ y14062 < (y10537.length : Int)) <|
   bif !(((gt y10537 y14062) == 1) == (decide (y14062 > 0))) then
    some (.inr false)
   else
    law20_SlotStrict.l2 y10537 k (w64 (y14062 + 1))
  else
   some (.inl ())
def law20_SlotStrict.f (a0 : ByteArray) (a1 : Int) : Option Bool :=
 bif decide ((a0.size : Int) > 600) then
  (law20_wakes.f).bind fun y196 =>
  some y196
 else
  (slot_Decode.f a0).bind fun (y202, y203) =>
  bif !y203 then
   (
     bif (y202.length : Int) == 0 then
      (law20_wakes.f).bind fun y231 =>
      some y231
     else
      some false).bind fun y227 =>
   some y227
  else
   gd (a0.size + (strOfNums [a1]).size ≤ 9223372036854775807) <|
   (slot_Decode.f (a0 ++ (strOfNums [a1]))).bind fun (y243, y244) =>
   gd (0 ≤ w64 ((a0.size : Int) - 1) ∧ w64 ((a0.size : Int) - 1) ≤ (a0.size : Int)) <|
   (slot_Decode.f (sub a0 0 (w64 ((a0.size : Int) - 1)))).bind fun (y254, y255) =>
   (
     bif y244 then
      some true
     else
      bif y255 then
       some true
      else
       some ((y202.length : Int) == 0)).bind fun y278 =>
   bif y278 then
    some false
   else
    gd (0 ≤ (y202.length : Int) ∧ (y202.length : Int) ≤ 274877906944) <|
    (law20_SlotStrict.l0 y202 BIG (List.replicate (y202.length : Int).toNat 0, 0)).bind fun
    | .inl y10537 =>
     (law20_SlotStrict.l2 y10537 BIG 0).bind fun
     | .inl () =>
      (law20_wakes.f).bind fun y14073 =>
      some y14073
     | .inr r14079 =>
      some r14079
    | .inr r14080 =>
     some r14080
end Go.Lf
