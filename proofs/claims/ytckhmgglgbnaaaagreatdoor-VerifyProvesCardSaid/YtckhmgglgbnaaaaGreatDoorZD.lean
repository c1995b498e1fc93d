/- What the Go functions compute, as plain Lean functions (printed by our lift.py). -/
import Derived.Test.YtckhmgglgbnaaaaGreatDoorZT
set_option linter.unusedVariables false
set_option linter.unusedSimpArgs false
namespace Go.Lf
open Go
def keep_LongPairs.l0 (a0 : List Pair) : Nat → (Int × Int) → Option Int
 | 0, _ => none
 | k + 1, (y37, y38) =>
  (
    bif decide (y38 < (a0.length : Int)) then
     some (decide (y37 ≤ 3000))
    else
     some false).bind fun y69 =>
  bif y69 then
   gd (0 ≤ y38 ∧ y38 < (a0.length : Int)) <|
   gd (0 ≤ y38 ∧ y38 < (a0.length : Int)) <|
   keep_LongPairs.l0 a0 k (w64 (y37 + (w64 ((w64 (1 + (if 3000 < (((gt a0 y38).key_).size : Int) then 3000 else (((gt a0 y38).key_).size : Int)))) + (if 3000 < (((gt a0 y38).value_).size : Int) then 3000 else (((gt a0 y38).value_).size : Int))))), w64 (y38 + 1))
  else
   some y37
def keep_LongPairs.f (a0 : List Pair) : Option Bool :=
 (keep_LongPairs.l0 a0 BIG (0, 0)).bind fun y56 =>
 some (decide (y56 > 3000))

def ref10_May.l0 (a0 : List Pair) : Nat → Int → Option (Unit ⊕ Bool)
 | 0, _ => none
 | k + 1, y140 =>
  bif decide (y140 < (a0.length : Int)) then
   (
     gd (0 ≤ y140 ∧ y140 < (a0.length : Int)) <|
     bif decide ((((gt a0 y140).key_).size : Int) < 1) then
      some true
     else
      gd (0 ≤ y140 ∧ y140 < (a0.length : Int)) <|
      bif decide ((((gt a0 y140).key_).size : Int) > 8) then
       some true
      else
       gd (0 ≤ y140 ∧ y140 < (a0.length : Int)) <|
       bif decide ((((gt a0 y140).value_).size : Int) > 16) then
        some true
       else
        bif decide (y140 > 0) then
         gd (0 ≤ y140 ∧ y140 < (a0.length : Int)) <|
         gd (0 ≤ w64 (y140 - 1) ∧ w64 (y140 - 1) < (a0.length : Int)) <|
         some (slt ((gt a0 y140).key_) ((gt a0 (w64 (y140 - 1))).key_) || seq_ ((gt a0 y140).key_) ((gt a0 (w64 (y140 - 1))).key_))
        else
         some false).bind fun y268 =>
   bif y268 then
    some (.inr false)
   else
    ref10_May.l0 a0 k (w64 (y140 + 1))
  else
   some (.inl ())
def ref10_May.f (a0 : List Pair) : Option Bool :=
 (ref10_May.l0 a0 BIG 0).bind fun
 | .inl () =>
  some true
 | .inr r283 =>
  some r283

def ref12_Key.f (a0 : ByteArray) : Option Bool :=
 (
   bif decide ((a0.size : Int) ≥ 1) then
    some (decide ((a0.size : Int) ≤ 8))
   else
    some false).bind fun y3 =>
 some y3

def ref02_Of.l0 (a0 : ByteArray) : Nat → (List Int × Int) → Option (List Int)
 | 0, _ => none
 | k + 1, (y56, y61) =>
  bif decide (y61 < (a0.size : Int)) then
   gd (0 ≤ y61 ∧ y61 < (a0.size : Int)) <|
   gd (0 ≤ y61 ∧ y61 < (a0.size : Int)) <|
   gd (y56.length + 2 ≤ 274877906944) <|
   ref02_Of.l0 a0 k (y56 ++ [wu8 ((bt a0 y61).tdiv 16), (bt a0 y61).tmod 16], w64 (y61 + 1))
  else
   some y56
def ref02_Of.f (a0 : ByteArray) : Option ByteArray :=
 (ref02_Of.l0 a0 BIG (([] : List Int), 0)).bind fun y77 =>
 some (strOfNums y77)

def ref02_Common.l0 (a0 : ByteArray) (a1 : ByteArray) : Nat → Int → Option Int
 | 0, _ => none
 | k + 1, y78 =>
  (
    bif decide (y78 < (a0.size : Int)) then
     bif decide (y78 < (a1.size : Int)) then
      gd (0 ≤ y78 ∧ y78 < (a0.size : Int)) <|
      gd (0 ≤ y78 ∧ y78 < (a1.size : Int)) <|
      some ((bt a0 y78) == (bt a1 y78))
     else
      some false
    else
     some false).bind fun y150 =>
  bif y150 then
   ref02_Common.l0 a0 a1 k (w64 (y78 + 1))
  else
   some y78
def ref02_Common.f (a0 : ByteArray) (a1 : ByteArray) : Option Int :=
 (ref02_Common.l0 a0 a1 BIG 0).bind fun y117 =>
 some y117

def ref10_maker_add.l1 (a0_p_n : List ByteArray) (a2 : Int) (a3 : Int) (y565 : Int) : Nat → Int → Option Int
 | 0, _ => none
 | k + 1, y877 =>
  (
    bif decide (y877 < a2) then
     gd (0 ≤ y877 ∧ y877 < (a0_p_n.length : Int)) <|
     gd (0 ≤ a3 ∧ a3 < ((gt a0_p_n y877).size : Int)) <|
     gd (0 ≤ y565 ∧ y565 < (a0_p_n.length : Int)) <|
     gd (0 ≤ a3 ∧ a3 < ((gt a0_p_n y565).size : Int)) <|
     some ((bt (gt a0_p_n y877) a3) == (bt (gt a0_p_n y565) a3))
    else
     some false).bind fun y960 =>
  bif y960 then
   ref10_maker_add.l1 a0_p_n a2 a3 y565 k (w64 (y877 + 1))
  else
   some y877
def ref10_maker_add.l0 (a0_p_l : List Pair) (a0_p_n : List ByteArray) (a0_p_t : List Node) (a2 : Int) (a3 : Int) (rec_ref10_maker_add : (List Pair) → (List ByteArray) → (List Node) → (List ByteArray) → Int → Int → Int → Option (Int × List Node × List ByteArray)) : Nat → (List ByteArray × List Node × Int) → Option (List ByteArray × List Node)
 | 0, _ => none
 | k + 1, (y555, y560, y565) =>
  bif decide (y565 < a2) then
   (ref10_maker_add.l1 a0_p_n a2 a3 y565 BIG y565).bind fun y922 =>
   (rec_ref10_maker_add a0_p_l a0_p_n y560 y555 y565 y922 (w64 (a3 + 1))).bind fun (y971, y972, y973) =>
   gd (0 ≤ y565 ∧ y565 < (a0_p_n.length : Int)) <|
   gd (0 ≤ a3 ∧ a3 < ((gt a0_p_n y565).size : Int)) <|
   gd (0 ≤ (a0_p_t.length : Int) ∧ (a0_p_t.length : Int) < (y972.length : Int)) <|
   gd (0 ≤ bt (gt a0_p_n y565) a3 ∧ bt (gt a0_p_n y565) a3 < 16) <|
   ref10_maker_add.l0 a0_p_l a0_p_n a0_p_t a2 a3 rec_ref10_maker_add k (y973, y972.set (a0_p_t.length : Int).toNat ({ gt y972 (a0_p_t.length : Int) with kids_ := vset (gt y972 (a0_p_t.length : Int)).kids_ (bt (gt a0_p_n y565) a3) y971 }), y922)
  else
   some (y555, y560)
def ref10_maker_add.f : Nat → (List Pair) → (List ByteArray) → (List Node) → (List ByteArray) → Int → Int → Int → Option (Int × List Node × List ByteArray)
 | 0, _, _, _, _, _, _, _ => none
 | kk + 1, a0_p_l, a0_p_n, a0_p_t, a0_p_p, a1, a2, a3 =>
  gd (a0_p_t.length + 1 ≤ 274877906944) <|
  gd (0 ≤ a1 ∧ a1 < (a0_p_n.length : Int)) <|
  gd (0 ≤ a3 ∧ a3 ≤ ((gt a0_p_n a1).size : Int)) <|
  gd (a0_p_p.length + 1 ≤ 274877906944) <|
  bif a2 == (w64 (a1 + 1)) then
   gd (0 ≤ a1 ∧ a1 < (a0_p_n.length : Int)) <|
   gd (0 ≤ a3 ∧ a3 ≤ ((gt a0_p_n a1).size : Int)) <|
   gd (0 ≤ a1 ∧ a1 < (a0_p_l.length : Int)) <|
   gd (0 ≤ (a0_p_t.length : Int) ∧ (a0_p_t.length : Int) < ((a0_p_t ++ [(⟨0, (⟨#[]⟩ : ByteArray), false, (⟨#[]⟩ : ByteArray), (Vector.replicate 16 0 : Vector Int 16)⟩ : Node)]).length : Int)) <|
   some ((a0_p_t.length : Int), (a0_p_t ++ [(⟨0, (⟨#[]⟩ : ByteArray), false, (⟨#[]⟩ : ByteArray), (Vector.replicate 16 0 : Vector Int 16)⟩ : Node)]).set (a0_p_t.length : Int).toNat (⟨1, sub (gt a0_p_n a1) a3 ((gt a0_p_n a1).size : Int), true, (gt a0_p_l a1).value_, (Vector.replicate 16 0 : Vector Int 16)⟩ : Node), a0_p_p ++ [sub (gt a0_p_n a1) 0 a3])
  else
   gd (0 ≤ a1 ∧ a1 < (a0_p_n.length : Int)) <|
   gd (0 ≤ a3 ∧ a3 ≤ ((gt a0_p_n a1).size : Int)) <|
   gd (0 ≤ w64 (a2 - 1) ∧ w64 (a2 - 1) < (a0_p_n.length : Int)) <|
   gd (0 ≤ a3 ∧ a3 ≤ ((gt a0_p_n (w64 (a2 - 1))).size : Int)) <|
   (ref02_Common.f (sub (gt a0_p_n a1) a3 ((gt a0_p_n a1).size : Int)) (sub (gt a0_p_n (w64 (a2 - 1))) a3 ((gt a0_p_n (w64 (a2 - 1))).size : Int))).bind fun y42 =>
   bif decide (y42 > 0) then
    gd (0 ≤ a1 ∧ a1 < (a0_p_n.length : Int)) <|
    gd (0 ≤ a3 ∧ a3 ≤ w64 (a3 + y42) ∧ w64 (a3 + y42) ≤ ((gt a0_p_n a1).size : Int)) <|
    gd (0 ≤ (a0_p_t.length : Int) ∧ (a0_p_t.length : Int) < ((a0_p_t ++ [(⟨0, (⟨#[]⟩ : ByteArray), false, (⟨#[]⟩ : ByteArray), (Vector.replicate 16 0 : Vector Int 16)⟩ : Node)]).length : Int)) <|
    ((ref10_maker_add.f kk) a0_p_l a0_p_n ((a0_p_t ++ [(⟨0, (⟨#[]⟩ : ByteArray), false, (⟨#[]⟩ : ByteArray), (Vector.replicate 16 0 : Vector Int 16)⟩ : Node)]).set (a0_p_t.length : Int).toNat (⟨2, sub (gt a0_p_n a1) a3 (w64 (a3 + y42)), false, (⟨#[]⟩ : ByteArray), (Vector.replicate 16 0 : Vector Int 16)⟩ : Node)) (a0_p_p ++ [sub (gt a0_p_n a1) 0 a3]) a1 a2 (w64 (a3 + y42))).bind fun (y56, y57, y58) =>
    gd (0 ≤ (a0_p_t.length : Int) ∧ (a0_p_t.length : Int) < (y57.length : Int)) <|
    gd (0 ≤ (0 : Int) ∧ (0 : Int) < 16) <|
    some ((a0_p_t.length : Int), y57.set (a0_p_t.length : Int).toNat ({ gt y57 (a0_p_t.length : Int) with kids_ := vset (gt y57 (a0_p_t.length : Int)).kids_ 0 y56 }), y58)
   else
    gd (0 ≤ (a0_p_t.length : Int) ∧ (a0_p_t.length : Int) < ((a0_p_t ++ [(⟨0, (⟨#[]⟩ : ByteArray), false, (⟨#[]⟩ : ByteArray), (Vector.replicate 16 0 : Vector Int 16)⟩ : Node)]).length : Int)) <|
    (
      gd (0 ≤ a1 ∧ a1 < (a0_p_n.length : Int)) <|
      bif ((gt a0_p_n a1).size : Int) == a3 then
       gd (0 ≤ a1 ∧ a1 < (a0_p_l.length : Int)) <|
       gd (0 ≤ (a0_p_t.length : Int) ∧ (a0_p_t.length : Int) < (((a0_p_t ++ [(⟨0, (⟨#[]⟩ : ByteArray), false, (⟨#[]⟩ : ByteArray), (Vector.replicate 16 0 : Vector Int 16)⟩ : Node)]).set (a0_p_t.length : Int).toNat ({ gt (a0_p_t ++ [(⟨0, (⟨#[]⟩ : ByteArray), false, (⟨#[]⟩ : ByteArray), (Vector.replicate 16 0 : Vector Int 16)⟩ : Node)]) (a0_p_t.length : Int) with kind_ := 3 })).length : Int)) <|
       gd (0 ≤ (a0_p_t.length : Int) ∧ (a0_p_t.length : Int) < ((((a0_p_t ++ [(⟨0, (⟨#[]⟩ : ByteArray), false, (⟨#[]⟩ : ByteArray), (Vector.replicate 16 0 : Vector Int 16)⟩ : Node)]).set (a0_p_t.length : Int).toNat ({ gt (a0_p_t ++ [(⟨0, (⟨#[]⟩ : ByteArray), false, (⟨#[]⟩ : ByteArray), (Vector.replicate 16 0 : Vector Int 16)⟩ : Node)]) (a0_p_t.length : Int) with kind_ := 3 })).set (a0_p_t.length : Int).toNat ({ gt ((a0_p_t ++ [(⟨0, (⟨#[]⟩ : ByteArray), false, (⟨#[]⟩ : ByteArray), (Vector.replicate 16 0 : Vector Int 16)⟩ : Node)]).set (a0_p_t.length : Int).toNat ({ gt (a0_p_t ++ [(⟨0, (⟨#[]⟩ : ByteArray), false, (⟨#[]⟩ : ByteArray), (Vector.replicate 16 0 : Vector Int 16)⟩ : Node)]) (a0_p_t.length : Int) with kind_ := 3 })) (a0_p_t.length : Int) with has_ := true })).length : Int)) <|
       some ((((a0_p_t ++ [(⟨0, (⟨#[]⟩ : ByteArray), false, (⟨#[]⟩ : ByteArray), (Vector.replicate 16 0 : Vector Int 16)⟩ : Node)]).set (a0_p_t.length : Int).toNat ({ gt (a0_p_t ++ [(⟨0, (⟨#[]⟩ : ByteArray), false, (⟨#[]⟩ : ByteArray), (Vector.replicate 16 0 : Vector Int 16)⟩ : Node)]) (a0_p_t.length : Int) with kind_ := 3 })).set (a0_p_t.length : Int).toNat ({ gt ((a0_p_t ++ [(⟨0, (⟨#[]⟩ : ByteArray), false, (⟨#[]⟩ : ByteArray), (Vector.replicate 16 0 : Vector Int 16)⟩ : Node)]).set (a0_p_t.length : Int).toNat ({ gt (a0_p_t ++ [(⟨0, (⟨#[]⟩ : ByteArray), false, (⟨#[]⟩ : ByteArray), (Vector.replicate 16 0 : Vector Int 16)⟩ : Node)]) (a0_p_t.length : Int) with kind_ := 3 })) (a0_p_t.length : Int) with has_ := true })).set (a0_p_t.length : Int).toNat ({ gt (((a0_p_t ++ [(⟨0, (⟨#[]⟩ : ByteArray), false, (⟨#[]⟩ : ByteArray), (Vector.replicate 16 0 : Vector Int 16)⟩ : Node)]).set (a0_p_t.length : Int).toNat ({ gt (a0_p_t ++ [(⟨0, (⟨#[]⟩ : ByteArray), false, (⟨#[]⟩ : ByteArray), (Vector.replicate 16 0 : Vector Int 16)⟩ : Node)]) (a0_p_t.length : Int) with kind_ := 3 })).set (a0_p_t.length : Int).toNat ({ gt ((a0_p_t ++ [(⟨0, (⟨#[]⟩ : ByteArray), false, (⟨#[]⟩ : ByteArray), (Vector.replicate 16 0 : Vector Int 16)⟩ : Node)]).set (a0_p_t.length : Int).toNat ({ gt (a0_p_t ++ [(⟨0, (⟨#[]⟩ : ByteArray), false, (⟨#[]⟩ : ByteArray), (Vector.replicate 16 0 : Vector Int 16)⟩ : Node)]) (a0_p_t.length : Int) with kind_ := 3 })) (a0_p_t.length : Int) with has_ := true })) (a0_p_t.length : Int) with value_ := (gt a0_p_l a1).value_ }), w64 (a1 + 1))
      else
       some ((a0_p_t ++ [(⟨0, (⟨#[]⟩ : ByteArray), false, (⟨#[]⟩ : ByteArray), (Vector.replicate 16 0 : Vector Int 16)⟩ : Node)]).set (a0_p_t.length : Int).toNat ({ gt (a0_p_t ++ [(⟨0, (⟨#[]⟩ : ByteArray), false, (⟨#[]⟩ : ByteArray), (Vector.replicate 16 0 : Vector Int 16)⟩ : Node)]) (a0_p_t.length : Int) with kind_ := 3 }), a1)).bind fun (y107, y112) =>
    (ref10_maker_add.l0 a0_p_l a0_p_n a0_p_t a2 a3 (ref10_maker_add.f kk) BIG (a0_p_p ++ [sub (gt a0_p_n a1) 0 a3], y107, y112)).bind fun (y774, y779) =>
    some ((a0_p_t.length : Int), y779, y774)

def ref10_Build.l0 (a0 : List Pair) : Nat → (List ByteArray × Int) → Option (List ByteArray)
 | 0, _ => none
 | k + 1, (y171, y176) =>
  bif decide (y176 < (a0.length : Int)) then
   gd (0 ≤ y176 ∧ y176 < (a0.length : Int)) <|
   (ref02_Of.f ((gt a0 y176).key_)).bind fun y209 =>
   gd (y171.length + 1 ≤ 274877906944) <|
   ref10_Build.l0 a0 k (y171 ++ [y209], w64 (y176 + 1))
  else
   some y171
def ref10_Build.f (a0 : List Pair) : Option ref10_Both_T :=
 (ref10_May.f a0).bind fun y4 =>
 bif !y4 then
  some (⟨([] : List Node), ([] : List ByteArray), false⟩ : ref10_Both_T)
 else
  (ref10_Build.l0 a0 BIG (([] : List ByteArray), 0)).bind fun y198 =>
  (
    bif decide ((a0.length : Int) > 0) then
     (ref10_maker_add.f BIG a0 y198 ([] : List Node) ([] : List ByteArray) 0 (a0.length : Int) 0).bind fun (y1071, y1072, y1073) =>
     some (y1072, y1073)
    else
     some (([] : List Node), ([] : List ByteArray))).bind fun (y1058, y1063) =>
  some (⟨y1058, y1063, true⟩ : ref10_Both_T)

def ref02_Key.l0 (a0 : ByteArray) : Nat → (List Int × Int) → Option ((List Int) ⊕ ref02_Text_T)
 | 0, _ => none
 | k + 1, (y415, y420) =>
  bif decide (y420 < (a0.size : Int)) then
   (
     (
       (
         gd (0 ≤ y420 ∧ y420 < (a0.size : Int)) <|
         bif decide ((bt a0 y420) > 15) then
          some true
         else
          some (((a0.size : Int).tmod 2) != 0)).bind fun y646 =>
       bif y646 then
        some (.inr (⟨(⟨#[]⟩ : ByteArray), false⟩ : ref02_Text_T))
       else
        bif (y420.tmod 2) == 1 then
         gd (0 ≤ w64 (y420 - 1) ∧ w64 (y420 - 1) < (a0.size : Int)) <|
         gd (0 ≤ y420 ∧ y420 < (a0.size : Int)) <|
         gd (y415.length + 1 ≤ 274877906944) <|
         some (.inl (y415 ++ [wu8 ((wu8 ((bt a0 (w64 (y420 - 1))) * 16)) + (bt a0 y420))]))
        else
         some (.inl y415)) : Option ((List Int) ⊕ ref02_Text_T)).bind fun
   | .inl y624 =>
    ref02_Key.l0 a0 k (y624, w64 (y420 + 1))
   | .inr r668 =>
    some (.inr r668)
  else
   some (.inl y415)
def ref02_Key.f (a0 : ByteArray) : Option ref02_Text_T :=
 (ref02_Key.l0 a0 BIG (([] : List Int), 0)).bind fun
 | .inl y541 =>
  some (⟨strOfNums y541, true⟩ : ref02_Text_T)
 | .inr r671 =>
  some r671

def ref10_Same.l0 (a0 : List Node) (a1 : List Node) : Nat → Int → Option (Unit ⊕ Bool)
 | 0, _ => none
 | k + 1, y13 =>
  bif decide (y13 < (a0.length : Int)) then
   gd (0 ≤ y13 ∧ y13 < (a0.length : Int)) <|
   gd (0 ≤ y13 ∧ y13 < (a1.length : Int)) <|
   bif !(eq_Node (gt a0 y13) (gt a1 y13)) then
    some (.inr false)
   else
    ref10_Same.l0 a0 a1 k (w64 (y13 + 1))
  else
   some (.inl ())
def ref10_Same.f (a0 : List Node) (a1 : List Node) : Option Bool :=
 bif (a0.length : Int) != (a1.length : Int) then
  some false
 else
  (ref10_Same.l0 a0 a1 BIG 0).bind fun
  | .inl () =>
   some true
  | .inr r28 =>
   some r28

def ref10_Pairs.l1 (a0 : List Node) (y5701 : List ByteArray) (y5706 : Int) : Nat → (List Bool × List ByteArray × Int) → Option ((List Bool × List ByteArray) ⊕ ref10_Got_T)
 | 0, _ => none
 | k + 1, (y8690, y8695, y8700) =>
  bif decide (y8700 < 16) then
   (
     (
       gd (0 ≤ y8700 ∧ y8700 < 16) <|
       bif (vg ((gt a0 y5706).kids_) y8700) == 0 then
        some (.inl (y8690, y8695))
       else
        (
          bif decide ((vg ((gt a0 y5706).kids_) y8700) ≤ y5706) then
           some true
          else
           bif decide ((vg ((gt a0 y5706).kids_) y8700) ≥ (a0.length : Int)) then
            some true
           else
            gd (0 ≤ vg ((gt a0 y5706).kids_) y8700 ∧ vg ((gt a0 y5706).kids_) y8700 < (y8690.length : Int)) <|
            some (gt y8690 (vg ((gt a0 y5706).kids_) y8700))).bind fun y9018 =>
        bif y9018 then
         some (.inr (⟨([] : List Pair), false⟩ : ref10_Got_T))
        else
         gd (0 ≤ vg ((gt a0 y5706).kids_) y8700 ∧ vg ((gt a0 y5706).kids_) y8700 < (y8690.length : Int)) <|
         gd (0 ≤ vg ((gt a0 y5706).kids_) y8700 ∧ vg ((gt a0 y5706).kids_) y8700 < (y8695.length : Int)) <|
         bif ((gt a0 y5706).kind_) == 3 then
          gd (0 ≤ vg ((gt a0 y5706).kids_) y8700 ∧ vg ((gt a0 y5706).kids_) y8700 < ((y8695.set (vg ((gt a0 y5706).kids_) y8700).toNat ((gt y5701 y5706) ++ ((gt a0 y5706).path_))).length : Int)) <|
          gd ((gt (y8695.set (vg ((gt a0 y5706).kids_) y8700).toNat ((gt y5701 y5706) ++ ((gt a0 y5706).path_))) (vg ((gt a0 y5706).kids_) y8700)).size + (strOfNums [wu8 y8700]).size ≤ 9223372036854775807) <|
          gd (0 ≤ vg ((gt a0 y5706).kids_) y8700 ∧ vg ((gt a0 y5706).kids_) y8700 < ((y8695.set (vg ((gt a0 y5706).kids_) y8700).toNat ((gt y5701 y5706) ++ ((gt a0 y5706).path_))).length : Int)) <|
          some (.inl (y8690.set (vg ((gt a0 y5706).kids_) y8700).toNat true, (y8695.set (vg ((gt a0 y5706).kids_) y8700).toNat ((gt y5701 y5706) ++ ((gt a0 y5706).path_))).set (vg ((gt a0 y5706).kids_) y8700).toNat ((gt (y8695.set (vg ((gt a0 y5706).kids_) y8700).toNat ((gt y5701 y5706) ++ ((gt a0 y5706).path_))) (vg ((gt a0 y5706).kids_) y8700)) ++ (strOfNums [wu8 y8700]))))
         else
          some (.inl (y8690.set (vg ((gt a0 y5706).kids_) y8700).toNat true, y8695.set (vg ((gt a0 y5706).kids_) y8700).toNat ((gt y5701 y5706) ++ ((gt a0 y5706).path_))))) : Option ((List Bool × List ByteArray) ⊕ ref10_Got_T)).bind fun
   | .inl (y8984, y8989) =>
    ref10_Pairs.l1 a0 y5701 y5706 k (y8984, y8989, w64 (y8700 + 1))
   | .inr r9047 =>
    some (.inr r9047)
  else
   some (.inl (y8690, y8695))
def ref10_Pairs.l0 (a0 : List Node) : Nat → (List Bool × List Pair × List ByteArray × Int) → Option ((List Bool × List Pair × List ByteArray) ⊕ ref10_Got_T)
 | 0, _ => none
 | k + 1, (y5691, y5696, y5701, y5706) =>
  bif decide (y5706 < (a0.length : Int)) then
   (
     bif decide (y5706 > 0) then
      gd (0 ≤ y5706 ∧ y5706 < (y5691.length : Int)) <|
      some (!(gt y5691 y5706))
     else
      some false).bind fun y8235 =>
   bif y8235 then
    some (.inr (⟨([] : List Pair), false⟩ : ref10_Got_T))
   else
    gd (0 ≤ y5706 ∧ y5706 < (a0.length : Int)) <|
    gd (0 ≤ y5706 ∧ y5706 < (y5701.length : Int)) <|
    gd ((gt y5701 y5706).size + ((gt a0 y5706).path_).size ≤ 9223372036854775807) <|
    (
      bif decide ((((gt a0 y5706).path_).size : Int) > 16) then
       some true
      else
       some (decide ((((gt y5701 y5706) ++ ((gt a0 y5706).path_)).size : Int) > 16))).bind fun y8260 =>
    bif y8260 then
     some (.inr (⟨([] : List Pair), false⟩ : ref10_Got_T))
    else
     (
       (
         bif (gt a0 y5706).has_ then
          (ref02_Key.f ((gt y5701 y5706) ++ ((gt a0 y5706).path_))).bind fun y8322 =>
          bif !y8322.ok_ then
           some (.inr (⟨([] : List Pair), false⟩ : ref10_Got_T))
          else
           gd (y5696.length + 1 ≤ 274877906944) <|
           some (.inl (y5696 ++ [(⟨y8322.s_, (gt a0 y5706).value_⟩ : Pair)]))
         else
          some (.inl y5696)) : Option ((List Pair) ⊕ ref10_Got_T)).bind fun
     | .inl y8314 =>
      (ref10_Pairs.l1 a0 y5701 y5706 BIG (y5691, y5701, 0)).bind fun
      | .inl (y8868, y8873) =>
       ref10_Pairs.l0 a0 k (y8868, y8314, y8873, w64 (y5706 + 1))
      | .inr r9049 =>
       some (.inr r9049)
     | .inr r9050 =>
      some (.inr r9050)
  else
   some (.inl (y5691, y5696, y5701))
def ref10_Pairs.f (a0 : List Node) : Option ref10_Got_T :=
 gd (0 ≤ (a0.length : Int) ∧ (a0.length : Int) ≤ 274877906944) <|
 gd (0 ≤ (a0.length : Int) ∧ (a0.length : Int) ≤ 274877906944) <|
 (ref10_Pairs.l0 a0 BIG (List.replicate (a0.length : Int).toNat false, ([] : List Pair), List.replicate (a0.length : Int).toNat (⟨#[]⟩ : ByteArray), 0)).bind fun
 | .inl (y7370, y7375, y7380) =>
  (ref10_Build.f y7375).bind fun y9055 =>
  (
    bif !y9055.ok_ then
     some true
    else
     (ref10_Same.f y9055.t_ a0).bind fun y72 =>
     some (!y72)).bind fun y68 =>
  bif y68 then
   some (⟨([] : List Pair), false⟩ : ref10_Got_T)
  else
   some (⟨y7375, true⟩ : ref10_Got_T)
 | .inr r81 =>
  some r81

def ref10_Good.f (a0 : List Node) : Option Bool :=
 (ref10_Pairs.f a0).bind fun y82 =>
 some y82.ok_

def ref04_primes.l1 (y660 : List Int) (y665 : Int) : Nat → (Bool × Int) → Option Bool
 | 0, _ => none
 | k + 1, (y1149, y1150) =>
  (
    bif decide (y1150 < (y660.length : Int)) then
     some y1149
    else
     some false).bind fun y1180 =>
  bif y1180 then
   gd (0 ≤ y1150 ∧ y1150 < (y660.length : Int)) <|
   gd (gt y660 y1150 ≠ 0) <|
   ref04_primes.l1 y660 y665 k ((y665.tmod (gt y660 y1150)) != 0, w64 (y1150 + 1))
  else
   some y1149
def ref04_primes.l0 (a0 : Int) : Nat → (List Int × Int) → Option (List Int)
 | 0, _ => none
 | k + 1, (y660, y665) =>
  bif decide ((y660.length : Int) < a0) then
   (
     (ref04_primes.l1 y660 y665 BIG (true, 0)).bind fun y1167 =>
     bif y1167 then
      gd (y660.length + 1 ≤ 274877906944) <|
      some (y660 ++ [y665])
     else
      some y660).bind fun y1108 =>
   ref04_primes.l0 a0 k (y1108, wu64 (y665 + 1))
  else
   some y660
def ref04_primes.f (a0 : Int) : Option (List Int) :=
 (ref04_primes.l0 a0 BIG (([] : List Int), 2)).bind fun y929 =>
 some y929

def ref04_times.f (a0 : Int) (a1 : Int) : Option (Int × Int) :=
 some (wu64 ((wu64 ((wu64 ((wu64 ((shr .u64 a0 32) * (shr .u64 a1 32))) + (shr .u64 (wu64 ((band .u64 a0 4294967295) * (shr .u64 a1 32))) 32))) + (shr .u64 (wu64 ((shr .u64 a0 32) * (band .u64 a1 4294967295))) 32))) + (shr .u64 (wu64 ((wu64 ((shr .u64 (wu64 ((band .u64 a0 4294967295) * (band .u64 a1 4294967295))) 32) + (band .u64 (wu64 ((band .u64 a0 4294967295) * (shr .u64 a1 32))) 4294967295))) + (band .u64 (wu64 ((shr .u64 a0 32) * (band .u64 a1 4294967295))) 4294967295))) 32)), bor .u64 (band .u64 (wu64 ((band .u64 a0 4294967295) * (band .u64 a1 4294967295))) 4294967295) (shl .u64 (wu64 ((wu64 ((shr .u64 (wu64 ((band .u64 a0 4294967295) * (band .u64 a1 4294967295))) 32) + (band .u64 (wu64 ((band .u64 a0 4294967295) * (shr .u64 a1 32))) 4294967295))) + (band .u64 (wu64 ((shr .u64 a0 32) * (band .u64 a1 4294967295))) 4294967295))) 32))

def ref04_square.l0 (a0 : Int) : Nat → (Int × Int) → Option Int
 | 0, _ => none
 | k + 1, (y117, y118) =>
  bif decide (y118 ≥ 0) then
   (
     gd (0 ≤ wu64 y118) <|
     (ref04_times.f (bor .u64 y117 (shl .u64 1 (wu64 y118))) (bor .u64 y117 (shl .u64 1 (wu64 y118)))).bind fun (y222, y223) =>
     (
       bif decide (y222 < a0) then
        some true
       else
        bif y222 == a0 then
         some (y223 == 0)
        else
         some false).bind fun y233 =>
     bif y233 then
      some (bor .u64 y117 (shl .u64 1 (wu64 y118)))
     else
      some y117).bind fun y218 =>
   ref04_square.l0 a0 k (y218, w64 (y118 - 1))
  else
   some y117
def ref04_square.f (a0 : Int) : Option Int :=
 (ref04_square.l0 a0 BIG (0, 36)).bind fun y177 =>
 some (wu32 y177)

def ref04_Start.l0 (y1204 : List Int) : Nat → (Vector Int 8 × Int) → Option (Vector Int 8)
 | 0, _ => none
 | k + 1, (y260, y261) =>
  bif decide (y261 < 8) then
   gd (0 ≤ y261 ∧ y261 < (y1204.length : Int)) <|
   (ref04_square.f (gt y1204 y261)).bind fun y278 =>
   gd (0 ≤ y261 ∧ y261 < 8) <|
   ref04_Start.l0 y1204 k (vset y260 y261 y278, w64 (y261 + 1))
  else
   some y260
def ref04_Start.f : Option (Vector Int 8) :=
 (ref04_primes.f 8).bind fun y1204 =>
 (ref04_Start.l0 y1204 BIG ((Vector.replicate 8 0 : Vector Int 8), 0)).bind fun y272 =>
 some y272

def ref04_cube.l0 (a0 : Int) : Nat → (Int × Int) → Option Int
 | 0, _ => none
 | k + 1, (y203, y204) =>
  bif decide (y204 ≥ 0) then
   (
     gd (0 ≤ wu64 y204) <|
     (ref04_times.f (bor .u64 y203 (shl .u64 1 (wu64 y204))) (bor .u64 y203 (shl .u64 1 (wu64 y204)))).bind fun (y378, y379) =>
     (ref04_times.f y379 (bor .u64 y203 (shl .u64 1 (wu64 y204)))).bind fun (y385, y386) =>
     (ref04_times.f y378 (bor .u64 y203 (shl .u64 1 (wu64 y204)))).bind fun (y392, y393) =>
     (
       bif decide ((wu64 (y385 + y393)) < (shl .u64 a0 32)) then
        some true
       else
        bif (wu64 (y385 + y393)) == (shl .u64 a0 32) then
         some (y386 == 0)
        else
         some false).bind fun y403 =>
     bif y403 then
      some (bor .u64 y203 (shl .u64 1 (wu64 y204)))
     else
      some y203).bind fun y374 =>
   ref04_cube.l0 a0 k (y374, w64 (y204 - 1))
  else
   some y203
def ref04_cube.f (a0 : Int) : Option Int :=
 (ref04_cube.l0 a0 BIG (0, 35)).bind fun y305 =>
 some (wu32 y305)

def ref04_Constants.l0 (y7 : List Int) : Nat → (Vector Int 64 × Int) → Option (Vector Int 64)
 | 0, _ => none
 | k + 1, (y430, y431) =>
  bif decide (y431 < 64) then
   gd (0 ≤ y431 ∧ y431 < (y7.length : Int)) <|
   (ref04_cube.f (gt y7 y431)).bind fun y448 =>
   gd (0 ≤ y431 ∧ y431 < 64) <|
   ref04_Constants.l0 y7 k (vset y430 y431 y448, w64 (y431 + 1))
  else
   some y430
def ref04_Constants.f : Option (Vector Int 64) :=
 (ref04_primes.f 64).bind fun y7 =>
 (ref04_Constants.l0 y7 BIG ((Vector.replicate 64 0 : Vector Int 64), 0)).bind fun y442 =>
 some y442

def ref02_Good.l0 (a0 : ByteArray) : Nat → Int → Option (Unit ⊕ Bool)
 | 0, _ => none
 | k + 1, y8 =>
  bif decide (y8 < (a0.size : Int)) then
   gd (0 ≤ y8 ∧ y8 < (a0.size : Int)) <|
   bif decide ((bt a0 y8) > 15) then
    some (.inr false)
   else
    ref02_Good.l0 a0 k (w64 (y8 + 1))
  else
   some (.inl ())
def ref02_Good.f (a0 : ByteArray) : Option Bool :=
 (ref02_Good.l0 a0 BIG 0).bind fun
 | .inl () =>
  some (decide ((a0.size : Int) ≤ 16))
 | .inr r19 =>
  some r19

def ref09_Bits.l0 (a0 : Int) : Nat → (Int × Int) → Option Int
 | 0, _ => none
 | k + 1, (y7, y8) =>
  bif decide (y8 < 16) then
   gd (0 ≤ wu64 y8) <|
   ref09_Bits.l0 a0 k (w64 (y7 + (band .i64 (shr .i64 a0 (wu64 y8)) 1)), w64 (y8 + 1))
  else
   some y7
def ref09_Bits.f (a0 : Int) : Option Int :=
 (ref09_Bits.l0 a0 BIG (0, 0)).bind fun y11 =>
 some y11

def ref09_Good.l0 (a0 : Item) : Nat → Int → Option (Unit ⊕ Bool)
 | 0, _ => none
 | k + 1, y11 =>
  bif decide (y11 < (a0.hashes_.length : Int)) then
   gd (0 ≤ y11 ∧ y11 < (a0.hashes_.length : Int)) <|
   bif ((gt a0.hashes_ y11).size : Int) != 32 then
    some (.inr false)
   else
    ref09_Good.l0 a0 k (w64 (y11 + 1))
  else
   some (.inl ())
def ref09_Good.f (a0 : Item) : Option Bool :=
 (ref09_Good.l0 a0 BIG 0).bind fun
 | .inl () =>
  (
    bif decide ((a0.value_.size : Int) > 16) then
     some true
    else
     bif !a0.has_ then
      some (!(seq_ a0.value_ (⟨#[]⟩ : ByteArray)))
     else
      some false).bind fun y36 =>
  bif y36 then
   some false
  else
   bif a0.kind_ == 1 then
    (
      (ref02_Good.f a0.path_).bind fun y41 =>
      bif y41 then
       bif a0.has_ then
        bif a0.mask_ == 0 then
         some ((a0.hashes_.length : Int) == 0)
        else
         some false
       else
        some false
      else
       some false).bind fun y38 =>
    some y38
   else
    bif a0.kind_ == 2 then
     (
       (ref02_Good.f a0.path_).bind fun y74 =>
       bif y74 then
        bif decide ((a0.path_.size : Int) ≥ 1) then
         bif !a0.has_ then
          bif a0.mask_ == 1 then
           some ((a0.hashes_.length : Int) == 1)
          else
           some false
         else
          some false
        else
         some false
       else
        some false).bind fun y71 =>
     some y71
    else
     bif a0.kind_ == 3 then
      (
        bif a0.has_ then
         some (w64 ((a0.hashes_.length : Int) + 1))
        else
         some (a0.hashes_.length : Int)).bind fun y87 =>
      (
        bif seq_ a0.path_ (⟨#[]⟩ : ByteArray) then
         bif decide (a0.mask_ ≥ 0) then
          bif decide (a0.mask_ ≤ 65535) then
           (ref09_Bits.f a0.mask_).bind fun y43 =>
           bif y43 == (a0.hashes_.length : Int) then
            some (decide (y87 ≥ 2))
           else
            some false
          else
           some false
         else
          some false
        else
         some false).bind fun y36 =>
      some y36
     else
      some false
 | .inr r50 =>
  some r50

def ref02_Pack.l0 (a0 : ByteArray) : Nat → (List Int × Int) → Option (List Int)
 | 0, _ => none
 | k + 1, (y109, y114) =>
  bif decide (y114 < (a0.size : Int)) then
   gd (0 ≤ y114 ∧ y114 < (a0.size : Int)) <|
   (
     bif decide ((w64 (y114 + 1)) < (a0.size : Int)) then
      gd (0 ≤ w64 (y114 + 1) ∧ w64 (y114 + 1) < (a0.size : Int)) <|
      some (wu8 ((wu8 ((bt a0 y114) * 16)) + (bt a0 (w64 (y114 + 1)))))
     else
      some (wu8 ((bt a0 y114) * 16))).bind fun y193 =>
   gd (y109.length + 1 ≤ 274877906944) <|
   ref02_Pack.l0 a0 k (y109 ++ [y193], w64 (y114 + 2))
  else
   some y109
def ref02_Pack.f (a0 : ByteArray) : Option ref02_Text_T :=
 (ref02_Good.f a0).bind fun y4 =>
 bif !y4 then
  some (⟨(⟨#[]⟩ : ByteArray), false⟩ : ref02_Text_T)
 else
  (ref02_Pack.l0 a0 BIG ([wu8 (a0.size : Int)], 0)).bind fun y158 =>
  some (⟨strOfNums y158, true⟩ : ref02_Text_T)

def ref09_Encode.l0 (a0 : Item) : Nat → (ByteArray × Int) → Option ByteArray
 | 0, _ => none
 | k + 1, (y299, y300) =>
  bif decide (y300 < (a0.hashes_.length : Int)) then
   gd (0 ≤ y300 ∧ y300 < (a0.hashes_.length : Int)) <|
   gd (y299.size + (gt a0.hashes_ y300).size ≤ 9223372036854775807) <|
   ref09_Encode.l0 a0 k (y299 ++ (gt a0.hashes_ y300), w64 (y300 + 1))
  else
   some y299
def ref09_Encode.f (a0 : Item) : Option ByteArray :=
 (ref09_Good.f a0).bind fun y51 =>
 bif !y51 then
  some (⟨#[]⟩ : ByteArray)
 else
  (
    bif a0.kind_ == 3 then
     gd ((strOfNums [wu8 a0.kind_]).size + (strOfNums [wu8 (shr .i64 a0.mask_ 8), wu8 a0.mask_]).size ≤ 9223372036854775807) <|
     bif a0.has_ then
      gd ((strOfNums [1, wu8 (a0.value_.size : Int)]).size + a0.value_.size ≤ 9223372036854775807) <|
      gd (((strOfNums [wu8 a0.kind_]) ++ (strOfNums [wu8 (shr .i64 a0.mask_ 8), wu8 a0.mask_])).size + ((strOfNums [1, wu8 (a0.value_.size : Int)]) ++ a0.value_).size ≤ 9223372036854775807) <|
      some (((strOfNums [wu8 a0.kind_]) ++ (strOfNums [wu8 (shr .i64 a0.mask_ 8), wu8 a0.mask_])) ++ ((strOfNums [1, wu8 (a0.value_.size : Int)]) ++ a0.value_))
     else
      gd (((strOfNums [wu8 a0.kind_]) ++ (strOfNums [wu8 (shr .i64 a0.mask_ 8), wu8 a0.mask_])).size + (⟨#[0]⟩ : ByteArray).size ≤ 9223372036854775807) <|
      some (((strOfNums [wu8 a0.kind_]) ++ (strOfNums [wu8 (shr .i64 a0.mask_ 8), wu8 a0.mask_])) ++ (⟨#[0]⟩ : ByteArray))
    else
     (ref02_Pack.f a0.path_).bind fun y276 =>
     gd ((strOfNums [wu8 a0.kind_]).size + y276.s_.size ≤ 9223372036854775807) <|
     bif a0.kind_ == 1 then
      gd ((strOfNums [wu8 (a0.value_.size : Int)]).size + a0.value_.size ≤ 9223372036854775807) <|
      gd (((strOfNums [wu8 a0.kind_]) ++ y276.s_).size + ((strOfNums [wu8 (a0.value_.size : Int)]) ++ a0.value_).size ≤ 9223372036854775807) <|
      some (((strOfNums [wu8 a0.kind_]) ++ y276.s_) ++ ((strOfNums [wu8 (a0.value_.size : Int)]) ++ a0.value_))
     else
      some ((strOfNums [wu8 a0.kind_]) ++ y276.s_)).bind fun y257 =>
  (ref09_Encode.l0 a0 BIG (y257, 0)).bind fun y304 =>
  some y304

def ref04_Pad.l0 (a0 : Int) : Nat → List Int → Option (List Int)
 | 0, _ => none
 | k + 1, y35 =>
  bif ((w64 ((if a0 > 0 then a0 else 0) + (y35.length : Int))).tmod 64) != 56 then
   gd (y35.length + 1 ≤ 274877906944) <|
   ref04_Pad.l0 a0 k (y35 ++ [0])
  else
   some y35
def ref04_Pad.l1 (a0 : Int) : Nat → (List Int × Int) → Option (List Int)
 | 0, _ => none
 | k + 1, (y105, y110) =>
  bif decide (y110 ≥ 0) then
   gd (0 ≤ wu64 (w64 (8 * y110))) <|
   gd (y105.length + 1 ≤ 274877906944) <|
   ref04_Pad.l1 a0 k (y105 ++ [wu8 (shr .u64 (wu64 ((wu64 (if a0 > 0 then a0 else 0)) * 8)) (wu64 (w64 (8 * y110))))], w64 (y110 - 1))
  else
   some y105
def ref04_Pad.f (a0 : Int) : Option ByteArray :=
 (ref04_Pad.l0 a0 BIG [128]).bind fun y52 =>
 (ref04_Pad.l1 a0 BIG (y52, 7)).bind fun y124 =>
 some (strOfNums y124)

def ref04_turn.f (a0 : Int) (a1 : Int) : Option Int :=
 gd (0 ≤ a1) <|
 gd (0 ≤ wu64 (32 - a1)) <|
 some (bor .u32 (shr .u32 a0 a1) (shl .u32 a0 (wu64 (32 - a1))))

def ref04_Step.l0 (a1 : Vector Int 64) : Nat → (Vector Int 64 × Int) → Option (Vector Int 64)
 | 0, _ => none
 | k + 1, (y238, y239) =>
  bif decide (y239 < 64) then
   (
     bif decide (y239 < 16) then
      gd (0 ≤ w64 (4 * y239) ∧ w64 (4 * y239) < 64) <|
      gd (0 ≤ w64 ((w64 (4 * y239)) + 1) ∧ w64 ((w64 (4 * y239)) + 1) < 64) <|
      gd (0 ≤ w64 ((w64 (4 * y239)) + 2) ∧ w64 ((w64 (4 * y239)) + 2) < 64) <|
      gd (0 ≤ w64 ((w64 (4 * y239)) + 3) ∧ w64 ((w64 (4 * y239)) + 3) < 64) <|
      gd (0 ≤ y239 ∧ y239 < 64) <|
      some (vset y238 y239 (bor .u32 (bor .u32 (bor .u32 (shl .u32 (wu32 (vg a1 (w64 (4 * y239)))) 24) (shl .u32 (wu32 (vg a1 (w64 ((w64 (4 * y239)) + 1)))) 16)) (shl .u32 (wu32 (vg a1 (w64 ((w64 (4 * y239)) + 2)))) 8)) (wu32 (vg a1 (w64 ((w64 (4 * y239)) + 3))))))
     else
      gd (0 ≤ w64 (y239 - 15) ∧ w64 (y239 - 15) < 64) <|
      gd (0 ≤ w64 (y239 - 2) ∧ w64 (y239 - 2) < 64) <|
      gd (0 ≤ w64 (y239 - 16) ∧ w64 (y239 - 16) < 64) <|
      gd (0 ≤ w64 (y239 - 7) ∧ w64 (y239 - 7) < 64) <|
      (ref04_turn.f (vg y238 (w64 (y239 - 15))) 7).bind fun y466 =>
      (ref04_turn.f (vg y238 (w64 (y239 - 15))) 18).bind fun y472 =>
      (ref04_turn.f (vg y238 (w64 (y239 - 2))) 17).bind fun y478 =>
      (ref04_turn.f (vg y238 (w64 (y239 - 2))) 19).bind fun y484 =>
      gd (0 ≤ y239 ∧ y239 < 64) <|
      some (vset y238 y239 (wu32 ((wu32 ((wu32 ((vg y238 (w64 (y239 - 16))) + (bxor .u32 (bxor .u32 y466 y472) (shr .u32 (vg y238 (w64 (y239 - 15))) 3)))) + (vg y238 (w64 (y239 - 7))))) + (bxor .u32 (bxor .u32 y478 y484) (shr .u32 (vg y238 (w64 (y239 - 2))) 10)))))).bind fun y449 =>
   ref04_Step.l0 a1 k (y449, w64 (y239 + 1))
  else
   some y238
def ref04_Step.l1 (a2 : Vector Int 64) (y364 : Vector Int 64) : Nat → (Vector Int 8 × Int) → Option (Vector Int 8)
 | 0, _ => none
 | k + 1, (y617, y618) =>
  bif decide (y618 < 64) then
   gd (0 ≤ (4 : Int) ∧ (4 : Int) < 8) <|
   gd (0 ≤ (0 : Int) ∧ (0 : Int) < 8) <|
   gd (0 ≤ (7 : Int) ∧ (7 : Int) < 8) <|
   gd (0 ≤ (5 : Int) ∧ (5 : Int) < 8) <|
   gd (0 ≤ (6 : Int) ∧ (6 : Int) < 8) <|
   gd (0 ≤ y618 ∧ y618 < 64) <|
   gd (0 ≤ y618 ∧ y618 < 64) <|
   (ref04_turn.f (vg y617 4) 6).bind fun y692 =>
   (ref04_turn.f (vg y617 4) 11).bind fun y698 =>
   (ref04_turn.f (vg y617 4) 25).bind fun y704 =>
   gd (0 ≤ (1 : Int) ∧ (1 : Int) < 8) <|
   gd (0 ≤ (2 : Int) ∧ (2 : Int) < 8) <|
   gd (0 ≤ (1 : Int) ∧ (1 : Int) < 8) <|
   gd (0 ≤ (2 : Int) ∧ (2 : Int) < 8) <|
   (ref04_turn.f (vg y617 0) 2).bind fun y715 =>
   (ref04_turn.f (vg y617 0) 13).bind fun y721 =>
   (ref04_turn.f (vg y617 0) 22).bind fun y727 =>
   gd (0 ≤ (0 : Int) ∧ (0 : Int) < 8) <|
   gd (0 ≤ (1 : Int) ∧ (1 : Int) < 8) <|
   gd (0 ≤ (2 : Int) ∧ (2 : Int) < 8) <|
   gd (0 ≤ (3 : Int) ∧ (3 : Int) < 8) <|
   gd (0 ≤ (4 : Int) ∧ (4 : Int) < 8) <|
   gd (0 ≤ (5 : Int) ∧ (5 : Int) < 8) <|
   gd (0 ≤ (6 : Int) ∧ (6 : Int) < 8) <|
   ref04_Step.l1 a2 y364 k ((#v[wu32 ((wu32 ((wu32 ((wu32 ((wu32 ((vg y617 7) + (bxor .u32 (bxor .u32 y692 y698) y704))) + (bxor .u32 (band .u32 (vg y617 4) (vg y617 5)) (band .u32 (bxor .u32 (if IntKind.signed .u32 then -1 else IntKind.max .u32) (vg y617 4)) (vg y617 6))))) + (vg a2 y618))) + (vg y364 y618))) + (wu32 ((bxor .u32 (bxor .u32 y715 y721) y727) + (bxor .u32 (bxor .u32 (band .u32 (vg y617 0) (vg y617 1)) (band .u32 (vg y617 0) (vg y617 2))) (band .u32 (vg y617 1) (vg y617 2)))))), vg y617 0, vg y617 1, vg y617 2, wu32 ((vg y617 3) + (wu32 ((wu32 ((wu32 ((wu32 ((vg y617 7) + (bxor .u32 (bxor .u32 y692 y698) y704))) + (bxor .u32 (band .u32 (vg y617 4) (vg y617 5)) (band .u32 (bxor .u32 (if IntKind.signed .u32 then -1 else IntKind.max .u32) (vg y617 4)) (vg y617 6))))) + (vg a2 y618))) + (vg y364 y618)))), vg y617 4, vg y617 5, vg y617 6] : Vector Int 8), w64 (y618 + 1))
  else
   some y617
def ref04_Step.l2 (y678 : Vector Int 8) : Nat → (Vector Int 8 × Int) → Option (Vector Int 8)
 | 0, _ => none
 | k + 1, (y756, y757) =>
  bif decide (y757 < 8) then
   gd (0 ≤ y757 ∧ y757 < 8) <|
   gd (0 ≤ y757 ∧ y757 < 8) <|
   gd (0 ≤ y757 ∧ y757 < 8) <|
   ref04_Step.l2 y678 k (vset y756 y757 (wu32 ((vg y756 y757) + (vg y678 y757))), w64 (y757 + 1))
  else
   some y756
def ref04_Step.f (a0 : Vector Int 8) (a1 : Vector Int 64) (a2 : Vector Int 64) : Option (Vector Int 8) :=
 (ref04_Step.l0 a1 BIG ((Vector.replicate 64 0 : Vector Int 64), 0)).bind fun y364 =>
 (ref04_Step.l1 a2 y364 BIG (a0, 0)).bind fun y678 =>
 (ref04_Step.l2 y678 BIG (a0, 0)).bind fun y764 =>
 some y764

def ref04_With.l1 (a0 : ByteArray) (y146 : ByteArray) (y822 : Int) : Nat → (Vector Int 64 × Int) → Option (Vector Int 64)
 | 0, _ => none
 | k + 1, (y877, y878) =>
  bif decide (y878 < 64) then
   gd (0 ≤ w64 (y822 + y878) ∧ w64 (y822 + y878) < ((a0 ++ y146).size : Int)) <|
   gd (0 ≤ y878 ∧ y878 < 64) <|
   ref04_With.l1 a0 y146 y822 k (vset y877 y878 (bt (a0 ++ y146) (w64 (y822 + y878))), w64 (y878 + 1))
  else
   some y877
def ref04_With.l0 (a0 : ByteArray) (a2 : Vector Int 64) (y146 : ByteArray) : Nat → (Vector Int 8 × Int) → Option (Vector Int 8)
 | 0, _ => none
 | k + 1, (y821, y822) =>
  bif decide (y822 < ((a0 ++ y146).size : Int)) then
   (ref04_With.l1 a0 y146 y822 BIG ((Vector.replicate 64 0 : Vector Int 64), 0)).bind fun y883 =>
   (ref04_Step.f y821 y883 a2).bind fun y892 =>
   ref04_With.l0 a0 a2 y146 k (y892, w64 (y822 + 64))
  else
   some y821
def ref04_With.l2 (y859 : Vector Int 8) : Nat → (List Int × Int) → Option (List Int)
 | 0, _ => none
 | k + 1, (y961, y966) =>
  bif decide (y966 < 8) then
   gd (0 ≤ y966 ∧ y966 < 8) <|
   gd (0 ≤ y966 ∧ y966 < 8) <|
   gd (0 ≤ y966 ∧ y966 < 8) <|
   gd (0 ≤ y966 ∧ y966 < 8) <|
   gd (y961.length + 4 ≤ 274877906944) <|
   ref04_With.l2 y859 k (y961 ++ [wu8 (shr .u32 (vg y859 y966) 24), wu8 (shr .u32 (vg y859 y966) 16), wu8 (shr .u32 (vg y859 y966) 8), wu8 (vg y859 y966)], w64 (y966 + 1))
  else
   some y961
def ref04_With.f (a0 : ByteArray) (a1 : Vector Int 8) (a2 : Vector Int 64) : Option ByteArray :=
 (ref04_Pad.f (a0.size : Int)).bind fun y146 =>
 gd (a0.size + y146.size ≤ 9223372036854775807) <|
 (ref04_With.l0 a0 a2 y146 BIG (a1, 0)).bind fun y859 =>
 (ref04_With.l2 y859 BIG (([] : List Int), 0)).bind fun y984 =>
 some (strOfNums y984)

def ref11_Of.l1 (a0 : List Node) (y1453 : List ByteArray) (y1458 : Int) : Nat → (List ByteArray × Int × Int) → Option (List ByteArray × Int)
 | 0, _ => none
 | k + 1, (y2130, y2135, y2136) =>
  bif decide (y2136 < 16) then
   (
     gd (0 ≤ y2136 ∧ y2136 < 16) <|
     bif (vg ((gt a0 y1458).kids_) y2136) != 0 then
      gd (0 ≤ wu64 y2136) <|
      gd (0 ≤ y2136 ∧ y2136 < 16) <|
      gd (0 ≤ vg ((gt a0 y1458).kids_) y2136 ∧ vg ((gt a0 y1458).kids_) y2136 < (y1453.length : Int)) <|
      gd (y2130.length + 1 ≤ 274877906944) <|
      some (y2130 ++ [gt y1453 (vg ((gt a0 y1458).kids_) y2136)], bor .i64 y2135 (shl .i64 1 (wu64 y2136)))
     else
      some (y2130, y2135)).bind fun (y2251, y2256) =>
   ref11_Of.l1 a0 y1453 y1458 k (y2251, y2256, w64 (y2136 + 1))
  else
   some (y2130, y2135)
def ref11_Of.l0 (a0 : List Node) (y288 : Vector Int 8) (y458 : Vector Int 64) : Nat → (List Item × List ByteArray × Int) → Option (List Item × List ByteArray)
 | 0, _ => none
 | k + 1, (y1448, y1453, y1458) =>
  bif decide (y1458 ≥ 0) then
   gd (0 ≤ y1458 ∧ y1458 < (a0.length : Int)) <|
   (ref11_Of.l1 a0 y1453 y1458 BIG (([] : List ByteArray), 0, 0)).bind fun (y2203, y2208) =>
   gd (0 ≤ y1458 ∧ y1458 < (y1448.length : Int)) <|
   (ref09_Encode.f (⟨(gt a0 y1458).kind_, (gt a0 y1458).path_, (gt a0 y1458).has_, (gt a0 y1458).value_, y2208, y2203⟩ : Item)).bind fun y2287 =>
   (ref04_With.f y2287 y288 y458).bind fun y2293 =>
   gd (0 ≤ y1458 ∧ y1458 < (y1453.length : Int)) <|
   ref11_Of.l0 a0 y288 y458 k (y1448.set y1458.toNat (⟨(gt a0 y1458).kind_, (gt a0 y1458).path_, (gt a0 y1458).has_, (gt a0 y1458).value_, y2208, y2203⟩ : Item), y1453.set y1458.toNat y2293, w64 (y1458 - 1))
  else
   some (y1448, y1453)
def ref11_Of.f (a0 : List Node) : Option ref11_All_T :=
 (ref10_Good.f a0).bind fun y91 =>
 bif !y91 then
  some (⟨([] : List Item), ([] : List ByteArray), false⟩ : ref11_All_T)
 else
  (
    gd (0 ≤ (a0.length : Int) ∧ (a0.length : Int) ≤ 274877906944) <|
    gd (0 ≤ (a0.length : Int) ∧ (a0.length : Int) ≤ 274877906944) <|
    some ()).bind fun _ =>
  (ref04_Start.f).bind fun y288 =>
  (ref04_Constants.f).bind fun y458 =>
  (ref11_Of.l0 a0 y288 y458 BIG (List.replicate (a0.length : Int).toNat (⟨0, (⟨#[]⟩ : ByteArray), false, (⟨#[]⟩ : ByteArray), 0, ([] : List ByteArray)⟩ : Item), List.replicate (a0.length : Int).toNat (⟨#[]⟩ : ByteArray), w64 ((a0.length : Int) - 1))).bind fun (y1875, y1880) =>
  some (⟨y1875, y1880, true⟩ : ref11_All_T)

def ref04_Of.f (a0 : ByteArray) : Option ByteArray :=
 (ref04_Start.f).bind fun y1 =>
 (ref04_Constants.f).bind fun y7 =>
 (ref04_With.f a0 y1 y7).bind fun y13 =>
 some y13

def ref11_Empty.f : Option ByteArray :=
 (ref04_Of.f (⟨#[0]⟩ : ByteArray)).bind fun y19 =>
 some y19

def ref11_Root.f (a0 : List Node) : Option ByteArray :=
 (ref11_Of.f a0).bind fun y2317 =>
 bif !y2317.ok_ then
  some (⟨#[]⟩ : ByteArray)
 else
  bif (a0.length : Int) == 0 then
   (ref11_Empty.f).bind fun y25 =>
   some y25
  else
   gd (0 ≤ (0 : Int) ∧ (0 : Int) < (y2317.h_.length : Int)) <|
   some (gt y2317.h_ 0)

def ref12_Walk.l0 (a0 : List Node) : Nat → (List Int × ByteArray × Int) → Option (List Int)
 | 0, _ => none
 | k + 1, (y458, y463, y464) =>
  bif decide (y464 < (a0.length : Int)) then
   gd (y458.length + 1 ≤ 274877906944) <|
   gd (0 ≤ y464 ∧ y464 < (a0.length : Int)) <|
   (
     (
       bif ((gt a0 y464).kind_) == 2 then
        (ref02_Common.f y463 ((gt a0 y464).path_)).bind fun y737 =>
        some (y737 == (((gt a0 y464).path_).size : Int))
       else
        some false).bind fun y732 =>
     bif y732 then
      gd (0 ≤ (((gt a0 y464).path_).size : Int) ∧ (((gt a0 y464).path_).size : Int) ≤ (y463.size : Int)) <|
      gd (0 ≤ (0 : Int) ∧ (0 : Int) < 16) <|
      some (vg ((gt a0 y464).kids_) 0, sub y463 (((gt a0 y464).path_).size : Int) (y463.size : Int))
     else
      (
        bif ((gt a0 y464).kind_) == 3 then
         some (decide ((y463.size : Int) > 0))
        else
         some false).bind fun y748 =>
      bif y748 then
       gd (0 ≤ (0 : Int) ∧ (0 : Int) < (y463.size : Int)) <|
       gd (0 ≤ bt y463 0 ∧ bt y463 0 < 16) <|
       gd (0 ≤ (1 : Int) ∧ (1 : Int) ≤ (y463.size : Int)) <|
       some (vg ((gt a0 y464).kids_) (bt y463 0), sub y463 1 (y463.size : Int))
      else
       some ((0 : Int), y463)).bind fun (y712, y713) =>
   bif y712 == 0 then
    some (y458 ++ [y464])
   else
    ref12_Walk.l0 a0 k (y458 ++ [y464], y713, y712)
  else
   some y458
def ref12_Walk.f (a0 : List Node) (a1 : ByteArray) : Option (List Int × Int) :=
 (ref10_Good.f a0).bind fun y1 =>
 bif !y1 then
  some (([] : List Int), 1)
 else
  (ref12_Key.f a1).bind fun y8 =>
  bif !y8 then
   some (([] : List Int), 9)
  else
   (ref02_Of.f a1).bind fun y15 =>
   (ref12_Walk.l0 a0 BIG (([] : List Int), y15, 0)).bind fun y607 =>
   some (y607, 0)

def ref16_Of.l0 (y761 : List Int) (y772 : ref11_All_T) : Nat → (List ByteArray × Int) → Option (List ByteArray)
 | 0, _ => none
 | k + 1, (y872, y877) =>
  bif decide (y877 < (y761.length : Int)) then
   gd (0 ≤ y877 ∧ y877 < (y761.length : Int)) <|
   gd (0 ≤ gt y761 y877 ∧ gt y761 y877 < (y772.i_.length : Int)) <|
   (ref09_Encode.f (gt y772.i_ (gt y761 y877))).bind fun y919 =>
   gd (y872.length + 1 ≤ 274877906944) <|
   ref16_Of.l0 y761 y772 k (y872 ++ [y919], w64 (y877 + 1))
  else
   some y872
def ref16_Of.f (a0 : List Node) (a1 : ByteArray) : Option (List ByteArray × Int) :=
 (ref12_Walk.f a0 a1).bind fun (y761, y762) =>
 bif y762 != 0 then
  some (([] : List ByteArray), y762)
 else
  (ref11_Of.f a0).bind fun y772 =>
  (ref16_Of.l0 y761 y772 BIG (([] : List ByteArray), 0)).bind fun y903 =>
  some (y903, y762)

def verify_may.f (a0 : ByteArray) : Option Bool :=
 (
   bif !(seq_ a0 (⟨#[]⟩ : ByteArray)) then
    some (decide ((a0.size : Int) ≤ 8))
   else
    some false).bind fun y3 =>
 some y3

def digest_Pad.l0 (a0 : Int) : Nat → (List Int × Int) → Option (List Int)
 | 0, _ => none
 | k + 1, (y44, y49) =>
  bif decide (y49 < 8) then
   gd (0 ≤ w64 (8 * (w64 (7 - y49)))) <|
   gd (y44.length + 1 ≤ 274877906944) <|
   digest_Pad.l0 a0 k (y44 ++ [wu8 (shr .u64 (wu64 ((wu64 (if 0 > a0 then 0 else a0)) * 8)) (w64 (8 * (w64 (7 - y49)))))], w64 (y49 + 1))
  else
   some y44
def digest_Pad.f (a0 : Int) : Option ByteArray :=
 gd (0 ≤ w64 (1 + (w64 (63 - ((w64 ((if 0 > a0 then 0 else a0) + 8)).tmod 64)))) ∧ w64 (1 + (w64 (63 - ((w64 ((if 0 > a0 then 0 else a0) + 8)).tmod 64)))) ≤ w64 ((w64 (1 + (w64 (63 - ((w64 ((if 0 > a0 then 0 else a0) + 8)).tmod 64))))) + 8) ∧ w64 ((w64 (1 + (w64 (63 - ((w64 ((if 0 > a0 then 0 else a0) + 8)).tmod 64))))) + 8) ≤ 274877906944) <|
 gd (0 ≤ (0 : Int) ∧ (0 : Int) < ((List.replicate (w64 (1 + (w64 (63 - ((w64 ((if 0 > a0 then 0 else a0) + 8)).tmod 64))))).toNat (0 : Int)).length : Int)) <|
 (digest_Pad.l0 a0 BIG ((List.replicate (w64 (1 + (w64 (63 - ((w64 ((if 0 > a0 then 0 else a0) + 8)).tmod 64))))).toNat (0 : Int)).set (0 : Int).toNat 128, 0)).bind fun y63 =>
 some (strOfNums y63)

def math_bits_RotateLeft32.f (a0 : Int) (a1 : Int) : Option Int :=
 gd (0 ≤ band .u64 (wu64 a1) 31) <|
 gd (0 ≤ wu64 (32 - (band .u64 (wu64 a1) 31))) <|
 some (bor .u32 (shl .u32 a0 (band .u64 (wu64 a1) 31)) (shr .u32 a0 (wu64 (32 - (band .u64 (wu64 a1) 31)))))

def digest_turned.f (a0 : Int) (a1 : Int) : Option Int :=
 (math_bits_RotateLeft32.f a0 (w64 (0 - a1))).bind fun y3 =>
 some y3

def digest_schedule.l0 (a0 : Vector Int 64) : Nat → (Vector Int 64 × Int) → Option (Vector Int 64)
 | 0, _ => none
 | k + 1, (y24, y25) =>
  bif decide (y25 < 64) then
   gd (0 ≤ w64 (y25.tdiv 4) ∧ w64 (y25.tdiv 4) < 64) <|
   gd (0 ≤ y25 ∧ y25 < 64) <|
   gd (0 ≤ w64 (y25.tdiv 4) ∧ w64 (y25.tdiv 4) < 64) <|
   digest_schedule.l0 a0 k (vset y24 (w64 (y25.tdiv 4)) (bor .u32 (shl .u32 (vg y24 (w64 (y25.tdiv 4))) 8) (wu32 (vg a0 y25))), w64 (y25 + 1))
  else
   some y24
def digest_schedule.l1 : Nat → (Vector Int 64 × Int) → Option (Vector Int 64)
 | 0, _ => none
 | k + 1, (y70, y71) =>
  bif decide (y71 < 64) then
   gd (0 ≤ w64 (y71 - 15) ∧ w64 (y71 - 15) < 64) <|
   gd (0 ≤ w64 (y71 - 2) ∧ w64 (y71 - 2) < 64) <|
   gd (0 ≤ w64 (y71 - 16) ∧ w64 (y71 - 16) < 64) <|
   gd (0 ≤ w64 (y71 - 7) ∧ w64 (y71 - 7) < 64) <|
   (digest_turned.f (vg y70 (w64 (y71 - 15))) 7).bind fun y116 =>
   (digest_turned.f (vg y70 (w64 (y71 - 15))) 18).bind fun y122 =>
   (digest_turned.f (vg y70 (w64 (y71 - 2))) 17).bind fun y128 =>
   (digest_turned.f (vg y70 (w64 (y71 - 2))) 19).bind fun y134 =>
   gd (0 ≤ y71 ∧ y71 < 64) <|
   digest_schedule.l1 k (vset y70 y71 (wu32 ((wu32 ((wu32 ((vg y70 (w64 (y71 - 16))) + (vg y70 (w64 (y71 - 7))))) + (bxor .u32 (bxor .u32 y116 y122) (shr .u32 (vg y70 (w64 (y71 - 15))) 3)))) + (bxor .u32 (bxor .u32 y128 y134) (shr .u32 (vg y70 (w64 (y71 - 2))) 10)))), w64 (y71 + 1))
  else
   some y70
def digest_schedule.f (a0 : Vector Int 64) : Option (Vector Int 64) :=
 (digest_schedule.l0 a0 BIG ((Vector.replicate 64 0 : Vector Int 64), 0)).bind fun y32 =>
 (digest_schedule.l1 BIG (y32, 16)).bind fun y105 =>
 some y105

def digest_Block.l0 (y144 : Vector Int 64) : Nat → (Vector Int 8 × Int) → Option (Vector Int 8)
 | 0, _ => none
 | k + 1, (y278, y279) =>
  bif decide (y279 < 64) then
   gd (0 ≤ (4 : Int) ∧ (4 : Int) < 8) <|
   gd (0 ≤ (0 : Int) ∧ (0 : Int) < 8) <|
   gd (0 ≤ (5 : Int) ∧ (5 : Int) < 8) <|
   gd (0 ≤ (6 : Int) ∧ (6 : Int) < 8) <|
   gd (0 ≤ (1 : Int) ∧ (1 : Int) < 8) <|
   gd (0 ≤ (2 : Int) ∧ (2 : Int) < 8) <|
   gd (0 ≤ (1 : Int) ∧ (1 : Int) < 8) <|
   gd (0 ≤ (2 : Int) ∧ (2 : Int) < 8) <|
   gd (0 ≤ (7 : Int) ∧ (7 : Int) < 8) <|
   gd (0 ≤ y279 ∧ y279 < 64) <|
   gd (0 ≤ y279 ∧ y279 < 64) <|
   (digest_turned.f (vg y278 4) 6).bind fun y358 =>
   (digest_turned.f (vg y278 4) 11).bind fun y364 =>
   (digest_turned.f (vg y278 4) 25).bind fun y370 =>
   (digest_turned.f (vg y278 0) 2).bind fun y376 =>
   (digest_turned.f (vg y278 0) 13).bind fun y382 =>
   (digest_turned.f (vg y278 0) 22).bind fun y388 =>
   gd (0 ≤ (0 : Int) ∧ (0 : Int) < 8) <|
   gd (0 ≤ (1 : Int) ∧ (1 : Int) < 8) <|
   gd (0 ≤ (2 : Int) ∧ (2 : Int) < 8) <|
   gd (0 ≤ (3 : Int) ∧ (3 : Int) < 8) <|
   gd (0 ≤ (4 : Int) ∧ (4 : Int) < 8) <|
   gd (0 ≤ (5 : Int) ∧ (5 : Int) < 8) <|
   gd (0 ≤ (6 : Int) ∧ (6 : Int) < 8) <|
   digest_Block.l0 y144 k ((#v[wu32 ((wu32 ((wu32 ((wu32 ((wu32 ((vg y278 7) + (bxor .u32 (bxor .u32 y358 y364) y370))) + (bxor .u32 (band .u32 (vg y278 4) (vg y278 5)) (band .u32 (bxor .u32 (if IntKind.signed .u32 then -1 else IntKind.max .u32) (vg y278 4)) (vg y278 6))))) + (vg glob_1 y279))) + (vg y144 y279))) + (wu32 ((bxor .u32 (bxor .u32 y376 y382) y388) + (bxor .u32 (bxor .u32 (band .u32 (vg y278 0) (vg y278 1)) (band .u32 (vg y278 0) (vg y278 2))) (band .u32 (vg y278 1) (vg y278 2)))))), vg y278 0, vg y278 1, vg y278 2, wu32 ((vg y278 3) + (wu32 ((wu32 ((wu32 ((wu32 ((vg y278 7) + (bxor .u32 (bxor .u32 y358 y364) y370))) + (bxor .u32 (band .u32 (vg y278 4) (vg y278 5)) (band .u32 (bxor .u32 (if IntKind.signed .u32 then -1 else IntKind.max .u32) (vg y278 4)) (vg y278 6))))) + (vg glob_1 y279))) + (vg y144 y279)))), vg y278 4, vg y278 5, vg y278 6] : Vector Int 8), w64 (y279 + 1))
  else
   some y278
def digest_Block.l1 (y339 : Vector Int 8) : Nat → (Vector Int 8 × Int) → Option (Vector Int 8)
 | 0, _ => none
 | k + 1, (y417, y418) =>
  bif decide (y418 < 8) then
   gd (0 ≤ y418 ∧ y418 < 8) <|
   gd (0 ≤ y418 ∧ y418 < 8) <|
   gd (0 ≤ y418 ∧ y418 < 8) <|
   digest_Block.l1 y339 k (vset y417 y418 (wu32 ((vg y417 y418) + (vg y339 y418))), w64 (y418 + 1))
  else
   some y417
def digest_Block.f (a0 : Vector Int 8) (a1 : Vector Int 64) : Option (Vector Int 8) :=
 (digest_schedule.f a1).bind fun y144 =>
 (digest_Block.l0 y144 BIG (a0, 0)).bind fun y339 =>
 (digest_Block.l1 y339 BIG (a0, 0)).bind fun y425 =>
 some y425

def digest_Of.l0 : Nat → (Vector Int 8 × ByteArray) → Option (Vector Int 8)
 | 0, _ => none
 | k + 1, (y465, y466) =>
  bif !(seq_ y466 (⟨#[]⟩ : ByteArray)) then
   gd (0 ≤ (64 : Int) ∧ (64 : Int) ≤ (y466.size : Int)) <|
   gd ((sub y466 0 64).size ≤ 274877906944) <|
   gd (64 ≤ (nums (sub y466 0 64)).length ∧ 0 < 64) <|
   (digest_Block.f y465 (vecN 64 (nums (sub y466 0 64)))).bind fun y499 =>
   gd (0 ≤ (64 : Int) ∧ (64 : Int) ≤ (y466.size : Int)) <|
   digest_Of.l0 k (y499, sub y466 64 (y466.size : Int))
  else
   some y465
def digest_Of.l1 (y485 : Vector Int 8) : Nat → (List Int × Int) → Option (List Int)
 | 0, _ => none
 | k + 1, (y557, y562) =>
  bif decide (y562 < 8) then
   gd (0 ≤ y562 ∧ y562 < 8) <|
   gd (y557.length + 4 ≤ 274877906944) <|
   digest_Of.l1 y485 k (y557 ++ [wu8 (shr .u32 (vg y485 y562) 24), wu8 (shr .u32 (vg y485 y562) 16), wu8 (shr .u32 (vg y485 y562) 8), wu8 (vg y485 y562)], w64 (y562 + 1))
  else
   some y557
def digest_Of.f (a0 : ByteArray) : Option ByteArray :=
 (digest_Pad.f (a0.size : Int)).bind fun y85 =>
 gd (a0.size + y85.size ≤ 9223372036854775807) <|
 (digest_Of.l0 BIG (glob_0, a0 ++ y85)).bind fun y485 =>
 (digest_Of.l1 y485 BIG (([] : List Int), 0)).bind fun y576 =>
 some (strOfNums y576)

def root_Empty.f : Option ByteArray :=
 (digest_Of.f (⟨#[0]⟩ : ByteArray)).bind fun y598 =>
 some y598

def nibble_Of.l0 (a0 : ByteArray) : Nat → (List Int × Int) → Option (List Int)
 | 0, _ => none
 | k + 1, (y43, y48) =>
  bif decide (y48 < (a0.size : Int)) then
   gd (0 ≤ y48 ∧ y48 < (a0.size : Int)) <|
   gd (0 ≤ y48 ∧ y48 < (a0.size : Int)) <|
   gd (y43.length + 2 ≤ 274877906944) <|
   nibble_Of.l0 a0 k (y43 ++ [shr .u8 (bt a0 y48) 4, band .u8 (bt a0 y48) 15], w64 (y48 + 1))
  else
   some y43
def nibble_Of.f (a0 : ByteArray) : Option ByteArray :=
 gd (0 ≤ w64 (2 * (a0.size : Int)) ∧ w64 (2 * (a0.size : Int)) ≤ 274877906944) <|
 (nibble_Of.l0 a0 BIG (([] : List Int), 0)).bind fun y64 =>
 some (strOfNums y64)

def node_reader_take.f (a0_p_s : ByteArray) (a1 : Int) : Option (ByteArray × ByteArray) :=
 gd (0 ≤ (if (a0_p_s.size : Int) < a1 then (a0_p_s.size : Int) else a1) ∧ (if (a0_p_s.size : Int) < a1 then (a0_p_s.size : Int) else a1) ≤ (a0_p_s.size : Int)) <|
 gd (0 ≤ (if (a0_p_s.size : Int) < a1 then (a0_p_s.size : Int) else a1) ∧ (if (a0_p_s.size : Int) < a1 then (a0_p_s.size : Int) else a1) ≤ (a0_p_s.size : Int)) <|
 some (sub a0_p_s 0 (if (a0_p_s.size : Int) < a1 then (a0_p_s.size : Int) else a1), sub a0_p_s (if (a0_p_s.size : Int) < a1 then (a0_p_s.size : Int) else a1) (a0_p_s.size : Int))

def node_reader_number.f (a0_p_s : ByteArray) : Option (Int × ByteArray) :=
 (node_reader_take.f a0_p_s 1).bind fun (y1, y2) =>
 bif !(seq_ y1 (⟨#[]⟩ : ByteArray)) then
  gd (0 ≤ (0 : Int) ∧ (0 : Int) < (y1.size : Int)) <|
  some (w64 (bt y1 0), y2)
 else
  some (0, y2)

def nibble_Unpack.f (a0 : ByteArray) : Option (ByteArray × Int × Bool) :=
 (
   bif seq_ a0 (⟨#[]⟩ : ByteArray) then
    some true
   else
    gd (0 ≤ (0 : Int) ∧ (0 : Int) < (a0.size : Int)) <|
    some (decide ((w64 (bt a0 0)) > 16))).bind fun y15 =>
 bif y15 then
  some ((⟨#[]⟩ : ByteArray), 0, false)
 else
  gd (0 ≤ (0 : Int) ∧ (0 : Int) < (a0.size : Int)) <|
  bif decide ((w64 (1 + (w64 ((w64 ((w64 (bt a0 0)) + 1)).tdiv 2)))) > (a0.size : Int)) then
   some ((⟨#[]⟩ : ByteArray), 0, false)
  else
   gd (0 ≤ (1 : Int) ∧ (1 : Int) ≤ w64 (1 + (w64 ((w64 ((w64 (bt a0 0)) + 1)).tdiv 2))) ∧ w64 (1 + (w64 ((w64 ((w64 (bt a0 0)) + 1)).tdiv 2))) ≤ (a0.size : Int)) <|
   (nibble_Of.f (sub a0 1 (w64 (1 + (w64 ((w64 ((w64 (bt a0 0)) + 1)).tdiv 2)))))).bind fun y24 =>
   (
     bif decide ((w64 (bt a0 0)) < (y24.size : Int)) then
      gd (0 ≤ w64 (bt a0 0) ∧ w64 (bt a0 0) < (y24.size : Int)) <|
      some ((bt y24 (w64 (bt a0 0))) != 0)
     else
      some false).bind fun y44 =>
   bif y44 then
    some ((⟨#[]⟩ : ByteArray), 0, false)
   else
    gd (0 ≤ w64 (bt a0 0) ∧ w64 (bt a0 0) ≤ (y24.size : Int)) <|
    some (sub y24 0 (w64 (bt a0 0)), w64 (1 + (w64 ((w64 ((w64 (bt a0 0)) + 1)).tdiv 2))), true)

def node_reader_path.f (a0_p_s : ByteArray) : Option (ByteArray × ByteArray) :=
 (nibble_Unpack.f a0_p_s).bind fun (y1, y2, y3) =>
 (node_reader_take.f a0_p_s y2).bind fun (y9, y10) =>
 some (y1, y10)

def node_reader_rest.l0 : Nat → (List ByteArray × ByteArray) → Option (List ByteArray × ByteArray)
 | 0, _ => none
 | k + 1, (y68, y73) =>
  bif !(seq_ y73 (⟨#[]⟩ : ByteArray)) then
   (node_reader_take.f y73 32).bind fun (y103, y104) =>
   gd (y68.length + 1 ≤ 274877906944) <|
   node_reader_rest.l0 k (y68 ++ [y103], y104)
  else
   some (y68, y73)
def node_reader_rest.f (a0_p_s : ByteArray) : Option (List ByteArray × ByteArray) :=
 (node_reader_rest.l0 BIG (([] : List ByteArray), a0_p_s)).bind fun (y93, y98) =>
 some (y93, y98)

def node_read.f (a0 : ByteArray) : Option Item :=
 (node_reader_number.f a0).bind fun (y10, y11) =>
 (
   bif y10 == 1 then
    (node_reader_path.f y11).bind fun (y177, y178) =>
    (node_reader_number.f y178).bind fun (y186, y187) =>
    (node_reader_take.f y187 y186).bind fun (y193, y194) =>
    some (y177, true, y193, (0 : Int), y194)
   else
    bif y10 == 2 then
     (node_reader_path.f y11).bind fun (y202, y203) =>
     some (y202, false, (⟨#[]⟩ : ByteArray), (1 : Int), y203)
    else
     bif y10 == 3 then
      (node_reader_number.f y11).bind fun (y212, y213) =>
      (node_reader_number.f y213).bind fun (y221, y222) =>
      (node_reader_number.f y222).bind fun (y229, y230) =>
      bif y229 == 1 then
       (node_reader_number.f y230).bind fun (y238, y239) =>
       (node_reader_take.f y239 y238).bind fun (y245, y246) =>
       some ((⟨#[]⟩ : ByteArray), y229 == 1, y245, bor .i64 (shl .i64 y212 8) y221, y246)
      else
       some ((⟨#[]⟩ : ByteArray), y229 == 1, (⟨#[]⟩ : ByteArray), bor .i64 (shl .i64 y212 8) y221, y230)
     else
      some ((⟨#[]⟩ : ByteArray), false, (⟨#[]⟩ : ByteArray), (0 : Int), y11)).bind fun (y169, y170, y171, y172, y173) =>
 (node_reader_rest.f y173).bind fun (y125, y126) =>
 some (⟨y10, y169, y170, y171, y172, y125⟩ : Item)

def math_bits_OnesCount64.f (a0 : Int) : Option Int :=
 some (band .i64 (w64 (wu64 ((wu64 ((wu64 ((band .u64 (wu64 ((shr .u64 (wu64 ((band .u64 (shr .u64 (wu64 ((band .u64 (shr .u64 a0 1) 6148914691236517205) + (band .u64 a0 6148914691236517205))) 2) 3689348814741910323) + (band .u64 (wu64 ((band .u64 (shr .u64 a0 1) 6148914691236517205) + (band .u64 a0 6148914691236517205))) 3689348814741910323))) 4) + (wu64 ((band .u64 (shr .u64 (wu64 ((band .u64 (shr .u64 a0 1) 6148914691236517205) + (band .u64 a0 6148914691236517205))) 2) 3689348814741910323) + (band .u64 (wu64 ((band .u64 (shr .u64 a0 1) 6148914691236517205) + (band .u64 a0 6148914691236517205))) 3689348814741910323))))) 1085102592571150095) + (shr .u64 (band .u64 (wu64 ((shr .u64 (wu64 ((band .u64 (shr .u64 (wu64 ((band .u64 (shr .u64 a0 1) 6148914691236517205) + (band .u64 a0 6148914691236517205))) 2) 3689348814741910323) + (band .u64 (wu64 ((band .u64 (shr .u64 a0 1) 6148914691236517205) + (band .u64 a0 6148914691236517205))) 3689348814741910323))) 4) + (wu64 ((band .u64 (shr .u64 (wu64 ((band .u64 (shr .u64 a0 1) 6148914691236517205) + (band .u64 a0 6148914691236517205))) 2) 3689348814741910323) + (band .u64 (wu64 ((band .u64 (shr .u64 a0 1) 6148914691236517205) + (band .u64 a0 6148914691236517205))) 3689348814741910323))))) 1085102592571150095) 8))) + (shr .u64 (wu64 ((band .u64 (wu64 ((shr .u64 (wu64 ((band .u64 (shr .u64 (wu64 ((band .u64 (shr .u64 a0 1) 6148914691236517205) + (band .u64 a0 6148914691236517205))) 2) 3689348814741910323) + (band .u64 (wu64 ((band .u64 (shr .u64 a0 1) 6148914691236517205) + (band .u64 a0 6148914691236517205))) 3689348814741910323))) 4) + (wu64 ((band .u64 (shr .u64 (wu64 ((band .u64 (shr .u64 a0 1) 6148914691236517205) + (band .u64 a0 6148914691236517205))) 2) 3689348814741910323) + (band .u64 (wu64 ((band .u64 (shr .u64 a0 1) 6148914691236517205) + (band .u64 a0 6148914691236517205))) 3689348814741910323))))) 1085102592571150095) + (shr .u64 (band .u64 (wu64 ((shr .u64 (wu64 ((band .u64 (shr .u64 (wu64 ((band .u64 (shr .u64 a0 1) 6148914691236517205) + (band .u64 a0 6148914691236517205))) 2) 3689348814741910323) + (band .u64 (wu64 ((band .u64 (shr .u64 a0 1) 6148914691236517205) + (band .u64 a0 6148914691236517205))) 3689348814741910323))) 4) + (wu64 ((band .u64 (shr .u64 (wu64 ((band .u64 (shr .u64 a0 1) 6148914691236517205) + (band .u64 a0 6148914691236517205))) 2) 3689348814741910323) + (band .u64 (wu64 ((band .u64 (shr .u64 a0 1) 6148914691236517205) + (band .u64 a0 6148914691236517205))) 3689348814741910323))))) 1085102592571150095) 8))) 16))) + (shr .u64 (wu64 ((wu64 ((band .u64 (wu64 ((shr .u64 (wu64 ((band .u64 (shr .u64 (wu64 ((band .u64 (shr .u64 a0 1) 6148914691236517205) + (band .u64 a0 6148914691236517205))) 2) 3689348814741910323) + (band .u64 (wu64 ((band .u64 (shr .u64 a0 1) 6148914691236517205) + (band .u64 a0 6148914691236517205))) 3689348814741910323))) 4) + (wu64 ((band .u64 (shr .u64 (wu64 ((band .u64 (shr .u64 a0 1) 6148914691236517205) + (band .u64 a0 6148914691236517205))) 2) 3689348814741910323) + (band .u64 (wu64 ((band .u64 (shr .u64 a0 1) 6148914691236517205) + (band .u64 a0 6148914691236517205))) 3689348814741910323))))) 1085102592571150095) + (shr .u64 (band .u64 (wu64 ((shr .u64 (wu64 ((band .u64 (shr .u64 (wu64 ((band .u64 (shr .u64 a0 1) 6148914691236517205) + (band .u64 a0 6148914691236517205))) 2) 3689348814741910323) + (band .u64 (wu64 ((band .u64 (shr .u64 a0 1) 6148914691236517205) + (band .u64 a0 6148914691236517205))) 3689348814741910323))) 4) + (wu64 ((band .u64 (shr .u64 (wu64 ((band .u64 (shr .u64 a0 1) 6148914691236517205) + (band .u64 a0 6148914691236517205))) 2) 3689348814741910323) + (band .u64 (wu64 ((band .u64 (shr .u64 a0 1) 6148914691236517205) + (band .u64 a0 6148914691236517205))) 3689348814741910323))))) 1085102592571150095) 8))) + (shr .u64 (wu64 ((band .u64 (wu64 ((shr .u64 (wu64 ((band .u64 (shr .u64 (wu64 ((band .u64 (shr .u64 a0 1) 6148914691236517205) + (band .u64 a0 6148914691236517205))) 2) 3689348814741910323) + (band .u64 (wu64 ((band .u64 (shr .u64 a0 1) 6148914691236517205) + (band .u64 a0 6148914691236517205))) 3689348814741910323))) 4) + (wu64 ((band .u64 (shr .u64 (wu64 ((band .u64 (shr .u64 a0 1) 6148914691236517205) + (band .u64 a0 6148914691236517205))) 2) 3689348814741910323) + (band .u64 (wu64 ((band .u64 (shr .u64 a0 1) 6148914691236517205) + (band .u64 a0 6148914691236517205))) 3689348814741910323))))) 1085102592571150095) + (shr .u64 (band .u64 (wu64 ((shr .u64 (wu64 ((band .u64 (shr .u64 (wu64 ((band .u64 (shr .u64 a0 1) 6148914691236517205) + (band .u64 a0 6148914691236517205))) 2) 3689348814741910323) + (band .u64 (wu64 ((band .u64 (shr .u64 a0 1) 6148914691236517205) + (band .u64 a0 6148914691236517205))) 3689348814741910323))) 4) + (wu64 ((band .u64 (shr .u64 (wu64 ((band .u64 (shr .u64 a0 1) 6148914691236517205) + (band .u64 a0 6148914691236517205))) 2) 3689348814741910323) + (band .u64 (wu64 ((band .u64 (shr .u64 a0 1) 6148914691236517205) + (band .u64 a0 6148914691236517205))) 3689348814741910323))))) 1085102592571150095) 8))) 16))) 32)))) 127)

def math_bits_OnesCount.f (a0 : Int) : Option Int :=
 (math_bits_OnesCount64.f a0).bind fun y1 =>
 some y1

def node_hashes_c1.f (a0 : ByteArray) : Option Bool :=
 some ((a0.size : Int) != 32)

def slices_IndexFunc_string_node_hashes_c1.l0 (a0 : List ByteArray) : Nat → Int → Option (Unit ⊕ Int)
 | 0, _ => none
 | k + 1, y18 =>
  bif decide (y18 < (a0.length : Int)) then
   gd (0 ≤ y18 ∧ y18 < (a0.length : Int)) <|
   (node_hashes_c1.f (gt a0 y18)).bind fun y33 =>
   bif y33 then
    some (.inr y18)
   else
    slices_IndexFunc_string_node_hashes_c1.l0 a0 k (w64 (y18 + 1))
  else
   some (.inl ())
def slices_IndexFunc_string_node_hashes_c1.f (a0 : List ByteArray) : Option Int :=
 (slices_IndexFunc_string_node_hashes_c1.l0 a0 BIG 0).bind fun
 | .inl () =>
  some (-1)
 | .inr r41 =>
  some r41

def slices_ContainsFunc_string_node_hashes_c1.f (a0 : List ByteArray) : Option Bool :=
 (slices_IndexFunc_string_node_hashes_c1.f a0).bind fun y42 =>
 some (decide (y42 ≥ 0))

def node_hashes.f (a0 : Item) : Option Bool :=
 (
   (math_bits_OnesCount.f (wu64 a0.mask_)).bind fun y72 =>
   bif y72 == (a0.hashes_.length : Int) then
    (slices_ContainsFunc_string_node_hashes_c1.f a0.hashes_).bind fun y79 =>
    some (!y79)
   else
    some false).bind fun y68 =>
 some y68

def nibble_small.l0 (a0 : ByteArray) : Nat → Int → Option (Unit ⊕ Bool)
 | 0, _ => none
 | k + 1, y8 =>
  bif decide (y8 < (a0.size : Int)) then
   gd (0 ≤ y8 ∧ y8 < (a0.size : Int)) <|
   bif decide ((bt a0 y8) > 15) then
    some (.inr false)
   else
    nibble_small.l0 a0 k (w64 (y8 + 1))
  else
   some (.inl ())
def nibble_small.f (a0 : ByteArray) : Option Bool :=
 (nibble_small.l0 a0 BIG 0).bind fun
 | .inl () =>
  some true
 | .inr r19 =>
  some r19

def nibble_Good.f (a0 : ByteArray) : Option Bool :=
 (
   bif decide ((a0.size : Int) ≤ 16) then
    (nibble_small.f a0).bind fun y37 =>
    some y37
   else
    some false).bind fun y33 =>
 some y33

def node_Good.f (a0 : Item) : Option Bool :=
 (
   bif decide (a0.mask_ < 0) then
    some true
   else
    bif decide (a0.mask_ ≥ 65536) then
     some true
    else
     (node_hashes.f a0).bind fun y160 =>
     bif !y160 then
      some true
     else
      bif decide ((a0.value_.size : Int) > 16) then
       some true
      else
       bif !a0.has_ then
        bif !(seq_ a0.value_ (⟨#[]⟩ : ByteArray)) then
         some true
        else
         (nibble_Good.f a0.path_).bind fun y170 =>
         some (!y170)
       else
        (nibble_Good.f a0.path_).bind fun y176 =>
        some (!y176)).bind fun y155 =>
 bif y155 then
  some false
 else
  bif a0.kind_ == 1 then
   some (eq_node_face_T (⟨a0.kind_, a0.path_, a0.has_, a0.value_, a0.mask_⟩ : node_face_T) (⟨1, a0.path_, true, a0.value_, 0⟩ : node_face_T))
  else
   bif a0.kind_ == 2 then
    (
      bif eq_node_face_T (⟨a0.kind_, a0.path_, a0.has_, a0.value_, a0.mask_⟩ : node_face_T) (⟨2, a0.path_, false, (⟨#[]⟩ : ByteArray), 1⟩ : node_face_T) then
       some (!(seq_ a0.path_ (⟨#[]⟩ : ByteArray)))
      else
       some false).bind fun y191 =>
    some y191
   else
    bif a0.kind_ == 3 then
     (
       bif seq_ a0.path_ (⟨#[]⟩ : ByteArray) then
        bif decide ((a0.hashes_.length : Int) > 1) then
         some true
        else
         bif a0.has_ then
          some (decide ((a0.hashes_.length : Int) > 0))
         else
          some false
       else
        some false).bind fun y202 =>
     some y202
    else
     some false

def nibble_two.l0 (a0 : ByteArray) : Nat → (List Int × Int) → Option (List Int)
 | 0, _ => none
 | k + 1, (y33, y38) =>
  bif decide (y38 < (a0.size : Int)) then
   gd (0 ≤ y38.tmod 2 ∧ y38.tmod 2 < 2) <|
   gd (0 ≤ w64 (y38.tdiv 2) ∧ w64 (y38.tdiv 2) < (y33.length : Int)) <|
   gd (0 ≤ y38 ∧ y38 < (a0.size : Int)) <|
   gd (0 ≤ vg (#v[4, 0] : Vector Int 2) (y38.tmod 2)) <|
   gd (0 ≤ w64 (y38.tdiv 2) ∧ w64 (y38.tdiv 2) < (y33.length : Int)) <|
   nibble_two.l0 a0 k (y33.set (w64 (y38.tdiv 2)).toNat (bor .u8 (gt y33 (w64 (y38.tdiv 2))) (shl .u8 (bt a0 y38) (vg (#v[4, 0] : Vector Int 2) (y38.tmod 2)))), w64 (y38 + 1))
  else
   some y33
def nibble_two.f (a0 : ByteArray) : Option ByteArray :=
 gd (0 ≤ w64 ((w64 ((a0.size : Int) + 1)).tdiv 2) ∧ w64 ((w64 ((a0.size : Int) + 1)).tdiv 2) ≤ 274877906944) <|
 (nibble_two.l0 a0 BIG (List.replicate (w64 ((w64 ((a0.size : Int) + 1)).tdiv 2)).toNat 0, 0)).bind fun y49 =>
 some (strOfNums y49)

def nibble_Pack.f (a0 : ByteArray) : Option (ByteArray × Bool) :=
 (nibble_Good.f a0).bind fun y1 =>
 bif !y1 then
  some ((⟨#[]⟩ : ByteArray), false)
 else
  (nibble_two.f a0).bind fun y68 =>
  gd ((strOfNums [wu8 (a0.size : Int)]).size + y68.size ≤ 9223372036854775807) <|
  some ((strOfNums [wu8 (a0.size : Int)]) ++ y68, true)

def node_value.f (a0 : ByteArray) : Option ByteArray :=
 gd ((strOfNums [wu8 (a0.size : Int)]).size + a0.size ≤ 9223372036854775807) <|
 some ((strOfNums [wu8 (a0.size : Int)]) ++ a0)

def node_Encode.f (a0 : Item) : Option (ByteArray × Bool) :=
 (node_Good.f a0).bind fun y208 =>
 bif !y208 then
  some ((⟨#[]⟩ : ByteArray), false)
 else
  (nibble_Pack.f a0.path_).bind fun (y94, y95) =>
  (strings_Join.f a0.hashes_ (⟨#[]⟩ : ByteArray)).bind fun y103 =>
  bif a0.kind_ == 1 then
   gd ((strOfNums [wu8 a0.kind_]).size + y94.size ≤ 9223372036854775807) <|
   (node_value.f a0.value_).bind fun y7 =>
   gd (((strOfNums [wu8 a0.kind_]) ++ y94).size + y7.size ≤ 9223372036854775807) <|
   some (((strOfNums [wu8 a0.kind_]) ++ y94) ++ y7, true)
  else
   bif a0.kind_ == 2 then
    gd ((strOfNums [wu8 a0.kind_]).size + y94.size ≤ 9223372036854775807) <|
    gd (((strOfNums [wu8 a0.kind_]) ++ y94).size + y103.size ≤ 9223372036854775807) <|
    some (((strOfNums [wu8 a0.kind_]) ++ y94) ++ y103, true)
   else
    gd ((strOfNums [wu8 a0.kind_]).size + (strOfNums [wu8 (shr .i64 a0.mask_ 8), wu8 a0.mask_]).size ≤ 9223372036854775807) <|
    bif !a0.has_ then
     gd (((strOfNums [wu8 a0.kind_]) ++ (strOfNums [wu8 (shr .i64 a0.mask_ 8), wu8 a0.mask_])).size + (⟨#[0]⟩ : ByteArray).size ≤ 9223372036854775807) <|
     gd ((((strOfNums [wu8 a0.kind_]) ++ (strOfNums [wu8 (shr .i64 a0.mask_ 8), wu8 a0.mask_])) ++ (⟨#[0]⟩ : ByteArray)).size + y103.size ≤ 9223372036854775807) <|
     some ((((strOfNums [wu8 a0.kind_]) ++ (strOfNums [wu8 (shr .i64 a0.mask_ 8), wu8 a0.mask_])) ++ (⟨#[0]⟩ : ByteArray)) ++ y103, true)
    else
     gd (((strOfNums [wu8 a0.kind_]) ++ (strOfNums [wu8 (shr .i64 a0.mask_ 8), wu8 a0.mask_])).size + (⟨#[1]⟩ : ByteArray).size ≤ 9223372036854775807) <|
     (node_value.f a0.value_).bind fun y27 =>
     gd ((((strOfNums [wu8 a0.kind_]) ++ (strOfNums [wu8 (shr .i64 a0.mask_ 8), wu8 a0.mask_])) ++ (⟨#[1]⟩ : ByteArray)).size + y27.size ≤ 9223372036854775807) <|
     gd (((((strOfNums [wu8 a0.kind_]) ++ (strOfNums [wu8 (shr .i64 a0.mask_ 8), wu8 a0.mask_])) ++ (⟨#[1]⟩ : ByteArray)) ++ y27).size + y103.size ≤ 9223372036854775807) <|
     some (((((strOfNums [wu8 a0.kind_]) ++ (strOfNums [wu8 (shr .i64 a0.mask_ 8), wu8 a0.mask_])) ++ (⟨#[1]⟩ : ByteArray)) ++ y27) ++ y103, true)

def node_Decode.f (a0 : ByteArray) : Option (Item × Bool) :=
 (node_read.f a0).bind fun y137 =>
 (node_Encode.f y137).bind fun (y50, y51) =>
 (
   bif !y51 then
    some true
   else
    some (!(seq_ y50 a0))).bind fun y59 =>
 bif y59 then
  some ((⟨0, (⟨#[]⟩ : ByteArray), false, (⟨#[]⟩ : ByteArray), 0, ([] : List ByteArray)⟩ : Item), false)
 else
  some (y137, true)

def internal_stringslite_HasPrefix.f (a0 : ByteArray) (a1 : ByteArray) : Option Bool :=
 (
   bif decide ((a0.size : Int) ≥ (a1.size : Int)) then
    gd (0 ≤ (a1.size : Int) ∧ (a1.size : Int) ≤ (a0.size : Int)) <|
    some (seq_ (sub a0 0 (a1.size : Int)) a1)
   else
    some false).bind fun y5 =>
 some y5

def internal_stringslite_CutPrefix.f (a0 : ByteArray) (a1 : ByteArray) : Option (ByteArray × Bool) :=
 (internal_stringslite_HasPrefix.f a0 a1).bind fun y10 =>
 bif !y10 then
  some (a0, false)
 else
  gd (0 ≤ (a1.size : Int) ∧ (a1.size : Int) ≤ (a0.size : Int)) <|
  some (sub a0 (a1.size : Int) (a0.size : Int), true)

def strings_CutPrefix.f (a0 : ByteArray) (a1 : ByteArray) : Option (ByteArray × Bool) :=
 (internal_stringslite_CutPrefix.f a0 a1).bind fun (y18, y19) =>
 some (y18, y19)

def verify_over.f (a0 : Answer) : Option verify_state_T :=
 some (⟨(⟨#[]⟩ : ByteArray), (⟨#[]⟩ : ByteArray), true, a0⟩ : verify_state_T)

def verify_kid.f (a0 : Item) (a1 : Int) : Option (ByteArray × Bool) :=
 gd (0 ≤ a1) <|
 bif (band .i64 (shr .i64 a0.mask_ a1) 1) == 0 then
  some ((⟨#[]⟩ : ByteArray), false)
 else
  gd (0 ≤ a1) <|
  (math_bits_OnesCount.f (band .u64 (wu64 a0.mask_) (wu64 ((shl .u64 1 a1) - 1)))).bind fun y8 =>
  gd (0 ≤ y8 ∧ y8 < (a0.hashes_.length : Int)) <|
  some (gt a0.hashes_ y8, true)

def verify_state_by.f (a0 : verify_state_T) (a1 : Item) : Option verify_state_T :=
 bif a1.kind_ == 2 then
  (strings_CutPrefix.f a0.p_left_ a1.path_).bind fun (y25, y26) =>
  bif !y26 then
   (verify_over.f (⟨false, (⟨#[]⟩ : ByteArray)⟩ : Answer)).bind fun y8 =>
   some y8
  else
   gd (0 ≤ (0 : Int) ∧ (0 : Int) < (a1.hashes_.length : Int)) <|
   some (⟨y25, gt a1.hashes_ 0, false, (⟨false, (⟨#[]⟩ : ByteArray)⟩ : Answer)⟩ : verify_state_T)
 else
  bif seq_ a0.p_left_ a1.path_ then
   (verify_over.f (⟨a1.has_, a1.value_⟩ : Answer)).bind fun y18 =>
   some y18
  else
   bif a1.kind_ == 1 then
    (verify_over.f (⟨false, (⟨#[]⟩ : ByteArray)⟩ : Answer)).bind fun y26 =>
    some y26
   else
    gd (0 ≤ (0 : Int) ∧ (0 : Int) < (a0.p_left_.size : Int)) <|
    (verify_kid.f a1 (bt a0.p_left_ 0)).bind fun (y15, y16) =>
    bif !y16 then
     (verify_over.f (⟨false, (⟨#[]⟩ : ByteArray)⟩ : Answer)).bind fun y23 =>
     some y23
    else
     gd (0 ≤ (1 : Int) ∧ (1 : Int) ≤ (a0.p_left_.size : Int)) <|
     some (⟨sub a0.p_left_ 1 (a0.p_left_.size : Int), y15, false, (⟨false, (⟨#[]⟩ : ByteArray)⟩ : Answer)⟩ : verify_state_T)

def verify_steps.l0 (a2 : List ByteArray) : Nat → (ByteArray × ByteArray × Bool × Bool × ByteArray × Int) → Option ((ByteArray × ByteArray × Bool × Bool × ByteArray) ⊕ (Int × verify_state_T))
 | 0, _ => none
 | k + 1, (y310, y311, y312, y313, y314, y315) =>
  bif decide (y315 < (a2.length : Int)) then
   gd (0 ≤ y315 ∧ y315 < (a2.length : Int)) <|
   (node_Decode.f (gt a2 y315)).bind fun (y592, y593) =>
   (
     bif y312 then
      some true
     else
      bif !y593 then
       some true
      else
       (digest_Of.f (gt a2 y315)).bind fun y663 =>
       some (!(seq_ y663 y311))).bind fun y657 =>
   bif y657 then
    some (.inr (y315, (⟨y310, y311, y312, (⟨y313, y314⟩ : Answer)⟩ : verify_state_T)))
   else
    (verify_state_by.f (⟨y310, y311, y312, (⟨y313, y314⟩ : Answer)⟩ : verify_state_T) y592).bind fun y672 =>
    verify_steps.l0 a2 k (y672.p_left_, y672.p_hash_, y672.p_over_, y672.p_answer_.has_, y672.p_answer_.value_, w64 (y315 + 1))
  else
   some (.inl (y310, y311, y312, y313, y314))
def verify_steps.f (a0 : ByteArray) (a1 : ByteArray) (a2 : List ByteArray) : Option (Int × verify_state_T) :=
 (nibble_Of.f a1).bind fun y88 =>
 (verify_steps.l0 a2 BIG (y88, a0, false, false, (⟨#[]⟩ : ByteArray), 0)).bind fun
 | .inl (y494, y495, y496, y497, y498) =>
  some ((a2.length : Int), (⟨y494, y495, y496, (⟨y497, y498⟩ : Answer)⟩ : verify_state_T))
 | .inr r682 =>
  some r682

def verify_Of.f (a0 : ByteArray) (a1 : ByteArray) (a2 : List ByteArray) : Option (Answer × Bool) :=
 (verify_may.f a1).bind fun y7 =>
 bif !y7 then
  some ((⟨false, (⟨#[]⟩ : ByteArray)⟩ : Answer), false)
 else
  bif (a2.length : Int) == 0 then
   (root_Empty.f).bind fun y604 =>
   some ((⟨false, (⟨#[]⟩ : ByteArray)⟩ : Answer), seq_ a0 y604)
  else
   (verify_steps.f a0 a1 a2).bind fun (y683, y684) =>
   (
     bif eq_Answer y684.p_answer_ (⟨false, (⟨#[]⟩ : ByteArray)⟩ : Answer) then
      bif !y684.p_over_ then
       some true
      else
       some (decide (y683 < (a2.length : Int)))
     else
      some (decide (y683 < (a2.length : Int)))).bind fun y709 =>
   bif y709 then
    some ((⟨false, (⟨#[]⟩ : ByteArray)⟩ : Answer), false)
   else
    some (y684.p_answer_, true)

def verify_Steps.f (a0 : ByteArray) (a1 : ByteArray) (a2 : List ByteArray) : Option Int :=
 (verify_may.f a1).bind fun y1 =>
 bif !y1 then
  some 0
 else
  (verify_steps.f a0 a1 a2).bind fun (y8, y9) =>
  some y8

def law17_wakes.f : Option Bool :=
 (ref10_Build.f [(⟨(⟨#[97]⟩ : ByteArray), (⟨#[49]⟩ : ByteArray)⟩ : Pair), (⟨(⟨#[98]⟩ : ByteArray), (⟨#[]⟩ : ByteArray)⟩ : Pair)]).bind fun y1106 =>
 (ref11_Root.f y1106.t_).bind fun y32 =>
 (ref16_Of.f y1106.t_ (⟨#[97]⟩ : ByteArray)).bind fun (y940, y941) =>
 (ref16_Of.f y1106.t_ (⟨#[99]⟩ : ByteArray)).bind fun (y950, y951) =>
 (verify_Of.f y32 (⟨#[97]⟩ : ByteArray) y940).bind fun (y717, y718) =>
 (verify_Of.f y32 (⟨#[99]⟩ : ByteArray) y950).bind fun (y728, y729) =>
 (verify_Of.f y32 (⟨#[97]⟩ : ByteArray) y950).bind fun (y739, y740) =>
 gd (([] : List ByteArray).length + y940.length ≤ 274877906944) <|
 gd ((([] : List ByteArray) ++ y940).length + 1 ≤ 274877906944) <|
 (verify_Of.f y32 (⟨#[97]⟩ : ByteArray) ((([] : List ByteArray) ++ y940) ++ [(⟨#[120]⟩ : ByteArray)])).bind fun (y775, y776) =>
 (ref11_Empty.f).bind fun y786 =>
 (verify_Of.f y786 (⟨#[97]⟩ : ByteArray) ([] : List ByteArray)).bind fun (y792, y793) =>
 (verify_Of.f y32 (⟨#[97]⟩ : ByteArray) ([] : List ByteArray)).bind fun (y803, y804) =>
 (
   bif y718 then
    bif eq_Answer y717 (⟨true, (⟨#[49]⟩ : ByteArray)⟩ : Answer) then
     bif y729 then
      bif eq_Answer y728 (⟨false, (⟨#[]⟩ : ByteArray)⟩ : Answer) then
       bif !y740 then
        bif !y776 then
         bif y793 then
          bif eq_Answer y792 (⟨false, (⟨#[]⟩ : ByteArray)⟩ : Answer) then
           bif !y804 then
            (verify_Steps.f y32 (⟨#[97]⟩ : ByteArray) y950).bind fun y66 =>
            bif y66 == 2 then
             (verify_Steps.f y32 (⟨#[]⟩ : ByteArray) y940).bind fun y73 =>
             some (y73 == 0)
            else
             some false
           else
            some false
          else
           some false
         else
          some false
        else
         some false
       else
        some false
      else
       some false
     else
      some false
    else
     some false
   else
    some false).bind fun y54 =>
 some y54

def nibble_Key.f (a0 : ByteArray) : Option (ByteArray × Bool) :=
 (
   bif ((a0.size : Int).tmod 2) != 0 then
    some true
   else
    (nibble_small.f a0).bind fun y44 =>
    some (!y44)).bind fun y40 =>
 bif y40 then
  some ((⟨#[]⟩ : ByteArray), false)
 else
  (nibble_two.f a0).bind fun y51 =>
  some (y51, true)

def trie_walker_pair.f (a0_p_t : List Node) (a0_p_next : Int) (a0_p_l : List Pair) (a0_p_paths : List ByteArray) (a1 : ByteArray) (a2 : ByteArray) : Option (Bool × List Pair) :=
 (nibble_Key.f a1).bind fun (y1, y2) =>
 gd (a0_p_l.length + 1 ≤ 274877906944) <|
 some (y2, a0_p_l ++ [(⟨y1, a2⟩ : Pair)])

def trie_walker_walk.l0 (a0_p_t : List Node) (a1 : Int) (a2 : ByteArray) (rec_trie_walker_walk : (List Node) → Int → (List Pair) → (List ByteArray) → Int → ByteArray → Option (Bool × Int × List Pair × List ByteArray)) : Nat → (List Pair × List ByteArray × Int × Int) → Option ((List Pair × List ByteArray × Int) ⊕ (Bool × Int × List Pair × List ByteArray))
 | 0, _ => none
 | k + 1, (y520, y525, y530, y531) =>
  bif decide (y531 < 16) then
   gd (0 ≤ y531 ∧ y531 < 16) <|
   (
     bif ((gt a0_p_t a1).kind_) == 3 then
      gd ((a2 ++ ((gt a0_p_t a1).path_)).size + (strOfNums [wu8 y531]).size ≤ 9223372036854775807) <|
      some ((a2 ++ ((gt a0_p_t a1).path_)) ++ (strOfNums [wu8 y531]))
     else
      some (a2 ++ ((gt a0_p_t a1).path_))).bind fun y845 =>
   (
     bif (vg ((gt a0_p_t a1).kids_) y531) != 0 then
      (rec_trie_walker_walk a0_p_t y530 y520 y525 (vg ((gt a0_p_t a1).kids_) y531) y845).bind fun (y906, y907, y908, y909) =>
      some (y908, y909, y907, !y906)
     else
      some (y520, y525, y530, false)).bind fun (y891, y896, y901, y902) =>
   bif y902 then
    some (.inr (false, y901, y891, y896))
   else
    trie_walker_walk.l0 a0_p_t a1 a2 rec_trie_walker_walk k (y891, y896, y901, w64 (y531 + 1))
  else
   some (.inl (y520, y525, y530))
def trie_walker_walk.f : Nat → (List Node) → Int → (List Pair) → (List ByteArray) → Int → ByteArray → Option (Bool × Int × List Pair × List ByteArray)
 | 0, _, _, _, _, _, _ => none
 | kk + 1, a0_p_t, a0_p_next, a0_p_l, a0_p_paths, a1, a2 =>
  (
    bif a1 != a0_p_next then
     some true
    else
     bif decide (a1 ≥ (a0_p_t.length : Int)) then
      some true
     else
      some (decide ((a2.size : Int) > 16))).bind fun y15 =>
  bif y15 then
   some (false, a0_p_next, a0_p_l, a0_p_paths)
  else
   gd (a0_p_paths.length + 1 ≤ 274877906944) <|
   gd (0 ≤ a1 ∧ a1 < (a0_p_t.length : Int)) <|
   gd (a2.size + ((gt a0_p_t a1).path_).size ≤ 9223372036854775807) <|
   (
     bif (gt a0_p_t a1).has_ then
      (trie_walker_pair.f a0_p_t (w64 (a0_p_next + 1)) a0_p_l (a0_p_paths ++ [a2]) (a2 ++ ((gt a0_p_t a1).path_)) ((gt a0_p_t a1).value_)).bind fun (y118, y119) =>
      some (y119, !y118)
     else
      some (a0_p_l, false)).bind fun (y109, y114) =>
   bif y114 then
    some (false, w64 (a0_p_next + 1), y109, a0_p_paths ++ [a2])
   else
    (trie_walker_walk.l0 a0_p_t a1 a2 (trie_walker_walk.f kk) BIG (y109, a0_p_paths ++ [a2], w64 (a0_p_next + 1), 0)).bind fun
    | .inl (y721, y726, y731) =>
     some (true, y731, y721, y726)
    | .inr r925 =>
     some r925

def trie_may.l0 (a0 : List Pair) : Nat → Int → Option (Unit ⊕ Bool)
 | 0, _ => none
 | k + 1, y112 =>
  bif decide (y112 < (a0.length : Int)) then
   gd (0 ≤ y112 ∧ y112 < (a0.length : Int)) <|
   (
     bif seq_ ((gt a0 y112).key_) (⟨#[]⟩ : ByteArray) then
      some true
     else
      bif decide ((((gt a0 y112).key_).size : Int) > 8) then
       some true
      else
       bif decide ((((gt a0 y112).value_).size : Int) > 16) then
        some true
       else
        bif decide (y112 > 0) then
         gd (0 ≤ w64 (y112 - 1) ∧ w64 (y112 - 1) < (a0.length : Int)) <|
         some (slt ((gt a0 y112).key_) ((gt a0 (w64 (y112 - 1))).key_) || seq_ ((gt a0 y112).key_) ((gt a0 (w64 (y112 - 1))).key_))
        else
         some false).bind fun y216 =>
   bif y216 then
    some (.inr false)
   else
    trie_may.l0 a0 k (w64 (y112 + 1))
  else
   some (.inl ())
def trie_may.f (a0 : List Pair) : Option Bool :=
 (trie_may.l0 a0 BIG 0).bind fun
 | .inl () =>
  some true
 | .inr r227 =>
  some r227

def nibble_Common.l0 (a0 : ByteArray) (a1 : ByteArray) : Nat → Int → Option Int
 | 0, _ => none
 | k + 1, y66 =>
  (
    bif decide (y66 < (if (a1.size : Int) < (a0.size : Int) then (a1.size : Int) else (a0.size : Int))) then
     gd (0 ≤ y66 ∧ y66 < (a0.size : Int)) <|
     gd (0 ≤ y66 ∧ y66 < (a1.size : Int)) <|
     some ((bt a0 y66) == (bt a1 y66))
    else
     some false).bind fun y127 =>
  bif y127 then
   nibble_Common.l0 a0 a1 k (w64 (y66 + 1))
  else
   some y66
def nibble_Common.f (a0 : ByteArray) (a1 : ByteArray) : Option Int :=
 (nibble_Common.l0 a0 a1 BIG 0).bind fun y99 =>
 some y99

def trie_builder_branch.l1 (a0_p_n : List ByteArray) (a2 : Int) (a3 : Int) (y298 : Int) : Nat → Int → Option Int
 | 0, _ => none
 | k + 1, y491 =>
  (
    bif decide (y491 < a2) then
     gd (0 ≤ y491 ∧ y491 < (a0_p_n.length : Int)) <|
     gd (0 ≤ a3 ∧ a3 < ((gt a0_p_n y491).size : Int)) <|
     some ((bt (gt a0_p_n y491) a3) == (bt (gt a0_p_n y298) a3))
    else
     some false).bind fun y541 =>
  bif y541 then
   trie_builder_branch.l1 a0_p_n a2 a3 y298 k (w64 (y491 + 1))
  else
   some y491
def trie_builder_branch.l0 (a0_p_l : List Pair) (a0_p_n : List ByteArray) (a2 : Int) (a3 : Int) (rec_trie_builder_build : (List Pair) → (List ByteArray) → (List Node) → Int → Int → Int → Option (Int × List Node)) : Nat → (List Node × Vector Int 16 × Int) → Option (List Node × Vector Int 16)
 | 0, _ => none
 | k + 1, (y292, y297, y298) =>
  bif decide (y298 < a2) then
   gd (0 ≤ y298 ∧ y298 < (a0_p_n.length : Int)) <|
   gd (0 ≤ a3 ∧ a3 < ((gt a0_p_n y298).size : Int)) <|
   (trie_builder_branch.l1 a0_p_n a2 a3 y298 BIG y298).bind fun y518 =>
   (rec_trie_builder_build a0_p_l a0_p_n y292 y298 y518 (w64 (a3 + 1))).bind fun (y549, y550) =>
   gd (0 ≤ bt (gt a0_p_n y298) a3 ∧ bt (gt a0_p_n y298) a3 < 16) <|
   trie_builder_branch.l0 a0_p_l a0_p_n a2 a3 rec_trie_builder_build k (y550, vset y297 (bt (gt a0_p_n y298) a3) y549, y518)
  else
   some (y292, y297)
mutual
def trie_builder_build.f : Nat → (List Pair) → (List ByteArray) → (List Node) → Int → Int → Int → Option (Int × List Node)
 | 0, _, _, _, _, _, _ => none
 | kk + 1, a0_p_l, a0_p_n, a0_p_t, a1, a2, a3 =>
  gd (a0_p_t.length + 1 ≤ 274877906944) <|
  gd (0 ≤ a1 ∧ a1 < (a0_p_n.length : Int)) <|
  gd (0 ≤ a3 ∧ a3 ≤ ((gt a0_p_n a1).size : Int)) <|
  bif (w64 (a2 - a1)) == 1 then
   gd (0 ≤ a1 ∧ a1 < (a0_p_l.length : Int)) <|
   gd (0 ≤ (a0_p_t.length : Int) ∧ (a0_p_t.length : Int) < ((a0_p_t ++ [(⟨0, (⟨#[]⟩ : ByteArray), false, (⟨#[]⟩ : ByteArray), (Vector.replicate 16 0 : Vector Int 16)⟩ : Node)]).length : Int)) <|
   some ((a0_p_t.length : Int), (a0_p_t ++ [(⟨0, (⟨#[]⟩ : ByteArray), false, (⟨#[]⟩ : ByteArray), (Vector.replicate 16 0 : Vector Int 16)⟩ : Node)]).set (a0_p_t.length : Int).toNat (⟨1, sub (gt a0_p_n a1) a3 ((gt a0_p_n a1).size : Int), true, (gt a0_p_l a1).value_, (Vector.replicate 16 0 : Vector Int 16)⟩ : Node))
  else
   gd (0 ≤ w64 (a2 - 1) ∧ w64 (a2 - 1) < (a0_p_n.length : Int)) <|
   gd (0 ≤ a3 ∧ a3 ≤ ((gt a0_p_n (w64 (a2 - 1))).size : Int)) <|
   (nibble_Common.f (sub (gt a0_p_n a1) a3 ((gt a0_p_n a1).size : Int)) (sub (gt a0_p_n (w64 (a2 - 1))) a3 ((gt a0_p_n (w64 (a2 - 1))).size : Int))).bind fun y24 =>
   bif decide (y24 > 0) then
    gd (0 ≤ y24 ∧ y24 ≤ ((sub (gt a0_p_n a1) a3 ((gt a0_p_n a1).size : Int)).size : Int)) <|
    ((trie_builder_build.f kk) a0_p_l a0_p_n (a0_p_t ++ [(⟨0, (⟨#[]⟩ : ByteArray), false, (⟨#[]⟩ : ByteArray), (Vector.replicate 16 0 : Vector Int 16)⟩ : Node)]) a1 a2 (w64 (a3 + y24))).bind fun (y36, y37) =>
    gd (0 ≤ (0 : Int) ∧ (0 : Int) < 16) <|
    gd (0 ≤ (a0_p_t.length : Int) ∧ (a0_p_t.length : Int) < (y37.length : Int)) <|
    some ((a0_p_t.length : Int), y37.set (a0_p_t.length : Int).toNat (⟨2, sub (sub (gt a0_p_n a1) a3 ((gt a0_p_n a1).size : Int)) 0 y24, false, (⟨#[]⟩ : ByteArray), vset (Vector.replicate 16 0 : Vector Int 16) 0 y36⟩ : Node))
   else
    ((trie_builder_branch.f kk) a0_p_l a0_p_n (a0_p_t ++ [(⟨0, (⟨#[]⟩ : ByteArray), false, (⟨#[]⟩ : ByteArray), (Vector.replicate 16 0 : Vector Int 16)⟩ : Node)]) a1 a2 a3).bind fun (y54, y55) =>
    gd (0 ≤ (a0_p_t.length : Int) ∧ (a0_p_t.length : Int) < (y55.length : Int)) <|
    some ((a0_p_t.length : Int), y55.set (a0_p_t.length : Int).toNat y54)
def trie_builder_branch.f : Nat → (List Pair) → (List ByteArray) → (List Node) → Int → Int → Int → Option (Node × List Node)
 | 0, _, _, _, _, _, _ => none
 | kk + 1, a0_p_l, a0_p_n, a0_p_t, a1, a2, a3 =>
  (
    gd (0 ≤ a1 ∧ a1 < (a0_p_n.length : Int)) <|
    bif ((gt a0_p_n a1).size : Int) == a3 then
     gd (0 ≤ a1 ∧ a1 < (a0_p_l.length : Int)) <|
     some (true, (gt a0_p_l a1).value_, w64 (a1 + 1))
    else
     some (false, (⟨#[]⟩ : ByteArray), a1)).bind fun (y20, y21, y22) =>
  (trie_builder_branch.l0 a0_p_l a0_p_n a2 a3 (trie_builder_build.f kk) BIG (a0_p_t, (Vector.replicate 16 0 : Vector Int 16), y22)).bind fun (y426, y431) =>
  some ((⟨3, (⟨#[]⟩ : ByteArray), y20, y21, y431⟩ : Node), y426)
end

def trie_Build.l0 (a0 : List Pair) : Nat → (List ByteArray × Int) → Option (List ByteArray)
 | 0, _ => none
 | k + 1, (y323, y328) =>
  bif decide (y328 < (a0.length : Int)) then
   gd (0 ≤ y328 ∧ y328 < (a0.length : Int)) <|
   (nibble_Of.f ((gt a0 y328).key_)).bind fun y369 =>
   gd (y323.length + 1 ≤ 274877906944) <|
   trie_Build.l0 a0 k (y323 ++ [y369], w64 (y328 + 1))
  else
   some y323
def trie_Build.f (a0 : List Pair) : Option (List Node × Bool) :=
 (trie_may.f a0).bind fun y228 =>
 bif !y228 then
  some (([] : List Node), false)
 else
  (trie_Build.l0 a0 BIG (([] : List ByteArray), 0)).bind fun y354 =>
  (
    bif decide ((a0.length : Int) > 0) then
     (trie_builder_build.f BIG a0 y354 ([] : List Node) 0 (a0.length : Int) 0).bind fun (y613, y614) =>
     some y614
    else
     some ([] : List Node)).bind fun y605 =>
  some (y605, true)

def trie_Same.l0 (a0 : List Node) (a1 : List Node) : Nat → Int → Option (Unit ⊕ Bool)
 | 0, _ => none
 | k + 1, y13 =>
  bif decide (y13 < (a0.length : Int)) then
   gd (0 ≤ y13 ∧ y13 < (a0.length : Int)) <|
   gd (0 ≤ y13 ∧ y13 < (a1.length : Int)) <|
   bif !(eq_Node (gt a0 y13) (gt a1 y13)) then
    some (.inr false)
   else
    trie_Same.l0 a0 a1 k (w64 (y13 + 1))
  else
   some (.inl ())
def trie_Same.f (a0 : List Node) (a1 : List Node) : Option Bool :=
 bif (a0.length : Int) != (a1.length : Int) then
  some false
 else
  (trie_Same.l0 a0 a1 BIG 0).bind fun
  | .inl () =>
   some true
  | .inr r28 =>
   some r28

def trie_walked.f (a0 : List Node) : Option (trie_walker_T × Bool) :=
 (
   bif decide ((a0.length : Int) > 0) then
    (trie_walker_walk.f BIG a0 0 ([] : List Pair) ([] : List ByteArray) 0 (⟨#[]⟩ : ByteArray)).bind fun (y1105, y1106, y1107, y1108) =>
    some (y1107, y1108, y1106, !y1105)
   else
    some (([] : List Pair), ([] : List ByteArray), (0 : Int), false)).bind fun (y1090, y1095, y1100, y1101) =>
 bif y1101 then
  some ((⟨a0, y1100, y1090, y1095⟩ : trie_walker_T), false)
 else
  (trie_Build.f y1090).bind fun (y630, y631) =>
  (
    bif y631 then
     (trie_Same.f a0 y630).bind fun y46 =>
     some y46
    else
     some false).bind fun y42 =>
  some ((⟨a0, y1100, y1090, y1095⟩ : trie_walker_T), y42)

def trie_Good.f (a0 : List Node) : Option Bool :=
 (trie_walked.f a0).bind fun (y55, y56) =>
 some y56

def get_way_next.f (a0_p_t : List Node) (a0_p_left : ByteArray) (a0_p_nodes : List Int) : Option (Int × ByteArray) :=
 gd (0 ≤ w64 ((a0_p_nodes.length : Int) - 1) ∧ w64 ((a0_p_nodes.length : Int) - 1) < (a0_p_nodes.length : Int)) <|
 gd (0 ≤ gt a0_p_nodes (w64 ((a0_p_nodes.length : Int) - 1)) ∧ gt a0_p_nodes (w64 ((a0_p_nodes.length : Int) - 1)) < (a0_p_t.length : Int)) <|
 bif ((gt a0_p_t (gt a0_p_nodes (w64 ((a0_p_nodes.length : Int) - 1)))).kind_) == 2 then
  (strings_CutPrefix.f a0_p_left ((gt a0_p_t (gt a0_p_nodes (w64 ((a0_p_nodes.length : Int) - 1)))).path_)).bind fun (y10, y11) =>
  bif !y11 then
   some (0, a0_p_left)
  else
   gd (0 ≤ (0 : Int) ∧ (0 : Int) < 16) <|
   some (vg ((gt a0_p_t (gt a0_p_nodes (w64 ((a0_p_nodes.length : Int) - 1)))).kids_) 0, y10)
 else
  bif ((gt a0_p_t (gt a0_p_nodes (w64 ((a0_p_nodes.length : Int) - 1)))).kind_) == 3 then
   (
     bif seq_ a0_p_left (⟨#[]⟩ : ByteArray) then
      some true
     else
      gd (0 ≤ (0 : Int) ∧ (0 : Int) < (a0_p_left.size : Int)) <|
      gd (0 ≤ bt a0_p_left 0 ∧ bt a0_p_left 0 < 16) <|
      some ((vg ((gt a0_p_t (gt a0_p_nodes (w64 ((a0_p_nodes.length : Int) - 1)))).kids_) (bt a0_p_left 0)) == 0)).bind fun y40 =>
   bif y40 then
    some (0, a0_p_left)
   else
    gd (0 ≤ (0 : Int) ∧ (0 : Int) < (a0_p_left.size : Int)) <|
    gd (0 ≤ bt a0_p_left 0 ∧ bt a0_p_left 0 < 16) <|
    gd (0 ≤ (1 : Int) ∧ (1 : Int) ≤ (a0_p_left.size : Int)) <|
    some (vg ((gt a0_p_t (gt a0_p_nodes (w64 ((a0_p_nodes.length : Int) - 1)))).kids_) (bt a0_p_left 0), sub a0_p_left 1 (a0_p_left.size : Int))
  else
   some (0, a0_p_left)

def get_gone.l0 (a0 : List Node) : Nat → (List Int × ByteArray × Int) → Option (List Int × ByteArray)
 | 0, _ => none
 | k + 1, (y99, y104, y105) =>
  bif y105 != 0 then
   gd (y99.length + 1 ≤ 274877906944) <|
   (get_way_next.f a0 y104 (y99 ++ [y105])).bind fun (y148, y149) =>
   get_gone.l0 a0 k (y99 ++ [y105], y149, y148)
  else
   some (y99, y104)
def get_gone.f (a0 : List Node) (a1 : ByteArray) : Option (Option get_way_T × Int) :=
 (trie_Good.f a0).bind fun y15 =>
 bif !y15 then
  some (none, 1)
 else
  (
    bif seq_ a1 (⟨#[]⟩ : ByteArray) then
     some true
    else
     some (decide ((a1.size : Int) > 8))).bind fun y24 =>
  bif y24 then
   some (none, 9)
  else
   (nibble_Of.f a1).bind fun y29 =>
   bif (a0.length : Int) == 0 then
    some ((some (⟨a0, y29, ([] : List Int)⟩ : get_way_T)), 0)
   else
    (get_way_next.f a0 y29 [0]).bind fun (y45, y46) =>
    (get_gone.l0 a0 BIG ([0], y46, y45)).bind fun (y126, y131) =>
    some ((some (⟨a0, y131, y126⟩ : get_way_T)), 0)

def get_Walk.f (a0 : List Node) (a1 : ByteArray) : Option (List Int × Int) :=
 (get_gone.f a0 a1).bind fun (y159, y160) =>
 match y159 with
 | none =>
  bif y160 != 0 then
   some (([] : List Int), y160)
  else
   gd ((0 : Int) < 0) <|
   none
 | some ox_164 =>
  bif y160 != 0 then
   some (([] : List Int), y160)
  else
   some (ox_164.p_nodes_, 0)

def root_item_r1.l0 (a0 : Node) (a1 : List ByteArray) : Nat → (List ByteArray × Int × Int) → Option (List ByteArray × Int)
 | 0, _ => none
 | k + 1, (y236, y241, y242) =>
  bif decide (y242 < 16) then
   (
     gd (0 ≤ y242 ∧ y242 < 16) <|
     bif (vg a0.kids_ y242) != 0 then
      gd (0 ≤ y242) <|
      gd (0 ≤ vg a0.kids_ y242 ∧ vg a0.kids_ y242 < (a1.length : Int)) <|
      gd (y236.length + 1 ≤ 274877906944) <|
      some (y236 ++ [gt a1 (vg a0.kids_ y242)], bor .i64 y241 (shl .i64 1 y242))
     else
      some (y236, y241)).bind fun (y357, y362) =>
   root_item_r1.l0 a0 a1 k (y357, y362, w64 (y242 + 1))
  else
   some (y236, y241)
def root_item_r1.f (a0 : Node) (a1 : List ByteArray) : Option Item :=
 (root_item_r1.l0 a0 a1 BIG (([] : List ByteArray), 0, 0)).bind fun (y309, y314) =>
 some (⟨a0.kind_, a0.path_, a0.has_, a0.value_, y314, y309⟩ : Item)

def node_Hash.f (a0 : Item) : Option (ByteArray × Bool) :=
 (node_Encode.f a0).bind fun (y4, y5) =>
 bif !y5 then
  some ((⟨#[]⟩ : ByteArray), false)
 else
  (digest_Of.f y4).bind fun y12 =>
  some (y12, true)

def root_hashes.l0 (a0 : List Node) : Nat → (List ByteArray × Int) → Option (List ByteArray)
 | 0, _ => none
 | k + 1, (y59, y64) =>
  bif decide (y64 ≥ 0) then
   gd (0 ≤ y64 ∧ y64 < (a0.length : Int)) <|
   (root_item_r1.f (gt a0 y64) y59).bind fun y98 =>
   (node_Hash.f y98).bind fun (y107, y108) =>
   gd (0 ≤ y64 ∧ y64 < (y59.length : Int)) <|
   root_hashes.l0 a0 k (y59.set y64.toNat y107, w64 (y64 - 1))
  else
   some y59
def root_hashes.f (a0 : List Node) : Option (List ByteArray) :=
 gd (0 ≤ (a0.length : Int) ∧ (a0.length : Int) ≤ 274877906944) <|
 (root_hashes.l0 a0 BIG (List.replicate (a0.length : Int).toNat (⟨#[]⟩ : ByteArray), w64 ((a0.length : Int) - 1))).bind fun y88 =>
 some y88

def root_item.l0 (a0 : Node) (a1 : List ByteArray) : Nat → (List ByteArray × Int × Int) → Option (List ByteArray × Int)
 | 0, _ => none
 | k + 1, (y236, y241, y242) =>
  bif decide (y242 < 16) then
   (
     gd (0 ≤ y242 ∧ y242 < 16) <|
     bif (vg a0.kids_ y242) != 0 then
      gd (0 ≤ y242) <|
      gd (0 ≤ vg a0.kids_ y242 ∧ vg a0.kids_ y242 < (a1.length : Int)) <|
      gd (y236.length + 1 ≤ 274877906944) <|
      some (y236 ++ [gt a1 (vg a0.kids_ y242)], bor .i64 y241 (shl .i64 1 y242))
     else
      some (y236, y241)).bind fun (y357, y362) =>
   root_item.l0 a0 a1 k (y357, y362, w64 (y242 + 1))
  else
   some (y236, y241)
def root_item.f (a0 : Node) (a1 : List ByteArray) : Option Item :=
 (root_item.l0 a0 a1 BIG (([] : List ByteArray), 0, 0)).bind fun (y309, y314) =>
 some (⟨a0.kind_, a0.path_, a0.has_, a0.value_, y314, y309⟩ : Item)

def root_Item.f (a0 : List Node) (a1 : Int) : Option (Item × Bool) :=
 (
   bif decide (a1 < 0) then
    some true
   else
    bif decide (a1 ≥ (a0.length : Int)) then
     some true
    else
     (trie_Good.f a0).bind fun y54 =>
     some (!y54)).bind fun y49 =>
 bif y49 then
  some ((⟨0, (⟨#[]⟩ : ByteArray), false, (⟨#[]⟩ : ByteArray), 0, ([] : List ByteArray)⟩ : Item), false)
 else
  gd (0 ≤ a1 ∧ a1 < (a0.length : Int)) <|
  (root_hashes.f a0).bind fun y122 =>
  (root_item.f (gt a0 a1) y122).bind fun y392 =>
  some (y392, true)

def prove_Of.l0 (a0 : List Node) (y176 : List Int) : Nat → (List ByteArray × Int) → Option (List ByteArray)
 | 0, _ => none
 | k + 1, (y514, y519) =>
  bif decide (y519 < (y176.length : Int)) then
   gd (0 ≤ y519 ∧ y519 < (y176.length : Int)) <|
   (root_Item.f a0 (gt y176 y519)).bind fun (y565, y566) =>
   (node_Encode.f y565).bind fun (y579, y580) =>
   gd (y514.length + 1 ≤ 274877906944) <|
   prove_Of.l0 a0 y176 k (y514 ++ [y579], w64 (y519 + 1))
  else
   some y514
def prove_Of.f (a0 : List Node) (a1 : ByteArray) : Option (List ByteArray × Int) :=
 (get_Walk.f a0 a1).bind fun (y176, y177) =>
 bif y177 != 0 then
  some (([] : List ByteArray), y177)
 else
  (prove_Of.l0 a0 y176 BIG (([] : List ByteArray), 0)).bind fun y555 =>
  some (y555, 0)

def get_Of.f (a0 : List Node) (a1 : ByteArray) : Option (Answer × Int) :=
 (get_gone.f a0 a1).bind fun (y4, y5) =>
 match y4 with
 | none =>
  bif y5 != 0 then
   some ((⟨false, (⟨#[]⟩ : ByteArray)⟩ : Answer), y5)
  else
   gd ((0 : Int) < 0) <|
   none
 | some ox_9 =>
  (
    bif y5 != 0 then
     some true
    else
     some ((ox_9.p_nodes_.length : Int) == 0)).bind fun y38 =>
  bif y38 then
   some ((⟨false, (⟨#[]⟩ : ByteArray)⟩ : Answer), y5)
  else
   gd (0 ≤ w64 ((ox_9.p_nodes_.length : Int) - 1) ∧ w64 ((ox_9.p_nodes_.length : Int) - 1) < (ox_9.p_nodes_.length : Int)) <|
   gd (0 ≤ gt ox_9.p_nodes_ (w64 ((ox_9.p_nodes_.length : Int) - 1)) ∧ gt ox_9.p_nodes_ (w64 ((ox_9.p_nodes_.length : Int) - 1)) < (a0.length : Int)) <|
   (
     bif !((gt a0 (gt ox_9.p_nodes_ (w64 ((ox_9.p_nodes_.length : Int) - 1)))).has_) then
      some true
     else
      some (!(seq_ ox_9.p_left_ ((gt a0 (gt ox_9.p_nodes_ (w64 ((ox_9.p_nodes_.length : Int) - 1)))).path_)))).bind fun y66 =>
   bif y66 then
    some ((⟨false, (⟨#[]⟩ : ByteArray)⟩ : Answer), 0)
   else
    some ((⟨true, (gt a0 (gt ox_9.p_nodes_ (w64 ((ox_9.p_nodes_.length : Int) - 1)))).value_⟩ : Answer), 0)

def law17_VerifyProves.f (a0 : List Pair) (a1 : ByteArray) : Option Bool :=
 (
   (keep_LongPairs.f a0).bind fun y130 =>
   bif y130 then
    some true
   else
    (ref10_May.f a0).bind fun y137 =>
    bif !y137 then
     some true
    else
     bif decide ((a0.length : Int) > 12) then
      some true
     else
      (ref12_Key.f a1).bind fun y145 =>
      some (!y145)).bind fun y127 =>
 bif y127 then
  (law17_wakes.f).bind fun y152 =>
  some y152
 else
  (ref10_Build.f a0).bind fun y158 =>
  (prove_Of.f y158.t_ a1).bind fun (y601, y602) =>
  (ref11_Root.f y158.t_).bind fun y611 =>
  (verify_Of.f y611 a1 y601).bind fun (y617, y618) =>
  (get_Of.f y158.t_ a1).bind fun (y74, y75) =>
  (
    bif y602 == 0 then
     bif y75 == 0 then
      bif y618 then
       bif eq_Answer y617 y74 then
        (ref11_Root.f y158.t_).bind fun y138 =>
        (verify_Steps.f y138 a1 y601).bind fun y144 =>
        bif y144 == (y601.length : Int) then
         (law17_wakes.f).bind fun y151 =>
         some y151
        else
         some false
       else
        some false
      else
       some false
     else
      some false
    else
     some false).bind fun y131 =>
  some y131
end Go.Lf
