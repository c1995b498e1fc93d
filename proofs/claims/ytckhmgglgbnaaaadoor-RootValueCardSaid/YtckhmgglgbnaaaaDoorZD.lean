/- What the Go functions compute, as plain Lean functions (printed by our lift.py). -/
import Derived.Test.YtckhmgglgbnaaaaDoorZT
set_option linter.unusedVariables false
set_option linter.unusedSimpArgs false
namespace Go.Lf
open Go
def keep_LongPairs.l0 (a0 : List Pair) : Nat → (Int × Int) → Option Int
  | 0, _ => none
  | k + 1, (y37, y38) =>
    (
        bif decide (y38 < (a0.length : Int)) then
          some (decide (y37 ≤ 3000))
        else
          some false).bind fun y69 =>
    bif y69 then
      gd (0 ≤ y38 ∧ y38 < (a0.length : Int)) <|
      gd (0 ≤ y38 ∧ y38 < (a0.length : Int)) <|
      keep_LongPairs.l0 a0 k (w64 (y37 + (w64 ((w64 (1 + (if 3000 < (((gt a0 y38).key_).size : Int) then 3000 else (((gt a0 y38).key_).size : Int)))) + (if 3000 < (((gt a0 y38).value_).size : Int) then 3000 else (((gt a0 y38).value_).size : Int))))), w64 (y38 + 1))
    else
      some y37
def keep_LongPairs.f (a0 : List Pair) : Option Bool :=
  (keep_LongPairs.l0 a0 BIG (0, 0)).bind fun y56 =>
  some (decide (y56 > 3000))

def ref10_May.l0 (a0 : List Pair) : Nat → Int → Option (Unit ⊕ Bool)
  | 0, _ => none
  | k + 1, y140 =>
    bif decide (y140 < (a0.length : Int)) then
      (
          gd (0 ≤ y140 ∧ y140 < (a0.length : Int)) <|
          bif decide ((((gt a0 y140).key_).size : Int) < 1) then
            some true
          else
            gd (0 ≤ y140 ∧ y140 < (a0.length : Int)) <|
            bif decide ((((gt a0 y140).key_).size : Int) > 8) then
              some true
            else
              gd (0 ≤ y140 ∧ y140 < (a0.length : Int)) <|
              bif decide ((((gt a0 y140).value_).size : Int) > 16) then
                some true
              else
                bif decide (y140 > 0) then
                  gd (0 ≤ y140 ∧ y140 < (a0.length : Int)) <|
                  gd (0 ≤ w64 (y140 - 1) ∧ w64 (y140 - 1) < (a0.length : Int)) <|
                  some (slt ((gt a0 y140).key_) ((gt a0 (w64 (y140 - 1))).key_) || seq_ ((gt a0 y140).key_) ((gt a0 (w64 (y140 - 1))).key_))
                else
                  some false).bind fun y268 =>
      bif y268 then
        some (.inr false)
      else
        ref10_May.l0 a0 k (w64 (y140 + 1))
    else
      some (.inl ())
def ref10_May.f (a0 : List Pair) : Option Bool :=
  (ref10_May.l0 a0 BIG 0).bind fun
  | .inl () =>
    some true
  | .inr r283 =>
    some r283

def ref02_Of.l0 (a0 : ByteArray) : Nat → (List Int × Int) → Option (List Int)
  | 0, _ => none
  | k + 1, (y56, y61) =>
    bif decide (y61 < (a0.size : Int)) then
      gd (0 ≤ y61 ∧ y61 < (a0.size : Int)) <|
      gd (0 ≤ y61 ∧ y61 < (a0.size : Int)) <|
      gd (y56.length + 2 ≤ 274877906944) <|
      ref02_Of.l0 a0 k (y56 ++ [wu8 ((bt a0 y61).tdiv 16), (bt a0 y61).tmod 16], w64 (y61 + 1))
    else
      some y56
def ref02_Of.f (a0 : ByteArray) : Option ByteArray :=
  (ref02_Of.l0 a0 BIG (([] : List Int), 0)).bind fun y77 =>
  some (strOfNums y77)

def ref02_Common.l0 (a0 : ByteArray) (a1 : ByteArray) : Nat → Int → Option Int
  | 0, _ => none
  | k + 1, y78 =>
    (
        bif decide (y78 < (a0.size : Int)) then
          bif decide (y78 < (a1.size : Int)) then
            gd (0 ≤ y78 ∧ y78 < (a0.size : Int)) <|
            gd (0 ≤ y78 ∧ y78 < (a1.size : Int)) <|
            some ((bt a0 y78) == (bt a1 y78))
          else
            some false
        else
          some false).bind fun y150 =>
    bif y150 then
      ref02_Common.l0 a0 a1 k (w64 (y78 + 1))
    else
      some y78
def ref02_Common.f (a0 : ByteArray) (a1 : ByteArray) : Option Int :=
  (ref02_Common.l0 a0 a1 BIG 0).bind fun y117 =>
  some y117

def ref10_maker_add.l1 (a0_p_n : List ByteArray) (a2 : Int) (a3 : Int) (y565 : Int) : Nat → Int → Option Int
  | 0, _ => none
  | k + 1, y877 =>
    (
        bif decide (y877 < a2) then
          gd (0 ≤ y877 ∧ y877 < (a0_p_n.length : Int)) <|
          gd (0 ≤ a3 ∧ a3 < ((gt a0_p_n y877).size : Int)) <|
          gd (0 ≤ y565 ∧ y565 < (a0_p_n.length : Int)) <|
          gd (0 ≤ a3 ∧ a3 < ((gt a0_p_n y565).size : Int)) <|
          some ((bt (gt a0_p_n y877) a3) == (bt (gt a0_p_n y565) a3))
        else
          some false).bind fun y960 =>
    bif y960 then
      ref10_maker_add.l1 a0_p_n a2 a3 y565 k (w64 (y877 + 1))
    else
      some y877
def ref10_maker_add.l0 (a0_p_l : List Pair) (a0_p_n : List ByteArray) (a0_p_t : List Node) (a2 : Int) (a3 : Int) (rec_ref10_maker_add : (List Pair) → (List ByteArray) → (List Node) → (List ByteArray) → Int → Int → Int → Option (Int × List Node × List ByteArray)) : Nat → (List ByteArray × List Node × Int) → Option (List ByteArray × List Node)
  | 0, _ => none
  | k + 1, (y555, y560, y565) =>
    bif decide (y565 < a2) then
      (ref10_maker_add.l1 a0_p_n a2 a3 y565 BIG y565).bind fun y922 =>
      (rec_ref10_maker_add a0_p_l a0_p_n y560 y555 y565 y922 (w64 (a3 + 1))).bind fun (y971, y972, y973) =>
      gd (0 ≤ y565 ∧ y565 < (a0_p_n.length : Int)) <|
      gd (0 ≤ a3 ∧ a3 < ((gt a0_p_n y565).size : Int)) <|
      gd (0 ≤ (a0_p_t.length : Int) ∧ (a0_p_t.length : Int) < (y972.length : Int)) <|
      gd (0 ≤ bt (gt a0_p_n y565) a3 ∧ bt (gt a0_p_n y565) a3 < 16) <|
      ref10_maker_add.l0 a0_p_l a0_p_n a0_p_t a2 a3 rec_ref10_maker_add k (y973, y972.set (a0_p_t.length : Int).toNat ({ gt y972 (a0_p_t.length : Int) with kids_ := vset (gt y972 (a0_p_t.length : Int)).kids_ (bt (gt a0_p_n y565) a3) y971 }), y922)
    else
      some (y555, y560)
def ref10_maker_add.f : Nat → (List Pair) → (List ByteArray) → (List Node) → (List ByteArray) → Int → Int → Int → Option (Int × List Node × List ByteArray)
  | 0, _, _, _, _, _, _, _ => none
  | kk + 1, a0_p_l, a0_p_n, a0_p_t, a0_p_p, a1, a2, a3 =>
    gd (a0_p_t.length + 1 ≤ 274877906944) <|
    gd (0 ≤ a1 ∧ a1 < (a0_p_n.length : Int)) <|
    gd (0 ≤ a3 ∧ a3 ≤ ((gt a0_p_n a1).size : Int)) <|
    gd (a0_p_p.length + 1 ≤ 274877906944) <|
    bif a2 == (w64 (a1 + 1)) then
      gd (0 ≤ a1 ∧ a1 < (a0_p_n.length : Int)) <|
      gd (0 ≤ a3 ∧ a3 ≤ ((gt a0_p_n a1).size : Int)) <|
      gd (0 ≤ a1 ∧ a1 < (a0_p_l.length : Int)) <|
      gd (0 ≤ (a0_p_t.length : Int) ∧ (a0_p_t.length : Int) < ((a0_p_t ++ [(⟨0, (⟨#[]⟩ : ByteArray), false, (⟨#[]⟩ : ByteArray), (Vector.replicate 16 0 : Vector Int 16)⟩ : Node)]).length : Int)) <|
      some ((a0_p_t.length : Int), (a0_p_t ++ [(⟨0, (⟨#[]⟩ : ByteArray), false, (⟨#[]⟩ : ByteArray), (Vector.replicate 16 0 : Vector Int 16)⟩ : Node)]).set (a0_p_t.length : Int).toNat (⟨1, sub (gt a0_p_n a1) a3 ((gt a0_p_n a1).size : Int), true, (gt a0_p_l a1).value_, (Vector.replicate 16 0 : Vector Int 16)⟩ : Node), a0_p_p ++ [sub (gt a0_p_n a1) 0 a3])
    else
      gd (0 ≤ a1 ∧ a1 < (a0_p_n.length : Int)) <|
      gd (0 ≤ a3 ∧ a3 ≤ ((gt a0_p_n a1).size : Int)) <|
      gd (0 ≤ w64 (a2 - 1) ∧ w64 (a2 - 1) < (a0_p_n.length : Int)) <|
      gd (0 ≤ a3 ∧ a3 ≤ ((gt a0_p_n (w64 (a2 - 1))).size : Int)) <|
      (ref02_Common.f (sub (gt a0_p_n a1) a3 ((gt a0_p_n a1).size : Int)) (sub (gt a0_p_n (w64 (a2 - 1))) a3 ((gt a0_p_n (w64 (a2 - 1))).size : Int))).bind fun y42 =>
      bif decide (y42 > 0) then
        gd (0 ≤ a1 ∧ a1 < (a0_p_n.length : Int)) <|
        gd (0 ≤ a3 ∧ a3 ≤ w64 (a3 + y42) ∧ w64 (a3 + y42) ≤ ((gt a0_p_n a1).size : Int)) <|
        gd (0 ≤ (a0_p_t.length : Int) ∧ (a0_p_t.length : Int) < ((a0_p_t ++ [(⟨0, (⟨#[]⟩ : ByteArray), false, (⟨#[]⟩ : ByteArray), (Vector.replicate 16 0 : Vector Int 16)⟩ : Node)]).length : Int)) <|
        ((ref10_maker_add.f kk) a0_p_l a0_p_n ((a0_p_t ++ [(⟨0, (⟨#[]⟩ : ByteArray), false, (⟨#[]⟩ : ByteArray), (Vector.replicate 16 0 : Vector Int 16)⟩ : Node)]).set (a0_p_t.length : Int).toNat (⟨2, sub (gt a0_p_n a1) a3 (w64 (a3 + y42)), false, (⟨#[]⟩ : ByteArray), (Vector.replicate 16 0 : Vector Int 16)⟩ : Node)) (a0_p_p ++ [sub (gt a0_p_n a1) 0 a3]) a1 a2 (w64 (a3 + y42))).bind fun (y56, y57, y58) =>
        gd (0 ≤ (a0_p_t.length : Int) ∧ (a0_p_t.length : Int) < (y57.length : Int)) <|
        gd (0 ≤ (0 : Int) ∧ (0 : Int) < 16) <|
        some ((a0_p_t.length : Int), y57.set (a0_p_t.length : Int).toNat ({ gt y57 (a0_p_t.length : Int) with kids_ := vset (gt y57 (a0_p_t.length : Int)).kids_ 0 y56 }), y58)
      else
        gd (0 ≤ (a0_p_t.length : Int) ∧ (a0_p_t.length : Int) < ((a0_p_t ++ [(⟨0, (⟨#[]⟩ : ByteArray), false, (⟨#[]⟩ : ByteArray), (Vector.replicate 16 0 : Vector Int 16)⟩ : Node)]).length : Int)) <|
        (
            gd (0 ≤ a1 ∧ a1 < (a0_p_n.length : Int)) <|
            bif ((gt a0_p_n a1).size : Int) == a3 then
              gd (0 ≤ a1 ∧ a1 < (a0_p_l.length : Int)) <|
              gd (0 ≤ (a0_p_t.length : Int) ∧ (a0_p_t.length : Int) < (((a0_p_t ++ [(⟨0, (⟨#[]⟩ : ByteArray), false, (⟨#[]⟩ : ByteArray), (Vector.replicate 16 0 : Vector Int 16)⟩ : Node)]).set (a0_p_t.length : Int).toNat ({ gt (a0_p_t ++ [(⟨0, (⟨#[]⟩ : ByteArray), false, (⟨#[]⟩ : ByteArray), (Vector.replicate 16 0 : Vector Int 16)⟩ : Node)]) (a0_p_t.length : Int) with kind_ := 3 })).length : Int)) <|
              gd (0 ≤ (a0_p_t.length : Int) ∧ (a0_p_t.length : Int) < ((((a0_p_t ++ [(⟨0, (⟨#[]⟩ : ByteArray), false, (⟨#[]⟩ : ByteArray), (Vector.replicate 16 0 : Vector Int 16)⟩ : Node)]).set (a0_p_t.length : Int).toNat ({ gt (a0_p_t ++ [(⟨0, (⟨#[]⟩ : ByteArray), false, (⟨#[]⟩ : ByteArray), (Vector.replicate 16 0 : Vector Int 16)⟩ : Node)]) (a0_p_t.length : Int) with kind_ := 3 })).set (a0_p_t.length : Int).toNat ({ gt ((a0_p_t ++ [(⟨0, (⟨#[]⟩ : ByteArray), false, (⟨#[]⟩ : ByteArray), (Vector.replicate 16 0 : Vector Int 16)⟩ : Node)]).set (a0_p_t.length : Int).toNat ({ gt (a0_p_t ++ [(⟨0, (⟨#[]⟩ : ByteArray), false, (⟨#[]⟩ : ByteArray), (Vector.replicate 16 0 : Vector Int 16)⟩ : Node)]) (a0_p_t.length : Int) with kind_ := 3 })) (a0_p_t.length : Int) with has_ := true })).length : Int)) <|
              some ((((a0_p_t ++ [(⟨0, (⟨#[]⟩ : ByteArray), false, (⟨#[]⟩ : ByteArray), (Vector.replicate 16 0 : Vector Int 16)⟩ : Node)]).set (a0_p_t.length : Int).toNat ({ gt (a0_p_t ++ [(⟨0, (⟨#[]⟩ : ByteArray), false, (⟨#[]⟩ : ByteArray), (Vector.replicate 16 0 : Vector Int 16)⟩ : Node)]) (a0_p_t.length : Int) with kind_ := 3 })).set (a0_p_t.length : Int).toNat ({ gt ((a0_p_t ++ [(⟨0, (⟨#[]⟩ : ByteArray), false, (⟨#[]⟩ : ByteArray), (Vector.replicate 16 0 : Vector Int 16)⟩ : Node)]).set (a0_p_t.length : Int).toNat ({ gt (a0_p_t ++ [(⟨0, (⟨#[]⟩ : ByteArray), false, (⟨#[]⟩ : ByteArray), (Vector.replicate 16 0 : Vector Int 16)⟩ : Node)]) (a0_p_t.length : Int) with kind_ := 3 })) (a0_p_t.length : Int) with has_ := true })).set (a0_p_t.length : Int).toNat ({ gt (((a0_p_t ++ [(⟨0, (⟨#[]⟩ : ByteArray), false, (⟨#[]⟩ : ByteArray), (Vector.replicate 16 0 : Vector Int 16)⟩ : Node)]).set (a0_p_t.length : Int).toNat ({ gt (a0_p_t ++ [(⟨0, (⟨#[]⟩ : ByteArray), false, (⟨#[]⟩ : ByteArray), (Vector.replicate 16 0 : Vector Int 16)⟩ : Node)]) (a0_p_t.length : Int) with kind_ := 3 })).set (a0_p_t.length : Int).toNat ({ gt ((a0_p_t ++ [(⟨0, (⟨#[]⟩ : ByteArray), false, (⟨#[]⟩ : ByteArray), (Vector.replicate 16 0 : Vector Int 16)⟩ : Node)]).set (a0_p_t.length : Int).toNat ({ gt (a0_p_t ++ [(⟨0, (⟨#[]⟩ : ByteArray), false, (⟨#[]⟩ : ByteArray), (Vector.replicate 16 0 : Vector Int 16)⟩ : Node)]) (a0_p_t.length : Int) with kind_ := 3 })) (a0_p_t.length : Int) with has_ := true })) (a0_p_t.length : Int) with value_ := (gt a0_p_l a1).value_ }), w64 (a1 + 1))
            else
              some ((a0_p_t ++ [(⟨0, (⟨#[]⟩ : ByteArray), false, (⟨#[]⟩ : ByteArray), (Vector.replicate 16 0 : Vector Int 16)⟩ : Node)]).set (a0_p_t.length : Int).toNat ({ gt (a0_p_t ++ [(⟨0, (⟨#[]⟩ : ByteArray), false, (⟨#[]⟩ : ByteArray), (Vector.replicate 16 0 : Vector Int 16)⟩ : Node)]) (a0_p_t.length : Int) with kind_ := 3 }), a1)).bind fun (y107, y112) =>
        (ref10_maker_add.l0 a0_p_l a0_p_n a0_p_t a2 a3 (ref10_maker_add.f kk) BIG (a0_p_p ++ [sub (gt a0_p_n a1) 0 a3], y107, y112)).bind fun (y774, y779) =>
        some ((a0_p_t.length : Int), y779, y774)

def ref10_Build.l0 (a0 : List Pair) : Nat → (List ByteArray × Int) → Option (List ByteArray)
  | 0, _ => none
  | k + 1, (y171, y176) =>
    bif decide (y176 < (a0.length : Int)) then
      gd (0 ≤ y176 ∧ y176 < (a0.length : Int)) <|
      (ref02_Of.f ((gt a0 y176).key_)).bind fun y209 =>
      gd (y171.length + 1 ≤ 274877906944) <|
      ref10_Build.l0 a0 k (y171 ++ [y209], w64 (y176 + 1))
    else
      some y171
def ref10_Build.f (a0 : List Pair) : Option ref10_Both_T :=
  (ref10_May.f a0).bind fun y4 =>
  bif !y4 then
    some (⟨([] : List Node), ([] : List ByteArray), false⟩ : ref10_Both_T)
  else
    (ref10_Build.l0 a0 BIG (([] : List ByteArray), 0)).bind fun y198 =>
    (
        bif decide ((a0.length : Int) > 0) then
          (ref10_maker_add.f BIG a0 y198 ([] : List Node) ([] : List ByteArray) 0 (a0.length : Int) 0).bind fun (y1071, y1072, y1073) =>
          some (y1072, y1073)
        else
          some (([] : List Node), ([] : List ByteArray))).bind fun (y1058, y1063) =>
    some (⟨y1058, y1063, true⟩ : ref10_Both_T)

def nibble_small.l0 (a0 : ByteArray) : Nat → Int → Option (Unit ⊕ Bool)
  | 0, _ => none
  | k + 1, y8 =>
    bif decide (y8 < (a0.size : Int)) then
      gd (0 ≤ y8 ∧ y8 < (a0.size : Int)) <|
      bif decide ((bt a0 y8) > 15) then
        some (.inr false)
      else
        nibble_small.l0 a0 k (w64 (y8 + 1))
    else
      some (.inl ())
def nibble_small.f (a0 : ByteArray) : Option Bool :=
  (nibble_small.l0 a0 BIG 0).bind fun
  | .inl () =>
    some true
  | .inr r19 =>
    some r19

def nibble_two.l0 (a0 : ByteArray) : Nat → (List Int × Int) → Option (List Int)
  | 0, _ => none
  | k + 1, (y33, y38) =>
    bif decide (y38 < (a0.size : Int)) then
      gd (0 ≤ y38.tmod 2 ∧ y38.tmod 2 < 2) <|
      gd (0 ≤ w64 (y38.tdiv 2) ∧ w64 (y38.tdiv 2) < (y33.length : Int)) <|
      gd (0 ≤ y38 ∧ y38 < (a0.size : Int)) <|
      gd (0 ≤ vg (#v[4, 0] : Vector Int 2) (y38.tmod 2)) <|
      gd (0 ≤ w64 (y38.tdiv 2) ∧ w64 (y38.tdiv 2) < (y33.length : Int)) <|
      nibble_two.l0 a0 k (y33.set (w64 (y38.tdiv 2)).toNat (bor .u8 (gt y33 (w64 (y38.tdiv 2))) (shl .u8 (bt a0 y38) (vg (#v[4, 0] : Vector Int 2) (y38.tmod 2)))), w64 (y38 + 1))
    else
      some y33
def nibble_two.f (a0 : ByteArray) : Option ByteArray :=
  gd (0 ≤ w64 ((w64 ((a0.size : Int) + 1)).tdiv 2) ∧ w64 ((w64 ((a0.size : Int) + 1)).tdiv 2) ≤ 274877906944) <|
  (nibble_two.l0 a0 BIG (List.replicate (w64 ((w64 ((a0.size : Int) + 1)).tdiv 2)).toNat 0, 0)).bind fun y49 =>
  some (strOfNums y49)

def nibble_Key.f (a0 : ByteArray) : Option (ByteArray × Bool) :=
  (
      bif ((a0.size : Int).tmod 2) != 0 then
        some true
      else
        (nibble_small.f a0).bind fun y62 =>
        some (!y62)).bind fun y58 =>
  bif y58 then
    some ((⟨#[]⟩ : ByteArray), false)
  else
    (nibble_two.f a0).bind fun y68 =>
    some (y68, true)

def trie_walker_pair.f (a0_p_t : List Node) (a0_p_next : Int) (a0_p_l : List Pair) (a0_p_paths : List ByteArray) (a1 : ByteArray) (a2 : ByteArray) : Option (Bool × List Pair) :=
  (nibble_Key.f a1).bind fun (y1, y2) =>
  gd (a0_p_l.length + 1 ≤ 274877906944) <|
  some (y2, a0_p_l ++ [(⟨y1, a2⟩ : Pair)])

def trie_walker_walk.l0 (a0_p_t : List Node) (a1 : Int) (a2 : ByteArray) (rec_trie_walker_walk : (List Node) → Int → (List Pair) → (List ByteArray) → Int → ByteArray → Option (Bool × Int × List Pair × List ByteArray)) : Nat → (List Pair × List ByteArray × Int × Int) → Option ((List Pair × List ByteArray × Int) ⊕ (Bool × Int × List Pair × List ByteArray))
  | 0, _ => none
  | k + 1, (y520, y525, y530, y531) =>
    bif decide (y531 < 16) then
      gd (0 ≤ y531 ∧ y531 < 16) <|
      (
          bif ((gt a0_p_t a1).kind_) == 3 then
            gd ((a2 ++ ((gt a0_p_t a1).path_)).size + (strOfNums [wu8 y531]).size ≤ 9223372036854775807) <|
            some ((a2 ++ ((gt a0_p_t a1).path_)) ++ (strOfNums [wu8 y531]))
          else
            some (a2 ++ ((gt a0_p_t a1).path_))).bind fun y845 =>
      (
          bif (vg ((gt a0_p_t a1).kids_) y531) != 0 then
            (rec_trie_walker_walk a0_p_t y530 y520 y525 (vg ((gt a0_p_t a1).kids_) y531) y845).bind fun (y906, y907, y908, y909) =>
            some (y908, y909, y907, !y906)
          else
            some (y520, y525, y530, false)).bind fun (y891, y896, y901, y902) =>
      bif y902 then
        some (.inr (false, y901, y891, y896))
      else
        trie_walker_walk.l0 a0_p_t a1 a2 rec_trie_walker_walk k (y891, y896, y901, w64 (y531 + 1))
    else
      some (.inl (y520, y525, y530))
def trie_walker_walk.f : Nat → (List Node) → Int → (List Pair) → (List ByteArray) → Int → ByteArray → Option (Bool × Int × List Pair × List ByteArray)
  | 0, _, _, _, _, _, _ => none
  | kk + 1, a0_p_t, a0_p_next, a0_p_l, a0_p_paths, a1, a2 =>
    (
        bif a1 != a0_p_next then
          some true
        else
          bif decide (a1 ≥ (a0_p_t.length : Int)) then
            some true
          else
            some (decide ((a2.size : Int) > 16))).bind fun y15 =>
    bif y15 then
      some (false, a0_p_next, a0_p_l, a0_p_paths)
    else
      gd (a0_p_paths.length + 1 ≤ 274877906944) <|
      gd (0 ≤ a1 ∧ a1 < (a0_p_t.length : Int)) <|
      gd (a2.size + ((gt a0_p_t a1).path_).size ≤ 9223372036854775807) <|
      (
          bif (gt a0_p_t a1).has_ then
            (trie_walker_pair.f a0_p_t (w64 (a0_p_next + 1)) a0_p_l (a0_p_paths ++ [a2]) (a2 ++ ((gt a0_p_t a1).path_)) ((gt a0_p_t a1).value_)).bind fun (y118, y119) =>
            some (y119, !y118)
          else
            some (a0_p_l, false)).bind fun (y109, y114) =>
      bif y114 then
        some (false, w64 (a0_p_next + 1), y109, a0_p_paths ++ [a2])
      else
        (trie_walker_walk.l0 a0_p_t a1 a2 (trie_walker_walk.f kk) BIG (y109, a0_p_paths ++ [a2], w64 (a0_p_next + 1), 0)).bind fun
        | .inl (y721, y726, y731) =>
          some (true, y731, y721, y726)
        | .inr r925 =>
          some r925

def trie_may.l0 (a0 : List Pair) : Nat → Int → Option (Unit ⊕ Bool)
  | 0, _ => none
  | k + 1, y112 =>
    bif decide (y112 < (a0.length : Int)) then
      gd (0 ≤ y112 ∧ y112 < (a0.length : Int)) <|
      (
          bif seq_ ((gt a0 y112).key_) (⟨#[]⟩ : ByteArray) then
            some true
          else
            bif decide ((((gt a0 y112).key_).size : Int) > 8) then
              some true
            else
              bif decide ((((gt a0 y112).value_).size : Int) > 16) then
                some true
              else
                bif decide (y112 > 0) then
                  gd (0 ≤ w64 (y112 - 1) ∧ w64 (y112 - 1) < (a0.length : Int)) <|
                  some (slt ((gt a0 y112).key_) ((gt a0 (w64 (y112 - 1))).key_) || seq_ ((gt a0 y112).key_) ((gt a0 (w64 (y112 - 1))).key_))
                else
                  some false).bind fun y216 =>
      bif y216 then
        some (.inr false)
      else
        trie_may.l0 a0 k (w64 (y112 + 1))
    else
      some (.inl ())
def trie_may.f (a0 : List Pair) : Option Bool :=
  (trie_may.l0 a0 BIG 0).bind fun
  | .inl () =>
    some true
  | .inr r227 =>
    some r227

def nibble_Of.l0 (a0 : ByteArray) : Nat → (List Int × Int) → Option (List Int)
  | 0, _ => none
  | k + 1, (y43, y48) =>
    bif decide (y48 < (a0.size : Int)) then
      gd (0 ≤ y48 ∧ y48 < (a0.size : Int)) <|
      gd (0 ≤ y48 ∧ y48 < (a0.size : Int)) <|
      gd (y43.length + 2 ≤ 274877906944) <|
      nibble_Of.l0 a0 k (y43 ++ [shr .u8 (bt a0 y48) 4, band .u8 (bt a0 y48) 15], w64 (y48 + 1))
    else
      some y43
def nibble_Of.f (a0 : ByteArray) : Option ByteArray :=
  gd (0 ≤ w64 (2 * (a0.size : Int)) ∧ w64 (2 * (a0.size : Int)) ≤ 274877906944) <|
  (nibble_Of.l0 a0 BIG (([] : List Int), 0)).bind fun y64 =>
  some (strOfNums y64)

def nibble_Common.l0 (a0 : ByteArray) (a1 : ByteArray) : Nat → Int → Option Int
  | 0, _ => none
  | k + 1, y66 =>
    (
        bif decide (y66 < (if (a1.size : Int) < (a0.size : Int) then (a1.size : Int) else (a0.size : Int))) then
          gd (0 ≤ y66 ∧ y66 < (a0.size : Int)) <|
          gd (0 ≤ y66 ∧ y66 < (a1.size : Int)) <|
          some ((bt a0 y66) == (bt a1 y66))
        else
          some false).bind fun y127 =>
    bif y127 then
      nibble_Common.l0 a0 a1 k (w64 (y66 + 1))
    else
      some y66
def nibble_Common.f (a0 : ByteArray) (a1 : ByteArray) : Option Int :=
  (nibble_Common.l0 a0 a1 BIG 0).bind fun y99 =>
  some y99

def trie_builder_branch.l1 (a0_p_n : List ByteArray) (a2 : Int) (a3 : Int) (y298 : Int) : Nat → Int → Option Int
  | 0, _ => none
  | k + 1, y491 =>
    (
        bif decide (y491 < a2) then
          gd (0 ≤ y491 ∧ y491 < (a0_p_n.length : Int)) <|
          gd (0 ≤ a3 ∧ a3 < ((gt a0_p_n y491).size : Int)) <|
          some ((bt (gt a0_p_n y491) a3) == (bt (gt a0_p_n y298) a3))
        else
          some false).bind fun y541 =>
    bif y541 then
      trie_builder_branch.l1 a0_p_n a2 a3 y298 k (w64 (y491 + 1))
    else
      some y491
def trie_builder_branch.l0 (a0_p_l : List Pair) (a0_p_n : List ByteArray) (a2 : Int) (a3 : Int) (rec_trie_builder_build : (List Pair) → (List ByteArray) → (List Node) → Int → Int → Int → Option (Int × List Node)) : Nat → (List Node × Vector Int 16 × Int) → Option (List Node × Vector Int 16)
  | 0, _ => none
  | k + 1, (y292, y297, y298) =>
    bif decide (y298 < a2) then
      gd (0 ≤ y298 ∧ y298 < (a0_p_n.length : Int)) <|
      gd (0 ≤ a3 ∧ a3 < ((gt a0_p_n y298).size : Int)) <|
      (trie_builder_branch.l1 a0_p_n a2 a3 y298 BIG y298).bind fun y518 =>
      (rec_trie_builder_build a0_p_l a0_p_n y292 y298 y518 (w64 (a3 + 1))).bind fun (y549, y550) =>
      gd (0 ≤ bt (gt a0_p_n y298) a3 ∧ bt (gt a0_p_n y298) a3 < 16) <|
      trie_builder_branch.l0 a0_p_l a0_p_n a2 a3 rec_trie_builder_build k (y550, vset y297 (bt (gt a0_p_n y298) a3) y549, y518)
    else
      some (y292, y297)
mutual
def trie_builder_build.f : Nat → (List Pair) → (List ByteArray) → (List Node) → Int → Int → Int → Option (Int × List Node)
  | 0, _, _, _, _, _, _ => none
  | kk + 1, a0_p_l, a0_p_n, a0_p_t, a1, a2, a3 =>
    gd (a0_p_t.length + 1 ≤ 274877906944) <|
    gd (0 ≤ a1 ∧ a1 < (a0_p_n.length : Int)) <|
    gd (0 ≤ a3 ∧ a3 ≤ ((gt a0_p_n a1).size : Int)) <|
    bif (w64 (a2 - a1)) == 1 then
      gd (0 ≤ a1 ∧ a1 < (a0_p_l.length : Int)) <|
      gd (0 ≤ (a0_p_t.length : Int) ∧ (a0_p_t.length : Int) < ((a0_p_t ++ [(⟨0, (⟨#[]⟩ : ByteArray), false, (⟨#[]⟩ : ByteArray), (Vector.replicate 16 0 : Vector Int 16)⟩ : Node)]).length : Int)) <|
      some ((a0_p_t.length : Int), (a0_p_t ++ [(⟨0, (⟨#[]⟩ : ByteArray), false, (⟨#[]⟩ : ByteArray), (Vector.replicate 16 0 : Vector Int 16)⟩ : Node)]).set (a0_p_t.length : Int).toNat (⟨1, sub (gt a0_p_n a1) a3 ((gt a0_p_n a1).size : Int), true, (gt a0_p_l a1).value_, (Vector.replicate 16 0 : Vector Int 16)⟩ : Node))
    else
      gd (0 ≤ w64 (a2 - 1) ∧ w64 (a2 - 1) < (a0_p_n.length : Int)) <|
      gd (0 ≤ a3 ∧ a3 ≤ ((gt a0_p_n (w64 (a2 - 1))).size : Int)) <|
      (nibble_Common.f (sub (gt a0_p_n a1) a3 ((gt a0_p_n a1).size : Int)) (sub (gt a0_p_n (w64 (a2 - 1))) a3 ((gt a0_p_n (w64 (a2 - 1))).size : Int))).bind fun y24 =>
      bif decide (y24 > 0) then
        gd (0 ≤ y24 ∧ y24 ≤ ((sub (gt a0_p_n a1) a3 ((gt a0_p_n a1).size : Int)).size : Int)) <|
        ((trie_builder_build.f kk) a0_p_l a0_p_n (a0_p_t ++ [(⟨0, (⟨#[]⟩ : ByteArray), false, (⟨#[]⟩ : ByteArray), (Vector.replicate 16 0 : Vector Int 16)⟩ : Node)]) a1 a2 (w64 (a3 + y24))).bind fun (y36, y37) =>
        gd (0 ≤ (0 : Int) ∧ (0 : Int) < 16) <|
        gd (0 ≤ (a0_p_t.length : Int) ∧ (a0_p_t.length : Int) < (y37.length : Int)) <|
        some ((a0_p_t.length : Int), y37.set (a0_p_t.length : Int).toNat (⟨2, sub (sub (gt a0_p_n a1) a3 ((gt a0_p_n a1).size : Int)) 0 y24, false, (⟨#[]⟩ : ByteArray), vset (Vector.replicate 16 0 : Vector Int 16) 0 y36⟩ : Node))
      else
        ((trie_builder_branch.f kk) a0_p_l a0_p_n (a0_p_t ++ [(⟨0, (⟨#[]⟩ : ByteArray), false, (⟨#[]⟩ : ByteArray), (Vector.replicate 16 0 : Vector Int 16)⟩ : Node)]) a1 a2 a3).bind fun (y54, y55) =>
        gd (0 ≤ (a0_p_t.length : Int) ∧ (a0_p_t.length : Int) < (y55.length : Int)) <|
        some ((a0_p_t.length : Int), y55.set (a0_p_t.length : Int).toNat y54)
def trie_builder_branch.f : Nat → (List Pair) → (List ByteArray) → (List Node) → Int → Int → Int → Option (Node × List Node)
  | 0, _, _, _, _, _, _ => none
  | kk + 1, a0_p_l, a0_p_n, a0_p_t, a1, a2, a3 =>
    (
        gd (0 ≤ a1 ∧ a1 < (a0_p_n.length : Int)) <|
        bif ((gt a0_p_n a1).size : Int) == a3 then
          gd (0 ≤ a1 ∧ a1 < (a0_p_l.length : Int)) <|
          some (true, (gt a0_p_l a1).value_, w64 (a1 + 1))
        else
          some (false, (⟨#[]⟩ : ByteArray), a1)).bind fun (y20, y21, y22) =>
    (trie_builder_branch.l0 a0_p_l a0_p_n a2 a3 (trie_builder_build.f kk) BIG (a0_p_t, (Vector.replicate 16 0 : Vector Int 16), y22)).bind fun (y426, y431) =>
    some ((⟨3, (⟨#[]⟩ : ByteArray), y20, y21, y431⟩ : Node), y426)
end

def trie_Build.l0 (a0 : List Pair) : Nat → (List ByteArray × Int) → Option (List ByteArray)
  | 0, _ => none
  | k + 1, (y166, y171) =>
    bif decide (y171 < (a0.length : Int)) then
      gd (0 ≤ y171 ∧ y171 < (a0.length : Int)) <|
      (nibble_Of.f ((gt a0 y171).key_)).bind fun y212 =>
      gd (y166.length + 1 ≤ 274877906944) <|
      trie_Build.l0 a0 k (y166 ++ [y212], w64 (y171 + 1))
    else
      some y166
def trie_Build.f (a0 : List Pair) : Option (List Node × Bool) :=
  (trie_may.f a0).bind fun y228 =>
  bif !y228 then
    some (([] : List Node), false)
  else
    (trie_Build.l0 a0 BIG (([] : List ByteArray), 0)).bind fun y197 =>
    (
        bif decide ((a0.length : Int) > 0) then
          (trie_builder_build.f BIG a0 y197 ([] : List Node) 0 (a0.length : Int) 0).bind fun (y613, y614) =>
          some y614
        else
          some ([] : List Node)).bind fun y605 =>
    some (y605, true)

def trie_Same.l0 (a0 : List Node) (a1 : List Node) : Nat → Int → Option (Unit ⊕ Bool)
  | 0, _ => none
  | k + 1, y13 =>
    bif decide (y13 < (a0.length : Int)) then
      gd (0 ≤ y13 ∧ y13 < (a0.length : Int)) <|
      gd (0 ≤ y13 ∧ y13 < (a1.length : Int)) <|
      bif !(eq_Node (gt a0 y13) (gt a1 y13)) then
        some (.inr false)
      else
        trie_Same.l0 a0 a1 k (w64 (y13 + 1))
    else
      some (.inl ())
def trie_Same.f (a0 : List Node) (a1 : List Node) : Option Bool :=
  bif (a0.length : Int) != (a1.length : Int) then
    some false
  else
    (trie_Same.l0 a0 a1 BIG 0).bind fun
    | .inl () =>
      some true
    | .inr r28 =>
      some r28

def trie_walked.f (a0 : List Node) : Option (trie_walker_T × Bool) :=
  (
      bif decide ((a0.length : Int) > 0) then
        (trie_walker_walk.f BIG a0 0 ([] : List Pair) ([] : List ByteArray) 0 (⟨#[]⟩ : ByteArray)).bind fun (y1105, y1106, y1107, y1108) =>
        some (y1107, y1108, y1106, !y1105)
      else
        some (([] : List Pair), ([] : List ByteArray), 0, false)).bind fun (y1090, y1095, y1100, y1101) =>
  bif y1101 then
    some ((⟨a0, y1100, y1090, y1095⟩ : trie_walker_T), false)
  else
    (trie_Build.f y1090).bind fun (y630, y631) =>
    (
        bif y631 then
          (trie_Same.f a0 y630).bind fun y46 =>
          some y46
        else
          some false).bind fun y42 =>
    some ((⟨a0, y1100, y1090, y1095⟩ : trie_walker_T), y42)

def trie_Good.f (a0 : List Node) : Option Bool :=
  (trie_walked.f a0).bind fun (y55, y56) =>
  some y56

def root_item_r1.l0 (a0 : Node) (a1 : List ByteArray) : Nat → (List ByteArray × Int × Int) → Option (List ByteArray × Int)
  | 0, _ => none
  | k + 1, (y236, y241, y242) =>
    bif decide (y242 < 16) then
      (
          gd (0 ≤ y242 ∧ y242 < 16) <|
          bif (vg a0.kids_ y242) != 0 then
            gd (0 ≤ y242) <|
            gd (0 ≤ vg a0.kids_ y242 ∧ vg a0.kids_ y242 < (a1.length : Int)) <|
            gd (y236.length + 1 ≤ 274877906944) <|
            some (y236 ++ [gt a1 (vg a0.kids_ y242)], bor .i64 y241 (shl .i64 1 y242))
          else
            some (y236, y241)).bind fun (y357, y362) =>
      root_item_r1.l0 a0 a1 k (y357, y362, w64 (y242 + 1))
    else
      some (y236, y241)
def root_item_r1.f (a0 : Node) (a1 : List ByteArray) : Option Item :=
  (root_item_r1.l0 a0 a1 BIG (([] : List ByteArray), 0, 0)).bind fun (y309, y314) =>
  some (⟨a0.kind_, a0.path_, a0.has_, a0.value_, y314, y309⟩ : Item)

def math_bits_OnesCount64.f (a0 : Int) : Option Int :=
  some (band .i64 (w64 (wu64 ((wu64 ((wu64 ((band .u64 (wu64 ((shr .u64 (wu64 ((band .u64 (shr .u64 (wu64 ((band .u64 (shr .u64 a0 1) 6148914691236517205) + (band .u64 a0 6148914691236517205))) 2) 3689348814741910323) + (band .u64 (wu64 ((band .u64 (shr .u64 a0 1) 6148914691236517205) + (band .u64 a0 6148914691236517205))) 3689348814741910323))) 4) + (wu64 ((band .u64 (shr .u64 (wu64 ((band .u64 (shr .u64 a0 1) 6148914691236517205) + (band .u64 a0 6148914691236517205))) 2) 3689348814741910323) + (band .u64 (wu64 ((band .u64 (shr .u64 a0 1) 6148914691236517205) + (band .u64 a0 6148914691236517205))) 3689348814741910323))))) 1085102592571150095) + (shr .u64 (band .u64 (wu64 ((shr .u64 (wu64 ((band .u64 (shr .u64 (wu64 ((band .u64 (shr .u64 a0 1) 6148914691236517205) + (band .u64 a0 6148914691236517205))) 2) 3689348814741910323) + (band .u64 (wu64 ((band .u64 (shr .u64 a0 1) 6148914691236517205) + (band .u64 a0 6148914691236517205))) 3689348814741910323))) 4) + (wu64 ((band .u64 (shr .u64 (wu64 ((band .u64 (shr .u64 a0 1) 6148914691236517205) + (band .u64 a0 6148914691236517205))) 2) 3689348814741910323) + (band .u64 (wu64 ((band .u64 (shr .u64 a0 1) 6148914691236517205) + (band .u64 a0 6148914691236517205))) 3689348814741910323))))) 1085102592571150095) 8))) + (shr .u64 (wu64 ((band .u64 (wu64 ((shr .u64 (wu64 ((band .u64 (shr .u64 (wu64 ((band .u64 (shr .u64 a0 1) 6148914691236517205) + (band .u64 a0 6148914691236517205))) 2) 3689348814741910323) + (band .u64 (wu64 ((band .u64 (shr .u64 a0 1) 6148914691236517205) + (band .u64 a0 6148914691236517205))) 3689348814741910323))) 4) + (wu64 ((band .u64 (shr .u64 (wu64 ((band .u64 (shr .u64 a0 1) 6148914691236517205) + (band .u64 a0 6148914691236517205))) 2) 3689348814741910323) + (band .u64 (wu64 ((band .u64 (shr .u64 a0 1) 6148914691236517205) + (band .u64 a0 6148914691236517205))) 3689348814741910323))))) 1085102592571150095) + (shr .u64 (band .u64 (wu64 ((shr .u64 (wu64 ((band .u64 (shr .u64 (wu64 ((band .u64 (shr .u64 a0 1) 6148914691236517205) + (band .u64 a0 6148914691236517205))) 2) 3689348814741910323) + (band .u64 (wu64 ((band .u64 (shr .u64 a0 1) 6148914691236517205) + (band .u64 a0 6148914691236517205))) 3689348814741910323))) 4) + (wu64 ((band .u64 (shr .u64 (wu64 ((band .u64 (shr .u64 a0 1) 6148914691236517205) + (band .u64 a0 6148914691236517205))) 2) 3689348814741910323) + (band .u64 (wu64 ((band .u64 (shr .u64 a0 1) 6148914691236517205) + (band .u64 a0 6148914691236517205))) 3689348814741910323))))) 1085102592571150095) 8))) 16))) + (shr .u64 (wu64 ((wu64 ((band .u64 (wu64 ((shr .u64 (wu64 ((band .u64 (shr .u64 (wu64 ((band .u64 (shr .u64 a0 1) 6148914691236517205) + (band .u64 a0 6148914691236517205))) 2) 3689348814741910323) + (band .u64 (wu64 ((band .u64 (shr .u64 a0 1) 6148914691236517205) + (band .u64 a0 6148914691236517205))) 3689348814741910323))) 4) + (wu64 ((band .u64 (shr .u64 (wu64 ((band .u64 (shr .u64 a0 1) 6148914691236517205) + (band .u64 a0 6148914691236517205))) 2) 3689348814741910323) + (band .u64 (wu64 ((band .u64 (shr .u64 a0 1) 6148914691236517205) + (band .u64 a0 6148914691236517205))) 3689348814741910323))))) 1085102592571150095) + (shr .u64 (band .u64 (wu64 ((shr .u64 (wu64 ((band .u64 (shr .u64 (wu64 ((band .u64 (shr .u64 a0 1) 6148914691236517205) + (band .u64 a0 6148914691236517205))) 2) 3689348814741910323) + (band .u64 (wu64 ((band .u64 (shr .u64 a0 1) 6148914691236517205) + (band .u64 a0 6148914691236517205))) 3689348814741910323))) 4) + (wu64 ((band .u64 (shr .u64 (wu64 ((band .u64 (shr .u64 a0 1) 6148914691236517205) + (band .u64 a0 6148914691236517205))) 2) 3689348814741910323) + (band .u64 (wu64 ((band .u64 (shr .u64 a0 1) 6148914691236517205) + (band .u64 a0 6148914691236517205))) 3689348814741910323))))) 1085102592571150095) 8))) + (shr .u64 (wu64 ((band .u64 (wu64 ((shr .u64 (wu64 ((band .u64 (shr .u64 (wu64 ((band .u64 (shr .u64 a0 1) 6148914691236517205) + (band .u64 a0 6148914691236517205))) 2) 3689348814741910323) + (band .u64 (wu64 ((band .u64 (shr .u64 a0 1) 6148914691236517205) + (band .u64 a0 6148914691236517205))) 3689348814741910323))) 4) + (wu64 ((band .u64 (shr .u64 (wu64 ((band .u64 (shr .u64 a0 1) 6148914691236517205) + (band .u64 a0 6148914691236517205))) 2) 3689348814741910323) + (band .u64 (wu64 ((band .u64 (shr .u64 a0 1) 6148914691236517205) + (band .u64 a0 6148914691236517205))) 3689348814741910323))))) 1085102592571150095) + (shr .u64 (band .u64 (wu64 ((shr .u64 (wu64 ((band .u64 (shr .u64 (wu64 ((band .u64 (shr .u64 a0 1) 6148914691236517205) + (band .u64 a0 6148914691236517205))) 2) 3689348814741910323) + (band .u64 (wu64 ((band .u64 (shr .u64 a0 1) 6148914691236517205) + (band .u64 a0 6148914691236517205))) 3689348814741910323))) 4) + (wu64 ((band .u64 (shr .u64 (wu64 ((band .u64 (shr .u64 a0 1) 6148914691236517205) + (band .u64 a0 6148914691236517205))) 2) 3689348814741910323) + (band .u64 (wu64 ((band .u64 (shr .u64 a0 1) 6148914691236517205) + (band .u64 a0 6148914691236517205))) 3689348814741910323))))) 1085102592571150095) 8))) 16))) 32)))) 127)

def math_bits_OnesCount.f (a0 : Int) : Option Int :=
  (math_bits_OnesCount64.f a0).bind fun y1 =>
  some y1

def node_hashes_c1.f (a0 : ByteArray) : Option Bool :=
  some ((a0.size : Int) != 32)

def slices_IndexFunc_string_node_hashes_c1.l0 (a0 : List ByteArray) : Nat → Int → Option (Unit ⊕ Int)
  | 0, _ => none
  | k + 1, y18 =>
    bif decide (y18 < (a0.length : Int)) then
      gd (0 ≤ y18 ∧ y18 < (a0.length : Int)) <|
      (node_hashes_c1.f (gt a0 y18)).bind fun y33 =>
      bif y33 then
        some (.inr y18)
      else
        slices_IndexFunc_string_node_hashes_c1.l0 a0 k (w64 (y18 + 1))
    else
      some (.inl ())
def slices_IndexFunc_string_node_hashes_c1.f (a0 : List ByteArray) : Option Int :=
  (slices_IndexFunc_string_node_hashes_c1.l0 a0 BIG 0).bind fun
  | .inl () =>
    some (-1)
  | .inr r41 =>
    some r41

def slices_ContainsFunc_string_node_hashes_c1.f (a0 : List ByteArray) : Option Bool :=
  (slices_IndexFunc_string_node_hashes_c1.f a0).bind fun y42 =>
  some (decide (y42 ≥ 0))

def node_hashes.f (a0 : Item) : Option Bool :=
  (
      (math_bits_OnesCount.f (wu64 a0.mask_)).bind fun y72 =>
      bif y72 == (a0.hashes_.length : Int) then
        (slices_ContainsFunc_string_node_hashes_c1.f a0.hashes_).bind fun y79 =>
        some (!y79)
      else
        some false).bind fun y68 =>
  some y68

def nibble_Good.f (a0 : ByteArray) : Option Bool :=
  (
      bif decide ((a0.size : Int) ≤ 16) then
        (nibble_small.f a0).bind fun y19 =>
        some y19
      else
        some false).bind fun y15 =>
  some y15

def node_Good.f (a0 : Item) : Option Bool :=
  (
      bif decide (a0.mask_ < 0) then
        some true
      else
        bif decide (a0.mask_ ≥ 65536) then
          some true
        else
          (node_hashes.f a0).bind fun y142 =>
          bif !y142 then
            some true
          else
            bif decide ((a0.value_.size : Int) > 16) then
              some true
            else
              bif !a0.has_ then
                bif !(seq_ a0.value_ (⟨#[]⟩ : ByteArray)) then
                  some true
                else
                  (nibble_Good.f a0.path_).bind fun y152 =>
                  some (!y152)
              else
                (nibble_Good.f a0.path_).bind fun y158 =>
                some (!y158)).bind fun y137 =>
  bif y137 then
    some false
  else
    bif a0.kind_ == 1 then
      some (eq_node_face_T (⟨a0.kind_, a0.path_, a0.has_, a0.value_, a0.mask_⟩ : node_face_T) (⟨1, a0.path_, true, a0.value_, 0⟩ : node_face_T))
    else
      bif a0.kind_ == 2 then
        (
            bif eq_node_face_T (⟨a0.kind_, a0.path_, a0.has_, a0.value_, a0.mask_⟩ : node_face_T) (⟨2, a0.path_, false, (⟨#[]⟩ : ByteArray), 1⟩ : node_face_T) then
              some (!(seq_ a0.path_ (⟨#[]⟩ : ByteArray)))
            else
              some false).bind fun y173 =>
        some y173
      else
        bif a0.kind_ == 3 then
          (
              bif seq_ a0.path_ (⟨#[]⟩ : ByteArray) then
                bif decide ((a0.hashes_.length : Int) > 1) then
                  some true
                else
                  bif a0.has_ then
                    some (decide ((a0.hashes_.length : Int) > 0))
                  else
                    some false
              else
                some false).bind fun y184 =>
          some y184
        else
          some false

def nibble_Pack.f (a0 : ByteArray) : Option (ByteArray × Bool) :=
  (nibble_Good.f a0).bind fun y1 =>
  bif !y1 then
    some ((⟨#[]⟩ : ByteArray), false)
  else
    (nibble_two.f a0).bind fun y14 =>
    gd ((strOfNums [wu8 (a0.size : Int)]).size + y14.size ≤ 9223372036854775807) <|
    some ((strOfNums [wu8 (a0.size : Int)]) ++ y14, true)

def node_value.f (a0 : ByteArray) : Option ByteArray :=
  gd ((strOfNums [wu8 (a0.size : Int)]).size + a0.size ≤ 9223372036854775807) <|
  some ((strOfNums [wu8 (a0.size : Int)]) ++ a0)

def node_Encode.f (a0 : Item) : Option (ByteArray × Bool) :=
  (node_Good.f a0).bind fun y190 =>
  bif !y190 then
    some ((⟨#[]⟩ : ByteArray), false)
  else
    (nibble_Pack.f a0.path_).bind fun (y40, y41) =>
    (strings_Join.f a0.hashes_ (⟨#[]⟩ : ByteArray)).bind fun y49 =>
    bif a0.kind_ == 1 then
      gd ((strOfNums [wu8 a0.kind_]).size + y40.size ≤ 9223372036854775807) <|
      (node_value.f a0.value_).bind fun y7 =>
      gd (((strOfNums [wu8 a0.kind_]) ++ y40).size + y7.size ≤ 9223372036854775807) <|
      some (((strOfNums [wu8 a0.kind_]) ++ y40) ++ y7, true)
    else
      bif a0.kind_ == 2 then
        gd ((strOfNums [wu8 a0.kind_]).size + y40.size ≤ 9223372036854775807) <|
        gd (((strOfNums [wu8 a0.kind_]) ++ y40).size + y49.size ≤ 9223372036854775807) <|
        some (((strOfNums [wu8 a0.kind_]) ++ y40) ++ y49, true)
      else
        gd ((strOfNums [wu8 a0.kind_]).size + (strOfNums [wu8 (shr .i64 a0.mask_ 8), wu8 a0.mask_]).size ≤ 9223372036854775807) <|
        bif !a0.has_ then
          gd (((strOfNums [wu8 a0.kind_]) ++ (strOfNums [wu8 (shr .i64 a0.mask_ 8), wu8 a0.mask_])).size + (⟨#[0]⟩ : ByteArray).size ≤ 9223372036854775807) <|
          gd ((((strOfNums [wu8 a0.kind_]) ++ (strOfNums [wu8 (shr .i64 a0.mask_ 8), wu8 a0.mask_])) ++ (⟨#[0]⟩ : ByteArray)).size + y49.size ≤ 9223372036854775807) <|
          some ((((strOfNums [wu8 a0.kind_]) ++ (strOfNums [wu8 (shr .i64 a0.mask_ 8), wu8 a0.mask_])) ++ (⟨#[0]⟩ : ByteArray)) ++ y49, true)
        else
          gd (((strOfNums [wu8 a0.kind_]) ++ (strOfNums [wu8 (shr .i64 a0.mask_ 8), wu8 a0.mask_])).size + (⟨#[1]⟩ : ByteArray).size ≤ 9223372036854775807) <|
          (node_value.f a0.value_).bind fun y27 =>
          gd ((((strOfNums [wu8 a0.kind_]) ++ (strOfNums [wu8 (shr .i64 a0.mask_ 8), wu8 a0.mask_])) ++ (⟨#[1]⟩ : ByteArray)).size + y27.size ≤ 9223372036854775807) <|
          gd (((((strOfNums [wu8 a0.kind_]) ++ (strOfNums [wu8 (shr .i64 a0.mask_ 8), wu8 a0.mask_])) ++ (⟨#[1]⟩ : ByteArray)) ++ y27).size + y49.size ≤ 9223372036854775807) <|
          some (((((strOfNums [wu8 a0.kind_]) ++ (strOfNums [wu8 (shr .i64 a0.mask_ 8), wu8 a0.mask_])) ++ (⟨#[1]⟩ : ByteArray)) ++ y27) ++ y49, true)

def digest_Pad.l0 (a0 : Int) : Nat → (List Int × Int) → Option (List Int)
  | 0, _ => none
  | k + 1, (y44, y49) =>
    bif decide (y49 < 8) then
      gd (0 ≤ w64 (8 * (w64 (7 - y49)))) <|
      gd (y44.length + 1 ≤ 274877906944) <|
      digest_Pad.l0 a0 k (y44 ++ [wu8 (shr .u64 (wu64 ((wu64 (if 0 > a0 then 0 else a0)) * 8)) (w64 (8 * (w64 (7 - y49)))))], w64 (y49 + 1))
    else
      some y44
def digest_Pad.f (a0 : Int) : Option ByteArray :=
  gd (0 ≤ w64 (1 + (w64 (63 - ((w64 ((if 0 > a0 then 0 else a0) + 8)).tmod 64)))) ∧ w64 (1 + (w64 (63 - ((w64 ((if 0 > a0 then 0 else a0) + 8)).tmod 64)))) ≤ w64 ((w64 (1 + (w64 (63 - ((w64 ((if 0 > a0 then 0 else a0) + 8)).tmod 64))))) + 8) ∧ w64 ((w64 (1 + (w64 (63 - ((w64 ((if 0 > a0 then 0 else a0) + 8)).tmod 64))))) + 8) ≤ 274877906944) <|
  gd (0 ≤ (0 : Int) ∧ (0 : Int) < ((List.replicate (w64 (1 + (w64 (63 - ((w64 ((if 0 > a0 then 0 else a0) + 8)).tmod 64))))).toNat (0 : Int)).length : Int)) <|
  (digest_Pad.l0 a0 BIG ((List.replicate (w64 (1 + (w64 (63 - ((w64 ((if 0 > a0 then 0 else a0) + 8)).tmod 64))))).toNat (0 : Int)).set (0 : Int).toNat 128, 0)).bind fun y63 =>
  some (strOfNums y63)

def math_bits_RotateLeft32.f (a0 : Int) (a1 : Int) : Option Int :=
  gd (0 ≤ band .u64 (wu64 a1) 31) <|
  gd (0 ≤ wu64 (32 - (band .u64 (wu64 a1) 31))) <|
  some (bor .u32 (shl .u32 a0 (band .u64 (wu64 a1) 31)) (shr .u32 a0 (wu64 (32 - (band .u64 (wu64 a1) 31)))))

def digest_turned.f (a0 : Int) (a1 : Int) : Option Int :=
  (math_bits_RotateLeft32.f a0 (w64 (0 - a1))).bind fun y3 =>
  some y3

def digest_schedule.l0 (a0 : Vector Int 64) : Nat → (Vector Int 64 × Int) → Option (Vector Int 64)
  | 0, _ => none
  | k + 1, (y24, y25) =>
    bif decide (y25 < 64) then
      gd (0 ≤ w64 (y25.tdiv 4) ∧ w64 (y25.tdiv 4) < 64) <|
      gd (0 ≤ y25 ∧ y25 < 64) <|
      gd (0 ≤ w64 (y25.tdiv 4) ∧ w64 (y25.tdiv 4) < 64) <|
      digest_schedule.l0 a0 k (vset y24 (w64 (y25.tdiv 4)) (bor .u32 (shl .u32 (vg y24 (w64 (y25.tdiv 4))) 8) (wu32 (vg a0 y25))), w64 (y25 + 1))
    else
      some y24
def digest_schedule.l1 : Nat → (Vector Int 64 × Int) → Option (Vector Int 64)
  | 0, _ => none
  | k + 1, (y70, y71) =>
    bif decide (y71 < 64) then
      gd (0 ≤ w64 (y71 - 15) ∧ w64 (y71 - 15) < 64) <|
      gd (0 ≤ w64 (y71 - 2) ∧ w64 (y71 - 2) < 64) <|
      gd (0 ≤ w64 (y71 - 16) ∧ w64 (y71 - 16) < 64) <|
      gd (0 ≤ w64 (y71 - 7) ∧ w64 (y71 - 7) < 64) <|
      (digest_turned.f (vg y70 (w64 (y71 - 15))) 7).bind fun y116 =>
      (digest_turned.f (vg y70 (w64 (y71 - 15))) 18).bind fun y122 =>
      (digest_turned.f (vg y70 (w64 (y71 - 2))) 17).bind fun y128 =>
      (digest_turned.f (vg y70 (w64 (y71 - 2))) 19).bind fun y134 =>
      gd (0 ≤ y71 ∧ y71 < 64) <|
      digest_schedule.l1 k (vset y70 y71 (wu32 ((wu32 ((wu32 ((vg y70 (w64 (y71 - 16))) + (vg y70 (w64 (y71 - 7))))) + (bxor .u32 (bxor .u32 y116 y122) (shr .u32 (vg y70 (w64 (y71 - 15))) 3)))) + (bxor .u32 (bxor .u32 y128 y134) (shr .u32 (vg y70 (w64 (y71 - 2))) 10)))), w64 (y71 + 1))
    else
      some y70
def digest_schedule.f (a0 : Vector Int 64) : Option (Vector Int 64) :=
  (digest_schedule.l0 a0 BIG ((Vector.replicate 64 0 : Vector Int 64), 0)).bind fun y32 =>
  (digest_schedule.l1 BIG (y32, 16)).bind fun y105 =>
  some y105

def digest_Block.l0 (y144 : Vector Int 64) : Nat → (Vector Int 8 × Int) → Option (Vector Int 8)
  | 0, _ => none
  | k + 1, (y278, y279) =>
    bif decide (y279 < 64) then
      gd (0 ≤ (4 : Int) ∧ (4 : Int) < 8) <|
      gd (0 ≤ (0 : Int) ∧ (0 : Int) < 8) <|
      gd (0 ≤ (5 : Int) ∧ (5 : Int) < 8) <|
      gd (0 ≤ (6 : Int) ∧ (6 : Int) < 8) <|
      gd (0 ≤ (1 : Int) ∧ (1 : Int) < 8) <|
      gd (0 ≤ (2 : Int) ∧ (2 : Int) < 8) <|
      gd (0 ≤ (1 : Int) ∧ (1 : Int) < 8) <|
      gd (0 ≤ (2 : Int) ∧ (2 : Int) < 8) <|
      gd (0 ≤ (7 : Int) ∧ (7 : Int) < 8) <|
      gd (0 ≤ y279 ∧ y279 < 64) <|
      gd (0 ≤ y279 ∧ y279 < 64) <|
      (digest_turned.f (vg y278 4) 6).bind fun y358 =>
      (digest_turned.f (vg y278 4) 11).bind fun y364 =>
      (digest_turned.f (vg y278 4) 25).bind fun y370 =>
      (digest_turned.f (vg y278 0) 2).bind fun y376 =>
      (digest_turned.f (vg y278 0) 13).bind fun y382 =>
      (digest_turned.f (vg y278 0) 22).bind fun y388 =>
      gd (0 ≤ (0 : Int) ∧ (0 : Int) < 8) <|
      gd (0 ≤ (1 : Int) ∧ (1 : Int) < 8) <|
      gd (0 ≤ (2 : Int) ∧ (2 : Int) < 8) <|
      gd (0 ≤ (3 : Int) ∧ (3 : Int) < 8) <|
      gd (0 ≤ (4 : Int) ∧ (4 : Int) < 8) <|
      gd (0 ≤ (5 : Int) ∧ (5 : Int) < 8) <|
      gd (0 ≤ (6 : Int) ∧ (6 : Int) < 8) <|
      digest_Block.l0 y144 k ((#v[wu32 ((wu32 ((wu32 ((wu32 ((wu32 ((vg y278 7) + (bxor .u32 (bxor .u32 y358 y364) y370))) + (bxor .u32 (band .u32 (vg y278 4) (vg y278 5)) (band .u32 (bxor .u32 (if IntKind.signed .u32 then -1 else IntKind.max .u32) (vg y278 4)) (vg y278 6))))) + (vg glob_1 y279))) + (vg y144 y279))) + (wu32 ((bxor .u32 (bxor .u32 y376 y382) y388) + (bxor .u32 (bxor .u32 (band .u32 (vg y278 0) (vg y278 1)) (band .u32 (vg y278 0) (vg y278 2))) (band .u32 (vg y278 1) (vg y278 2)))))), vg y278 0, vg y278 1, vg y278 2, wu32 ((vg y278 3) + (wu32 ((wu32 ((wu32 ((wu32 ((vg y278 7) + (bxor .u32 (bxor .u32 y358 y364) y370))) + (bxor .u32 (band .u32 (vg y278 4) (vg y278 5)) (band .u32 (bxor .u32 (if IntKind.signed .u32 then -1 else IntKind.max .u32) (vg y278 4)) (vg y278 6))))) + (vg glob_1 y279))) + (vg y144 y279)))), vg y278 4, vg y278 5, vg y278 6] : Vector Int 8), w64 (y279 + 1))
    else
      some y278
def digest_Block.l1 (y339 : Vector Int 8) : Nat → (Vector Int 8 × Int) → Option (Vector Int 8)
  | 0, _ => none
  | k + 1, (y417, y418) =>
    bif decide (y418 < 8) then
      gd (0 ≤ y418 ∧ y418 < 8) <|
      gd (0 ≤ y418 ∧ y418 < 8) <|
      gd (0 ≤ y418 ∧ y418 < 8) <|
      digest_Block.l1 y339 k (vset y417 y418 (wu32 ((vg y417 y418) + (vg y339 y418))), w64 (y418 + 1))
    else
      some y417
def digest_Block.f (a0 : Vector Int 8) (a1 : Vector Int 64) : Option (Vector Int 8) :=
  (digest_schedule.f a1).bind fun y144 =>
  (digest_Block.l0 y144 BIG (a0, 0)).bind fun y339 =>
  (digest_Block.l1 y339 BIG (a0, 0)).bind fun y425 =>
  some y425

def digest_Of.l0 : Nat → (Vector Int 8 × ByteArray) → Option (Vector Int 8)
  | 0, _ => none
  | k + 1, (y465, y466) =>
    bif !(seq_ y466 (⟨#[]⟩ : ByteArray)) then
      gd (0 ≤ (64 : Int) ∧ (64 : Int) ≤ (y466.size : Int)) <|
      gd ((sub y466 0 64).size ≤ 274877906944) <|
      gd (64 ≤ (nums (sub y466 0 64)).length ∧ 0 < 64) <|
      (digest_Block.f y465 (vecN 64 (nums (sub y466 0 64)))).bind fun y499 =>
      gd (0 ≤ (64 : Int) ∧ (64 : Int) ≤ (y466.size : Int)) <|
      digest_Of.l0 k (y499, sub y466 64 (y466.size : Int))
    else
      some y465
def digest_Of.l1 (y485 : Vector Int 8) : Nat → (List Int × Int) → Option (List Int)
  | 0, _ => none
  | k + 1, (y557, y562) =>
    bif decide (y562 < 8) then
      gd (0 ≤ y562 ∧ y562 < 8) <|
      gd (y557.length + 4 ≤ 274877906944) <|
      digest_Of.l1 y485 k (y557 ++ [wu8 (shr .u32 (vg y485 y562) 24), wu8 (shr .u32 (vg y485 y562) 16), wu8 (shr .u32 (vg y485 y562) 8), wu8 (vg y485 y562)], w64 (y562 + 1))
    else
      some y557
def digest_Of.f (a0 : ByteArray) : Option ByteArray :=
  (digest_Pad.f (a0.size : Int)).bind fun y85 =>
  gd (a0.size + y85.size ≤ 9223372036854775807) <|
  (digest_Of.l0 BIG (glob_0, a0 ++ y85)).bind fun y485 =>
  (digest_Of.l1 y485 BIG (([] : List Int), 0)).bind fun y576 =>
  some (strOfNums y576)

def node_Hash.f (a0 : Item) : Option (ByteArray × Bool) :=
  (node_Encode.f a0).bind fun (y35, y36) =>
  bif !y36 then
    some ((⟨#[]⟩ : ByteArray), false)
  else
    (digest_Of.f y35).bind fun y598 =>
    some (y598, true)

def root_hashes.l0 (a0 : List Node) : Nat → (List ByteArray × Int) → Option (List ByteArray)
  | 0, _ => none
  | k + 1, (y645, y650) =>
    bif decide (y650 ≥ 0) then
      gd (0 ≤ y650 ∧ y650 < (a0.length : Int)) <|
      (root_item_r1.f (gt a0 y650) y645).bind fun y684 =>
      (node_Hash.f y684).bind fun (y693, y694) =>
      gd (0 ≤ y650 ∧ y650 < (y645.length : Int)) <|
      root_hashes.l0 a0 k (y645.set y650.toNat y693, w64 (y650 - 1))
    else
      some y645
def root_hashes.f (a0 : List Node) : Option (List ByteArray) :=
  gd (0 ≤ (a0.length : Int) ∧ (a0.length : Int) ≤ 274877906944) <|
  (root_hashes.l0 a0 BIG (List.replicate (a0.length : Int).toNat (⟨#[]⟩ : ByteArray), w64 ((a0.length : Int) - 1))).bind fun y674 =>
  some y674

def root_All.f (a0 : List Node) : Option (List ByteArray × Bool) :=
  (trie_Good.f a0).bind fun y71 =>
  bif !y71 then
    some (([] : List ByteArray), false)
  else
    (root_hashes.f a0).bind fun y708 =>
    some (y708, true)

def root_Empty.f : Option ByteArray :=
  (digest_Of.f (⟨#[0]⟩ : ByteArray)).bind fun y1 =>
  some y1

def root_Of.f (a0 : List Node) : Option (ByteArray × Bool) :=
  (root_All.f a0).bind fun (y717, y718) =>
  bif !y718 then
    some ((⟨#[]⟩ : ByteArray), false)
  else
    bif (y717.length : Int) == 0 then
      (root_Empty.f).bind fun y7 =>
      some (y7, true)
    else
      gd (0 ≤ (0 : Int) ∧ (0 : Int) < (y717.length : Int)) <|
      some (gt y717 0, true)

def root_item.l0 (a0 : Node) (a1 : List ByteArray) : Nat → (List ByteArray × Int × Int) → Option (List ByteArray × Int)
  | 0, _ => none
  | k + 1, (y236, y241, y242) =>
    bif decide (y242 < 16) then
      (
          gd (0 ≤ y242 ∧ y242 < 16) <|
          bif (vg a0.kids_ y242) != 0 then
            gd (0 ≤ y242) <|
            gd (0 ≤ vg a0.kids_ y242 ∧ vg a0.kids_ y242 < (a1.length : Int)) <|
            gd (y236.length + 1 ≤ 274877906944) <|
            some (y236 ++ [gt a1 (vg a0.kids_ y242)], bor .i64 y241 (shl .i64 1 y242))
          else
            some (y236, y241)).bind fun (y357, y362) =>
      root_item.l0 a0 a1 k (y357, y362, w64 (y242 + 1))
    else
      some (y236, y241)
def root_item.f (a0 : Node) (a1 : List ByteArray) : Option Item :=
  (root_item.l0 a0 a1 BIG (([] : List ByteArray), 0, 0)).bind fun (y309, y314) =>
  some (⟨a0.kind_, a0.path_, a0.has_, a0.value_, y314, y309⟩ : Item)

def root_Item.f (a0 : List Node) (a1 : Int) : Option (Item × Bool) :=
  (
      bif decide (a1 < 0) then
        some true
      else
        bif decide (a1 ≥ (a0.length : Int)) then
          some true
        else
          (trie_Good.f a0).bind fun y54 =>
          some (!y54)).bind fun y49 =>
  bif y49 then
    some ((⟨0, (⟨#[]⟩ : ByteArray), false, (⟨#[]⟩ : ByteArray), 0, ([] : List ByteArray)⟩ : Item), false)
  else
    gd (0 ≤ a1 ∧ a1 < (a0.length : Int)) <|
    (root_hashes.f a0).bind fun y64 =>
    (root_item.f (gt a0 a1) y64).bind fun y392 =>
    some (y392, true)

def law11_wakes.f : Option Bool :=
  (ref10_Build.f [(⟨(⟨#[97]⟩ : ByteArray), (⟨#[118]⟩ : ByteArray)⟩ : Pair)]).bind fun y1104 =>
  (root_Of.f y1104.t_).bind fun (y14, y15) =>
  (root_Of.f ([] : List Node)).bind fun (y21, y22) =>
  (root_Of.f [(⟨9, (⟨#[]⟩ : ByteArray), false, (⟨#[]⟩ : ByteArray), (Vector.replicate 16 0 : Vector Int 16)⟩ : Node)]).bind fun (y36, y37) =>
  (root_Item.f y1104.t_ 0).bind fun (y402, y403) =>
  (root_Item.f y1104.t_ 1).bind fun (y416, y417) =>
  (
      bif y15 then
        (digest_Of.f (⟨#[1, 2, 97, 1, 118]⟩ : ByteArray)).bind fun y488 =>
        bif seq_ y14 y488 then
          bif y22 then
            (root_Empty.f).bind fun y496 =>
            bif seq_ y21 y496 then
              (digest_Of.f (⟨#[0]⟩ : ByteArray)).bind fun y503 =>
              bif seq_ y21 y503 then
                bif !y37 then
                  bif y403 then
                    bif seq_ y402.path_ (⟨#[6, 1]⟩ : ByteArray) then
                      bif seq_ y402.value_ (⟨#[118]⟩ : ByteArray) then
                        some (!y417)
                      else
                        some false
                    else
                      some false
                  else
                    some false
                else
                  some false
              else
                some false
            else
              some false
          else
            some false
        else
          some false
      else
        some false).bind fun y484 =>
  some y484

def keep_Pairs.l0 (a0 : List Pair) (a1 : List Pair) : Nat → Int → Option (Unit ⊕ Bool)
  | 0, _ => none
  | k + 1, y13 =>
    bif decide (y13 < (a0.length : Int)) then
      gd (0 ≤ y13 ∧ y13 < (a0.length : Int)) <|
      gd (0 ≤ y13 ∧ y13 < (a1.length : Int)) <|
      bif !(eq_Pair (gt a0 y13) (gt a1 y13)) then
        some (.inr false)
      else
        keep_Pairs.l0 a0 a1 k (w64 (y13 + 1))
    else
      some (.inl ())
def keep_Pairs.f (a0 : List Pair) (a1 : List Pair) : Option Bool :=
  bif (a0.length : Int) != (a1.length : Int) then
    some false
  else
    (keep_Pairs.l0 a0 a1 BIG 0).bind fun
    | .inl () =>
      some true
    | .inr r28 =>
      some r28

def keep_Texts.l0 (a0 : List ByteArray) (a1 : List ByteArray) : Nat → Int → Option (Unit ⊕ Bool)
  | 0, _ => none
  | k + 1, y13 =>
    bif decide (y13 < (a0.length : Int)) then
      gd (0 ≤ y13 ∧ y13 < (a0.length : Int)) <|
      gd (0 ≤ y13 ∧ y13 < (a1.length : Int)) <|
      bif !(seq_ (gt a0 y13) (gt a1 y13)) then
        some (.inr false)
      else
        keep_Texts.l0 a0 a1 k (w64 (y13 + 1))
    else
      some (.inl ())
def keep_Texts.f (a0 : List ByteArray) (a1 : List ByteArray) : Option Bool :=
  bif (a0.length : Int) != (a1.length : Int) then
    some false
  else
    (keep_Texts.l0 a0 a1 BIG 0).bind fun
    | .inl () =>
      some true
    | .inr r28 =>
      some r28

def law11_RootContents.l1 (y617 : ref10_Both_T) (y628 : ref10_Both_T) (y653 : List ByteArray) (y663 : List ByteArray) (y1137 : Int) : Nat → Int → Option (Unit ⊕ Bool)
  | 0, _ => none
  | k + 1, y1931 =>
    bif decide (y1931 < (y628.t_.length : Int)) then
      (root_Item.f y617.t_ y1137).bind fun (y2130, y2131) =>
      (root_Item.f y628.t_ y1931).bind fun (y2144, y2145) =>
      (node_Encode.f y2130).bind fun (y2158, y2159) =>
      (node_Encode.f y2144).bind fun (y2165, y2166) =>
      (
          gd (0 ≤ y1137 ∧ y1137 < (y653.length : Int)) <|
          gd (0 ≤ y1931 ∧ y1931 < (y663.length : Int)) <|
          bif seq_ (gt y653 y1137) (gt y663 y1931) then
            some (!(seq_ y2158 y2165))
          else
            some false).bind fun y2180 =>
      bif y2180 then
        (law11_wakes.f).bind fun y2188 =>
        some (.inr y2188)
      else
        law11_RootContents.l1 y617 y628 y653 y663 y1137 k (w64 (y1931 + 1))
    else
      some (.inl ())
def law11_RootContents.l0 (y617 : ref10_Both_T) (y628 : ref10_Both_T) (y653 : List ByteArray) (y663 : List ByteArray) : Nat → Int → Option (Unit ⊕ Bool)
  | 0, _ => none
  | k + 1, y1137 =>
    bif decide (y1137 < (y617.t_.length : Int)) then
      (law11_RootContents.l1 y617 y628 y653 y663 y1137 BIG 0).bind fun
      | .inl () =>
        law11_RootContents.l0 y617 y628 y653 y663 k (w64 (y1137 + 1))
      | .inr r2195 =>
        some (.inr r2195)
    else
      some (.inl ())
def law11_RootContents.f (a0 : List Pair) (a1 : List Pair) : Option Bool :=
  (
      (keep_LongPairs.f a0).bind fun y581 =>
      bif y581 then
        some true
      else
        (keep_LongPairs.f a1).bind fun y588 =>
        bif y588 then
          some true
        else
          (ref10_May.f a0).bind fun y595 =>
          bif !y595 then
            some true
          else
            (ref10_May.f a1).bind fun y602 =>
            bif !y602 then
              some true
            else
              bif decide ((a0.length : Int) > 12) then
                some true
              else
                some (decide ((a1.length : Int) > 12))).bind fun y578 =>
  bif y578 then
    (law11_wakes.f).bind fun y611 =>
    some y611
  else
    (ref10_Build.f a0).bind fun y617 =>
    (ref10_Build.f a1).bind fun y628 =>
    (root_Of.f y617.t_).bind fun (y639, y640) =>
    (root_Of.f y628.t_).bind fun (y646, y647) =>
    (root_All.f y617.t_).bind fun (y653, y654) =>
    (root_All.f y628.t_).bind fun (y663, y664) =>
    (
        bif !y640 then
          some true
        else
          bif !y647 then
            some true
          else
            bif !y654 then
              some true
            else
              bif !y664 then
                some true
              else
                bif (y653.length : Int) != (y617.t_.length : Int) then
                  some true
                else
                  some ((y663.length : Int) != (y628.t_.length : Int))).bind fun y702 =>
    bif y702 then
      some false
    else
      (keep_Pairs.f a0 a1).bind fun y29 =>
      bif y29 then
        (
            bif seq_ y639 y646 then
              (keep_Texts.f y653 y663).bind fun y60 =>
              bif y60 then
                (law11_wakes.f).bind fun y67 =>
                some y67
              else
                some false
            else
              some false).bind fun y56 =>
        some y56
      else
        bif !(seq_ y639 y646) then
          (law11_wakes.f).bind fun y74 =>
          some y74
        else
          (law11_RootContents.l0 y617 y628 y653 y663 BIG 0).bind fun
          | .inl () =>
            (
                bif (y617.t_.length : Int) == 0 then
                  some true
                else
                  some ((y628.t_.length : Int) == 0)).bind fun y2199 =>
            some y2199
          | .inr r2203 =>
            some r2203

def law11_RootItems.l1 (y105 : ref10_Both_T) (y116 : List ByteArray) (y2432 : Int) (y4131 : Item) : Nat → (Int × Int) → Option (Int ⊕ Bool)
  | 0, _ => none
  | k + 1, (y4454, y4455) =>
    bif decide (y4455 < 16) then
      (
          (
              gd (0 ≤ y2432 ∧ y2432 < (y105.t_.length : Int)) <|
              gd (0 ≤ y4455 ∧ y4455 < 16) <|
              gd (0 ≤ wu64 y4455) <|
              bif !(((vg (gt y105.t_ y2432).kids_ y4455) != 0) == ((band .i64 (shr .i64 y4131.mask_ (wu64 y4455)) 1) == 1)) then
                some (.inr false)
              else
                bif (vg (gt y105.t_ y2432).kids_ y4455) != 0 then
                  (
                      bif decide (y4454 ≥ (y4131.hashes_.length : Int)) then
                        some true
                      else
                        gd (0 ≤ y4454 ∧ y4454 < (y4131.hashes_.length : Int)) <|
                        gd (0 ≤ vg (gt y105.t_ y2432).kids_ y4455 ∧ vg (gt y105.t_ y2432).kids_ y4455 < (y116.length : Int)) <|
                        some (!(seq_ (gt y4131.hashes_ y4454) (gt y116 (vg (gt y105.t_ y2432).kids_ y4455))))).bind fun y4683 =>
                  bif y4683 then
                    some (.inr false)
                  else
                    some (.inl (w64 (y4454 + 1)))
                else
                  some (.inl y4454)) : Option (Int ⊕ Bool)).bind fun
      | .inl y4651 =>
        law11_RootItems.l1 y105 y116 y2432 y4131 k (y4651, w64 (y4455 + 1))
      | .inr r4691 =>
        some (.inr r4691)
    else
      some (.inl y4454)
def law11_RootItems.l0 (y105 : ref10_Both_T) (y116 : List ByteArray) : Nat → Int → Option (Unit ⊕ Bool)
  | 0, _ => none
  | k + 1, y2432 =>
    bif decide (y2432 < (y105.t_.length : Int)) then
      (root_Item.f y105.t_ y2432).bind fun (y4131, y4132) =>
      (node_Hash.f y4131).bind fun (y4145, y4146) =>
      (
          bif !y4132 then
            some true
          else
            bif !y4146 then
              some true
            else
              gd (0 ≤ y2432 ∧ y2432 < (y116.length : Int)) <|
              bif !(seq_ y4145 (gt y116 y2432)) then
                some true
              else
                (node_Good.f y4131).bind fun y4213 =>
                some (!y4213)).bind fun y4206 =>
      bif y4206 then
        some (.inr false)
      else
        (law11_RootItems.l1 y105 y116 y2432 y4131 BIG (0, 0)).bind fun
        | .inl y4572 =>
          bif y4572 != (y4131.hashes_.length : Int) then
            some (.inr false)
          else
            law11_RootItems.l0 y105 y116 k (w64 (y2432 + 1))
        | .inr r4694 =>
          some (.inr r4694)
    else
      some (.inl ())
def law11_RootItems.f (a0 : List Pair) : Option Bool :=
  (
      (keep_LongPairs.f a0).bind fun y84 =>
      bif y84 then
        some true
      else
        (ref10_May.f a0).bind fun y91 =>
        bif !y91 then
          some true
        else
          some (decide ((a0.length : Int) > 12))).bind fun y81 =>
  bif y81 then
    (law11_wakes.f).bind fun y99 =>
    some y99
  else
    (ref10_Build.f a0).bind fun y105 =>
    (root_All.f y105.t_).bind fun (y116, y117) =>
    (root_Of.f y105.t_).bind fun (y126, y127) =>
    (
        bif !y117 then
          some true
        else
          bif !y127 then
            some true
          else
            bif (y116.length : Int) != (y105.t_.length : Int) then
              some true
            else
              bif decide ((y105.t_.length : Int) > 0) then
                gd (0 ≤ (0 : Int) ∧ (0 : Int) < (y116.length : Int)) <|
                some (!(seq_ y126 (gt y116 0)))
              else
                some false).bind fun y162 =>
    bif y162 then
      some false
    else
      (law11_RootItems.l0 y105 y116 BIG 0).bind fun
      | .inl () =>
        (law11_wakes.f).bind fun y4696 =>
        some y4696
      | .inr r4702 =>
        some r4702

def keep_Item.f (a0 : Item) (a1 : Item) : Option Bool :=
  (
      bif a0.kind_ == a1.kind_ then
        bif seq_ a0.path_ a1.path_ then
          bif a0.has_ == a1.has_ then
            bif seq_ a0.value_ a1.value_ then
              bif a0.mask_ == a1.mask_ then
                (keep_Texts.f a0.hashes_ a1.hashes_).bind fun y37 =>
                some y37
              else
                some false
            else
              some false
          else
            some false
        else
          some false
      else
        some false).bind fun y29 =>
  some y29

def law11_RootValue.l0 (y133 : ref10_Both_T) (y147 : ref10_Both_T) (y158 : List ByteArray) (y168 : List ByteArray) : Nat → Int → Option (Unit ⊕ Bool)
  | 0, _ => none
  | k + 1, y562 =>
    bif decide (y562 < (y133.t_.length : Int)) then
      (root_Item.f y133.t_ y562).bind fun (y977, y978) =>
      (root_Item.f y147.t_ y562).bind fun (y991, y992) =>
      (
          (keep_Item.f y977 y991).bind fun y1063 =>
          bif y1063 then
            gd (0 ≤ y562 ∧ y562 < (y158.length : Int)) <|
            gd (0 ≤ y562 ∧ y562 < (y168.length : Int)) <|
            some (!(seq_ (gt y158 y562) (gt y168 y562)))
          else
            some false).bind fun y1059 =>
      bif y1059 then
        some (.inr false)
      else
        (
            (keep_Item.f y977 y991).bind fun y1097 =>
            bif !y1097 then
              gd (0 ≤ y562 ∧ y562 < (y158.length : Int)) <|
              gd (0 ≤ y562 ∧ y562 < (y168.length : Int)) <|
              some (seq_ (gt y158 y562) (gt y168 y562))
            else
              some false).bind fun y1093 =>
        bif y1093 then
          (law11_wakes.f).bind fun y1107 =>
          some (.inr y1107)
        else
          law11_RootValue.l0 y133 y147 y158 y168 k (w64 (y562 + 1))
    else
      some (.inl ())
def law11_RootValue.f (a0 : List Pair) (a1 : Int) (a2 : ByteArray) : Option Bool :=
  (
      (keep_LongPairs.f a0).bind fun y94 =>
      bif y94 then
        some true
      else
        (ref10_May.f a0).bind fun y101 =>
        bif !y101 then
          some true
        else
          bif (a0.length : Int) == 0 then
            some true
          else
            bif decide ((a0.length : Int) > 10) then
              some true
            else
              some (decide ((a2.size : Int) > 16))).bind fun y91 =>
  bif y91 then
    (law11_wakes.f).bind fun y111 =>
    some y111
  else
    gd ((a0.length : Int) ≠ 0) <|
    gd (([] : List Pair).length + a0.length ≤ 274877906944) <|
    gd (0 ≤ (w64 a1).tmod (a0.length : Int) ∧ (w64 a1).tmod (a0.length : Int) < ((([] : List Pair) ++ a0).length : Int)) <|
    (ref10_Build.f a0).bind fun y133 =>
    (ref10_Build.f ((([] : List Pair) ++ a0).set ((w64 a1).tmod (a0.length : Int)).toNat ({ gt (([] : List Pair) ++ a0) ((w64 a1).tmod (a0.length : Int)) with value_ := a2 }))).bind fun y147 =>
    (root_All.f y133.t_).bind fun (y158, y159) =>
    (root_All.f y147.t_).bind fun (y168, y169) =>
    (
        bif !y159 then
          some true
        else
          bif !y169 then
            some true
          else
            bif (y158.length : Int) != (y133.t_.length : Int) then
              some true
            else
              bif (y168.length : Int) != (y133.t_.length : Int) then
                some true
              else
                some ((y147.t_.length : Int) != (y133.t_.length : Int))).bind fun y202 =>
    bif y202 then
      some false
    else
      gd (0 ≤ (w64 a1).tmod (a0.length : Int) ∧ (w64 a1).tmod (a0.length : Int) < (a0.length : Int)) <|
      bif seq_ ((gt a0 ((w64 a1).tmod (a0.length : Int))).value_) a2 then
        (
            (keep_Texts.f y158 y168).bind fun y241 =>
            bif y241 then
              (law11_wakes.f).bind fun y248 =>
              some y248
            else
              some false).bind fun y238 =>
        some y238
      else
        (law11_RootValue.l0 y133 y147 y158 y168 BIG 0).bind fun
        | .inl () =>
          (
              gd (0 ≤ (0 : Int) ∧ (0 : Int) < (y158.length : Int)) <|
              gd (0 ≤ (0 : Int) ∧ (0 : Int) < (y168.length : Int)) <|
              bif !(seq_ (gt y158 0) (gt y168 0)) then
                (law11_wakes.f).bind fun y1141 =>
                some y1141
              else
                some false).bind fun y1134 =>
          some y1134
        | .inr r1147 =>
          some r1147

def law11_RootLeaf.f (a0 : ByteArray) (a1 : ByteArray) : Option Bool :=
  (
      bif decide ((a0.size : Int) < 1) then
        some true
      else
        bif decide ((a0.size : Int) > 8) then
          some true
        else
          some (decide ((a1.size : Int) > 16))).bind fun y21 =>
  bif y21 then
    (law11_wakes.f).bind fun y27 =>
    some y27
  else
    (ref10_Build.f [(⟨a0, a1⟩ : Pair)]).bind fun y41 =>
    (root_Of.f y41.t_).bind fun (y52, y53) =>
    gd ((⟨#[1]⟩ : ByteArray).size + (strOfNums [wu8 (w64 (2 * (a0.size : Int)))]).size ≤ 9223372036854775807) <|
    gd (((⟨#[1]⟩ : ByteArray) ++ (strOfNums [wu8 (w64 (2 * (a0.size : Int)))])).size + a0.size ≤ 9223372036854775807) <|
    gd ((((⟨#[1]⟩ : ByteArray) ++ (strOfNums [wu8 (w64 (2 * (a0.size : Int)))])) ++ a0).size + (strOfNums [wu8 (a1.size : Int)]).size ≤ 9223372036854775807) <|
    gd (((((⟨#[1]⟩ : ByteArray) ++ (strOfNums [wu8 (w64 (2 * (a0.size : Int)))])) ++ a0) ++ (strOfNums [wu8 (a1.size : Int)])).size + a1.size ≤ 9223372036854775807) <|
    (
        bif y53 then
          (digest_Of.f (((((⟨#[1]⟩ : ByteArray) ++ (strOfNums [wu8 (w64 (2 * (a0.size : Int)))])) ++ a0) ++ (strOfNums [wu8 (a1.size : Int)])) ++ a1)).bind fun y105 =>
          bif seq_ y52 y105 then
            (law11_wakes.f).bind fun y112 =>
            some y112
          else
            some false
        else
          some false).bind fun y101 =>
    some y101
end Go.Lf
