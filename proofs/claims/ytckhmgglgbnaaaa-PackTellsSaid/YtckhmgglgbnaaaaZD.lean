/- What the Go functions compute, as plain Lean functions (printed by our lift.py). -/
import Derived.Test.YtckhmgglgbnaaaaZT
set_option linter.unusedVariables false
set_option linter.unusedSimpArgs false
namespace Go.Lf
open Go
def keep_LongTrie.l0 (a0 : List Node) : Nat → (Int × Int) → Option Int
  | 0, _ => none
  | k + 1, (y37, y38) =>
    (
        bif decide (y38 < (a0.length : Int)) then
          some (decide (y37 ≤ 4000))
        else
          some false).bind fun y69 =>
    bif y69 then
      gd (0 ≤ y38 ∧ y38 < (a0.length : Int)) <|
      gd (0 ≤ y38 ∧ y38 < (a0.length : Int)) <|
      keep_LongTrie.l0 a0 k (w64 (y37 + (w64 ((w64 (1 + (if 4000 < (((gt a0 y38).path_).size : Int) then 4000 else (((gt a0 y38).path_).size : Int)))) + (if 4000 < (((gt a0 y38).value_).size : Int) then 4000 else (((gt a0 y38).value_).size : Int))))), w64 (y38 + 1))
    else
      some y37
def keep_LongTrie.f (a0 : List Node) : Option Bool :=
  (keep_LongTrie.l0 a0 BIG (0, 0)).bind fun y56 =>
  some (decide (y56 > 4000))

def ref10_May.l0 (a0 : List Pair) : Nat → Int → Option (Unit ⊕ Bool)
  | 0, _ => none
  | k + 1, y140 =>
    bif decide (y140 < (a0.length : Int)) then
      (
          gd (0 ≤ y140 ∧ y140 < (a0.length : Int)) <|
          bif decide ((((gt a0 y140).key_).size : Int) < 1) then
            some true
          else
            gd (0 ≤ y140 ∧ y140 < (a0.length : Int)) <|
            bif decide ((((gt a0 y140).key_).size : Int) > 8) then
              some true
            else
              gd (0 ≤ y140 ∧ y140 < (a0.length : Int)) <|
              bif decide ((((gt a0 y140).value_).size : Int) > 16) then
                some true
              else
                bif decide (y140 > 0) then
                  gd (0 ≤ y140 ∧ y140 < (a0.length : Int)) <|
                  gd (0 ≤ w64 (y140 - 1) ∧ w64 (y140 - 1) < (a0.length : Int)) <|
                  some (slt ((gt a0 y140).key_) ((gt a0 (w64 (y140 - 1))).key_) || seq_ ((gt a0 y140).key_) ((gt a0 (w64 (y140 - 1))).key_))
                else
                  some false).bind fun y268 =>
      bif y268 then
        some (.inr false)
      else
        ref10_May.l0 a0 k (w64 (y140 + 1))
    else
      some (.inl ())
def ref10_May.f (a0 : List Pair) : Option Bool :=
  (ref10_May.l0 a0 BIG 0).bind fun
  | .inl () =>
    some true
  | .inr r283 =>
    some r283

def ref02_Of.l0 (a0 : ByteArray) : Nat → (List Int × Int) → Option (List Int)
  | 0, _ => none
  | k + 1, (y56, y61) =>
    bif decide (y61 < (a0.size : Int)) then
      gd (0 ≤ y61 ∧ y61 < (a0.size : Int)) <|
      gd (0 ≤ y61 ∧ y61 < (a0.size : Int)) <|
      gd (y56.length + 2 ≤ 274877906944) <|
      ref02_Of.l0 a0 k (y56 ++ [wu8 ((bt a0 y61).tdiv 16), (bt a0 y61).tmod 16], w64 (y61 + 1))
    else
      some y56
def ref02_Of.f (a0 : ByteArray) : Option ByteArray :=
  (ref02_Of.l0 a0 BIG (([] : List Int), 0)).bind fun y77 =>
  some (strOfNums y77)

def ref02_Common.l0 (a0 : ByteArray) (a1 : ByteArray) : Nat → Int → Option Int
  | 0, _ => none
  | k + 1, y78 =>
    (
        bif decide (y78 < (a0.size : Int)) then
          bif decide (y78 < (a1.size : Int)) then
            gd (0 ≤ y78 ∧ y78 < (a0.size : Int)) <|
            gd (0 ≤ y78 ∧ y78 < (a1.size : Int)) <|
            some ((bt a0 y78) == (bt a1 y78))
          else
            some false
        else
          some false).bind fun y150 =>
    bif y150 then
      ref02_Common.l0 a0 a1 k (w64 (y78 + 1))
    else
      some y78
def ref02_Common.f (a0 : ByteArray) (a1 : ByteArray) : Option Int :=
  (ref02_Common.l0 a0 a1 BIG 0).bind fun y117 =>
  some y117

def ref10_maker_add.l1 (a0_p_n : List ByteArray) (a2 : Int) (a3 : Int) (y565 : Int) : Nat → Int → Option Int
  | 0, _ => none
  | k + 1, y877 =>
    (
        bif decide (y877 < a2) then
          gd (0 ≤ y877 ∧ y877 < (a0_p_n.length : Int)) <|
          gd (0 ≤ a3 ∧ a3 < ((gt a0_p_n y877).size : Int)) <|
          gd (0 ≤ y565 ∧ y565 < (a0_p_n.length : Int)) <|
          gd (0 ≤ a3 ∧ a3 < ((gt a0_p_n y565).size : Int)) <|
          some ((bt (gt a0_p_n y877) a3) == (bt (gt a0_p_n y565) a3))
        else
          some false).bind fun y960 =>
    bif y960 then
      ref10_maker_add.l1 a0_p_n a2 a3 y565 k (w64 (y877 + 1))
    else
      some y877
def ref10_maker_add.l0 (a0_p_l : List Pair) (a0_p_n : List ByteArray) (a0_p_t : List Node) (a2 : Int) (a3 : Int) (rec_ref10_maker_add : (List Pair) → (List ByteArray) → (List Node) → (List ByteArray) → Int → Int → Int → Option (Int × List Node × List ByteArray)) : Nat → (List ByteArray × List Node × Int) → Option (List ByteArray × List Node)
  | 0, _ => none
  | k + 1, (y555, y560, y565) =>
    bif decide (y565 < a2) then
      (ref10_maker_add.l1 a0_p_n a2 a3 y565 BIG y565).bind fun y922 =>
      (rec_ref10_maker_add a0_p_l a0_p_n y560 y555 y565 y922 (w64 (a3 + 1))).bind fun (y971, y972, y973) =>
      gd (0 ≤ y565 ∧ y565 < (a0_p_n.length : Int)) <|
      gd (0 ≤ a3 ∧ a3 < ((gt a0_p_n y565).size : Int)) <|
      gd (0 ≤ (a0_p_t.length : Int) ∧ (a0_p_t.length : Int) < (y972.length : Int)) <|
      gd (0 ≤ bt (gt a0_p_n y565) a3 ∧ bt (gt a0_p_n y565) a3 < 16) <|
      ref10_maker_add.l0 a0_p_l a0_p_n a0_p_t a2 a3 rec_ref10_maker_add k (y973, y972.set (a0_p_t.length : Int).toNat ({ gt y972 (a0_p_t.length : Int) with kids_ := vset (gt y972 (a0_p_t.length : Int)).kids_ (bt (gt a0_p_n y565) a3) y971 }), y922)
    else
      some (y555, y560)
def ref10_maker_add.f : Nat → (List Pair) → (List ByteArray) → (List Node) → (List ByteArray) → Int → Int → Int → Option (Int × List Node × List ByteArray)
  | 0, _, _, _, _, _, _, _ => none
  | kk + 1, a0_p_l, a0_p_n, a0_p_t, a0_p_p, a1, a2, a3 =>
    gd (a0_p_t.length + 1 ≤ 274877906944) <|
    gd (0 ≤ a1 ∧ a1 < (a0_p_n.length : Int)) <|
    gd (0 ≤ a3 ∧ a3 ≤ ((gt a0_p_n a1).size : Int)) <|
    gd (a0_p_p.length + 1 ≤ 274877906944) <|
    bif a2 == (w64 (a1 + 1)) then
      gd (0 ≤ a1 ∧ a1 < (a0_p_n.length : Int)) <|
      gd (0 ≤ a3 ∧ a3 ≤ ((gt a0_p_n a1).size : Int)) <|
      gd (0 ≤ a1 ∧ a1 < (a0_p_l.length : Int)) <|
      gd (0 ≤ (a0_p_t.length : Int) ∧ (a0_p_t.length : Int) < ((a0_p_t ++ [(⟨0, (⟨#[]⟩ : ByteArray), false, (⟨#[]⟩ : ByteArray), (Vector.replicate 16 0 : Vector Int 16)⟩ : Node)]).length : Int)) <|
      some ((a0_p_t.length : Int), (a0_p_t ++ [(⟨0, (⟨#[]⟩ : ByteArray), false, (⟨#[]⟩ : ByteArray), (Vector.replicate 16 0 : Vector Int 16)⟩ : Node)]).set (a0_p_t.length : Int).toNat (⟨1, sub (gt a0_p_n a1) a3 ((gt a0_p_n a1).size : Int), true, (gt a0_p_l a1).value_, (Vector.replicate 16 0 : Vector Int 16)⟩ : Node), a0_p_p ++ [sub (gt a0_p_n a1) 0 a3])
    else
      gd (0 ≤ a1 ∧ a1 < (a0_p_n.length : Int)) <|
      gd (0 ≤ a3 ∧ a3 ≤ ((gt a0_p_n a1).size : Int)) <|
      gd (0 ≤ w64 (a2 - 1) ∧ w64 (a2 - 1) < (a0_p_n.length : Int)) <|
      gd (0 ≤ a3 ∧ a3 ≤ ((gt a0_p_n (w64 (a2 - 1))).size : Int)) <|
      (ref02_Common.f (sub (gt a0_p_n a1) a3 ((gt a0_p_n a1).size : Int)) (sub (gt a0_p_n (w64 (a2 - 1))) a3 ((gt a0_p_n (w64 (a2 - 1))).size : Int))).bind fun y42 =>
      bif decide (y42 > 0) then
        gd (0 ≤ a1 ∧ a1 < (a0_p_n.length : Int)) <|
        gd (0 ≤ a3 ∧ a3 ≤ w64 (a3 + y42) ∧ w64 (a3 + y42) ≤ ((gt a0_p_n a1).size : Int)) <|
        gd (0 ≤ (a0_p_t.length : Int) ∧ (a0_p_t.length : Int) < ((a0_p_t ++ [(⟨0, (⟨#[]⟩ : ByteArray), false, (⟨#[]⟩ : ByteArray), (Vector.replicate 16 0 : Vector Int 16)⟩ : Node)]).length : Int)) <|
        ((ref10_maker_add.f kk) a0_p_l a0_p_n ((a0_p_t ++ [(⟨0, (⟨#[]⟩ : ByteArray), false, (⟨#[]⟩ : ByteArray), (Vector.replicate 16 0 : Vector Int 16)⟩ : Node)]).set (a0_p_t.length : Int).toNat (⟨2, sub (gt a0_p_n a1) a3 (w64 (a3 + y42)), false, (⟨#[]⟩ : ByteArray), (Vector.replicate 16 0 : Vector Int 16)⟩ : Node)) (a0_p_p ++ [sub (gt a0_p_n a1) 0 a3]) a1 a2 (w64 (a3 + y42))).bind fun (y56, y57, y58) =>
        gd (0 ≤ (a0_p_t.length : Int) ∧ (a0_p_t.length : Int) < (y57.length : Int)) <|
        gd (0 ≤ (0 : Int) ∧ (0 : Int) < 16) <|
        some ((a0_p_t.length : Int), y57.set (a0_p_t.length : Int).toNat ({ gt y57 (a0_p_t.length : Int) with kids_ := vset (gt y57 (a0_p_t.length : Int)).kids_ 0 y56 }), y58)
      else
        gd (0 ≤ (a0_p_t.length : Int) ∧ (a0_p_t.length : Int) < ((a0_p_t ++ [(⟨0, (⟨#[]⟩ : ByteArray), false, (⟨#[]⟩ : ByteArray), (Vector.replicate 16 0 : Vector Int 16)⟩ : Node)]).length : Int)) <|
        (
            gd (0 ≤ a1 ∧ a1 < (a0_p_n.length : Int)) <|
            bif ((gt a0_p_n a1).size : Int) == a3 then
              gd (0 ≤ a1 ∧ a1 < (a0_p_l.length : Int)) <|
              gd (0 ≤ (a0_p_t.length : Int) ∧ (a0_p_t.length : Int) < (((a0_p_t ++ [(⟨0, (⟨#[]⟩ : ByteArray), false, (⟨#[]⟩ : ByteArray), (Vector.replicate 16 0 : Vector Int 16)⟩ : Node)]).set (a0_p_t.length : Int).toNat ({ gt (a0_p_t ++ [(⟨0, (⟨#[]⟩ : ByteArray), false, (⟨#[]⟩ : ByteArray), (Vector.replicate 16 0 : Vector Int 16)⟩ : Node)]) (a0_p_t.length : Int) with kind_ := 3 })).length : Int)) <|
              gd (0 ≤ (a0_p_t.length : Int) ∧ (a0_p_t.length : Int) < ((((a0_p_t ++ [(⟨0, (⟨#[]⟩ : ByteArray), false, (⟨#[]⟩ : ByteArray), (Vector.replicate 16 0 : Vector Int 16)⟩ : Node)]).set (a0_p_t.length : Int).toNat ({ gt (a0_p_t ++ [(⟨0, (⟨#[]⟩ : ByteArray), false, (⟨#[]⟩ : ByteArray), (Vector.replicate 16 0 : Vector Int 16)⟩ : Node)]) (a0_p_t.length : Int) with kind_ := 3 })).set (a0_p_t.length : Int).toNat ({ gt ((a0_p_t ++ [(⟨0, (⟨#[]⟩ : ByteArray), false, (⟨#[]⟩ : ByteArray), (Vector.replicate 16 0 : Vector Int 16)⟩ : Node)]).set (a0_p_t.length : Int).toNat ({ gt (a0_p_t ++ [(⟨0, (⟨#[]⟩ : ByteArray), false, (⟨#[]⟩ : ByteArray), (Vector.replicate 16 0 : Vector Int 16)⟩ : Node)]) (a0_p_t.length : Int) with kind_ := 3 })) (a0_p_t.length : Int) with has_ := true })).length : Int)) <|
              some ((((a0_p_t ++ [(⟨0, (⟨#[]⟩ : ByteArray), false, (⟨#[]⟩ : ByteArray), (Vector.replicate 16 0 : Vector Int 16)⟩ : Node)]).set (a0_p_t.length : Int).toNat ({ gt (a0_p_t ++ [(⟨0, (⟨#[]⟩ : ByteArray), false, (⟨#[]⟩ : ByteArray), (Vector.replicate 16 0 : Vector Int 16)⟩ : Node)]) (a0_p_t.length : Int) with kind_ := 3 })).set (a0_p_t.length : Int).toNat ({ gt ((a0_p_t ++ [(⟨0, (⟨#[]⟩ : ByteArray), false, (⟨#[]⟩ : ByteArray), (Vector.replicate 16 0 : Vector Int 16)⟩ : Node)]).set (a0_p_t.length : Int).toNat ({ gt (a0_p_t ++ [(⟨0, (⟨#[]⟩ : ByteArray), false, (⟨#[]⟩ : ByteArray), (Vector.replicate 16 0 : Vector Int 16)⟩ : Node)]) (a0_p_t.length : Int) with kind_ := 3 })) (a0_p_t.length : Int) with has_ := true })).set (a0_p_t.length : Int).toNat ({ gt (((a0_p_t ++ [(⟨0, (⟨#[]⟩ : ByteArray), false, (⟨#[]⟩ : ByteArray), (Vector.replicate 16 0 : Vector Int 16)⟩ : Node)]).set (a0_p_t.length : Int).toNat ({ gt (a0_p_t ++ [(⟨0, (⟨#[]⟩ : ByteArray), false, (⟨#[]⟩ : ByteArray), (Vector.replicate 16 0 : Vector Int 16)⟩ : Node)]) (a0_p_t.length : Int) with kind_ := 3 })).set (a0_p_t.length : Int).toNat ({ gt ((a0_p_t ++ [(⟨0, (⟨#[]⟩ : ByteArray), false, (⟨#[]⟩ : ByteArray), (Vector.replicate 16 0 : Vector Int 16)⟩ : Node)]).set (a0_p_t.length : Int).toNat ({ gt (a0_p_t ++ [(⟨0, (⟨#[]⟩ : ByteArray), false, (⟨#[]⟩ : ByteArray), (Vector.replicate 16 0 : Vector Int 16)⟩ : Node)]) (a0_p_t.length : Int) with kind_ := 3 })) (a0_p_t.length : Int) with has_ := true })) (a0_p_t.length : Int) with value_ := (gt a0_p_l a1).value_ }), w64 (a1 + 1))
            else
              some ((a0_p_t ++ [(⟨0, (⟨#[]⟩ : ByteArray), false, (⟨#[]⟩ : ByteArray), (Vector.replicate 16 0 : Vector Int 16)⟩ : Node)]).set (a0_p_t.length : Int).toNat ({ gt (a0_p_t ++ [(⟨0, (⟨#[]⟩ : ByteArray), false, (⟨#[]⟩ : ByteArray), (Vector.replicate 16 0 : Vector Int 16)⟩ : Node)]) (a0_p_t.length : Int) with kind_ := 3 }), a1)).bind fun (y107, y112) =>
        (ref10_maker_add.l0 a0_p_l a0_p_n a0_p_t a2 a3 (ref10_maker_add.f kk) BIG (a0_p_p ++ [sub (gt a0_p_n a1) 0 a3], y107, y112)).bind fun (y774, y779) =>
        some ((a0_p_t.length : Int), y779, y774)

def ref10_Build.l0 (a0 : List Pair) : Nat → (List ByteArray × Int) → Option (List ByteArray)
  | 0, _ => none
  | k + 1, (y171, y176) =>
    bif decide (y176 < (a0.length : Int)) then
      gd (0 ≤ y176 ∧ y176 < (a0.length : Int)) <|
      (ref02_Of.f ((gt a0 y176).key_)).bind fun y209 =>
      gd (y171.length + 1 ≤ 274877906944) <|
      ref10_Build.l0 a0 k (y171 ++ [y209], w64 (y176 + 1))
    else
      some y171
def ref10_Build.f (a0 : List Pair) : Option ref10_Both_T :=
  (ref10_May.f a0).bind fun y284 =>
  bif !y284 then
    some (⟨([] : List Node), ([] : List ByteArray), false⟩ : ref10_Both_T)
  else
    (ref10_Build.l0 a0 BIG (([] : List ByteArray), 0)).bind fun y198 =>
    (
        bif decide ((a0.length : Int) > 0) then
          (ref10_maker_add.f BIG a0 y198 ([] : List Node) ([] : List ByteArray) 0 (a0.length : Int) 0).bind fun (y1071, y1072, y1073) =>
          some (y1072, y1073)
        else
          some (([] : List Node), ([] : List ByteArray))).bind fun (y1058, y1063) =>
    some (⟨y1058, y1063, true⟩ : ref10_Both_T)

def nibble_small.l0 (a0 : ByteArray) : Nat → Int → Option (Unit ⊕ Bool)
  | 0, _ => none
  | k + 1, y8 =>
    bif decide (y8 < (a0.size : Int)) then
      gd (0 ≤ y8 ∧ y8 < (a0.size : Int)) <|
      bif decide ((bt a0 y8) > 15) then
        some (.inr false)
      else
        nibble_small.l0 a0 k (w64 (y8 + 1))
    else
      some (.inl ())
def nibble_small.f (a0 : ByteArray) : Option Bool :=
  (nibble_small.l0 a0 BIG 0).bind fun
  | .inl () =>
    some true
  | .inr r19 =>
    some r19

def nibble_two.l0 (a0 : ByteArray) : Nat → (List Int × Int) → Option (List Int)
  | 0, _ => none
  | k + 1, (y33, y38) =>
    bif decide (y38 < (a0.size : Int)) then
      gd (0 ≤ y38.tmod 2 ∧ y38.tmod 2 < 2) <|
      gd (0 ≤ w64 (y38.tdiv 2) ∧ w64 (y38.tdiv 2) < (y33.length : Int)) <|
      gd (0 ≤ y38 ∧ y38 < (a0.size : Int)) <|
      gd (0 ≤ vg (#v[4, 0] : Vector Int 2) (y38.tmod 2)) <|
      gd (0 ≤ w64 (y38.tdiv 2) ∧ w64 (y38.tdiv 2) < (y33.length : Int)) <|
      nibble_two.l0 a0 k (y33.set (w64 (y38.tdiv 2)).toNat (bor .u8 (gt y33 (w64 (y38.tdiv 2))) (shl .u8 (bt a0 y38) (vg (#v[4, 0] : Vector Int 2) (y38.tmod 2)))), w64 (y38 + 1))
    else
      some y33
def nibble_two.f (a0 : ByteArray) : Option ByteArray :=
  gd (0 ≤ w64 ((w64 ((a0.size : Int) + 1)).tdiv 2) ∧ w64 ((w64 ((a0.size : Int) + 1)).tdiv 2) ≤ 274877906944) <|
  (nibble_two.l0 a0 BIG (List.replicate (w64 ((w64 ((a0.size : Int) + 1)).tdiv 2)).toNat 0, 0)).bind fun y49 =>
  some (strOfNums y49)

def nibble_Key.f (a0 : ByteArray) : Option (ByteArray × Bool) :=
  (
      bif ((a0.size : Int).tmod 2) != 0 then
        some true
      else
        (nibble_small.f a0).bind fun y62 =>
        some (!y62)).bind fun y58 =>
  bif y58 then
    some ((⟨#[]⟩ : ByteArray), false)
  else
    (nibble_two.f a0).bind fun y68 =>
    some (y68, true)

def trie_walker_pair.f (a0_p_t : List Node) (a0_p_next : Int) (a0_p_l : List Pair) (a0_p_paths : List ByteArray) (a1 : ByteArray) (a2 : ByteArray) : Option (Bool × List Pair) :=
  (nibble_Key.f a1).bind fun (y1, y2) =>
  gd (a0_p_l.length + 1 ≤ 274877906944) <|
  some (y2, a0_p_l ++ [(⟨y1, a2⟩ : Pair)])

def trie_walker_walk.l0 (a0_p_t : List Node) (a1 : Int) (a2 : ByteArray) (rec_trie_walker_walk : (List Node) → Int → (List Pair) → (List ByteArray) → Int → ByteArray → Option (Bool × Int × List Pair × List ByteArray)) : Nat → (List Pair × List ByteArray × Int × Int) → Option ((List Pair × List ByteArray × Int) ⊕ (Bool × Int × List Pair × List ByteArray))
  | 0, _ => none
  | k + 1, (y520, y525, y530, y531) =>
    bif decide (y531 < 16) then
      gd (0 ≤ y531 ∧ y531 < 16) <|
      (
          bif ((gt a0_p_t a1).kind_) == 3 then
            gd ((a2 ++ ((gt a0_p_t a1).path_)).size + (strOfNums [wu8 y531]).size ≤ 9223372036854775807) <|
            some ((a2 ++ ((gt a0_p_t a1).path_)) ++ (strOfNums [wu8 y531]))
          else
            some (a2 ++ ((gt a0_p_t a1).path_))).bind fun y845 =>
      (
          bif (vg ((gt a0_p_t a1).kids_) y531) != 0 then
            (rec_trie_walker_walk a0_p_t y530 y520 y525 (vg ((gt a0_p_t a1).kids_) y531) y845).bind fun (y906, y907, y908, y909) =>
            some (y908, y909, y907, !y906)
          else
            some (y520, y525, y530, false)).bind fun (y891, y896, y901, y902) =>
      bif y902 then
        some (.inr (false, y901, y891, y896))
      else
        trie_walker_walk.l0 a0_p_t a1 a2 rec_trie_walker_walk k (y891, y896, y901, w64 (y531 + 1))
    else
      some (.inl (y520, y525, y530))
def trie_walker_walk.f : Nat → (List Node) → Int → (List Pair) → (List ByteArray) → Int → ByteArray → Option (Bool × Int × List Pair × List ByteArray)
  | 0, _, _, _, _, _, _ => none
  | kk + 1, a0_p_t, a0_p_next, a0_p_l, a0_p_paths, a1, a2 =>
    (
        bif a1 != a0_p_next then
          some true
        else
          bif decide (a1 ≥ (a0_p_t.length : Int)) then
            some true
          else
            some (decide ((a2.size : Int) > 16))).bind fun y15 =>
    bif y15 then
      some (false, a0_p_next, a0_p_l, a0_p_paths)
    else
      gd (a0_p_paths.length + 1 ≤ 274877906944) <|
      gd (0 ≤ a1 ∧ a1 < (a0_p_t.length : Int)) <|
      gd (a2.size + ((gt a0_p_t a1).path_).size ≤ 9223372036854775807) <|
      (
          bif (gt a0_p_t a1).has_ then
            (trie_walker_pair.f a0_p_t (w64 (a0_p_next + 1)) a0_p_l (a0_p_paths ++ [a2]) (a2 ++ ((gt a0_p_t a1).path_)) ((gt a0_p_t a1).value_)).bind fun (y118, y119) =>
            some (y119, !y118)
          else
            some (a0_p_l, false)).bind fun (y109, y114) =>
      bif y114 then
        some (false, w64 (a0_p_next + 1), y109, a0_p_paths ++ [a2])
      else
        (trie_walker_walk.l0 a0_p_t a1 a2 (trie_walker_walk.f kk) BIG (y109, a0_p_paths ++ [a2], w64 (a0_p_next + 1), 0)).bind fun
        | .inl (y721, y726, y731) =>
          some (true, y731, y721, y726)
        | .inr r925 =>
          some r925

def trie_may.l0 (a0 : List Pair) : Nat → Int → Option (Unit ⊕ Bool)
  | 0, _ => none
  | k + 1, y112 =>
    bif decide (y112 < (a0.length : Int)) then
      gd (0 ≤ y112 ∧ y112 < (a0.length : Int)) <|
      (
          bif seq_ ((gt a0 y112).key_) (⟨#[]⟩ : ByteArray) then
            some true
          else
            bif decide ((((gt a0 y112).key_).size : Int) > 8) then
              some true
            else
              bif decide ((((gt a0 y112).value_).size : Int) > 16) then
                some true
              else
                bif decide (y112 > 0) then
                  gd (0 ≤ w64 (y112 - 1) ∧ w64 (y112 - 1) < (a0.length : Int)) <|
                  some (slt ((gt a0 y112).key_) ((gt a0 (w64 (y112 - 1))).key_) || seq_ ((gt a0 y112).key_) ((gt a0 (w64 (y112 - 1))).key_))
                else
                  some false).bind fun y216 =>
      bif y216 then
        some (.inr false)
      else
        trie_may.l0 a0 k (w64 (y112 + 1))
    else
      some (.inl ())
def trie_may.f (a0 : List Pair) : Option Bool :=
  (trie_may.l0 a0 BIG 0).bind fun
  | .inl () =>
    some true
  | .inr r227 =>
    some r227

def nibble_Of.l0 (a0 : ByteArray) : Nat → (List Int × Int) → Option (List Int)
  | 0, _ => none
  | k + 1, (y43, y48) =>
    bif decide (y48 < (a0.size : Int)) then
      gd (0 ≤ y48 ∧ y48 < (a0.size : Int)) <|
      gd (0 ≤ y48 ∧ y48 < (a0.size : Int)) <|
      gd (y43.length + 2 ≤ 274877906944) <|
      nibble_Of.l0 a0 k (y43 ++ [shr .u8 (bt a0 y48) 4, band .u8 (bt a0 y48) 15], w64 (y48 + 1))
    else
      some y43
def nibble_Of.f (a0 : ByteArray) : Option ByteArray :=
  gd (0 ≤ w64 (2 * (a0.size : Int)) ∧ w64 (2 * (a0.size : Int)) ≤ 274877906944) <|
  (nibble_Of.l0 a0 BIG (([] : List Int), 0)).bind fun y64 =>
  some (strOfNums y64)

def nibble_Common.l0 (a0 : ByteArray) (a1 : ByteArray) : Nat → Int → Option Int
  | 0, _ => none
  | k + 1, y66 =>
    (
        bif decide (y66 < (if (a1.size : Int) < (a0.size : Int) then (a1.size : Int) else (a0.size : Int))) then
          gd (0 ≤ y66 ∧ y66 < (a0.size : Int)) <|
          gd (0 ≤ y66 ∧ y66 < (a1.size : Int)) <|
          some ((bt a0 y66) == (bt a1 y66))
        else
          some false).bind fun y127 =>
    bif y127 then
      nibble_Common.l0 a0 a1 k (w64 (y66 + 1))
    else
      some y66
def nibble_Common.f (a0 : ByteArray) (a1 : ByteArray) : Option Int :=
  (nibble_Common.l0 a0 a1 BIG 0).bind fun y99 =>
  some y99

def trie_builder_branch.l1 (a0_p_n : List ByteArray) (a2 : Int) (a3 : Int) (y298 : Int) : Nat → Int → Option Int
  | 0, _ => none
  | k + 1, y491 =>
    (
        bif decide (y491 < a2) then
          gd (0 ≤ y491 ∧ y491 < (a0_p_n.length : Int)) <|
          gd (0 ≤ a3 ∧ a3 < ((gt a0_p_n y491).size : Int)) <|
          some ((bt (gt a0_p_n y491) a3) == (bt (gt a0_p_n y298) a3))
        else
          some false).bind fun y541 =>
    bif y541 then
      trie_builder_branch.l1 a0_p_n a2 a3 y298 k (w64 (y491 + 1))
    else
      some y491
def trie_builder_branch.l0 (a0_p_l : List Pair) (a0_p_n : List ByteArray) (a2 : Int) (a3 : Int) (rec_trie_builder_build : (List Pair) → (List ByteArray) → (List Node) → Int → Int → Int → Option (Int × List Node)) : Nat → (List Node × Vector Int 16 × Int) → Option (List Node × Vector Int 16)
  | 0, _ => none
  | k + 1, (y292, y297, y298) =>
    bif decide (y298 < a2) then
      gd (0 ≤ y298 ∧ y298 < (a0_p_n.length : Int)) <|
      gd (0 ≤ a3 ∧ a3 < ((gt a0_p_n y298).size : Int)) <|
      (trie_builder_branch.l1 a0_p_n a2 a3 y298 BIG y298).bind fun y518 =>
      (rec_trie_builder_build a0_p_l a0_p_n y292 y298 y518 (w64 (a3 + 1))).bind fun (y549, y550) =>
      gd (0 ≤ bt (gt a0_p_n y298) a3 ∧ bt (gt a0_p_n y298) a3 < 16) <|
      trie_builder_branch.l0 a0_p_l a0_p_n a2 a3 rec_trie_builder_build k (y550, vset y297 (bt (gt a0_p_n y298) a3) y549, y518)
    else
      some (y292, y297)
mutual
def trie_builder_build.f : Nat → (List Pair) → (List ByteArray) → (List Node) → Int → Int → Int → Option (Int × List Node)
  | 0, _, _, _, _, _, _ => none
  | kk + 1, a0_p_l, a0_p_n, a0_p_t, a1, a2, a3 =>
    gd (a0_p_t.length + 1 ≤ 274877906944) <|
    gd (0 ≤ a1 ∧ a1 < (a0_p_n.length : Int)) <|
    gd (0 ≤ a3 ∧ a3 ≤ ((gt a0_p_n a1).size : Int)) <|
    bif (w64 (a2 - a1)) == 1 then
      gd (0 ≤ a1 ∧ a1 < (a0_p_l.length : Int)) <|
      gd (0 ≤ (a0_p_t.length : Int) ∧ (a0_p_t.length : Int) < ((a0_p_t ++ [(⟨0, (⟨#[]⟩ : ByteArray), false, (⟨#[]⟩ : ByteArray), (Vector.replicate 16 0 : Vector Int 16)⟩ : Node)]).length : Int)) <|
      some ((a0_p_t.length : Int), (a0_p_t ++ [(⟨0, (⟨#[]⟩ : ByteArray), false, (⟨#[]⟩ : ByteArray), (Vector.replicate 16 0 : Vector Int 16)⟩ : Node)]).set (a0_p_t.length : Int).toNat (⟨1, sub (gt a0_p_n a1) a3 ((gt a0_p_n a1).size : Int), true, (gt a0_p_l a1).value_, (Vector.replicate 16 0 : Vector Int 16)⟩ : Node))
    else
      gd (0 ≤ w64 (a2 - 1) ∧ w64 (a2 - 1) < (a0_p_n.length : Int)) <|
      gd (0 ≤ a3 ∧ a3 ≤ ((gt a0_p_n (w64 (a2 - 1))).size : Int)) <|
      (nibble_Common.f (sub (gt a0_p_n a1) a3 ((gt a0_p_n a1).size : Int)) (sub (gt a0_p_n (w64 (a2 - 1))) a3 ((gt a0_p_n (w64 (a2 - 1))).size : Int))).bind fun y24 =>
      bif decide (y24 > 0) then
        gd (0 ≤ y24 ∧ y24 ≤ ((sub (gt a0_p_n a1) a3 ((gt a0_p_n a1).size : Int)).size : Int)) <|
        ((trie_builder_build.f kk) a0_p_l a0_p_n (a0_p_t ++ [(⟨0, (⟨#[]⟩ : ByteArray), false, (⟨#[]⟩ : ByteArray), (Vector.replicate 16 0 : Vector Int 16)⟩ : Node)]) a1 a2 (w64 (a3 + y24))).bind fun (y36, y37) =>
        gd (0 ≤ (0 : Int) ∧ (0 : Int) < 16) <|
        gd (0 ≤ (a0_p_t.length : Int) ∧ (a0_p_t.length : Int) < (y37.length : Int)) <|
        some ((a0_p_t.length : Int), y37.set (a0_p_t.length : Int).toNat (⟨2, sub (sub (gt a0_p_n a1) a3 ((gt a0_p_n a1).size : Int)) 0 y24, false, (⟨#[]⟩ : ByteArray), vset (Vector.replicate 16 0 : Vector Int 16) 0 y36⟩ : Node))
      else
        ((trie_builder_branch.f kk) a0_p_l a0_p_n (a0_p_t ++ [(⟨0, (⟨#[]⟩ : ByteArray), false, (⟨#[]⟩ : ByteArray), (Vector.replicate 16 0 : Vector Int 16)⟩ : Node)]) a1 a2 a3).bind fun (y54, y55) =>
        gd (0 ≤ (a0_p_t.length : Int) ∧ (a0_p_t.length : Int) < (y55.length : Int)) <|
        some ((a0_p_t.length : Int), y55.set (a0_p_t.length : Int).toNat y54)
def trie_builder_branch.f : Nat → (List Pair) → (List ByteArray) → (List Node) → Int → Int → Int → Option (Node × List Node)
  | 0, _, _, _, _, _, _ => none
  | kk + 1, a0_p_l, a0_p_n, a0_p_t, a1, a2, a3 =>
    (
        gd (0 ≤ a1 ∧ a1 < (a0_p_n.length : Int)) <|
        bif ((gt a0_p_n a1).size : Int) == a3 then
          gd (0 ≤ a1 ∧ a1 < (a0_p_l.length : Int)) <|
          some (true, (gt a0_p_l a1).value_, w64 (a1 + 1))
        else
          some (false, (⟨#[]⟩ : ByteArray), a1)).bind fun (y20, y21, y22) =>
    (trie_builder_branch.l0 a0_p_l a0_p_n a2 a3 (trie_builder_build.f kk) BIG (a0_p_t, (Vector.replicate 16 0 : Vector Int 16), y22)).bind fun (y426, y431) =>
    some ((⟨3, (⟨#[]⟩ : ByteArray), y20, y21, y431⟩ : Node), y426)
end

def trie_Build.l0 (a0 : List Pair) : Nat → (List ByteArray × Int) → Option (List ByteArray)
  | 0, _ => none
  | k + 1, (y166, y171) =>
    bif decide (y171 < (a0.length : Int)) then
      gd (0 ≤ y171 ∧ y171 < (a0.length : Int)) <|
      (nibble_Of.f ((gt a0 y171).key_)).bind fun y212 =>
      gd (y166.length + 1 ≤ 274877906944) <|
      trie_Build.l0 a0 k (y166 ++ [y212], w64 (y171 + 1))
    else
      some y166
def trie_Build.f (a0 : List Pair) : Option (List Node × Bool) :=
  (trie_may.f a0).bind fun y228 =>
  bif !y228 then
    some (([] : List Node), false)
  else
    (trie_Build.l0 a0 BIG (([] : List ByteArray), 0)).bind fun y197 =>
    (
        bif decide ((a0.length : Int) > 0) then
          (trie_builder_build.f BIG a0 y197 ([] : List Node) 0 (a0.length : Int) 0).bind fun (y613, y614) =>
          some y614
        else
          some ([] : List Node)).bind fun y605 =>
    some (y605, true)

def trie_Same.l0 (a0 : List Node) (a1 : List Node) : Nat → Int → Option (Unit ⊕ Bool)
  | 0, _ => none
  | k + 1, y13 =>
    bif decide (y13 < (a0.length : Int)) then
      gd (0 ≤ y13 ∧ y13 < (a0.length : Int)) <|
      gd (0 ≤ y13 ∧ y13 < (a1.length : Int)) <|
      bif !(eq_Node (gt a0 y13) (gt a1 y13)) then
        some (.inr false)
      else
        trie_Same.l0 a0 a1 k (w64 (y13 + 1))
    else
      some (.inl ())
def trie_Same.f (a0 : List Node) (a1 : List Node) : Option Bool :=
  bif (a0.length : Int) != (a1.length : Int) then
    some false
  else
    (trie_Same.l0 a0 a1 BIG 0).bind fun
    | .inl () =>
      some true
    | .inr r28 =>
      some r28

def trie_walked.f (a0 : List Node) : Option (trie_walker_T × Bool) :=
  (
      bif decide ((a0.length : Int) > 0) then
        (trie_walker_walk.f BIG a0 0 ([] : List Pair) ([] : List ByteArray) 0 (⟨#[]⟩ : ByteArray)).bind fun (y1105, y1106, y1107, y1108) =>
        some (y1107, y1108, y1106, !y1105)
      else
        some (([] : List Pair), ([] : List ByteArray), (0 : Int), false)).bind fun (y1090, y1095, y1100, y1101) =>
  bif y1101 then
    some ((⟨a0, y1100, y1090, y1095⟩ : trie_walker_T), false)
  else
    (trie_Build.f y1090).bind fun (y630, y631) =>
    (
        bif y631 then
          (trie_Same.f a0 y630).bind fun y46 =>
          some y46
        else
          some false).bind fun y42 =>
    some ((⟨a0, y1100, y1090, y1095⟩ : trie_walker_T), y42)

def trie_Paths.f (a0 : List Node) : Option (List ByteArray × Bool) :=
  (trie_walked.f a0).bind fun (y55, y56) =>
  bif !y56 then
    some (([] : List ByteArray), false)
  else
    some (y55.p_paths_, true)

def nibble_Good.f (a0 : ByteArray) : Option Bool :=
  (
      bif decide ((a0.size : Int) ≤ 16) then
        (nibble_small.f a0).bind fun y19 =>
        some y19
      else
        some false).bind fun y15 =>
  some y15

def nibble_Pack.f (a0 : ByteArray) : Option (ByteArray × Bool) :=
  (nibble_Good.f a0).bind fun y25 =>
  bif !y25 then
    some ((⟨#[]⟩ : ByteArray), false)
  else
    (nibble_two.f a0).bind fun y38 =>
    gd ((strOfNums [wu8 (a0.size : Int)]).size + y38.size ≤ 9223372036854775807) <|
    some ((strOfNums [wu8 (a0.size : Int)]) ++ y38, true)

def pack_size.l0 (a0 : Node) : Nat → (Int × Int) → Option Int
  | 0, _ => none
  | k + 1, (y33, y34) =>
    bif decide (y33 < 16) then
      (
          gd (0 ≤ y33 ∧ y33 < 16) <|
          bif (vg a0.kids_ y33) != 0 then
            some (w64 (y34 + 3))
          else
            some y34).bind fun y54 =>
      pack_size.l0 a0 k (w64 (y33 + 1), y54)
    else
      some y34
def pack_size.f (a0 : Node) : Option Int :=
  bif a0.kind_ == 3 then
    (
        bif a0.has_ then
          some (w64 (4 + (w64 (1 + (a0.value_.size : Int)))))
        else
          some 4).bind fun y7 =>
    (pack_size.l0 a0 BIG (0, y7)).bind fun y45 =>
    some y45
  else
    (nibble_Pack.f a0.path_).bind fun (y64, y65) =>
    bif a0.kind_ == 2 then
      some (w64 ((w64 (1 + (y64.size : Int))) + 3))
    else
      some (w64 ((w64 ((w64 (1 + (y64.size : Int))) + 1)) + (a0.value_.size : Int)))

def pack_packer_grow.l0 (a0_p_t : List Node) (a0_p_paths : List ByteArray) (a0_p_sheets : List Plan) (a2 : Int) (rec_pack_packer_grow : (List Node) → (List ByteArray) → (List Plan) → (List Int) → Int → (List Int) → Int → Option (Int × List Int × List Int)) : Nat → (List Int × List Int × Int × Int) → Option (List Int × List Int × Int)
  | 0, _ => none
  | k + 1, (y288, y293, y298, y299) =>
    bif decide (y299 < 16) then
      (
          gd (0 ≤ y299 ∧ y299 < 16) <|
          bif (vg ((gt a0_p_t a2).kids_) y299) == 0 then
            some (y288, y293, y298)
          else
            gd (0 ≤ vg ((gt a0_p_t a2).kids_) y299 ∧ vg ((gt a0_p_t a2).kids_) y299 < (a0_p_t.length : Int)) <|
            (pack_size.f (gt a0_p_t (vg ((gt a0_p_t a2).kids_) y299))).bind fun y540 =>
            bif decide ((w64 (y298 + (w64 (y540 - 3)))) > 243) then
              gd (y293.length + 1 ≤ 274877906944) <|
              some (y288, y293 ++ [vg ((gt a0_p_t a2).kids_) y299], y298)
            else
              (rec_pack_packer_grow a0_p_t a0_p_paths a0_p_sheets y288 (w64 (y298 + (w64 (y540 - 3)))) y293 (vg ((gt a0_p_t a2).kids_) y299)).bind fun (y560, y561, y562) =>
              some (y561, y562, y560)).bind fun (y524, y529, y534) =>
      pack_packer_grow.l0 a0_p_t a0_p_paths a0_p_sheets a2 rec_pack_packer_grow k (y524, y529, y534, w64 (y299 + 1))
    else
      some (y288, y293, y298)
def pack_packer_grow.f : Nat → (List Node) → (List ByteArray) → (List Plan) → (List Int) → Int → (List Int) → Int → Option (Int × List Int × List Int)
  | 0, _, _, _, _, _, _, _ => none
  | kk + 1, a0_p_t, a0_p_paths, a0_p_sheets, a1_p_nodes, a1_p_used, a1_p_tops, a2 =>
    gd (a1_p_nodes.length + 1 ≤ 274877906944) <|
    gd (0 ≤ a2 ∧ a2 < (a0_p_t.length : Int)) <|
    (pack_packer_grow.l0 a0_p_t a0_p_paths a0_p_sheets a2 (pack_packer_grow.f kk) BIG (a1_p_nodes ++ [a2], a1_p_tops, a1_p_used, 0)).bind fun (y431, y436, y441) =>
    some (y441, y431, y436)

def pack_packer_sheet.l0 (a0_p_t : List Node) (a0_p_paths : List ByteArray) (y17 : List Int) (rec_pack_packer_sheet : (List Node) → (List ByteArray) → (List Plan) → Int → Option (Int × List Plan)) : Nat → (List Int × List Plan × Int) → Option (List Int × List Plan)
  | 0, _ => none
  | k + 1, (y148, y153, y158) =>
    bif decide (y158 < (y17.length : Int)) then
      gd (0 ≤ y158 ∧ y158 < (y17.length : Int)) <|
      (rec_pack_packer_sheet a0_p_t a0_p_paths y153 (gt y17 y158)).bind fun (y203, y204) =>
      gd (y148.length + 1 ≤ 274877906944) <|
      pack_packer_sheet.l0 a0_p_t a0_p_paths y17 rec_pack_packer_sheet k (y148 ++ [y203], y204, w64 (y158 + 1))
    else
      some (y148, y153)
def pack_packer_sheet.f : Nat → (List Node) → (List ByteArray) → (List Plan) → Int → Option (Int × List Plan)
  | 0, _, _, _, _ => none
  | kk + 1, a0_p_t, a0_p_paths, a0_p_sheets, a1 =>
    gd (0 ≤ a1 ∧ a1 < (a0_p_t.length : Int)) <|
    (pack_size.f (gt a0_p_t a1)).bind fun y2 =>
    (pack_packer_grow.f BIG a0_p_t a0_p_paths a0_p_sheets ([] : List Int) y2 ([] : List Int) a1).bind fun (y15, y16, y17) =>
    gd (a0_p_sheets.length + 1 ≤ 274877906944) <|
    gd (0 ≤ a1 ∧ a1 < (a0_p_paths.length : Int)) <|
    (pack_packer_sheet.l0 a0_p_t a0_p_paths y17 (pack_packer_sheet.f kk) BIG (([] : List Int), a0_p_sheets ++ [(⟨(⟨#[]⟩ : ByteArray), 0, ([] : List Int), ([] : List Int)⟩ : Plan)], 0)).bind fun (y187, y192) =>
    gd (0 ≤ (a0_p_sheets.length : Int) ∧ (a0_p_sheets.length : Int) < (y192.length : Int)) <|
    some ((a0_p_sheets.length : Int), y192.set (a0_p_sheets.length : Int).toNat (⟨gt a0_p_paths a1, a1, y16, y187⟩ : Plan))

def pack_Of.f (a0 : List Node) : Option (List Plan × Bool) :=
  (trie_Paths.f a0).bind fun (y72, y73) =>
  bif !y73 then
    some (([] : List Plan), false)
  else
    (
        bif decide ((a0.length : Int) > 0) then
          (pack_packer_sheet.f BIG a0 y72 ([] : List Plan) 0).bind fun (y292, y293) =>
          some y293
        else
          some ([] : List Plan)).bind fun y284 =>
    some (y284, true)

def trie_Good.f (a0 : List Node) : Option Bool :=
  (trie_walked.f a0).bind fun (y1, y2) =>
  some y2

def pack_Size.f (a0 : List Node) (a1 : Int) : Option (Int × Bool) :=
  (
      bif decide (a1 < 0) then
        some true
      else
        bif decide (a1 ≥ (a0.length : Int)) then
          some true
        else
          (trie_Good.f a0).bind fun y64 =>
          some (!y64)).bind fun y59 =>
  bif y59 then
    some (0, false)
  else
    gd (0 ≤ a1 ∧ a1 < (a0.length : Int)) <|
    (pack_size.f (gt a0 a1)).bind fun y72 =>
    some (y72, true)

def slices_Index_int.l0 (a0 : List Int) (a1 : Int) : Nat → Int → Option (Unit ⊕ Int)
  | 0, _ => none
  | k + 1, y8 =>
    bif decide (y8 < (a0.length : Int)) then
      gd (0 ≤ y8 ∧ y8 < (a0.length : Int)) <|
      bif a1 == (gt a0 y8) then
        some (.inr y8)
      else
        slices_Index_int.l0 a0 a1 k (w64 (y8 + 1))
    else
      some (.inl ())
def slices_Index_int.f (a0 : List Int) (a1 : Int) : Option Int :=
  (slices_Index_int.l0 a0 a1 BIG 0).bind fun
  | .inl () =>
    some (-1)
  | .inr r19 =>
    some r19

def slices_Contains_int.f (a0 : List Int) (a1 : Int) : Option Bool :=
  (slices_Index_int.f a0 a1).bind fun y20 =>
  some (decide (y20 ≥ 0))

def pack_Bytes_c1.f (a0 : Int) (a1 : Int) (a2 : List Node) : Option Bool :=
  (
      bif a1 != 0 then
        gd (0 ≤ a0 ∧ a0 < (a2.length : Int)) <|
        (slices_Contains_int.f ((gt a2 a0).kids_.toList) a1).bind fun y53 =>
        some y53
      else
        some false).bind fun y44 =>
  some y44

def slices_IndexFunc_int_pack_Bytes_c1.l0 (a0 : List Int) (a1c0 : Int) (a1c1 : List Node) : Nat → Int → Option (Unit ⊕ Int)
  | 0, _ => none
  | k + 1, y76 =>
    bif decide (y76 < (a0.length : Int)) then
      gd (0 ≤ y76 ∧ y76 < (a0.length : Int)) <|
      (pack_Bytes_c1.f (gt a0 y76) a1c0 a1c1).bind fun y91 =>
      bif y91 then
        some (.inr y76)
      else
        slices_IndexFunc_int_pack_Bytes_c1.l0 a0 a1c0 a1c1 k (w64 (y76 + 1))
    else
      some (.inl ())
def slices_IndexFunc_int_pack_Bytes_c1.f (a0 : List Int) (a1c0 : Int) (a1c1 : List Node) : Option Int :=
  (slices_IndexFunc_int_pack_Bytes_c1.l0 a0 a1c0 a1c1 BIG 0).bind fun
  | .inl () =>
    some (-1)
  | .inr r99 =>
    some r99

def slices_ContainsFunc_int_pack_Bytes_c1.f (a0 : List Int) (a1c0 : Int) (a1c1 : List Node) : Option Bool :=
  (slices_IndexFunc_int_pack_Bytes_c1.f a0 a1c0 a1c1).bind fun y100 =>
  some (decide (y100 ≥ 0))

def pack_Bytes.l0 (a0 : List Node) (a1 : Plan) : Nat → (Int × Int) → Option (Unit ⊕ (Int × Bool))
  | 0, _ => none
  | k + 1, (y71, y72) =>
    bif decide (y71 < (a1.nodes_.length : Int)) then
      gd (0 ≤ y71 ∧ y71 < (a1.nodes_.length : Int)) <|
      (
          bif decide ((gt a1.nodes_ y71) ≤ y72) then
            some true
          else
            some (decide ((gt a1.nodes_ y71) ≥ (a0.length : Int)))).bind fun y133 =>
      bif y133 then
        some (.inr (0, false))
      else
        pack_Bytes.l0 a0 a1 k (w64 (y71 + 1), gt a1.nodes_ y71)
    else
      some (.inl ())
def pack_Bytes.l1 (a0 : List Node) (a1 : Plan) : Nat → (Int × Int) → Option Int
  | 0, _ => none
  | k + 1, (y217, y218) =>
    bif decide (y217 < (a1.nodes_.length : Int)) then
      (
          gd (0 ≤ y217 ∧ y217 < (a1.nodes_.length : Int)) <|
          gd (0 ≤ gt a1.nodes_ y217 ∧ gt a1.nodes_ y217 < (a0.length : Int)) <|
          (pack_size.f (gt a0 (gt a1.nodes_ y217))).bind fun y332 =>
          (slices_ContainsFunc_int_pack_Bytes_c1.f a1.nodes_ (gt a1.nodes_ y217) a0).bind fun y338 =>
          bif y338 then
            some (w64 ((w64 (y218 + y332)) - 3))
          else
            some (w64 (y218 + y332))).bind fun y323 =>
      pack_Bytes.l1 a0 a1 k (w64 (y217 + 1), y323)
    else
      some y218
def pack_Bytes.f (a0 : List Node) (a1 : Plan) : Option (Int × Bool) :=
  (pack_Bytes.l0 a0 a1 BIG (0, (-1))).bind fun
  | .inl () =>
    (trie_Good.f a0).bind fun y139 =>
    bif !y139 then
      some (0, false)
    else
      (pack_Bytes.l1 a0 a1 BIG (0, 0)).bind fun y280 =>
      some (y280, true)
  | .inr r346 =>
    some r346

def keep_Ints.l0 (a0 : List Int) (a1 : List Int) : Nat → Int → Option (Unit ⊕ Bool)
  | 0, _ => none
  | k + 1, y13 =>
    bif decide (y13 < (a0.length : Int)) then
      gd (0 ≤ y13 ∧ y13 < (a0.length : Int)) <|
      gd (0 ≤ y13 ∧ y13 < (a1.length : Int)) <|
      bif (gt a0 y13) != (gt a1 y13) then
        some (.inr false)
      else
        keep_Ints.l0 a0 a1 k (w64 (y13 + 1))
    else
      some (.inl ())
def keep_Ints.f (a0 : List Int) (a1 : List Int) : Option Bool :=
  bif (a0.length : Int) != (a1.length : Int) then
    some false
  else
    (keep_Ints.l0 a0 a1 BIG 0).bind fun
    | .inl () =>
      some true
    | .inr r28 =>
      some r28

def law19_wakes.f : Option Bool :=
  (ref10_Build.f [(⟨(⟨#[97]⟩ : ByteArray), (⟨#[49]⟩ : ByteArray)⟩ : Pair), (⟨(⟨#[98]⟩ : ByteArray), (⟨#[]⟩ : ByteArray)⟩ : Pair)]).bind fun y1106 =>
  (pack_Of.f y1106.t_).bind fun (y308, y309) =>
  (pack_Size.f y1106.t_ 0).bind fun (y78, y79) =>
  (pack_Size.f y1106.t_ 1).bind fun (y85, y86) =>
  (pack_Of.f ([] : List Node)).bind fun (y92, y93) =>
  (pack_Size.f y1106.t_ 9).bind fun (y102, y103) =>
  (
      bif !y309 then
        some true
      else
        some ((y308.length : Int) != 1)).bind fun y118 =>
  bif y118 then
    some false
  else
    gd (0 ≤ (0 : Int) ∧ (0 : Int) < (y308.length : Int)) <|
    (pack_Bytes.f y1106.t_ (gt y308 0)).bind fun (y347, y348) =>
    (
        gd (0 ≤ (0 : Int) ∧ (0 : Int) < (y308.length : Int)) <|
        (keep_Ints.f ((gt y308 0).nodes_) [0, 1, 2, 3]).bind fun y104 =>
        bif y104 then
          gd (0 ≤ (0 : Int) ∧ (0 : Int) < (y308.length : Int)) <|
          bif (((gt y308 0).kids_).length : Int) == 0 then
            gd (0 ≤ (0 : Int) ∧ (0 : Int) < (y308.length : Int)) <|
            bif seq_ ((gt y308 0).prefix_) (⟨#[]⟩ : ByteArray) then
              bif y79 then
                bif y78 == 6 then
                  bif y86 then
                    bif y85 == 10 then
                      bif y93 then
                        bif (y92.length : Int) == 0 then
                          bif !y103 then
                            bif y348 then
                              some (y347 == 14)
                            else
                              some false
                          else
                            some false
                        else
                          some false
                      else
                        some false
                    else
                      some false
                  else
                    some false
                else
                  some false
              else
                some false
            else
              some false
          else
            some false
        else
          some false).bind fun y89 =>
    some y89

def ref02_Key.l0 (a0 : ByteArray) : Nat → (List Int × Int) → Option ((List Int) ⊕ ref02_Text_T)
  | 0, _ => none
  | k + 1, (y415, y420) =>
    bif decide (y420 < (a0.size : Int)) then
      (
          (
              (
                  gd (0 ≤ y420 ∧ y420 < (a0.size : Int)) <|
                  bif decide ((bt a0 y420) > 15) then
                    some true
                  else
                    some (((a0.size : Int).tmod 2) != 0)).bind fun y646 =>
              bif y646 then
                some (.inr (⟨(⟨#[]⟩ : ByteArray), false⟩ : ref02_Text_T))
              else
                bif (y420.tmod 2) == 1 then
                  gd (0 ≤ w64 (y420 - 1) ∧ w64 (y420 - 1) < (a0.size : Int)) <|
                  gd (0 ≤ y420 ∧ y420 < (a0.size : Int)) <|
                  gd (y415.length + 1 ≤ 274877906944) <|
                  some (.inl (y415 ++ [wu8 ((wu8 ((bt a0 (w64 (y420 - 1))) * 16)) + (bt a0 y420))]))
                else
                  some (.inl y415)) : Option ((List Int) ⊕ ref02_Text_T)).bind fun
      | .inl y624 =>
        ref02_Key.l0 a0 k (y624, w64 (y420 + 1))
      | .inr r668 =>
        some (.inr r668)
    else
      some (.inl y415)
def ref02_Key.f (a0 : ByteArray) : Option ref02_Text_T :=
  (ref02_Key.l0 a0 BIG (([] : List Int), 0)).bind fun
  | .inl y541 =>
    some (⟨strOfNums y541, true⟩ : ref02_Text_T)
  | .inr r671 =>
    some r671

def ref10_Same.l0 (a0 : List Node) (a1 : List Node) : Nat → Int → Option (Unit ⊕ Bool)
  | 0, _ => none
  | k + 1, y13 =>
    bif decide (y13 < (a0.length : Int)) then
      gd (0 ≤ y13 ∧ y13 < (a0.length : Int)) <|
      gd (0 ≤ y13 ∧ y13 < (a1.length : Int)) <|
      bif !(eq_Node (gt a0 y13) (gt a1 y13)) then
        some (.inr false)
      else
        ref10_Same.l0 a0 a1 k (w64 (y13 + 1))
    else
      some (.inl ())
def ref10_Same.f (a0 : List Node) (a1 : List Node) : Option Bool :=
  bif (a0.length : Int) != (a1.length : Int) then
    some false
  else
    (ref10_Same.l0 a0 a1 BIG 0).bind fun
    | .inl () =>
      some true
    | .inr r28 =>
      some r28

def ref10_Pairs.l1 (a0 : List Node) (y5701 : List ByteArray) (y5706 : Int) : Nat → (List Bool × List ByteArray × Int) → Option ((List Bool × List ByteArray) ⊕ ref10_Got_T)
  | 0, _ => none
  | k + 1, (y8690, y8695, y8700) =>
    bif decide (y8700 < 16) then
      (
          (
              gd (0 ≤ y8700 ∧ y8700 < 16) <|
              bif (vg ((gt a0 y5706).kids_) y8700) == 0 then
                some (.inl (y8690, y8695))
              else
                (
                    bif decide ((vg ((gt a0 y5706).kids_) y8700) ≤ y5706) then
                      some true
                    else
                      bif decide ((vg ((gt a0 y5706).kids_) y8700) ≥ (a0.length : Int)) then
                        some true
                      else
                        gd (0 ≤ vg ((gt a0 y5706).kids_) y8700 ∧ vg ((gt a0 y5706).kids_) y8700 < (y8690.length : Int)) <|
                        some (gt y8690 (vg ((gt a0 y5706).kids_) y8700))).bind fun y9018 =>
                bif y9018 then
                  some (.inr (⟨([] : List Pair), false⟩ : ref10_Got_T))
                else
                  gd (0 ≤ vg ((gt a0 y5706).kids_) y8700 ∧ vg ((gt a0 y5706).kids_) y8700 < (y8690.length : Int)) <|
                  gd (0 ≤ vg ((gt a0 y5706).kids_) y8700 ∧ vg ((gt a0 y5706).kids_) y8700 < (y8695.length : Int)) <|
                  bif ((gt a0 y5706).kind_) == 3 then
                    gd (0 ≤ vg ((gt a0 y5706).kids_) y8700 ∧ vg ((gt a0 y5706).kids_) y8700 < ((y8695.set (vg ((gt a0 y5706).kids_) y8700).toNat ((gt y5701 y5706) ++ ((gt a0 y5706).path_))).length : Int)) <|
                    gd ((gt (y8695.set (vg ((gt a0 y5706).kids_) y8700).toNat ((gt y5701 y5706) ++ ((gt a0 y5706).path_))) (vg ((gt a0 y5706).kids_) y8700)).size + (strOfNums [wu8 y8700]).size ≤ 9223372036854775807) <|
                    gd (0 ≤ vg ((gt a0 y5706).kids_) y8700 ∧ vg ((gt a0 y5706).kids_) y8700 < ((y8695.set (vg ((gt a0 y5706).kids_) y8700).toNat ((gt y5701 y5706) ++ ((gt a0 y5706).path_))).length : Int)) <|
                    some (.inl (y8690.set (vg ((gt a0 y5706).kids_) y8700).toNat true, (y8695.set (vg ((gt a0 y5706).kids_) y8700).toNat ((gt y5701 y5706) ++ ((gt a0 y5706).path_))).set (vg ((gt a0 y5706).kids_) y8700).toNat ((gt (y8695.set (vg ((gt a0 y5706).kids_) y8700).toNat ((gt y5701 y5706) ++ ((gt a0 y5706).path_))) (vg ((gt a0 y5706).kids_) y8700)) ++ (strOfNums [wu8 y8700]))))
                  else
                    some (.inl (y8690.set (vg ((gt a0 y5706).kids_) y8700).toNat true, y8695.set (vg ((gt a0 y5706).kids_) y8700).toNat ((gt y5701 y5706) ++ ((gt a0 y5706).path_))))) : Option ((List Bool × List ByteArray) ⊕ ref10_Got_T)).bind fun
      | .inl (y8984, y8989) =>
        ref10_Pairs.l1 a0 y5701 y5706 k (y8984, y8989, w64 (y8700 + 1))
      | .inr r9047 =>
        some (.inr r9047)
    else
      some (.inl (y8690, y8695))
def ref10_Pairs.l0 (a0 : List Node) : Nat → (List Bool × List Pair × List ByteArray × Int) → Option ((List Bool × List Pair × List ByteArray) ⊕ ref10_Got_T)
  | 0, _ => none
  | k + 1, (y5691, y5696, y5701, y5706) =>
    bif decide (y5706 < (a0.length : Int)) then
      (
          bif decide (y5706 > 0) then
            gd (0 ≤ y5706 ∧ y5706 < (y5691.length : Int)) <|
            some (!(gt y5691 y5706))
          else
            some false).bind fun y8235 =>
      bif y8235 then
        some (.inr (⟨([] : List Pair), false⟩ : ref10_Got_T))
      else
        gd (0 ≤ y5706 ∧ y5706 < (a0.length : Int)) <|
        gd (0 ≤ y5706 ∧ y5706 < (y5701.length : Int)) <|
        gd ((gt y5701 y5706).size + ((gt a0 y5706).path_).size ≤ 9223372036854775807) <|
        (
            bif decide ((((gt a0 y5706).path_).size : Int) > 16) then
              some true
            else
              some (decide ((((gt y5701 y5706) ++ ((gt a0 y5706).path_)).size : Int) > 16))).bind fun y8260 =>
        bif y8260 then
          some (.inr (⟨([] : List Pair), false⟩ : ref10_Got_T))
        else
          (
              (
                  bif (gt a0 y5706).has_ then
                    (ref02_Key.f ((gt y5701 y5706) ++ ((gt a0 y5706).path_))).bind fun y8322 =>
                    bif !y8322.ok_ then
                      some (.inr (⟨([] : List Pair), false⟩ : ref10_Got_T))
                    else
                      gd (y5696.length + 1 ≤ 274877906944) <|
                      some (.inl (y5696 ++ [(⟨y8322.s_, (gt a0 y5706).value_⟩ : Pair)]))
                  else
                    some (.inl y5696)) : Option ((List Pair) ⊕ ref10_Got_T)).bind fun
          | .inl y8314 =>
            (ref10_Pairs.l1 a0 y5701 y5706 BIG (y5691, y5701, 0)).bind fun
            | .inl (y8868, y8873) =>
              ref10_Pairs.l0 a0 k (y8868, y8314, y8873, w64 (y5706 + 1))
            | .inr r9049 =>
              some (.inr r9049)
          | .inr r9050 =>
            some (.inr r9050)
    else
      some (.inl (y5691, y5696, y5701))
def ref10_Pairs.f (a0 : List Node) : Option ref10_Got_T :=
  gd (0 ≤ (a0.length : Int) ∧ (a0.length : Int) ≤ 274877906944) <|
  gd (0 ≤ (a0.length : Int) ∧ (a0.length : Int) ≤ 274877906944) <|
  (ref10_Pairs.l0 a0 BIG (List.replicate (a0.length : Int).toNat false, ([] : List Pair), List.replicate (a0.length : Int).toNat (⟨#[]⟩ : ByteArray), 0)).bind fun
  | .inl (y7370, y7375, y7380) =>
    (ref10_Build.f y7375).bind fun y9055 =>
    (
        bif !y9055.ok_ then
          some true
        else
          (ref10_Same.f y9055.t_ a0).bind fun y72 =>
          some (!y72)).bind fun y68 =>
    bif y68 then
      some (⟨([] : List Pair), false⟩ : ref10_Got_T)
    else
      some (⟨y7375, true⟩ : ref10_Got_T)
  | .inr r81 =>
    some r81

def ref19_size.l0 (a0 : Node) : Nat → (Int × Int) → Option Int
  | 0, _ => none
  | k + 1, (y34, y35) =>
    bif decide (y35 < 16) then
      (
          gd (0 ≤ y35 ∧ y35 < 16) <|
          bif (vg a0.kids_ y35) != 0 then
            some (w64 (y34 + 3))
          else
            some y34).bind fun y55 =>
      ref19_size.l0 a0 k (y55, w64 (y35 + 1))
    else
      some y34
def ref19_size.f (a0 : Node) : Option Int :=
  bif a0.kind_ == 1 then
    some (w64 ((w64 ((w64 (1 + (w64 (1 + (w64 ((w64 ((a0.path_.size : Int) + 1)).tdiv 2)))))) + 1)) + (a0.value_.size : Int)))
  else
    bif a0.kind_ == 2 then
      some (w64 ((w64 (1 + (w64 (1 + (w64 ((w64 ((a0.path_.size : Int) + 1)).tdiv 2)))))) + 3))
    else
      (
          bif a0.has_ then
            some (w64 (4 + (w64 (1 + (a0.value_.size : Int)))))
          else
            some 4).bind fun y8 =>
      (ref19_size.l0 a0 BIG (y8, 0)).bind fun y46 =>
      some y46

def ref19_maker_grow.l0 (a0_p_t : List Node) (a0_p_p : List ByteArray) (a1 : Int) (a2 : Int) (rec_ref19_maker_grow : (List Node) → (List ByteArray) → (List Int) → (List Int) → Int → Int → Int → Option (Int × List Int × List Int)) : Nat → (List Int × List Int × Int × Int) → Option (List Int × List Int × Int)
  | 0, _ => none
  | k + 1, (y293, y298, y303, y304) =>
    bif decide (y304 < 16) then
      (
          gd (0 ≤ a1 ∧ a1 < (a0_p_t.length : Int)) <|
          gd (0 ≤ y304 ∧ y304 < 16) <|
          bif (vg (gt a0_p_t a1).kids_ y304) == 0 then
            some (y293, y298, y303)
          else
            gd (0 ≤ vg (gt a0_p_t a1).kids_ y304 ∧ vg (gt a0_p_t a1).kids_ y304 < (a0_p_t.length : Int)) <|
            (ref19_size.f (gt a0_p_t (vg (gt a0_p_t a1).kids_ y304))).bind fun y561 =>
            bif decide ((w64 ((w64 (y303 + y561)) - 3)) ≤ 243) then
              gd (0 ≤ vg (gt a0_p_t a1).kids_ y304 ∧ vg (gt a0_p_t a1).kids_ y304 < (y293.length : Int)) <|
              gd (0 ≤ vg (gt a0_p_t a1).kids_ y304 ∧ vg (gt a0_p_t a1).kids_ y304 < (a0_p_t.length : Int)) <|
              (ref19_size.f (gt a0_p_t (vg (gt a0_p_t a1).kids_ y304))).bind fun y573 =>
              (rec_ref19_maker_grow a0_p_t a0_p_p (y293.set (vg (gt a0_p_t a1).kids_ y304).toNat a2) y298 (vg (gt a0_p_t a1).kids_ y304) a2 (w64 ((w64 (y303 + y573)) - 3))).bind fun (y579, y580, y581) =>
              some (y580, y581, y579)
            else
              gd (0 ≤ vg (gt a0_p_t a1).kids_ y304 ∧ vg (gt a0_p_t a1).kids_ y304 < (y298.length : Int)) <|
              some (y293, y298.set (vg (gt a0_p_t a1).kids_ y304).toNat 1, y303)).bind fun (y544, y549, y554) =>
      ref19_maker_grow.l0 a0_p_t a0_p_p a1 a2 rec_ref19_maker_grow k (y544, y549, y554, w64 (y304 + 1))
    else
      some (y293, y298, y303)
def ref19_maker_grow.f : Nat → (List Node) → (List ByteArray) → (List Int) → (List Int) → Int → Int → Int → Option (Int × List Int × List Int)
  | 0, _, _, _, _, _, _, _ => none
  | kk + 1, a0_p_t, a0_p_p, a0_p_of, a0_p_tops, a1, a2, a3 =>
    (ref19_maker_grow.l0 a0_p_t a0_p_p a1 a2 (ref19_maker_grow.f kk) BIG (a0_p_of, a0_p_tops, a3, 0)).bind fun (y445, y450, y455) =>
    some (y455, y445, y450)

def ref19_Of.l0 (a0 : List Node) (y98 : ref10_Both_T) : Nat → (List Int × List Int × List Plan × Int) → Option (List Int × List Int × List Plan)
  | 0, _ => none
  | k + 1, (y2527, y2532, y2537, y2545) =>
    bif decide (y2545 < (a0.length : Int)) then
      (
          (
              bif decide (y2545 > 0) then
                gd (0 ≤ y2545 ∧ y2545 < (y2532.length : Int)) <|
                some ((gt y2532 y2545) == 0)
              else
                some false).bind fun y3628 =>
          bif y3628 then
            some (y2527, y2532, y2537)
          else
            gd (0 ≤ y2545 ∧ y2545 < (y2527.length : Int)) <|
            gd (0 ≤ y2545 ∧ y2545 < (y2532.length : Int)) <|
            gd (0 ≤ y2545 ∧ y2545 < (y98.p_.length : Int)) <|
            gd (y2537.length + 1 ≤ 274877906944) <|
            (
                gd (0 ≤ y2545 ∧ y2545 < (a0.length : Int)) <|
                gd (0 ≤ y2545 ∧ y2545 < ((y2527.set y2545.toNat (y2537.length : Int)).length : Int)) <|
                (ref19_size.f (gt a0 y2545)).bind fun y3743 =>
                (ref19_maker_grow.f BIG a0 y98.p_ (y2527.set y2545.toNat (y2537.length : Int)) (y2532.set y2545.toNat (w64 ((y2537.length : Int) + 1))) y2545 (gt (y2527.set y2545.toNat (y2537.length : Int)) y2545) y3743).bind fun (y3749, y3750, y3751) =>
                some (y3750, y3751)).bind fun (y3672, y3673) =>
            some (y3672, y3673, y2537 ++ [(⟨gt y98.p_ y2545, y2545, ([] : List Int), ([] : List Int)⟩ : Plan)])).bind fun (y3594, y3599, y3604) =>
      ref19_Of.l0 a0 y98 k (y3594, y3599, y3604, w64 (y2545 + 1))
    else
      some (y2527, y2532, y2537)
def ref19_Of.l1 (a0 : List Node) (y3170 : List Int) : Nat → (List Plan × Int) → Option (List Plan)
  | 0, _ => none
  | k + 1, (y3869, y3877) =>
    bif decide (y3877 < (a0.length : Int)) then
      gd (0 ≤ y3877 ∧ y3877 < (y3170.length : Int)) <|
      gd (0 ≤ y3877 ∧ y3877 < (y3170.length : Int)) <|
      gd (0 ≤ gt y3170 y3877 ∧ gt y3170 y3877 < (y3869.length : Int)) <|
      gd ((gt y3869 (gt y3170 y3877)).nodes_.length + 1 ≤ 274877906944) <|
      gd (0 ≤ gt y3170 y3877 ∧ gt y3170 y3877 < (y3869.length : Int)) <|
      ref19_Of.l1 a0 y3170 k (y3869.set (gt y3170 y3877).toNat { gt y3869 (gt y3170 y3877) with nodes_ := (gt y3869 (gt y3170 y3877)).nodes_ ++ [y3877] }, w64 (y3877 + 1))
    else
      some y3869
def ref19_Of.l4 (a0 : List Node) (y3170 : List Int) (y7165 : Int) (y9590 : Int) : Nat → (List Plan × Int) → Option (List Plan)
  | 0, _ => none
  | k + 1, (y10197, y10205) =>
    bif decide (y10205 < 16) then
      (
          gd (0 ≤ y9590 ∧ y9590 < (a0.length : Int)) <|
          gd (0 ≤ y10205 ∧ y10205 < 16) <|
          bif (vg (gt a0 y9590).kids_ y10205) == y7165 then
            gd (0 ≤ y9590 ∧ y9590 < (y3170.length : Int)) <|
            gd (0 ≤ y9590 ∧ y9590 < (y3170.length : Int)) <|
            gd (0 ≤ gt y3170 y9590 ∧ gt y3170 y9590 < (y10197.length : Int)) <|
            gd (0 ≤ y7165 ∧ y7165 < (y3170.length : Int)) <|
            gd ((gt y10197 (gt y3170 y9590)).kids_.length + 1 ≤ 274877906944) <|
            gd (0 ≤ gt y3170 y9590 ∧ gt y3170 y9590 < (y10197.length : Int)) <|
            some (y10197.set (gt y3170 y9590).toNat { gt y10197 (gt y3170 y9590) with kids_ := (gt y10197 (gt y3170 y9590)).kids_ ++ [gt y3170 y7165] })
          else
            some y10197).bind fun y10354 =>
      ref19_Of.l4 a0 y3170 y7165 y9590 k (y10354, w64 (y10205 + 1))
    else
      some y10197
def ref19_Of.l3 (a0 : List Node) (y3170 : List Int) (y3175 : List Int) (y7165 : Int) : Nat → (List Plan × Int) → Option (List Plan)
  | 0, _ => none
  | k + 1, (y9582, y9590) =>
    (
        bif decide (y9590 < y7165) then
          gd (0 ≤ y7165 ∧ y7165 < (y3175.length : Int)) <|
          some (decide ((gt y3175 y7165) > 0))
        else
          some false).bind fun y10010 =>
    bif y10010 then
      (ref19_Of.l4 a0 y3170 y7165 y9590 BIG (y9582, 0)).bind fun y10292 =>
      ref19_Of.l3 a0 y3170 y3175 y7165 k (y10292, w64 (y9590 + 1))
    else
      some y9582
def ref19_Of.l2 (a0 : List Node) (y3170 : List Int) (y3175 : List Int) : Nat → (List Plan × Int) → Option (List Plan)
  | 0, _ => none
  | k + 1, (y7157, y7165) =>
    bif decide (y7165 < (a0.length : Int)) then
      (ref19_Of.l3 a0 y3170 y3175 y7165 BIG (y7157, 0)).bind fun y9985 =>
      ref19_Of.l2 a0 y3170 y3175 k (y9985, w64 (y7165 + 1))
    else
      some y7157
def ref19_Of.f (a0 : List Node) : Option ref19_All_T :=
  (ref10_Pairs.f a0).bind fun y82 =>
  bif !y82.ok_ then
    some (⟨([] : List Plan), false⟩ : ref19_All_T)
  else
    (
        (ref10_Build.f y82.l_).bind fun y262 =>
        gd (0 ≤ (a0.length : Int) ∧ (a0.length : Int) ≤ 274877906944) <|
        gd (0 ≤ (a0.length : Int) ∧ (a0.length : Int) ≤ 274877906944) <|
        some y262).bind fun y98 =>
    (ref19_Of.l0 a0 y98 BIG (List.replicate (a0.length : Int).toNat 0, List.replicate (a0.length : Int).toNat 0, ([] : List Plan), 0)).bind fun (y3170, y3175, y3180) =>
    (ref19_Of.l1 a0 y3170 BIG (y3180, 0)).bind fun y3900 =>
    (ref19_Of.l2 a0 y3170 y3175 BIG (y3900, 1)).bind fun y8773 =>
    some (⟨y8773, true⟩ : ref19_All_T)

def ref10_Good.f (a0 : List Node) : Option Bool :=
  (ref10_Pairs.f a0).bind fun y1 =>
  some y1.ok_

def ref19_Size.f (a0 : List Node) (a1 : Int) : Option Int :=
  (
      (ref10_Good.f a0).bind fun y57 =>
      bif !y57 then
        some true
      else
        bif decide (a1 < 0) then
          some true
        else
          some (decide (a1 ≥ (a0.length : Int)))).bind fun y54 =>
  bif y54 then
    some (-1)
  else
    gd (0 ≤ a1 ∧ a1 < (a0.length : Int)) <|
    (ref19_size.f (gt a0 a1)).bind fun y67 =>
    some y67

def ref19_Bytes.l0 (a0 : List Node) (a1 : Plan) : Nat → (List Bool × Int × Int) → Option ((List Bool × Int) ⊕ Int)
  | 0, _ => none
  | k + 1, (y202, y207, y208) =>
    bif decide (y208 < (a1.nodes_.length : Int)) then
      gd (0 ≤ y208 ∧ y208 < (a1.nodes_.length : Int)) <|
      (
          bif decide ((gt a1.nodes_ y208) < 0) then
            some true
          else
            bif decide ((gt a1.nodes_ y208) ≥ (a0.length : Int)) then
              some true
            else
              bif decide (y208 > 0) then
                gd (0 ≤ w64 (y208 - 1) ∧ w64 (y208 - 1) < (a1.nodes_.length : Int)) <|
                some (decide ((gt a1.nodes_ y208) ≤ (gt a1.nodes_ (w64 (y208 - 1)))))
              else
                some false).bind fun y377 =>
      bif y377 then
        some (.inr (-1))
      else
        gd (0 ≤ gt a1.nodes_ y208 ∧ gt a1.nodes_ y208 < (a0.length : Int)) <|
        (ref19_size.f (gt a0 (gt a1.nodes_ y208))).bind fun y386 =>
        gd (0 ≤ gt a1.nodes_ y208 ∧ gt a1.nodes_ y208 < (y202.length : Int)) <|
        ref19_Bytes.l0 a0 a1 k (y202.set (gt a1.nodes_ y208).toNat true, w64 (y207 + y386), w64 (y208 + 1))
    else
      some (.inl (y202, y207))
def ref19_Bytes.l2 (a0 : List Node) (y298 : List Bool) (y892 : Int) : Nat → (Int × Int) → Option Int
  | 0, _ => none
  | k + 1, (y1264, y1265) =>
    (
        bif decide (y1264 < 16) then
          gd (0 ≤ y892 ∧ y892 < (y298.length : Int)) <|
          some (gt y298 y892)
        else
          some false).bind fun y1343 =>
    bif y1343 then
      (
          gd (0 ≤ y892 ∧ y892 < (a0.length : Int)) <|
          gd (0 ≤ y1264 ∧ y1264 < 16) <|
          (
              bif (vg (gt a0 y892).kids_ y1264) != 0 then
                gd (0 ≤ vg (gt a0 y892).kids_ y1264 ∧ vg (gt a0 y892).kids_ y1264 < (y298.length : Int)) <|
                some (gt y298 (vg (gt a0 y892).kids_ y1264))
              else
                some false).bind fun y1382 =>
          bif y1382 then
            some (w64 (y1265 - 3))
          else
            some y1265).bind fun y1373 =>
      ref19_Bytes.l2 a0 y298 y892 k (w64 (y1264 + 1), y1373)
    else
      some y1265
def ref19_Bytes.l1 (a0 : List Node) (y298 : List Bool) : Nat → (Int × Int) → Option Int
  | 0, _ => none
  | k + 1, (y891, y892) =>
    bif decide (y892 < (a0.length : Int)) then
      (ref19_Bytes.l2 a0 y298 y892 BIG (0, y891)).bind fun y1325 =>
      ref19_Bytes.l1 a0 y298 k (y1325, w64 (y892 + 1))
    else
      some y891
def ref19_Bytes.f (a0 : List Node) (a1 : Plan) : Option Int :=
  (ref10_Good.f a0).bind fun y4 =>
  bif !y4 then
    some (-1)
  else
    gd (0 ≤ (a0.length : Int) ∧ (a0.length : Int) ≤ 274877906944) <|
    (ref19_Bytes.l0 a0 a1 BIG (List.replicate (a0.length : Int).toNat false, 0, 0)).bind fun
    | .inl (y298, y303) =>
      (ref19_Bytes.l1 a0 y298 BIG (y303, 0)).bind fun y1139 =>
      some y1139
    | .inr r1390 =>
      some r1390

def keep_Plans.l0 (a0 : List Plan) (a1 : List Plan) : Nat → Int → Option (Unit ⊕ Bool)
  | 0, _ => none
  | k + 1, y453 =>
    bif decide (y453 < (a0.length : Int)) then
      (
          gd (0 ≤ y453 ∧ y453 < (a0.length : Int)) <|
          gd (0 ≤ y453 ∧ y453 < (a1.length : Int)) <|
          bif !(seq_ ((gt a0 y453).prefix_) ((gt a1 y453).prefix_)) then
            some true
          else
            gd (0 ≤ y453 ∧ y453 < (a0.length : Int)) <|
            gd (0 ≤ y453 ∧ y453 < (a1.length : Int)) <|
            bif ((gt a0 y453).top_) != ((gt a1 y453).top_) then
              some true
            else
              gd (0 ≤ y453 ∧ y453 < (a0.length : Int)) <|
              gd (0 ≤ y453 ∧ y453 < (a1.length : Int)) <|
              (keep_Ints.f ((gt a0 y453).nodes_) ((gt a1 y453).nodes_)).bind fun y885 =>
              bif !y885 then
                some true
              else
                gd (0 ≤ y453 ∧ y453 < (a0.length : Int)) <|
                gd (0 ≤ y453 ∧ y453 < (a1.length : Int)) <|
                (keep_Ints.f ((gt a0 y453).kids_) ((gt a1 y453).kids_)).bind fun y900 =>
                some (!y900)).bind fun y867 =>
      bif y867 then
        some (.inr false)
      else
        keep_Plans.l0 a0 a1 k (w64 (y453 + 1))
    else
      some (.inl ())
def keep_Plans.f (a0 : List Plan) (a1 : List Plan) : Option Bool :=
  bif (a0.length : Int) != (a1.length : Int) then
    some false
  else
    (keep_Plans.l0 a0 a1 BIG 0).bind fun
    | .inl () =>
      some true
    | .inr r908 =>
      some r908

def keep_Trie.l0 (a0 : List Node) (a1 : List Node) : Nat → Int → Option (Unit ⊕ Bool)
  | 0, _ => none
  | k + 1, y13 =>
    bif decide (y13 < (a0.length : Int)) then
      gd (0 ≤ y13 ∧ y13 < (a0.length : Int)) <|
      gd (0 ≤ y13 ∧ y13 < (a1.length : Int)) <|
      bif !(eq_Node (gt a0 y13) (gt a1 y13)) then
        some (.inr false)
      else
        keep_Trie.l0 a0 a1 k (w64 (y13 + 1))
    else
      some (.inl ())
def keep_Trie.f (a0 : List Node) (a1 : List Node) : Option Bool :=
  bif (a0.length : Int) != (a1.length : Int) then
    some false
  else
    (keep_Trie.l0 a0 a1 BIG 0).bind fun
    | .inl () =>
      some true
    | .inr r28 =>
      some r28

def law19_PackTells.f (a0 : List Node) (a1 : Int) (a2 : Plan) : Option Bool :=
  (
      (keep_LongTrie.f a0).bind fun y154 =>
      bif y154 then
        some true
      else
        bif decide ((a0.length : Int) > 200) then
          some true
        else
          bif decide ((a2.nodes_.length : Int) > 300) then
            some true
          else
            some (decide ((a2.kids_.length : Int) > 300))).bind fun y151 =>
  bif y151 then
    (law19_wakes.f).bind fun y164 =>
    some y164
  else
    gd (([] : List Node).length + a0.length ≤ 274877906944) <|
    (pack_Of.f (([] : List Node) ++ a0)).bind fun (y184, y185) =>
    (ref19_Of.f a0).bind fun y10399 =>
    (pack_Size.f (([] : List Node) ++ a0) a1).bind fun (y10412, y10413) =>
    (ref19_Size.f a0 a1).bind fun y73 =>
    (pack_Bytes.f (([] : List Node) ++ a0) a2).bind fun (y79, y80) =>
    (ref19_Bytes.f a0 a2).bind fun y1391 =>
    (
        (keep_Plans.f y184 y10399.l_).bind fun y70 =>
        bif y70 then
          bif y185 == y10399.ok_ then
            bif y10413 == (decide (y73 ≥ 0)) then
              bif y10412 == (if y73 > 0 then y73 else 0) then
                bif y80 == (decide (y1391 ≥ 0)) then
                  bif y79 == (if y1391 > 0 then y1391 else 0) then
                    (keep_Trie.f (([] : List Node) ++ a0) a0).bind fun y82 =>
                    bif y82 then
                      (law19_wakes.f).bind fun y89 =>
                      some y89
                    else
                      some false
                  else
                    some false
                else
                  some false
              else
                some false
            else
              some false
          else
            some false
        else
          some false).bind fun y67 =>
    some y67
end Go.Lf
