import Derived.Test.YtckhmgglgbnaaaaMA
import Derived.Test.YtckhmgglgbnaaaaMA
/- Numbers: bits, masks; ways packed (the document's and the program's). -/
set_option linter.unusedVariables false
set_option linter.unusedSimpArgs false
namespace Go.Lf
open Go
theorem wrap64_nat (x : Nat) : IntKind.wrap .u64 (x : Int) = ((x % 18446744073709551616 : Nat) : Int) := by
 simp only [IntKind.wrap, IntKind.bits, IntKind.signed]
 simp
theorem ofInt_nat (x : Nat) : BitVec.ofInt 64 (x : Int) = BitVec.ofNat 64 x := by
 apply BitVec.eq_of_toNat_eq
 simp
theorem wrapi64_nat {x : Nat} (h : x < 9223372036854775808) : IntKind.wrap .i64 (x : Int) = (x : Int) := w64_id (by omega)
theorem shri {M c : Nat} (hc : c < 16) : shr .i64 (M : Int) (wu64 (c : Int)) = ((M / 2 ^ c : Nat) : Int) := by
 have hw : wu64 (c : Int) = (c : Int) := by
  have := wrap64_nat c
  rw [Nat.mod_eq_of_lt (by omega)] at this
  exact this
 rw [hw]
 unfold shr
 have h1 : (IntKind.bits .i64) = 64 := rfl
 rw [h1, Int.toNat_natCast, Nat.min_eq_left (by omega)]
 have : (2 : Int) ^ c = ((2 ^ c : Nat) : Int) := by simp
 rw [this, Int.fdiv_eq_ediv_of_nonneg _ (Int.natCast_nonneg _)]
 simp
theorem bandi_one {x : Nat} (h : x < 65536) : band .i64 (x : Int) 1 = ((x % 2 : Nat) : Int) := by
 unfold band
 have h1 : (IntKind.bits .i64) = 64 := rfl
 rw [h1, show (1 : Int) = ((1 : Nat) : Int) from rfl, ofInt_nat, ofInt_nat, BitVec.toNat_and, BitVec.toNat_ofNat, BitVec.toNat_ofNat, Nat.mod_eq_of_lt (by omega), Nat.mod_eq_of_lt (by decide), Nat.and_one_is_mod]
 exact wrapi64_nat (by omega)
theorem bit_ok {M c : Nat} (hM : M < 65536) (hc : c < 16) : band .i64 (shr .i64 (M : Int) (wu64 (c : Int))) 1 = ((M / 2 ^ c % 2 : Nat) : Int) := by
 rw [shri hc]
 exact bandi_one (Nat.lt_of_le_of_lt (Nat.div_le_self _ _) hM)
theorem mask_join {m : Nat} (h : m < 65536) : bor .i64 (shl .i64 ((m / 256 : Nat) : Int) 8) ((m % 256 : Nat) : Int) = (m : Int) := by
 have e : shl .i64 ((m / 256 : Nat) : Int) 8 = ((m / 256 * 256 : Nat) : Int) := by
  unfold shl
  rw [show IntKind.bits .i64 = 64 from rfl, show (2 : Int) ^ min (8 : Int).toNat 64 = ((256 : Nat) : Int) by decide, ← Int.natCast_mul]
  exact wrapi64_nat (by omega)
 rw [e]
 unfold bor
 rw [show IntKind.bits .i64 = 64 from rfl, ofInt_nat, ofInt_nat, BitVec.toNat_or, BitVec.toNat_ofNat, BitVec.toNat_ofNat, Nat.mod_eq_of_lt (by omega), Nat.mod_eq_of_lt (by omega)]
 have e2 : m / 256 * 256 ||| m % 256 = m := by
  have := Nat.two_pow_add_eq_or_of_lt (i := 8) (b := m % 256) (by omega) (m / 256)
  rw [Nat.mul_comm, ← show 2 ^ 8 = 256 from rfl, ← this]
  omega
 rw [e2]
 exact wrapi64_nat (by omega)
def pkd (s : ByteArray) : ByteArray := strOfNums [wu8 (s.size : Int)] ++ pck s
end Go.Lf
/- What a sheet's bytes say: a reader on lists of numbers. -/
set_option linter.unusedVariables false
set_option linter.unusedSimpArgs false
namespace Go.Lf
open Go
def Byt (x : List Nat) : Prop := ∀ b ∈ x, b < 256
theorem Byt.nil : Byt [] := by intro b hb; cases hb
theorem Byt.tail {a : Nat} {x : List Nat} (h : Byt (a :: x)) : Byt x := fun b hb => h b (List.mem_cons_of_mem _ hb)
theorem Byt.head {a : Nat} {x : List Nat} (h : Byt (a :: x)) : a < 256 := h a (List.mem_cons_self ..)
theorem Byt.take {x : List Nat} (h : Byt x) (n : Nat) : Byt (x.take n) := fun b hb => h b (List.mem_of_mem_take hb)
theorem Byt.drop {x : List Nat} (h : Byt x) (n : Nat) : Byt (x.drop n) := fun b hb => h b (List.mem_of_mem_drop hb)
theorem byt_B (s : ByteArray) : Byt (B s) := fun b hb => B_lt hb
theorem S_B (s : ByteArray) : S (B s) = s := B_inj (B_S (byt_B s))
theorem S_size {x : List Nat} : (S x).size = x.length := by simp [S, ByteArray.size]
theorem sub_S {x : List Nat} (h : Byt x) (i j : Int) : sub (S x) i j = S ((x.take j.toNat).drop i.toNat) := by
 apply B_inj
 rw [B_sub, B_S h, B_S ((h.take _).drop _)]
theorem bt_S {x : List Nat} (h : Byt x) (i : Int) : bt (S x) i = ((x.getD i.toNat 0 : Nat) : Int) := by rw [bt_B, B_S h]
theorem S_nil : S [] = (⟨#[]⟩ : ByteArray) := rfl
theorem seq_S {x y : List Nat} (h : Byt x) (h' : Byt y) : seq_ (S x) (S y) = decide (x = y) := by
 rw [seq_B]
 by_cases e : x = y
 ·subst e; simp
 ·rw [decide_eq_false e, decide_eq_false]
  intro e'
  exact e (by rw [← B_S h, ← B_S h', e'])
theorem seq_e {x : List Nat} (h : Byt x) : seq_ (S x) (⟨#[]⟩ : ByteArray) = decide (x = []) := seq_S h Byt.nil
/-- A way, packed: its nibbles, and how many bytes it takes. -/
def upk : List Nat → Option (List Nat × Nat)
 | [] => none
 | n :: r => if 16 < n ∨ r.length < (n + 1) / 2 ∨ (nbl (r.take ((n + 1) / 2))).getD n 0 ≠ 0 then none else some ((nbl (r.take ((n + 1) / 2))).take n, 1 + (n + 1) / 2)
def vrd : List Nat → Option (List Nat × List Nat)
 | [] => none
 | n :: r => if 16 < n ∨ r.length < n then none else some (r.take n, r.drop n)
def least (m : Nat) (h : Bool) : Prop := m &&& (m - 1) ≠ 0 ∨ m ≠ 0 ∧ h = true
instance (m : Nat) (h : Bool) : Decidable (least m h) := by unfold least; infer_instance
def brn : List Nat → Option (Bool × List Nat × Nat × List Nat)
 | a :: b :: h :: r => if 1 < h then none else if h = 1 then (vrd r).bind fun (v, r') => if least (a * 256 + b) true then some (true, v, a * 256 + b, r') else none else if least (a * 256 + b) false then some (false, [], a * 256 + b, r) else none
 | _ => none
/-- A node but for its children: way, has it a value, the value, which children, and what is left. -/
def hdr (k : Nat) (s : List Nat) : Option (List Nat × Bool × List Nat × Nat × List Nat) :=
 if k = 1 then (upk s).bind fun (p, u) => (vrd (s.drop u)).bind fun (v, r) => some (p, true, v, 0, r)
 else if k = 2 then (upk s).bind fun (p, u) => if p = [] then none else some (p, false, [], 1, s.drop u)
 else if k = 3 then (brn s).bind fun (h, v, m, r) => some ([], h, v, m, r)
 else none
mutual
inductive Dn where
 | node (kind : Nat) (path : List Nat) (has : Bool) (value : List Nat) (ks : Dk)
inductive Dk where
 | nil
 | pg (c id : Nat) (ks : Dk)
 | nd (c : Nat) (d : Dn) (ks : Dk)
end
def Pg (id : Nat) : Prop := 2 ≤ id ∧ id < 200
instance (id : Nat) : Decidable (Pg id) := by unfold Pg; infer_instance
def dpg : List Nat → Option ((Nat ⊕ Dn) × List Nat)
 | a :: b :: r => if Pg (a * 256 + b) then some (.inl (a * 256 + b), r) else none
 | _ => none
def dkid (rc : List Nat → Option (Dn × List Nat)) : List Nat → Option ((Nat ⊕ Dn) × List Nat)
 | [] => none
 | k :: r => if k = 0 then dpg r else (rc (k :: r)).bind fun (d, r') => some (.inr d, r')
def Dk.put (c : Nat) : Nat ⊕ Dn → Dk → Dk
 | .inl i, ks => .pg c i ks
 | .inr d, ks => .nd c d ks
def dks (rc : List Nat → Option (Dn × List Nat)) (m : Nat) : Nat → Nat → List Nat → Option (Dk × List Nat)
 | 0, _, s => some (.nil, s)
 | n + 1, c, s => if m.testBit c then (dkid rc s).bind fun (x, r) => (dks rc m n (c + 1) r).bind fun (ks, r') => some (ks.put c x, r') else dks rc m n (c + 1) s
def dn : Nat → List Nat → Option (Dn × List Nat)
 | 0, _ => none
 | _ + 1, [] => none
 | f + 1, k :: s => (hdr k s).bind fun (p, h, v, m, r) => (dks (dn f) m 16 0 r).bind fun (ks, r') => some (.node k p h v ks, r')
def z16 : Vector Int 16 := Vector.replicate 16 0
mutual
def Dn.sz : Dn → Nat
 | .node _ _ _ _ ks => ks.sz + 1
def Dk.sz : Dk → Nat
 | .nil => 0
 | .pg _ _ ks => ks.sz
 | .nd _ d ks => d.sz + ks.sz
end
def Dk.vec : Dk → Nat → Vector Int 16 → Vector Int 16
 | .nil, _, v => v
 | .pg c id ks, b, v => ks.vec b (vset v (c : Int) (-(id : Int)))
 | .nd c d ks, b, v => ks.vec (b + d.sz) (vset v (c : Int) (b : Int))
mutual
def Dn.slots : Dn → Nat → List Slot
 | .node k p h v ks, b => (⟨(k : Int), S p, h, S v, ks.vec (b + 1) (Vector.replicate 16 0)⟩ : Slot) :: ks.slots (b + 1)
def Dk.slots : Dk → Nat → List Slot
 | .nil, _ => []
 | .pg _ _ ks, b => ks.slots b
 | .nd _ d ks, b => d.slots b ++ ks.slots (b + d.sz)
end
mutual
theorem Dn.slots_len : ∀ (d : Dn) (b : Nat), (d.slots b).length = d.sz
 | .node k p h v ks, b => by simp [Dn.slots, Dn.sz, Dk.slots_len ks]
theorem Dk.slots_len : ∀ (ks : Dk) (b : Nat), (ks.slots b).length = ks.sz
 | .nil, b => rfl
 | .pg c i ks, b => by simp [Dk.slots, Dk.sz, Dk.slots_len ks]
 | .nd c d ks, b => by simp [Dk.slots, Dk.sz, Dn.slots_len d, Dk.slots_len ks]
end
theorem upk_used {x p : List Nat} {u : Nat} (h : upk x = some (p, u)) : u ≤ x.length ∧ 1 ≤ u := by
 cases x with
 | nil => cases h
 | cons n r =>
  rw [upk] at h
  split at h
  ·cases h
  ·rename_i hc
   simp only [Option.some.injEq, Prod.mk.injEq] at h
   simp only [List.length_cons]
   omega
theorem vrd_len {x v r : List Nat} (h : vrd x = some (v, r)) : r.length + 1 ≤ x.length := by
 cases x with
 | nil => cases h
 | cons n y =>
  rw [vrd] at h
  split at h
  ·cases h
  ·simp only [Option.some.injEq, Prod.mk.injEq] at h
   rw [← h.2, List.length_drop, List.length_cons]
   omega
theorem hdr_len {k m : Nat} {s p v r : List Nat} {h : Bool} (e : hdr k s = some (p, h, v, m, r)) : r.length + 2 ≤ s.length ∨ k = 2 ∧ r.length + 1 ≤ s.length := by
 unfold hdr at e
 split at e
 ·cases hu : upk s with
  | none => rw [hu] at e; cases e
  | some q =>
   obtain ⟨p', u⟩ := q
   have h1 := upk_used hu
   simp only [hu, Option.bind_some] at e
   cases hv : vrd (s.drop u) with
   | none => rw [hv] at e; cases e
   | some q =>
    obtain ⟨v', r'⟩ := q
    have h2 := vrd_len hv
    simp only [hv, Option.bind_some, Option.some.injEq, Prod.mk.injEq] at e
    rw [← e.2.2.2.2]
    rw [List.length_drop] at h2
    omega
 ·split at e
  ·rename_i hk
   cases hu : upk s with
   | none => rw [hu] at e; cases e
   | some q =>
    obtain ⟨p', u⟩ := q
    have h1 := upk_used hu
    simp only [hu, Option.bind_some] at e
    split at e
    ·cases e
    ·simp only [Option.some.injEq, Prod.mk.injEq] at e
     rw [← e.2.2.2.2, List.length_drop]
     exact .inr ⟨hk, by omega⟩
  ·split at e
   ·match s, e with
    | a :: b :: c :: y, e =>
     rw [brn] at e
     split at e
     ·cases e
     ·split at e
      ·cases hv : vrd y with
       | none => rw [hv] at e; cases e
       | some q =>
        obtain ⟨v', r'⟩ := q
        have h2 := vrd_len hv
        simp only [hv, Option.bind_some] at e
        split at e
        ·simp only [Option.bind_some, Option.some.injEq, Prod.mk.injEq] at e
         rw [← e.2.2.2.2]
         simp only [List.length_cons]
         omega
        ·cases e
      ·split at e
       ·simp only [Option.bind_some, Option.some.injEq, Prod.mk.injEq] at e
        rw [← e.2.2.2.2]
        simp only [List.length_cons]
        omega
       ·cases e
    | [], e => cases e
    | [_], e => cases e
    | [_, _], e => cases e
   ·cases e
end Go.Lf
/- The program's reader: its small steps. -/
set_option linter.unusedVariables false
set_option linter.unusedSimpArgs false
namespace Go.Lf
open Go
theorem w64_b {a : Nat} (h : a < 256) : w64 ((a : Nat) : Int) = (a : Int) := w64_nat rfl (by omega)
theorem take_ok {x : List Nat} (hx : Byt x) (l : List Slot) (bad : Bool) (n : Nat) :
  slot_reader_take.f (S x) l bad (n : Int) = if n ≤ x.length then some (S (x.take n), S (x.drop n), bad) else some ((⟨#[]⟩ : ByteArray), S x, true) := by
 unfold slot_reader_take.f
 rw [S_size]
 by_cases h : n ≤ x.length
 ·rw [bif_false (decide_eq_false (by omega)), gd_pos (by omega), gd_pos (by omega), sub_S hx, sub_S hx, if_pos h]
  simp
 ·rw [bif_true (decide_eq_true (by omega)), if_neg h]
def nmb (bad : Bool) : List Nat → Option (Int × ByteArray × Bool)
 | [] => some (0, S [], true)
 | k :: r => some ((k : Int), S r, bad)
theorem number_ok {x : List Nat} (hx : Byt x) (l : List Slot) (bad : Bool) :
  slot_reader_number.f (S x) l bad = nmb bad x := by
 unfold slot_reader_number.f
 have h := take_ok hx l bad 1
 rw [show ((1 : Nat) : Int) = 1 from rfl] at h
 rw [h]
 cases x with
 | nil => simp [S_nil, seq_, nmb]
 | cons k r =>
  rw [if_pos (by simp)]
  simp only [Option.bind_some, List.take_succ_cons, List.take_zero, List.drop_succ_cons, List.drop_zero]
  have h1 : Byt [k] := fun b hb => hx b (by simp at hb; simp [hb])
  rw [seq_e h1, bif_false (decide_eq_false (by simp)), gd_pos (by rw [S_size]; simp), bt_S h1]
  show some (w64 ((k : Nat) : Int), _, _) = _
  rw [w64_b hx.head]
  rfl
theorem or_256 {a b : Nat} (ha : a < 256) (hb : b < 256) : bor .i64 (shl .i64 ((a : Nat) : Int) 8) ((b : Nat) : Int) = ((a * 256 + b : Nat) : Int) := by
 have h := mask_join (m := a * 256 + b) (by omega)
 rwa [show (a * 256 + b) / 256 = a by omega, show (a * 256 + b) % 256 = b by omega] at h
theorem two_okR {a b : Nat} {r : List Nat} (hx : Byt (a :: b :: r)) (l : List Slot) (bad : Bool) : slot_reader_two.f (S (a :: b :: r)) l bad = some (((a * 256 + b : Nat) : Int), S r, bad) := by
 unfold slot_reader_two.f
 rw [number_ok hx, nmb]
 simp only [Option.bind_some]
 rw [number_ok hx.tail, nmb]
 simp only [Option.bind_some]
 rw [or_256 hx.head hx.tail.head]
/-- What comes out whatever went in. -/
theorem two_any {x : List Nat} (hx : Byt x) (l : List Slot) (bad : Bool) : ∃ (v : Int) (y : List Nat) (b' : Bool), slot_reader_two.f (S x) l bad = some (v, S y, b') ∧ Byt y ∧ y.length ≤ x.length ∧ (bad = true → b' = true) ∧ (x.length < 2 → b' = true) := by
 unfold slot_reader_two.f
 rw [number_ok hx]
 match x, hx with
 | [], hx =>
  rw [nmb]
  simp only [Option.bind_some]
  rw [number_ok Byt.nil, nmb]
  exact ⟨_, [], true, rfl, Byt.nil, Nat.le_refl _, fun _ => rfl, fun _ => rfl⟩
 | [a], hx =>
  rw [nmb]
  simp only [Option.bind_some]
  rw [number_ok hx.tail, nmb]
  exact ⟨_, [], true, rfl, Byt.nil, Nat.zero_le _, fun _ => rfl, fun _ => rfl⟩
 | a :: b :: r, hx =>
  rw [nmb]
  simp only [Option.bind_some]
  rw [number_ok hx.tail, nmb]
  exact ⟨_, r, bad, rfl, hx.tail.tail, by simp; omega, fun h => h, fun h => by simp at h; omega⟩
theorem value_ok {x v r : List Nat} (hx : Byt x) (h : vrd x = some (v, r)) (l : List Slot) (bad : Bool) : slot_reader_value.f (S x) l bad = some (S v, S r, bad) ∧ Byt v ∧ Byt r := by
 cases x with
 | nil => cases h
 | cons n y =>
  rw [vrd] at h
  split at h
  ·cases h
  ·rename_i hc
   simp only [Option.some.injEq, Prod.mk.injEq] at h
   obtain ⟨rfl, rfl⟩ := h
   refine ⟨?_, hx.tail.take _, hx.tail.drop _⟩
   unfold slot_reader_value.f
   rw [number_ok hx, nmb]
   simp only [Option.bind_some]
   cases bad with
   | true =>
    rw [cond_true]
    simp only [Option.bind_some]
    rw [take_ok hx.tail, if_pos (by omega)]
    rfl
   | false =>
    rw [cond_false, decide_eq_false (by omega)]
    simp only [Option.bind_some]
    rw [take_ok hx.tail, if_pos (by omega)]
    rfl
theorem value_any {x : List Nat} (hx : Byt x) (l : List Slot) (bad : Bool) : ∃ (v : ByteArray) (y : List Nat) (b' : Bool), slot_reader_value.f (S x) l bad = some (v, S y, b') ∧ Byt y ∧ y.length ≤ x.length ∧ (bad = true → b' = true) ∧ (vrd x = none → b' = true) := by
 unfold slot_reader_value.f
 rw [number_ok hx]
 match x, hx with
 | [], hx =>
  rw [nmb]
  simp only [Option.bind_some, cond_true]
  have h := take_ok Byt.nil l true 0
  rw [show ((0 : Nat) : Int) = 0 from rfl] at h
  rw [h]
  exact ⟨_, [], true, rfl, Byt.nil, Nat.le_refl _, fun _ => rfl, fun _ => rfl⟩
 | n :: y, hx =>
  rw [nmb]
  simp only [Option.bind_some]
  have key : ∀ b0 : Bool, (bad = true → b0 = true) → (16 < n → b0 = true) → ∃ (v : ByteArray) (z : List Nat) (b' : Bool), ((slot_reader_take.f (S y) l b0 (n : Int)).bind fun (y21, y22, y23) => some (y21, y22, y23)) = some (v, S z, b') ∧ Byt z ∧ z.length ≤ (n :: y).length ∧ (bad = true → b' = true) ∧ (vrd (n :: y) = none → b' = true) := by
   intro b0 h0 h1
   rw [take_ok hx.tail]
   by_cases hn : n ≤ y.length
   ·rw [if_pos hn]
    refine ⟨_, _, _, rfl, hx.tail.drop _, by simp; omega, h0, fun e => ?_⟩
    rw [vrd] at e
    split at e
    ·exact h1 (by omega)
    ·cases e
   ·rw [if_neg hn]
    exact ⟨_, _, _, rfl, hx.tail, by simp, fun _ => rfl, fun _ => rfl⟩
  cases bad with
  | true =>
   rw [cond_true]
   exact key true (fun _ => rfl) (fun _ => rfl)
  | false =>
   rw [cond_false]
   simp only [Option.bind_some]
   exact key _ (fun h => by cases h) (fun h => decide_eq_true (by omega))
theorem getD_nbl {r : List Nat} {m n : Nat} (h : m ≤ r.length) : (nbl (r.take m)).length = 2 * m := by rw [nbl_len, List.length_take]; omega
theorem nbl_byt {x : List Nat} (h : Byt x) : Byt (nbl x) := fun b hb => by have := nbl_lt h b hb; omega
theorem nib_S {x : List Nat} (h : Byt x) : nib (S x) = S (nbl x) := by unfold nib; rw [B_S h]
theorem half {n : Nat} (h : n < 256) : w64 (1 + (w64 ((w64 ((n : Int) + 1)).tdiv 2))) = ((1 + (n + 1) / 2 : Nat) : Int) := by
 rw [w64_nat (x := (n : Int) + 1) (k := n + 1) (by simp) (by omega)]
 rw [show (((n + 1 : Nat) : Int)).tdiv 2 = (((n + 1) / 2 : Nat) : Int) by rw [Int.tdiv_eq_ediv_of_nonneg (by omega)]; omega]
 rw [w64_nat (x := (((n + 1) / 2 : Nat) : Int)) (k := (n + 1) / 2) rfl (by omega)]
 exact w64_nat (by simp) (by omega)
theorem unpack_ok {x : List Nat} (hx : Byt x) (hl : x.length < 1000000) : nibble_Unpack.f (S x) = match upk x with | some (p, u) => some (S p, (u : Int), true) | none => some ((⟨#[]⟩ : ByteArray), 0, false) := by
 unfold nibble_Unpack.f
 rw [seq_e hx]
 cases x with
 | nil => rfl
 | cons n r =>
  have hn := hx.head
  have e0 : bt (S (n :: r)) 0 = (n : Int) := by rw [bt_S hx]; rfl
  rw [e0, w64_b hn, S_size, half hn, bif_false (decide_eq_false (by simp)), gd_pos (by simp), upk]
  simp only [Option.bind_some]
  by_cases h1 : 16 < n
  ·rw [bif_true (decide_eq_true (by omega)), if_pos (.inl h1)]
  ·rw [bif_false (decide_eq_false (by omega)), gd_pos (by simp)]
   by_cases h2 : r.length < (n + 1) / 2
   ·rw [bif_true (decide_eq_true (by simp; omega)), if_pos (.inr (.inl h2))]
   ·rw [bif_false (decide_eq_false (by simp; omega)), gd_pos (by simp; omega), sub_S hx]
    have e1 : ((n :: r).take ((1 + (n + 1) / 2 : Nat) : Int).toNat).drop (1 : Int).toNat = r.take ((n + 1) / 2) := by
     rw [Int.toNat_natCast, Nat.add_comm 1]
     rfl
    have hb := hx.tail.take ((n + 1) / 2)
    have hq := nbl_byt hb
    have hlen : (nbl (r.take ((n + 1) / 2))).length = 2 * ((n + 1) / 2) := getD_nbl (n := n) (by omega)
    rw [e1, of_ok (by rw [S_size, List.length_take]; omega), nib_S hb]
    simp only [Option.bind_some]
    rw [S_size, hlen]
    by_cases h3 : n < 2 * ((n + 1) / 2)
    ·rw [bif_true (decide_eq_true (by omega)), gd_pos (by omega), bt_S hq, Int.toNat_natCast]
     simp only [Option.bind_some]
     by_cases h4 : (nbl (r.take ((n + 1) / 2))).getD n 0 = 0
     ·rw [bif_false (by rw [h4]; rfl), gd_pos (by omega), sub_S hq, if_neg (by simp only [h4]; omega)]
      simp
     ·rw [bif_true (by rw [bne_iff_ne]; omega), if_pos (.inr (.inr h4))]
    ·rw [bif_false (decide_eq_false (by omega))]
     simp only [Option.bind_some]
     have h4 : (nbl (r.take ((n + 1) / 2))).getD n 0 = 0 := by rw [List.getD_eq_getElem?_getD, List.getElem?_eq_none (by omega)]; rfl
     rw [cond_false, gd_pos (by omega), sub_S hq, if_neg (by simp only [h4]; omega)]
     simp
theorem upk_byt {x p : List Nat} {u : Nat} (hx : Byt x) (h : upk x = some (p, u)) : Byt p := by
 cases x with
 | nil => cases h
 | cons n r =>
  rw [upk] at h
  split at h
  ·cases h
  ·simp only [Option.some.injEq, Prod.mk.injEq] at h
   rw [← h.1]
   exact (nbl_byt (hx.tail.take _)).take _
theorem path_ok {x p : List Nat} {u : Nat} (hx : Byt x) (hl : x.length < 1000000) (h : upk x = some (p, u)) (l : List Slot) (bad : Bool) : slot_reader_path.f (S x) l bad = some (S p, S (x.drop u), bad) := by
 have hu := upk_used h
 unfold slot_reader_path.f
 rw [unpack_ok hx hl, h]
 simp only [Option.bind_some]
 cases bad with
 | true =>
  rw [cond_true]
  simp only [Option.bind_some]
  rw [take_ok hx, if_pos hu.1]
  rfl
 | false =>
  rw [cond_false]
  simp only [Option.bind_some, Bool.not_true]
  rw [take_ok hx, if_pos hu.1]
  rfl
theorem path_any {x : List Nat} (hx : Byt x) (hl : x.length < 1000000) (l : List Slot) (bad : Bool) : ∃ (v : ByteArray) (y : List Nat) (b' : Bool), slot_reader_path.f (S x) l bad = some (v, S y, b') ∧ Byt y ∧ y.length ≤ x.length ∧ (bad = true → b' = true) ∧ (upk x = none → b' = true) := by
 cases h : upk x with
 | some q =>
  obtain ⟨p, u⟩ := q
  exact ⟨_, _, _, path_ok hx hl h l bad, hx.drop _, by simp, fun h => h, fun e => by cases e⟩
 | none =>
  have h0 := take_ok hx l true 0
  rw [show ((0 : Nat) : Int) = 0 from rfl] at h0
  refine ⟨S (x.take 0), x, true, ?_, hx, Nat.le_refl _, fun _ => rfl, fun _ => rfl⟩
  unfold slot_reader_path.f
  rw [unpack_ok hx hl, h]
  simp only [Option.bind_some, Bool.not_false]
  cases bad <;> simp only [cond_true, cond_false, Option.bind_some] <;> rw [h0, if_pos (Nat.zero_le _)] <;> simp [S_nil]
end Go.Lf
/- The program's reader reads what dn says. -/
set_option linter.unusedVariables false
set_option linter.unusedSimpArgs false
namespace Go.Lf
open Go
theorem band_pred {m : Nat} (h : m < 65536) : band .i64 ((m : Nat) : Int) (w64 ((m : Int) - 1)) = ((m &&& (m - 1) : Nat) : Int) := by
 cases m with
 | zero => decide +kernel
 | succ n =>
  have e : w64 (((n + 1 : Nat) : Int) - 1) = (n : Int) := w64_nat (by omega) (by omega)
  rw [e]
  unfold band
  rw [show IntKind.bits .i64 = 64 from rfl, ofInt_nat, ofInt_nat, BitVec.toNat_and, BitVec.toNat_ofNat, BitVec.toNat_ofNat, Nat.mod_eq_of_lt (by omega), Nat.mod_eq_of_lt (by omega)]
  rw [Nat.add_sub_cancel]
  exact wrapi64_nat (Nat.lt_of_le_of_lt Nat.and_le_left (by omega))
theorem bit_t {M c : Nat} (hM : M < 65536) (hc : c < 16) : (band .i64 (shr .i64 (M : Int) (c : Int)) 1 == 1) = M.testBit c := by
 have hw : wu64 (c : Int) = (c : Int) := by
  have := wrap64_nat c
  rw [Nat.mod_eq_of_lt (by omega)] at this
  exact this
 have h := bit_ok hM hc
 rw [hw] at h
 rw [h, Nat.testBit_eq_decide_div_mod_eq, Bool.eq_iff_iff, beq_iff_eq, decide_eq_true_iff]
 omega
theorem brn_byt {x v r : List Nat} {h : Bool} {m : Nat} (hx : Byt x) (e : brn x = some (h, v, m, r)) : Byt v ∧ Byt r ∧ m < 65536 := by
 match x, e with
 | a :: b :: c :: y, e =>
  have ha := hx.head
  have hb := hx.tail.head
  rw [brn] at e
  split at e
  ·cases e
  ·split at e
   ·cases hv : vrd y with
    | none => rw [hv] at e; cases e
    | some q =>
     obtain ⟨v', r'⟩ := q
     have h2 := value_ok hx.tail.tail.tail hv [] false
     simp only [hv, Option.bind_some] at e
     split at e
     ·simp only [Option.some.injEq, Prod.mk.injEq] at e
      rw [← e.2.2.2, ← e.2.1, ← e.2.2.1]
      exact ⟨h2.2.1, h2.2.2, by omega⟩
     ·cases e
   ·split at e
    ·simp only [Option.some.injEq, Prod.mk.injEq] at e
     rw [← e.2.2.2, ← e.2.1, ← e.2.2.1]
     exact ⟨Byt.nil, hx.tail.tail.tail, by omega⟩
    ·cases e
 | [], e => cases e
 | [_], e => cases e
 | [_, _], e => cases e
theorem least_bif {m : Nat} (h : m < 65536) (b : Bool) : (bif (band .i64 ((m : Nat) : Int) (w64 ((m : Int) - 1))) != 0 then some true else bif ((m : Nat) : Int) != 0 then some b else some false) = some (decide (least m b)) := by
 rw [band_pred h]
 by_cases h1 : m &&& (m - 1) = 0
 ·rw [bif_false (by rw [h1]; rfl)]
  by_cases h2 : m = 0
  ·rw [bif_false (by rw [h2]; rfl), decide_eq_false (by unfold least; simp [h1, h2])]
  ·rw [bif_true (by rw [bne_iff_ne]; omega)]
   congr 1
   rw [Bool.eq_iff_iff, decide_eq_true_iff]
   unfold least
   simp [h1, h2]
 ·rw [bif_true (by rw [bne_iff_ne]; omega), decide_eq_true (by unfold least; exact .inl h1)]
theorem branch_ok {x v r : List Nat} {h : Bool} {m : Nat} (hx : Byt x) (e : brn x = some (h, v, m, r)) (l : List Slot) (k : Int) (p : ByteArray) (z : Vector Int 16) : slot_reader_branch.f (S x) l false k p false (⟨#[]⟩ : ByteArray) z = some ((m : Int), S r, false, h, S v) := by
 match x, e with
 | a :: b :: c :: y, e =>
  have ha := hx.head
  have hb := hx.tail.head
  have hc := hx.tail.tail.head
  have hm : a * 256 + b < 65536 := by omega
  unfold slot_reader_branch.f
  rw [two_okR hx]
  simp only [Option.bind_some]
  rw [number_ok hx.tail.tail, nmb]
  simp only [Option.bind_some, cond_false]
  rw [brn] at e
  split at e
  ·cases e
  ·rename_i hc1
   rw [decide_eq_false (by omega)]
   split at e
   ·rename_i h1
    subst h1
    cases hv : vrd y with
    | none => rw [hv] at e; cases e
    | some q =>
     obtain ⟨v', r'⟩ := q
     simp only [hv, Option.bind_some] at e
     split at e
     ·rename_i hl
      simp only [Option.some.injEq, Prod.mk.injEq] at e
      obtain ⟨rfl, rfl, rfl, rfl⟩ := e
      rw [bif_true (c := ((1 : Nat) : Int) == 1) rfl, (value_ok hx.tail.tail.tail hv l false).1]
      simp only [Option.bind_some]
      rw [least_bif hm, decide_eq_true hl]
      rfl
     ·cases e
   ·rename_i h1
    rw [bif_false (c := ((c : Nat) : Int) == 1) (by rw [beq_eq_false_iff_ne]; omega)]
    split at e
    ·rename_i hl
     simp only [Option.some.injEq, Prod.mk.injEq] at e
     obtain ⟨rfl, rfl, rfl, rfl⟩ := e
     simp only [Option.bind_some]
     rw [least_bif hm, decide_eq_true hl]
     rfl
    ·cases e
 | [], e => cases e
 | [_], e => cases e
 | [_, _], e => cases e
def brc (v1 : Int) (s : ByteArray) (l : List Slot) (b : Bool) : Option (Int × ByteArray × Bool × Bool × ByteArray) :=
 (slot_reader_number.f s l b).bind fun (y9, y10, y11) =>
 (
   bif y11 then
    some true
   else
    some (decide (y9 > 1))).bind fun y23 =>
 (
   bif y9 == 1 then
    (slot_reader_value.f y10 l y23).bind fun (y58, y59, y60) =>
    some (y59, y60, true, y58)
   else
    some (y10, y23, false, (⟨#[]⟩ : ByteArray))).bind fun (y51, y52, y53, y54) =>
 (
   bif (band .i64 v1 (w64 (v1 - 1))) != 0 then
    some true
   else
    bif v1 != 0 then
     some y53
    else
     some false).bind fun y72 =>
 (
   bif y52 then
    some true
   else
    some (!y72)).bind fun y83 =>
 some (v1, y51, y83, y53, y54)
theorem brc_eq (s : ByteArray) (l : List Slot) (bad : Bool) (k : Int) (p : ByteArray) (z : Vector Int 16) : slot_reader_branch.f s l bad k p false (⟨#[]⟩ : ByteArray) z = (slot_reader_two.f s l bad).bind fun (y1, y2, y3) => brc y1 y2 l y3 := rfl
theorem bif_any (c d e : Bool) : ∃ w, (bif c then some true else bif d then some e else some false) = some w := by cases c <;> cases d <;> exact ⟨_, rfl⟩
theorem brc_any (v1 : Int) {x : List Nat} (hx : Byt x) (l : List Slot) (b : Bool) : ∃ (m : Int) (y : List Nat) (b' h : Bool) (v : ByteArray), brc v1 (S x) l b = some (m, S y, b', h, v) ∧ Byt y ∧ y.length ≤ x.length ∧ (b = true ∨ x = [] → b' = true) := by
 unfold brc
 rw [number_ok hx]
 have key : ∀ (n : Int) (y : List Nat) (b0 : Bool), Byt y → y.length ≤ x.length → (b = true ∨ x = [] → b0 = true) → ∃ (m : Int) (y' : List Nat) (b' h : Bool) (v : ByteArray), (((
   bif n == 1 then
    (slot_reader_value.f (S y) l b0).bind fun (y58, y59, y60) =>
    some (y59, y60, true, y58)
   else
    some (S y, b0, false, (⟨#[]⟩ : ByteArray))).bind fun (y51, y52, y53, y54) =>
   (
   bif (band .i64 v1 (w64 (v1 - 1))) != 0 then
    some true
   else
    bif v1 != 0 then
     some y53
    else
     some false).bind fun y72 =>
 (
   bif y52 then
    some true
   else
    some (!y72)).bind fun y83 =>
 some (v1, y51, y83, y53, y54)) : Option (Int × ByteArray × Bool × Bool × ByteArray)) = some (m, S y', b', h, v) ∧ Byt y' ∧ y'.length ≤ x.length ∧ (b = true ∨ x = [] → b' = true) := by
  intro n y b0 hy hl h0
  by_cases hn : n = 1
  ·rw [bif_true (by rw [hn]; rfl)]
   obtain ⟨v, y', b', e, g1, g2, g3, -⟩ := value_any hy l b0
   rw [e]
   simp only [Option.bind_some]
   obtain ⟨w, hw⟩ := bif_any (band .i64 v1 (w64 (v1 - 1)) != 0) (v1 != 0) true
   rw [hw]
   cases b' with
   | true => exact ⟨_, _, _, _, _, rfl, g1, by omega, fun _ => rfl⟩
   | false => exact ⟨_, _, _, _, _, rfl, g1, by omega, fun h => by have := g3 (h0 h); cases this⟩
  ·rw [bif_false (by rw [beq_eq_false_iff_ne]; exact hn)]
   simp only [Option.bind_some]
   obtain ⟨w, hw⟩ := bif_any (band .i64 v1 (w64 (v1 - 1)) != 0) (v1 != 0) false
   rw [hw]
   cases b0 with
   | true => exact ⟨_, _, _, _, _, rfl, hy, hl, fun _ => rfl⟩
   | false => exact ⟨_, _, _, _, _, rfl, hy, hl, fun h => by have := h0 h; cases this⟩
 cases x with
 | nil =>
  rw [nmb, Option.bind_some]
  exact key 0 [] true Byt.nil (Nat.le_refl _) (fun _ => rfl)
 | cons c y =>
  rw [nmb]
  simp only [Option.bind_some]
  cases b with
  | true => exact key c y true hx.tail (by simp) (fun _ => rfl)
  | false =>
   rw [cond_false]
   simp only [Option.bind_some]
   exact key c y _ hx.tail (by simp) (fun h => by rcases h with h | h <;> cases h)
theorem branch_any {x : List Nat} (hx : Byt x) (l : List Slot) (bad : Bool) (k : Int) (p : ByteArray) (z : Vector Int 16) : ∃ (m : Int) (y : List Nat) (b' h : Bool) (v : ByteArray), slot_reader_branch.f (S x) l bad k p false (⟨#[]⟩ : ByteArray) z = some (m, S y, b', h, v) ∧ Byt y ∧ y.length ≤ x.length ∧ (bad = true ∨ brn x = none → b' = true) := by
 rw [brc_eq]
 by_cases hb : bad = true ∨ x.length < 3
 ·obtain ⟨v1, y1, b1, e, g1, g2, g3, g4⟩ := two_any hx l bad
  rw [e]
  simp only [Option.bind_some]
  by_cases h3 : bad = true ∨ x.length < 2
  ·obtain ⟨m, y, b', h, v, e1, e2, e3, e4⟩ := brc_any v1 g1 l b1
   exact ⟨m, y, b', h, v, e1, e2, by omega, fun _ => e4 (.inl (h3.elim g3 g4))⟩
  ·match x, hx, e, hb, h3 with
   | [a, b], hx, e, hb, h3 =>
    rw [two_okR hx] at e
    simp only [Option.some.injEq, Prod.mk.injEq] at e
    obtain ⟨rfl, e5, rfl⟩ := e
    obtain ⟨m, y, b', h, v, e1, e2, e3, e4⟩ := brc_any ((a * 256 + b : Nat) : Int) Byt.nil l bad
    rw [← e5]
    exact ⟨m, y, b', h, v, e1, e2, by simp at e3; simp [e3], fun _ => e4 (.inr rfl)⟩
   | [], _, _, _, h3 => exact absurd (.inr (by simp)) h3
   | [_], _, _, _, h3 => exact absurd (.inr (by simp)) h3
   | a :: b :: c :: y, _, _, hb, h3 => exact hb.elim (fun h => absurd (.inl h) h3) (fun h => by simp only [List.length_cons] at h; omega)
 ·match x, hx, hb with
  | a :: b :: c :: y, hx, hb =>
   have hbad : bad = false := by cases bad with
    | true => exact absurd (.inl rfl) hb
    | false => rfl
   subst hbad
   have ha := hx.head
   have hbb := hx.tail.head
   have hm : a * 256 + b < 65536 := by omega
   rw [two_okR hx]
   simp only [Option.bind_some]
   cases hq : brn (a :: b :: c :: y) with
   | some q =>
    obtain ⟨h, v, m, r⟩ := q
    have h1 := branch_ok hx hq l k p z
    rw [brc_eq, two_okR hx] at h1
    simp only [Option.bind_some] at h1
    have h2 := brn_byt hx hq
    refine ⟨_, _, _, _, _, h1, h2.2.1, ?_, fun h => by rcases h with h | h <;> cases h⟩
    have := hdr_len (k := 3) (s := a :: b :: c :: y) (p := []) (h := h) (v := v) (m := m) (r := r) (by unfold hdr; rw [if_neg (by decide), if_neg (by decide), if_pos rfl, hq]; rfl)
    omega
   | none =>
    unfold brc
    rw [number_ok hx.tail.tail, nmb]
    simp only [Option.bind_some, cond_false]
    rw [brn] at hq
    by_cases h1 : c = 1
    ·subst h1
     rw [bif_true (c := ((1 : Nat) : Int) == 1) rfl]
     obtain ⟨v, y', b', e, g1, g2, g3, g4⟩ := value_any hx.tail.tail.tail l (decide (((1 : Nat) : Int) > 1))
     rw [e]
     simp only [Option.bind_some]
     rw [least_bif hm]
     refine ⟨((a * 256 + b : Nat) : Int), y', true, true, v, ?_, g1, by simp; omega, fun _ => rfl⟩
     cases b' with
     | true => rfl
     | false =>
      cases hv : vrd y with
      | none => have := g4 hv; cases this
      | some q =>
       obtain ⟨v', r'⟩ := q
       rw [if_neg (by decide), if_pos rfl] at hq
       simp only [hv, Option.bind_some] at hq
       split at hq
       ·cases hq
       ·rename_i hl
        simp only [Option.bind_some]
        rw [decide_eq_false hl]
        rfl
    ·rw [bif_false (c := ((c : Nat) : Int) == 1) (by rw [beq_eq_false_iff_ne]; omega)]
     simp only [Option.bind_some]
     rw [least_bif hm]
     simp only [Option.bind_some]
     refine ⟨((a * 256 + b : Nat) : Int), y, true, false, (⟨#[]⟩ : ByteArray), ?_, hx.tail.tail.tail, by simp; omega, fun _ => rfl⟩
     by_cases h2 : 1 < c
     ·rw [decide_eq_true (by omega)]
      rfl
     ·rw [if_neg h2, if_neg h1] at hq
      rw [decide_eq_false (by omega)]
      split at hq
      ·cases hq
      ·rename_i hl
       rw [decide_eq_false hl]
       rfl
  | [], _, hb => exact absurd (.inr (by simp)) hb
  | [_], _, hb => exact absurd (.inr (by simp)) hb
  | [_, _], _, hb => exact absurd (.inr (by simp)) hb
end Go.Lf
/- The program's Decode is dn. -/
set_option linter.unusedVariables false
set_option linter.unusedSimpArgs false
namespace Go.Lf
open Go
def kidv (b : Nat) : Nat ⊕ Dn → Int
 | .inl i => -(i : Int)
 | .inr _ => (b : Int)
def kids (b : Nat) : Nat ⊕ Dn → List Slot
 | .inl _ => []
 | .inr d => d.slots b
def ksz : Nat ⊕ Dn → Nat
 | .inl _ => 0
 | .inr d => d.sz
theorem kids_len (b : Nat) : ∀ x, (kids b x).length = ksz x
 | .inl _ => rfl
 | .inr d => d.slots_len b
theorem put_vec (ks : Dk) (c b : Nat) (v : Vector Int 16) : ∀ x, (ks.put c x).vec b v = ks.vec (b + ksz x) (vset v (c : Int) (kidv b x))
 | .inl _ => rfl
 | .inr _ => rfl
theorem put_slots (ks : Dk) (c b : Nat) : ∀ x, (ks.put c x).slots b = kids b x ++ ks.slots (b + ksz x)
 | .inl _ => rfl
 | .inr _ => rfl
theorem put_sz (ks : Dk) (c : Nat) : ∀ x, (ks.put c x).sz = ksz x + ks.sz
 | .inl _ => by simp [Dk.put, Dk.sz, ksz]
 | .inr _ => rfl
abbrev RcT := ByteArray → List Slot → Bool → Option (Int × ByteArray × Bool × List Slot)
structure Chd (rc : RcT) (rs : List Nat → Option (Dn × List Nat)) (N : Nat) : Prop where
 ok : ∀ (x : List Nat) (l : List Slot) (k : Nat ⊕ Dn) (r : List Nat), Byt x → x.length ≤ N → l.length + x.length ≤ 1000000 → dkid rs x = some (k, r) → Byt r ∧ ksz k + r.length ≤ x.length ∧ rc (S x) l false = some (kidv l.length k, S r, false, l ++ kids l.length k)
 no : ∀ (x : List Nat) (l : List Slot), Byt x → x.length ≤ N → l.length + x.length ≤ 1000000 → dkid rs x = none → ∃ (i : Int) (y : List Nat) (l' : List Slot), rc (S x) l false = some (i, S y, true, l') ∧ l.length ≤ l'.length ∧ l'.length + y.length ≤ l.length + x.length
theorem loop_bad (m : Int) (rc : RcT) (L : List Slot) (v : Vector Int 16) (s : ByteArray) : ∀ (n fuel c : Nat), c + n = 16 → n < fuel → slot_reader_node.l0 m rc fuel (L, v, s, true, (c : Int)) = some (L, v, s, true)
 | 0, 0, c, _, h => by omega
 | 0, fuel + 1, c, hc, _ => by
  rw [slot_reader_node.l0, bif_false (decide_eq_false (by omega))]
 | n + 1, 0, c, _, h => by omega
 | n + 1, fuel + 1, c, hc, h => by
  rw [slot_reader_node.l0, bif_true (decide_eq_true (by omega)), gd_pos (by omega)]
  have e : (bif band .i64 (shr .i64 m (c : Int)) 1 == 1 then some (!true) else some false) = some false := by cases (band .i64 (shr .i64 m (c : Int)) 1 == 1) <;> rfl
  rw [e]
  simp only [Option.bind_some]
  rw [cond_false]
  simp only [Option.bind_some]
  rw [w64_nat (x := (c : Int) + 1) (k := c + 1) (by simp) (by omega)]
  exact loop_bad m rc L v s n fuel (c + 1) (by omega) (by omega)
theorem loop_ok {m : Nat} (hm : m < 65536) {rc : RcT} {rs : List Nat → Option (Dn × List Nat)} {N : Nat} (hC : Chd rc rs N) : ∀ (n fuel c : Nat) (x : List Nat) (L : List Slot) (v : Vector Int 16), c + n = 16 → n < fuel → Byt x → x.length ≤ N → L.length + x.length ≤ 1000000 →
  (∀ ks r, dks rs m n c x = some (ks, r) → Byt r ∧ ks.sz + r.length ≤ x.length ∧ slot_reader_node.l0 (m : Int) rc fuel (L, v, S x, false, (c : Int)) = some (L ++ ks.slots L.length, ks.vec L.length v, S r, false)) ∧
  (dks rs m n c x = none → ∃ (L' : List Slot) (v' : Vector Int 16) (y : List Nat), slot_reader_node.l0 (m : Int) rc fuel (L, v, S x, false, (c : Int)) = some (L', v', S y, true) ∧ L.length ≤ L'.length ∧ L'.length + y.length ≤ L.length + x.length)
 | 0, 0, c, x, L, v, _, h, _, _, _ => by omega
 | 0, fuel + 1, c, x, L, v, hc, _, hx, hN, hL => by
  refine ⟨fun ks r e => ?_, fun e => by cases e⟩
  rw [dks] at e
  simp only [Option.some.injEq, Prod.mk.injEq] at e
  obtain ⟨rfl, rfl⟩ := e
  refine ⟨hx, by simp [Dk.sz], ?_⟩
  rw [slot_reader_node.l0, bif_false (decide_eq_false (by omega))]
  simp [Dk.slots, Dk.vec]
 | n + 1, 0, c, x, L, v, _, h, _, _, _ => by omega
 | n + 1, fuel + 1, c, x, L, v, hc, h, hx, hN, hL => by
  rw [slot_reader_node.l0, bif_true (decide_eq_true (by omega)), gd_pos (by omega), bit_t hm (by omega), dks, w64_nat (x := (c : Int) + 1) (k := c + 1) (by simp) (by omega)]
  cases hb : m.testBit c with
  | false =>
   rw [cond_false, if_neg (by decide)]
   simp only [Option.bind_some]
   rw [cond_false]
   simp only [Option.bind_some]
   exact loop_ok hm hC n fuel (c + 1) x L v (by omega) (by omega) hx hN hL
  | true =>
   rw [cond_true, if_pos rfl]
   simp only [Option.bind_some]
   rw [bif_true (c := !false) rfl]
   cases hk : dkid rs x with
   | none =>
    refine ⟨fun ks r e => (by cases e), fun _ => ?_⟩
    obtain ⟨i, y, l', e, g1, g2⟩ := hC.no x L hx hN hL hk
    rw [e]
    simp only [Option.bind_some]
    rw [gd_pos (by omega)]
    simp only [Option.bind_some]
    rw [loop_bad _ _ _ _ _ n fuel (c + 1) (by omega) (by omega)]
    exact ⟨_, _, y, rfl, g1, g2⟩
   | some q =>
    obtain ⟨k, r⟩ := q
    obtain ⟨g1, g2, e⟩ := hC.ok x L k r hx hN hL hk
    rw [e]
    simp only [Option.bind_some]
    rw [gd_pos (by omega)]
    simp only [Option.bind_some]
    have hl : (L ++ kids L.length k).length = L.length + ksz k := by rw [List.length_append, kids_len]
    obtain ⟨i1, i2⟩ := loop_ok hm hC n fuel (c + 1) r (L ++ kids L.length k) (vset v (c : Int) (kidv L.length k)) (by omega) (by omega) g1 (by omega) (by omega)
    constructor
    ·intro ks r' hq
     cases hd : dks rs m n (c + 1) r with
     | none => rw [hd] at hq; cases hq
     | some q =>
      obtain ⟨ks', r''⟩ := q
      rw [hd] at hq
      simp only [Option.bind_some, Option.some.injEq, Prod.mk.injEq] at hq
      obtain ⟨rfl, rfl⟩ := hq
      obtain ⟨j1, j2, j3⟩ := i1 ks' r'' hd
      refine ⟨j1, by rw [put_sz]; omega, ?_⟩
      rw [j3, put_slots, put_vec, hl, List.append_assoc]
    ·intro hq
     cases hd : dks rs m n (c + 1) r with
     | none =>
      obtain ⟨L', v', y, j1, j2, j3⟩ := i2 hd
      exact ⟨L', v', y, j1, by omega, by omega⟩
     | some q => rw [hd] at hq; cases hq
def ph (k : Int) : Slot := ⟨k, (⟨#[]⟩ : ByteArray), false, (⟨#[]⟩ : ByteArray), (Vector.replicate 16 0 : Vector Int 16)⟩
def hdrP (s : ByteArray) (l : List Slot) (bad : Bool) (k : Int) : Option (ByteArray × Bool × ByteArray × ByteArray × Bool × Int) :=
    bif k == 1 then
     (slot_reader_path.f s (l ++ [ph k]) bad).bind fun (y135, y136, y137) =>
     (slot_reader_value.f y136 (l ++ [ph k]) y137).bind fun (y144, y145, y146) =>
     some (y135, true, y144, y145, y146, (0 : Int))
    else
     bif k == 2 then
      (slot_reader_path.f s (l ++ [ph k]) bad).bind fun (y155, y156, y157) =>
      (
        bif y157 then
         some true
        else
         some (seq_ y155 (⟨#[]⟩ : ByteArray))).bind fun y170 =>
      some (y155, false, (⟨#[]⟩ : ByteArray), y156, y170, (1 : Int))
     else
      bif k == 3 then
       (slot_reader_branch.f s (l ++ [ph k]) bad k (⟨#[]⟩ : ByteArray) false (⟨#[]⟩ : ByteArray) (Vector.replicate 16 0 : Vector Int 16)).bind fun (y177, y178, y179, y180, y181) =>
       some ((⟨#[]⟩ : ByteArray), y180, y181, y178, y179, y177)
      else
       some ((⟨#[]⟩ : ByteArray), false, (⟨#[]⟩ : ByteArray), s, true, (0 : Int))
def finP (rc : RcT) (l : List Slot) (k : Int) (p : ByteArray) (h : Bool) (v s : ByteArray) (b : Bool) (m : Int) : Option (Int × ByteArray × Bool × List Slot) :=
  (slot_reader_node.l0 m rc BIG (l ++ [ph k], (Vector.replicate 16 0 : Vector Int 16), s, b, 0)).bind fun (y455, y460, y461, y462) =>
  gd (0 ≤ (l.length : Int) ∧ (l.length : Int) < (y455.length : Int)) <|
  some ((l.length : Int), y461, y462, y455.set (l.length : Int).toNat (⟨k, p, h, v, y460⟩ : Slot))
theorem node_eq (kk : Nat) (s : ByteArray) (l : List Slot) (bad : Bool) (k : Int) : slot_reader_node.f (kk + 1) s l bad k = gd (l.length + 1 ≤ 274877906944) ((hdrP s l bad k).bind fun (p, h, v, s', b, m) => finP (slot_reader_child.f kk) l k p h v s' b m) := by
 rw [slot_reader_node.f]
 rfl
theorem hdrP_ok {k : Nat} {x p v r : List Nat} {h : Bool} {m : Nat} (hx : Byt x) (hl : x.length < 1000000) (e : hdr k x = some (p, h, v, m, r)) (l : List Slot) : hdrP (S x) l false (k : Int) = some (S p, h, S v, S r, false, (m : Int)) ∧ Byt p ∧ Byt v ∧ Byt r ∧ m < 65536 := by
 unfold hdr at e
 unfold hdrP
 split at e
 ·rename_i hk
  subst hk
  rw [bif_true (c := ((1 : Nat) : Int) == 1) rfl]
  cases hu : upk x with
  | none => rw [hu] at e; cases e
  | some q =>
   obtain ⟨p', u⟩ := q
   simp only [hu, Option.bind_some] at e
   cases hv : vrd (x.drop u) with
   | none => rw [hv] at e; cases e
   | some q =>
    obtain ⟨v', r'⟩ := q
    simp only [hv, Option.bind_some, Option.some.injEq, Prod.mk.injEq] at e
    obtain ⟨rfl, rfl, rfl, rfl, rfl⟩ := e
    rw [path_ok hx hl hu]
    simp only [Option.bind_some]
    obtain ⟨g1, g2, g3⟩ := value_ok (hx.drop u) hv (l ++ [ph ((1 : Nat) : Int)]) false
    rw [g1]
    exact ⟨rfl, upk_byt hx hu, g2, g3, by decide⟩
 ·rename_i h1
  rw [bif_false (c := ((k : Nat) : Int) == 1) (by rw [beq_eq_false_iff_ne]; omega)]
  split at e
  ·rename_i hk
   subst hk
   rw [bif_true (c := ((2 : Nat) : Int) == 2) rfl]
   cases hu : upk x with
   | none => rw [hu] at e; cases e
   | some q =>
    obtain ⟨p', u⟩ := q
    simp only [hu, Option.bind_some] at e
    split at e
    ·cases e
    ·rename_i hp
     simp only [Option.some.injEq, Prod.mk.injEq] at e
     obtain ⟨rfl, rfl, rfl, rfl, rfl⟩ := e
     rw [path_ok hx hl hu]
     simp only [Option.bind_some]
     rw [cond_false, seq_e (upk_byt hx hu), decide_eq_false hp]
     exact ⟨rfl, upk_byt hx hu, Byt.nil, hx.drop _, by decide⟩
  ·rename_i h2
   rw [bif_false (c := ((k : Nat) : Int) == 2) (by rw [beq_eq_false_iff_ne]; omega)]
   split at e
   ·rename_i hk
    subst hk
    rw [bif_true (c := ((3 : Nat) : Int) == 3) rfl]
    cases hu : brn x with
    | none => rw [hu] at e; cases e
    | some q =>
     obtain ⟨h', v', m', r'⟩ := q
     simp only [hu, Option.bind_some, Option.some.injEq, Prod.mk.injEq] at e
     obtain ⟨rfl, rfl, rfl, rfl, rfl⟩ := e
     rw [branch_ok hx hu]
     obtain ⟨g1, g2, g3⟩ := brn_byt hx hu
     exact ⟨rfl, Byt.nil, g1, g2, g3⟩
   ·cases e
theorem hdrP_any {k : Nat} {x : List Nat} (hx : Byt x) (hl : x.length < 1000000) (l : List Slot) (bad : Bool) (e : bad = true ∨ hdr k x = none) : ∃ (p : ByteArray) (h : Bool) (v : ByteArray) (y : List Nat) (m : Int), hdrP (S x) l bad (k : Int) = some (p, h, v, S y, true, m) ∧ y.length ≤ x.length := by
 unfold hdrP
 by_cases h1 : k = 1
 ·subst h1
  rw [bif_true (c := ((1 : Nat) : Int) == 1) rfl]
  obtain ⟨p, y, b, e1, g1, g2, g3, g4⟩ := path_any hx hl (l ++ [ph ((1 : Nat) : Int)]) bad
  rw [e1]
  simp only [Option.bind_some]
  obtain ⟨v, y2, b2, e2, f1, f2, f3, f4⟩ := value_any g1 (l ++ [ph ((1 : Nat) : Int)]) b
  rw [e2]
  simp only [Option.bind_some]
  have : b2 = true := by
   rcases e with e | e
   ·exact f3 (g3 e)
   ·cases hu : upk x with
    | none => exact f3 (g4 hu)
    | some q =>
     obtain ⟨p', u⟩ := q
     unfold hdr at e
     rw [if_pos rfl, hu] at e
     simp only [Option.bind_some] at e
     cases bad with
     | true => exact f3 (g3 rfl)
     | false =>
      rw [path_ok hx hl hu] at e1
      simp only [Option.some.injEq, Prod.mk.injEq] at e1
      have hy : y = x.drop u := by rw [← B_S g1, ← e1.2.1, B_S (hx.drop u)]
      cases hv : vrd (x.drop u) with
      | none => exact f4 (by rw [hy]; exact hv)
      | some q => rw [hv] at e; cases e
  rw [this]
  exact ⟨_, _, _, _, _, rfl, by omega⟩
 ·rw [bif_false (c := ((k : Nat) : Int) == 1) (by rw [beq_eq_false_iff_ne]; omega)]
  by_cases h2 : k = 2
  ·subst h2
   rw [bif_true (c := ((2 : Nat) : Int) == 2) rfl]
   obtain ⟨p, y, b, e1, g1, g2, g3, g4⟩ := path_any hx hl (l ++ [ph ((2 : Nat) : Int)]) bad
   rw [e1]
   simp only [Option.bind_some]
   have : (bif b then some true else some (seq_ p (⟨#[]⟩ : ByteArray))) = some true := by
    rcases e with e | e
    ·rw [g3 e]; rfl
    ·cases hu : upk x with
     | none => rw [g4 hu]; rfl
     | some q =>
      obtain ⟨p', u⟩ := q
      unfold hdr at e
      rw [if_neg (by decide), if_pos rfl, hu] at e
      simp only [Option.bind_some] at e
      split at e
      ·rename_i hp
       rw [path_ok hx hl hu] at e1
       simp only [Option.some.injEq, Prod.mk.injEq] at e1
       rw [← e1.1, seq_e (upk_byt hx hu), decide_eq_true hp]
       cases b <;> rfl
      ·cases e
   rw [this]
   exact ⟨_, _, _, _, _, rfl, g2⟩
  ·rw [bif_false (c := ((k : Nat) : Int) == 2) (by rw [beq_eq_false_iff_ne]; omega)]
   by_cases h3 : k = 3
   ·subst h3
    rw [bif_true (c := ((3 : Nat) : Int) == 3) rfl]
    obtain ⟨m, y, b, h, v, e1, g1, g2, g3⟩ := branch_any hx (l ++ [ph ((3 : Nat) : Int)]) bad ((3 : Nat) : Int) (⟨#[]⟩ : ByteArray) (Vector.replicate 16 0)
    rw [e1]
    have : b = true := by
     rcases e with e | e
     ·exact g3 (.inl e)
     ·cases hu : brn x with
      | none => exact g3 (.inr hu)
      | some q =>
       unfold hdr at e
       rw [if_neg (by decide), if_neg (by decide), if_pos rfl, hu] at e
       cases e
    rw [this]
    exact ⟨_, _, _, _, _, rfl, g2⟩
   ·rw [bif_false (c := ((k : Nat) : Int) == 3) (by rw [beq_eq_false_iff_ne]; omega)]
    exact ⟨_, _, _, _, _, rfl, Nat.le_refl _⟩
end Go.Lf
/- The program's Decode is dn: the whole. -/
set_option linter.unusedVariables false
set_option linter.unusedSimpArgs false
namespace Go.Lf
open Go
theorem page_ok (n : Nat) : slot_page.f (n : Int) = some (decide (Pg n)) := by
 unfold slot_page.f
 by_cases h : 2 ≤ n
 ·rw [bif_true (decide_eq_true (by omega))]
  by_cases h2 : n < 200
  ·rw [decide_eq_true (by omega), decide_eq_true (show Pg n from ⟨h, h2⟩)]; rfl
  ·rw [decide_eq_false (by omega), decide_eq_false (fun hp => h2 hp.2)]; rfl
 ·rw [bif_false (decide_eq_false (by omega)), decide_eq_false (fun hp : Pg n => h hp.1)]; rfl
def NodeP (kk f : Nat) : Prop := ∀ (k : Nat) (x : List Nat) (l : List Slot), Byt (k :: x) → x.length + 1 ≤ f → l.length + x.length + 1 ≤ 1000000 →
 (∀ d r, dn f (k :: x) = some (d, r) → Byt r ∧ d.sz + r.length ≤ x.length + 1 ∧ slot_reader_node.f kk (S x) l false (k : Int) = some ((l.length : Int), S r, false, l ++ d.slots l.length)) ∧
 (dn f (k :: x) = none → ∃ (i : Int) (y : List Nat) (l' : List Slot), slot_reader_node.f kk (S x) l false (k : Int) = some (i, S y, true, l') ∧ l.length + 1 ≤ l'.length ∧ l'.length + y.length ≤ l.length + 1 + x.length)
theorem neg_w64 {n : Nat} (h : n < 65536) : w64 (0 - ((n : Nat) : Int)) = -(n : Int) := by
 rw [w64_id (by omega)]
 omega
theorem child_chd {kk f : Nat} (hP : NodeP kk f) : Chd (slot_reader_child.f (kk + 1)) (dn f) f := by
 have bad2 : ∀ (r : List Nat) (l : List Slot), Byt r → ∀ b0 : Bool, (b0 = true ∨ r.length < 2) → ∃ (i : Int) (y : List Nat), ((slot_reader_two.f (S r) l b0).bind fun (y23, y24, y25) =>
   (
     bif y25 then
      some true
     else
      (slot_page.f y23).bind fun y54 =>
      some (!y54)).bind fun y49 =>
   some (w64 (0 - y23), y24, y49, l)) = some (i, S y, true, l) ∧ y.length ≤ r.length := by
  intro r l hr b0 hb
  obtain ⟨v, y, b', e, g1, g2, g3, g4⟩ := two_any hr l b0
  rw [e]
  have : b' = true := hb.elim g3 g4
  rw [this]
  exact ⟨_, y, rfl, g2⟩
 constructor
 ·intro x l k r hx hN hL e
  cases x with
  | nil => cases e
  | cons a x =>
   rw [slot_reader_child.f, number_ok hx, nmb]
   simp only [Option.bind_some]
   rw [dkid] at e
   by_cases ha : a = 0
   ·subst ha
    rw [if_pos rfl] at e
    match x, hx, hN, hL, e with
    | b :: c :: y, hx, hN, hL, e =>
     rw [dpg] at e
     split at e
     ·rename_i hp
      simp only [Option.some.injEq, Prod.mk.injEq] at e
      obtain ⟨rfl, rfl⟩ := e
      rw [bif_false (c := ((0 : Nat) : Int) != 0) rfl, two_okR hx.tail]
      simp only [Option.bind_some]
      rw [cond_false, page_ok, decide_eq_true hp]
      simp only [Option.bind_some]
      have hb := hx.tail.head
      have hc := hx.tail.tail.head
      rw [neg_w64 (by omega)]
      refine ⟨hx.tail.tail.tail, by simp [ksz]; omega, ?_⟩
      simp [kidv, kids]
     ·cases e
    | [], _, _, _, e => cases e
    | [_], _, _, _, e => cases e
   ·rw [if_neg ha] at e
    rw [bif_true (c := ((a : Nat) : Int) != 0) (by rw [bne_iff_ne]; omega)]
    simp only [List.length_cons] at hN hL
    obtain ⟨h1, h2⟩ := hP a x l hx hN (by omega)
    cases hd : dn f (a :: x) with
    | none => rw [hd] at e; cases e
    | some q =>
     obtain ⟨d, r'⟩ := q
     rw [hd] at e
     simp only [Option.bind_some, Option.some.injEq, Prod.mk.injEq] at e
     obtain ⟨rfl, rfl⟩ := e
     obtain ⟨g1, g2, g3⟩ := h1 d r' hd
     rw [g3]
     exact ⟨g1, by simp only [ksz, List.length_cons]; exact g2, rfl⟩
 ·intro x l hx hN hL e
  rw [slot_reader_child.f, number_ok hx]
  cases x with
  | nil =>
   rw [nmb]
   simp only [Option.bind_some]
   rw [bif_false (c := (0 : Int) != 0) rfl]
   obtain ⟨i, y, e1, e2⟩ := bad2 [] l Byt.nil true (.inl rfl)
   exact ⟨i, y, l, e1, Nat.le_refl _, by simp only [List.length_nil] at e2 ⊢; omega⟩
  | cons a x =>
   rw [nmb]
   simp only [Option.bind_some]
   rw [dkid] at e
   simp only [List.length_cons] at hN hL ⊢
   by_cases ha : a = 0
   ·subst ha
    rw [bif_false (c := ((0 : Nat) : Int) != 0) rfl]
    rw [if_pos rfl] at e
    match x, hx, hN, hL, e with
    | b :: c :: y, hx, hN, hL, e =>
     rw [dpg] at e
     split at e
     ·cases e
     ·rename_i hp
      rw [two_okR hx.tail]
      simp only [Option.bind_some]
      rw [cond_false, page_ok, decide_eq_false hp]
      exact ⟨_, y, l, rfl, Nat.le_refl _, by simp; omega⟩
    | [], hx, _, _, e =>
     obtain ⟨i, y, e1, e2⟩ := bad2 [] l Byt.nil false (.inr (by simp))
     exact ⟨i, y, l, e1, Nat.le_refl _, by simp only [List.length_nil] at e2 ⊢; omega⟩
    | [b], hx, _, _, e =>
     obtain ⟨i, y, e1, e2⟩ := bad2 [b] l hx.tail false (.inr (by simp))
     exact ⟨i, y, l, e1, Nat.le_refl _, by simp only [List.length_cons, List.length_nil] at e2 ⊢; omega⟩
   ·rw [if_neg ha] at e
    rw [bif_true (c := ((a : Nat) : Int) != 0) (by rw [bne_iff_ne]; omega)]
    obtain ⟨h1, h2⟩ := hP a x l hx hN (by omega)
    cases hd : dn f (a :: x) with
    | some q => rw [hd] at e; cases e
    | none =>
     obtain ⟨i, y, l', e1, e2, e3⟩ := h2 hd
     rw [e1]
     exact ⟨i, y, l', rfl, by omega, by omega⟩
theorem set_mid (l r : List Slot) (a b : Slot) : (l ++ [a] ++ r).set (l.length : Int).toNat b = l ++ b :: r := by
 simp
theorem finP_bad (rc : RcT) (l : List Slot) (k : Int) (p : ByteArray) (h : Bool) (v s : ByteArray) (m : Int) : ∃ l', finP rc l k p h v s true m = some ((l.length : Int), s, true, l') ∧ l'.length = l.length + 1 := by
 unfold finP
 have := loop_bad m rc (l ++ [ph k]) (Vector.replicate 16 0) s 16 BIG 0 rfl (by have := BIG_ge; omega)
 rw [show ((0 : Nat) : Int) = 0 from rfl] at this
 rw [this]
 simp only [Option.bind_some]
 rw [gd_pos (by simp; omega)]
 exact ⟨_, rfl, by simp⟩
theorem node_all : ∀ (f kk : Nat), 2 * f ≤ kk → NodeP kk f
 | 0, kk, _ => by
  intro k x l _ h _
  omega
 | f + 1, kk, hkk => by
  intro k x l hx hN hL
  obtain ⟨kk, rfl⟩ : ∃ n, kk = n + 2 := ⟨kk - 2, by omega⟩
  have hC := child_chd (node_all f kk (by omega))
  rw [node_eq, gd_pos (by omega), dn]
  cases hh : hdr k x with
  | none =>
   refine ⟨fun d r e => (by cases e), fun _ => ?_⟩
   obtain ⟨p, h, v, y, m, e, g⟩ := hdrP_any hx.tail (by omega) l false (.inr hh)
   rw [e]
   simp only [Option.bind_some]
   obtain ⟨l', e1, e2⟩ := finP_bad (slot_reader_child.f (kk + 1)) l k p h v (S y) m
   exact ⟨_, y, l', e1, by omega, by omega⟩
  | some q =>
   obtain ⟨p, h, v, m, r⟩ := q
   obtain ⟨e, hp, hv, hr, hm⟩ := hdrP_ok hx.tail (by omega) hh l
   have hlen := hdr_len hh
   rw [e]
   simp only [Option.bind_some]
   obtain ⟨h1, h2⟩ := loop_ok hm hC 16 BIG 0 r (l ++ [ph k]) (Vector.replicate 16 0) rfl (by have := BIG_ge; omega) hr (by omega) (by simp; omega)
   rw [show ((0 : Nat) : Int) = 0 from rfl] at h1 h2
   unfold finP
   constructor
   ·intro d r' hd
    cases hk : dks (dn f) m 16 0 r with
    | none => rw [hk] at hd; cases hd
    | some q =>
     obtain ⟨ks, r''⟩ := q
     rw [hk] at hd
     simp only [Option.bind_some, Option.some.injEq, Prod.mk.injEq] at hd
     obtain ⟨rfl, rfl⟩ := hd
     obtain ⟨g1, g2, g3⟩ := h1 ks r'' hk
     rw [g3]
     simp only [Option.bind_some]
     rw [gd_pos (by simp; omega), set_mid]
     refine ⟨g1, by simp only [Dn.sz]; omega, ?_⟩
     simp [Dn.slots]
   ·intro hd
    cases hk : dks (dn f) m 16 0 r with
    | some q => rw [hk] at hd; cases hd
    | none =>
     obtain ⟨L', v', y, g1, g2, g3⟩ := h2 hk
     rw [g1]
     simp only [Option.bind_some]
     simp only [List.length_append, List.length_singleton] at g2 g3
     rw [gd_pos (by omega)]
     exact ⟨_, y, _, rfl, by simp; omega, by simp; omega⟩
/-- What these bytes say: a node, and nothing behind it. -/
def dec (x : List Nat) : Option Dn := (dn 1000 x).bind fun (d, r) => if r = [] then some d else none
theorem Decode_ok {x : List Nat} (hx : Byt x) (hl : x.length < 1000) : slot_Decode.f (S x) = match dec x with | some d => some (d.slots 0, true) | none => some ([], false) := by
 have hB := BIG_ge
 unfold slot_Decode.f
 rw [number_ok hx]
 cases x with
 | nil =>
  rw [nmb]
  simp only [Option.bind_some]
  obtain ⟨n, hn⟩ : ∃ n, BIG = n + 1 := ⟨BIG - 1, by omega⟩
  rw [hn, node_eq, gd_pos (by simp)]
  obtain ⟨p, h, v, y, m, e, g⟩ := hdrP_any (k := 0) Byt.nil (by simp) [] true (.inl rfl)
  rw [show ((0 : Nat) : Int) = 0 from rfl] at e
  rw [e]
  simp only [Option.bind_some]
  obtain ⟨l', e1, e2⟩ := finP_bad (slot_reader_child.f n) [] 0 p h v (S y) m
  rw [e1]
  rfl
 | cons k x =>
  rw [nmb]
  simp only [Option.bind_some]
  simp only [List.length_cons] at hl
  obtain ⟨h1, h2⟩ := node_all 1000 BIG (by omega) k x [] hx (by omega) (by simp; omega)
  unfold dec
  cases hd : dn 1000 (k :: x) with
  | none =>
   obtain ⟨i, y, l', e, -⟩ := h2 hd
   rw [e]
   rfl
  | some q =>
   obtain ⟨d, r⟩ := q
   obtain ⟨g1, g2, g3⟩ := h1 d r hd
   rw [g3]
   simp only [Option.bind_some]
   rw [cond_false, seq_e g1]
   by_cases hr : r = []
   ·rw [decide_eq_true hr, if_pos hr]
    rfl
   ·rw [decide_eq_false hr, if_neg hr]
    rfl
end Go.Lf
/- The document's reader: ways, masks, lengths. -/
set_option linter.unusedVariables false
set_option linter.unusedSimpArgs false
namespace Go.Lf
open Go
/-! How many bits are set -/
def pc (m : Nat) : Nat → Nat → Nat
 | 0, _ => 0
 | n + 1, c => (if m.testBit c then 1 else 0) + pc m n (c + 1)
theorem pc_half (m : Nat) : ∀ n c, pc m n (c + 1) = pc (m / 2) n c
 | 0, _ => rfl
 | n + 1, c => by
  rw [pc, pc, pc_half m n (c + 1), Nat.testBit_succ]
theorem and_nz (x y : Nat) : x &&& y ≠ 0 ↔ (x / 2 &&& y / 2) ≠ 0 ∨ x % 2 = 1 ∧ y % 2 = 1 := by
 have h1 : (x &&& y) / 2 = x / 2 &&& y / 2 := Nat.and_div_two
 have h2 : (x &&& y) % 2 = 1 ↔ x % 2 = 1 ∧ y % 2 = 1 := by
  have := Nat.testBit_and x y 0
  rw [Nat.testBit_zero, Nat.testBit_zero, Nat.testBit_zero] at this
  rw [← decide_eq_true_iff (p := (x &&& y) % 2 = 1), this]
  simp
 rw [← h1, ← h2]
 omega
theorem pc_ok : ∀ (n m : Nat), m < 2 ^ n → (m = 0 ↔ pc m n 0 = 0) ∧ (m &&& (m - 1) ≠ 0 ↔ 2 ≤ pc m n 0)
 | 0, m, h => by
  have : m = 0 := by simp at h; exact h
  subst this
  simp [pc]
 | n + 1, m, h => by
  have hm : m / 2 < 2 ^ n := by rw [Nat.pow_succ] at h; omega
  obtain ⟨h1, h2⟩ := pc_ok n (m / 2) hm
  rw [pc, pc_half, Nat.testBit_zero]
  rcases Nat.mod_two_eq_zero_or_one m with h0 | h0
  ·rw [if_neg (by simp [h0])]
   refine ⟨by omega, ?_⟩
   rw [Nat.zero_add, ← h2]
   rcases Nat.eq_zero_or_pos m with rfl | hp
   ·simp
   ·rw [and_nz, show (m - 1) / 2 = m / 2 - 1 by omega]
    constructor
    ·rintro (h | h)
     ·exact h
     ·omega
    ·exact .inl
  ·rw [if_pos (by simp [h0])]
   refine ⟨by omega, ?_⟩
   rw [and_nz, show (m - 1) / 2 = m / 2 by omega, Nat.and_self]
   constructor
   ·rintro (h | h)
    ·have := mt h1.mpr h
     omega
    ·omega
   ·intro h
    left
    intro e
    have := h1.mp e
    omega
theorem pc_least {m : Nat} (h : m < 65536) (b : Bool) : (if b then 1 else 0) + pc m 16 0 < 2 ↔ ¬ least m b := by
 obtain ⟨h1, h2⟩ := pc_ok 16 m h
 unfold least
 cases b with
 | true =>
  simp only [if_true, and_true]
  constructor
  ·intro h3 h4
   rcases h4 with h4 | h4
   ·have := h2.mp h4; omega
   ·exact h4 (h1.mpr (by omega))
  ·intro h3
   have : ¬ m ≠ 0 := fun h => h3 (.inr h)
   have := h1.mp (by omega)
   omega
 | false =>
  simp only [Bool.false_eq_true, if_false, and_false, or_false, Nat.zero_add]
  rw [h2]
  omega
/-! Each node takes three bytes -/
theorem hdr_len3 {k m : Nat} {s p v r : List Nat} {h : Bool} (e : hdr k s = some (p, h, v, m, r)) : r.length + 2 ≤ s.length := by
 rcases hdr_len e with h1 | ⟨rfl, h1⟩
 ·exact h1
 ·unfold hdr at e
  rw [if_neg (by decide), if_pos rfl] at e
  cases hu : upk s with
  | none => rw [hu] at e; cases e
  | some q =>
   obtain ⟨p', u⟩ := q
   simp only [hu, Option.bind_some] at e
   split at e
   ·cases e
   ·rename_i hp
    simp only [Option.some.injEq, Prod.mk.injEq] at e
    rw [← e.2.2.2.2, List.length_drop]
    have hul := upk_used hu
    cases s with
    | nil => cases hu
    | cons n y =>
     rw [upk] at hu
     split at hu
     ·cases hu
     ·simp only [Option.some.injEq, Prod.mk.injEq] at hu
      rcases Nat.eq_zero_or_pos n with rfl | hn
      ·exact absurd hu.1.symm hp
      ·omega
theorem dkid_len {rs : List Nat → Option (Dn × List Nat)} (h : ∀ x d r, rs x = some (d, r) → 3 * d.sz + r.length ≤ x.length) {x r : List Nat} {k : Nat ⊕ Dn} (e : dkid rs x = some (k, r)) : 3 * ksz k + r.length ≤ x.length := by
 cases x with
 | nil => cases e
 | cons a x =>
  rw [dkid] at e
  split at e
  ·match x, e with
   | b :: c :: y, e =>
    rw [dpg] at e
    split at e
    ·simp only [Option.some.injEq, Prod.mk.injEq] at e
     obtain ⟨rfl, rfl⟩ := e
     simp [ksz]
     omega
    ·cases e
   | [], e => cases e
   | [_], e => cases e
  ·cases hd : rs (a :: x) with
   | none => rw [hd] at e; cases e
   | some q =>
    obtain ⟨d, r'⟩ := q
    rw [hd] at e
    simp only [Option.bind_some, Option.some.injEq, Prod.mk.injEq] at e
    obtain ⟨rfl, rfl⟩ := e
    exact h _ _ _ hd
theorem dks_len {rs : List Nat → Option (Dn × List Nat)} (h : ∀ x d r, rs x = some (d, r) → 3 * d.sz + r.length ≤ x.length) (m : Nat) : ∀ (n c : Nat) (x r : List Nat) (ks : Dk), dks rs m n c x = some (ks, r) → 3 * ks.sz + r.length ≤ x.length
 | 0, c, x, r, ks, e => by
  rw [dks] at e
  simp only [Option.some.injEq, Prod.mk.injEq] at e
  obtain ⟨rfl, rfl⟩ := e
  simp [Dk.sz]
 | n + 1, c, x, r, ks, e => by
  rw [dks] at e
  split at e
  ·cases hk : dkid rs x with
   | none => rw [hk] at e; cases e
   | some q =>
    obtain ⟨k, r1⟩ := q
    have h1 := dkid_len h hk
    simp only [hk, Option.bind_some] at e
    cases hd : dks rs m n (c + 1) r1 with
    | none => rw [hd] at e; cases e
    | some q =>
     obtain ⟨ks', r2⟩ := q
     have h2 := dks_len h m n (c + 1) r1 r2 ks' hd
     simp only [hd, Option.bind_some, Option.some.injEq, Prod.mk.injEq] at e
     obtain ⟨rfl, rfl⟩ := e
     rw [put_sz]
     omega
  ·exact dks_len h m n (c + 1) x r ks e
theorem dn_len : ∀ (f : Nat) (x : List Nat) (d : Dn) (r : List Nat), dn f x = some (d, r) → 3 * d.sz + r.length ≤ x.length
 | 0, x, d, r, e => by cases e
 | f + 1, [], d, r, e => by cases e
 | f + 1, k :: s, d, r, e => by
  rw [dn] at e
  cases hh : hdr k s with
  | none => rw [hh] at e; cases e
  | some q =>
   obtain ⟨p, h, v, m, r1⟩ := q
   have h1 := hdr_len3 hh
   simp only [hh, Option.bind_some] at e
   cases hd : dks (dn f) m 16 0 r1 with
   | none => rw [hd] at e; cases e
   | some q =>
    obtain ⟨ks, r2⟩ := q
    have h2 := dks_len (dn_len f) m 16 0 r1 r2 ks hd
    simp only [hd, Option.bind_some, Option.some.injEq, Prod.mk.injEq] at e
    obtain ⟨rfl, rfl⟩ := e
    simp only [Dn.sz, List.length_cons]
    omega
end Go.Lf
/- What dn reads is right; more behind it changes nothing. -/
set_option linter.unusedVariables false
set_option linter.unusedSimpArgs false
namespace Go.Lf
open Go
theorem take_app' {x : List Nat} (y : List Nat) {n : Nat} (h : n ≤ x.length) : (x ++ y).take n = x.take n := List.take_append_of_le_length h
theorem upk_ext {x p : List Nat} {u : Nat} (y : List Nat) (h : upk x = some (p, u)) : upk (x ++ y) = some (p, u) := by
 cases x with
 | nil => cases h
 | cons n r =>
  rw [upk] at h
  split at h
  ·cases h
  ·rename_i hc
   rw [List.cons_append, upk, take_app' y (by omega), if_neg (by rw [List.length_append]; omega)]
   exact h
theorem vrd_ext {x v r : List Nat} (y : List Nat) (h : vrd x = some (v, r)) : vrd (x ++ y) = some (v, r ++ y) := by
 cases x with
 | nil => cases h
 | cons n z =>
  rw [vrd] at h
  split at h
  ·cases h
  ·simp only [Option.some.injEq, Prod.mk.injEq] at h
   rw [List.cons_append, vrd, take_app' y (by omega), if_neg (by rw [List.length_append]; omega), List.drop_append_of_le_length (by omega), h.1, h.2]
theorem brn_ext {x v r : List Nat} {b : Bool} {m : Nat} (y : List Nat) (e : brn x = some (b, v, m, r)) : brn (x ++ y) = some (b, v, m, r ++ y) := by
 match x, e with
 | a :: b :: c :: z, e =>
  rw [brn] at e
  show brn (a :: b :: c :: (z ++ y)) = _
  rw [brn]
  split at e
  ·cases e
  ·rename_i h1
   rw [if_neg h1]
   split at e
   ·rename_i h2
    rw [if_pos h2]
    cases hv : vrd z with
    | none => rw [hv] at e; cases e
    | some q =>
     obtain ⟨v', r'⟩ := q
     rw [vrd_ext y hv]
     simp only [hv, Option.bind_some] at e ⊢
     split at e
     ·rename_i h3
      rw [if_pos h3]
      simp only [Option.some.injEq, Prod.mk.injEq] at e ⊢
      obtain ⟨rfl, rfl, rfl, rfl⟩ := e
      simp
     ·cases e
   ·rename_i h2
    rw [if_neg h2]
    split at e
    ·rename_i h3
     rw [if_pos h3]
     simp only [Option.some.injEq, Prod.mk.injEq] at e ⊢
     obtain ⟨rfl, rfl, rfl, rfl⟩ := e
     simp
    ·cases e
 | [], e => cases e
 | [_], e => cases e
 | [_, _], e => cases e
theorem hdr_ext {k m : Nat} {x p v r : List Nat} {b : Bool} (y : List Nat) (e : hdr k x = some (p, b, v, m, r)) : hdr k (x ++ y) = some (p, b, v, m, r ++ y) := by
 unfold hdr at e ⊢
 split at e
 ·rename_i h1
  rw [if_pos h1]
  cases hu : upk x with
  | none => rw [hu] at e; cases e
  | some q =>
   obtain ⟨p', u⟩ := q
   have hul := upk_used hu
   rw [upk_ext y hu]
   simp only [hu, Option.bind_some] at e ⊢
   cases hv : vrd (x.drop u) with
   | none => rw [hv] at e; cases e
   | some q =>
    obtain ⟨v', r'⟩ := q
    rw [List.drop_append_of_le_length hul.1, vrd_ext y hv]
    simp only [hv, Option.bind_some, Option.some.injEq, Prod.mk.injEq] at e ⊢
    obtain ⟨rfl, rfl, rfl, rfl, rfl⟩ := e
    simp
 ·rename_i h1
  rw [if_neg h1]
  split at e
  ·rename_i h2
   rw [if_pos h2]
   cases hu : upk x with
   | none => rw [hu] at e; cases e
   | some q =>
    obtain ⟨p', u⟩ := q
    have hul := upk_used hu
    rw [upk_ext y hu]
    simp only [hu, Option.bind_some] at e ⊢
    split at e
    ·cases e
    ·rename_i h3
     rw [if_neg h3, List.drop_append_of_le_length hul.1]
     simp only [Option.some.injEq, Prod.mk.injEq] at e ⊢
     obtain ⟨rfl, rfl, rfl, rfl, rfl⟩ := e
     simp
  ·rename_i h2
   rw [if_neg h2]
   split at e
   ·rename_i h3
    rw [if_pos h3]
    cases hu : brn x with
    | none => rw [hu] at e; cases e
    | some q =>
     obtain ⟨b', v', m', r'⟩ := q
     rw [brn_ext y hu]
     simp only [hu, Option.bind_some, Option.some.injEq, Prod.mk.injEq] at e ⊢
     obtain ⟨rfl, rfl, rfl, rfl, rfl⟩ := e
     simp
   ·cases e
theorem dkid_ext {rs : List Nat → Option (Dn × List Nat)} (y : List Nat) (h : ∀ x d r, rs x = some (d, r) → rs (x ++ y) = some (d, r ++ y)) {x r : List Nat} {k : Nat ⊕ Dn} (e : dkid rs x = some (k, r)) : dkid rs (x ++ y) = some (k, r ++ y) := by
 cases x with
 | nil => cases e
 | cons a x =>
  rw [List.cons_append, dkid]
  rw [dkid] at e
  split at e
  ·rename_i h1
   rw [if_pos h1]
   match x, e with
   | b :: c :: z, e =>
    show dpg (b :: c :: (z ++ y)) = _
    rw [dpg]
    rw [dpg] at e
    split at e
    ·rename_i h2
     rw [if_pos h2]
     simp only [Option.some.injEq, Prod.mk.injEq] at e ⊢
     obtain ⟨rfl, rfl⟩ := e
     simp
    ·cases e
   | [], e => cases e
   | [_], e => cases e
  ·rename_i h1
   rw [if_neg h1]
   cases hd : rs (a :: x) with
   | none => rw [hd] at e; cases e
   | some q =>
    obtain ⟨d, r'⟩ := q
    have := h _ _ _ hd
    rw [List.cons_append] at this
    rw [hd] at e
    rw [this]
    simp only [Option.bind_some, Option.some.injEq, Prod.mk.injEq] at e ⊢
    obtain ⟨rfl, rfl⟩ := e
    simp
theorem dks_ext {rs : List Nat → Option (Dn × List Nat)} (y : List Nat) (h : ∀ x d r, rs x = some (d, r) → rs (x ++ y) = some (d, r ++ y)) (m : Nat) : ∀ (n c : Nat) (x r : List Nat) (ks : Dk), dks rs m n c x = some (ks, r) → dks rs m n c (x ++ y) = some (ks, r ++ y)
 | 0, c, x, r, ks, e => by
  rw [dks] at e ⊢
  simp only [Option.some.injEq, Prod.mk.injEq] at e ⊢
  obtain ⟨rfl, rfl⟩ := e
  simp
 | n + 1, c, x, r, ks, e => by
  rw [dks] at e ⊢
  split at e
  ·rename_i h1
   rw [if_pos h1]
   cases hk : dkid rs x with
   | none => rw [hk] at e; cases e
   | some q =>
    obtain ⟨k, r1⟩ := q
    rw [dkid_ext y h hk]
    simp only [hk, Option.bind_some] at e ⊢
    cases hd : dks rs m n (c + 1) r1 with
    | none => rw [hd] at e; cases e
    | some q =>
     obtain ⟨ks', r2⟩ := q
     rw [dks_ext y h m n (c + 1) r1 r2 ks' hd]
     simp only [hd, Option.bind_some, Option.some.injEq, Prod.mk.injEq] at e ⊢
     obtain ⟨rfl, rfl⟩ := e
     simp
  ·rename_i h1
   rw [if_neg h1]
   exact dks_ext y h m n (c + 1) x r ks e
theorem dn_ext (y : List Nat) : ∀ (f : Nat) (x : List Nat) (d : Dn) (r : List Nat), dn f x = some (d, r) → dn f (x ++ y) = some (d, r ++ y)
 | 0, x, d, r, e => by cases e
 | f + 1, [], d, r, e => by cases e
 | f + 1, k :: s, d, r, e => by
  rw [List.cons_append, dn]
  rw [dn] at e
  cases hh : hdr k s with
  | none => rw [hh] at e; cases e
  | some q =>
   obtain ⟨p, h, v, m, r1⟩ := q
   rw [hdr_ext y hh]
   simp only [hh, Option.bind_some] at e ⊢
   cases hd : dks (dn f) m 16 0 r1 with
   | none => rw [hd] at e; cases e
   | some q =>
    obtain ⟨ks, r2⟩ := q
    rw [dks_ext y (dn_ext y f) m 16 0 r1 r2 ks hd]
    simp only [hd, Option.bind_some, Option.some.injEq, Prod.mk.injEq] at e ⊢
    obtain ⟨rfl, rfl⟩ := e
    simp
theorem dec_more {x y : List Nat} (hy : y ≠ []) {d : Dn} (h : dec x = some d) : dec (x ++ y) = none := by
 unfold dec at *
 cases hd : dn 1000 x with
 | none => rw [hd] at h; cases h
 | some q =>
  obtain ⟨d', r⟩ := q
  rw [dn_ext y 1000 x d' r hd]
  simp only [Option.bind_some]
  rw [if_neg (by simp [hy])]
/-! Right nodes -/
def Dk.cnt : Dk → Nat
 | .nil => 0
 | .pg _ _ ks => ks.cnt + 1
 | .nd _ _ ks => ks.cnt + 1
def Dk.up : Dk → Nat → Prop
 | .nil, _ => True
 | .pg c _ ks, m => m ≤ c ∧ c < 16 ∧ ks.up (c + 1)
 | .nd c _ ks, m => m ≤ c ∧ c < 16 ∧ ks.up (c + 1)
def Dk.hd0 : Dk → Prop
 | .nil => False
 | .pg c _ _ => c = 0
 | .nd c _ _ => c = 0
mutual
def Dn.ok : Dn → Prop
 | .node k p h v ks => p.length ≤ 16 ∧ v.length ≤ 16 ∧ (k = 1 ∧ h = true ∧ ks.cnt = 0 ∨ k = 2 ∧ h = false ∧ p ≠ [] ∧ Byt p ∧ ks.cnt = 1 ∧ ks.hd0 ∨ k = 3 ∧ p = [] ∧ 2 ≤ (if h then 1 else 0) + ks.cnt) ∧ ks.up 0 ∧ ks.ok
def Dk.ok : Dk → Prop
 | .nil => True
 | .pg _ i ks => Pg i ∧ ks.ok
 | .nd _ d ks => d.ok ∧ ks.ok
end
theorem dks_ok {rs : List Nat → Option (Dn × List Nat)} (h : ∀ x d r, Byt x → x.length < 1000000 → rs x = some (d, r) → d.ok ∧ Byt r ∧ r.length ≤ x.length) (m : Nat) : ∀ (n c : Nat) (x r : List Nat) (ks : Dk), c + n = 16 → Byt x → x.length < 1000000 → dks rs m n c x = some (ks, r) → ks.up c ∧ ks.cnt = pc m n c ∧ ks.ok ∧ Byt r ∧ r.length ≤ x.length ∧ (0 < n → m.testBit c = true → c = 0 → ks.hd0)
 | 0, c, x, r, ks, hc, hx, hl, e => by
  rw [dks] at e
  simp only [Option.some.injEq, Prod.mk.injEq] at e
  obtain ⟨rfl, rfl⟩ := e
  exact ⟨trivial, rfl, trivial, hx, Nat.le_refl _, fun h => by omega⟩
 | n + 1, c, x, r, ks, hc, hx, hl, e => by
  rw [dks] at e
  split at e
  ·rename_i hb
   cases hk : dkid rs x with
   | none => rw [hk] at e; cases e
   | some q =>
    obtain ⟨k, r1⟩ := q
    have hk1 : Byt r1 ∧ r1.length ≤ x.length ∧ ∀ ks : Dk, ks.ok → (ks.put c k).ok := by
     cases x with
     | nil => cases hk
     | cons a x =>
      rw [dkid] at hk
      split at hk
      ·match x, hk with
       | b :: d :: z, hk =>
        rw [dpg] at hk
        split at hk
        ·rename_i hp
         simp only [Option.some.injEq, Prod.mk.injEq] at hk
         obtain ⟨rfl, rfl⟩ := hk
         exact ⟨hx.tail.tail.tail, by simp; omega, fun ks hks => ⟨hp, hks⟩⟩
        ·cases hk
       | [], hk => cases hk
       | [_], hk => cases hk
      ·cases hd : rs (a :: x) with
       | none => rw [hd] at hk; cases hk
       | some q =>
        obtain ⟨d, r'⟩ := q
        have := h _ _ _ hx hl hd
        rw [hd] at hk
        simp only [Option.bind_some, Option.some.injEq, Prod.mk.injEq] at hk
        obtain ⟨rfl, rfl⟩ := hk
        exact ⟨this.2.1, this.2.2, fun ks hks => ⟨this.1, hks⟩⟩
    simp only [hk, Option.bind_some] at e
    cases hd : dks rs m n (c + 1) r1 with
    | none => rw [hd] at e; cases e
    | some q =>
     obtain ⟨ks', r2⟩ := q
     obtain ⟨g1, g2, g3, g4, g5, -⟩ := dks_ok h m n (c + 1) r1 r2 ks' (by omega) hk1.1 (by omega) hd
     simp only [hd, Option.bind_some, Option.some.injEq, Prod.mk.injEq] at e
     obtain ⟨rfl, rfl⟩ := e
     refine ⟨?_, ?_, hk1.2.2 _ g3, g4, by omega, fun _ _ hc0 => ?_⟩
     ·cases k <;> exact ⟨Nat.le_refl _, by omega, g1⟩
     ·rw [pc, if_pos hb]
      cases k <;> simp [Dk.put, Dk.cnt, g2] <;> omega
     ·cases k <;> exact hc0
  ·rename_i hb
   obtain ⟨g1, g2, g3, g4, g5, -⟩ := dks_ok h m n (c + 1) x r ks (by omega) hx hl e
   refine ⟨?_, by rw [pc, if_neg hb, Nat.zero_add]; exact g2, g3, g4, g5, fun _ h => absurd h hb⟩
   cases ks with
   | nil => trivial
   | pg c' i ks => exact ⟨by have := g1.1; omega, g1.2⟩
   | nd c' d ks => exact ⟨by have := g1.1; omega, g1.2⟩
theorem pc_zero : ∀ n c, pc 0 n c = 0
 | 0, _ => rfl
 | n + 1, c => by simp [pc, pc_zero n]
theorem upk_short {x p : List Nat} {u : Nat} (h : upk x = some (p, u)) : p.length ≤ 16 := by
 cases x with
 | nil => cases h
 | cons n r =>
  rw [upk] at h
  split at h
  ·cases h
  ·simp only [Option.some.injEq, Prod.mk.injEq] at h
   rw [← h.1, List.length_take]
   omega
theorem vrd_short {x v r : List Nat} (h : vrd x = some (v, r)) : v.length ≤ 16 := by
 cases x with
 | nil => cases h
 | cons n z =>
  rw [vrd] at h
  split at h
  ·cases h
  ·simp only [Option.some.injEq, Prod.mk.injEq] at h
   rw [← h.1, List.length_take]
   omega
theorem hdr_right {k m : Nat} {x p v r : List Nat} {b : Bool} (e : hdr k x = some (p, b, v, m, r)) : p.length ≤ 16 ∧ v.length ≤ 16 ∧ (k = 1 ∧ b = true ∧ m = 0 ∨ k = 2 ∧ b = false ∧ p ≠ [] ∧ m = 1 ∨ k = 3 ∧ p = [] ∧ least m b) := by
 unfold hdr at e
 split at e
 ·rename_i h1
  cases hu : upk x with
  | none => rw [hu] at e; cases e
  | some q =>
   obtain ⟨p', u⟩ := q
   simp only [hu, Option.bind_some] at e
   cases hv : vrd (x.drop u) with
   | none => rw [hv] at e; cases e
   | some q =>
    obtain ⟨v', r'⟩ := q
    simp only [hv, Option.bind_some, Option.some.injEq, Prod.mk.injEq] at e
    obtain ⟨rfl, rfl, rfl, rfl, rfl⟩ := e
    exact ⟨upk_short hu, vrd_short hv, .inl ⟨h1, rfl, rfl⟩⟩
 ·split at e
  ·rename_i h2
   cases hu : upk x with
   | none => rw [hu] at e; cases e
   | some q =>
    obtain ⟨p', u⟩ := q
    simp only [hu, Option.bind_some] at e
    split at e
    ·cases e
    ·rename_i h3
     simp only [Option.some.injEq, Prod.mk.injEq] at e
     obtain ⟨rfl, rfl, rfl, rfl, rfl⟩ := e
     exact ⟨upk_short hu, by simp, .inr (.inl ⟨h2, rfl, h3, rfl⟩)⟩
  ·split at e
   ·rename_i h3
    cases hu : brn x with
    | none => rw [hu] at e; cases e
    | some q =>
     obtain ⟨b', v', m', r'⟩ := q
     simp only [hu, Option.bind_some, Option.some.injEq, Prod.mk.injEq] at e
     obtain ⟨rfl, rfl, rfl, rfl, rfl⟩ := e
     have key : v'.length ≤ 16 ∧ least m' b' := by
      match x, hu with
      | a :: c :: d :: z, hu =>
       rw [brn] at hu
       split at hu
       ·cases hu
       ·split at hu
        ·cases hv : vrd z with
         | none => rw [hv] at hu; cases hu
         | some q =>
          obtain ⟨v2, r2⟩ := q
          simp only [hv, Option.bind_some] at hu
          split at hu
          ·rename_i hl
           simp only [Option.some.injEq, Prod.mk.injEq] at hu
           obtain ⟨rfl, rfl, rfl, rfl⟩ := hu
           exact ⟨vrd_short hv, hl⟩
          ·cases hu
        ·split at hu
         ·rename_i hl
          simp only [Option.some.injEq, Prod.mk.injEq] at hu
          obtain ⟨rfl, rfl, rfl, rfl⟩ := hu
          exact ⟨by simp, hl⟩
         ·cases hu
      | [], hu => cases hu
      | [_], hu => cases hu
      | [_, _], hu => cases hu
     exact ⟨by simp, key.1, .inr (.inr ⟨h3, rfl, key.2⟩)⟩
   ·cases e
theorem dn_ok : ∀ (f : Nat) (x : List Nat) (d : Dn) (r : List Nat), Byt x → x.length < 1000000 → dn f x = some (d, r) → d.ok ∧ Byt r ∧ r.length ≤ x.length
 | 0, x, d, r, _, _, e => by cases e
 | f + 1, [], d, r, _, _, e => by cases e
 | f + 1, k :: s, d, r, hx, hl, e => by
  simp only [List.length_cons] at hl
  rw [dn] at e
  cases hh : hdr k s with
  | none => rw [hh] at e; cases e
  | some q =>
   obtain ⟨p, h, v, m, r1⟩ := q
   obtain ⟨-, hp, hv, hr, hm⟩ := hdrP_ok hx.tail (by omega) hh []
   have hlen := hdr_len3 hh
   obtain ⟨q1, q2, q3⟩ := hdr_right hh
   simp only [hh, Option.bind_some] at e
   cases hd : dks (dn f) m 16 0 r1 with
   | none => rw [hd] at e; cases e
   | some q =>
    obtain ⟨ks, r2⟩ := q
    obtain ⟨g1, g2, g3, g4, g5, g6⟩ := dks_ok (dn_ok f) m 16 0 r1 r2 ks rfl hr (by omega) hd
    simp only [hd, Option.bind_some, Option.some.injEq, Prod.mk.injEq] at e
    obtain ⟨rfl, rfl⟩ := e
    refine ⟨⟨q1, q2, ?_, g1, g3⟩, g4, by simp; omega⟩
    rcases q3 with ⟨e1, e2, e3⟩ | ⟨e1, e2, e3, e4⟩ | ⟨e1, e2, e3⟩
    ·exact .inl ⟨e1, e2, by rw [g2, e3, pc_zero]⟩
    ·exact .inr (.inl ⟨e1, e2, e3, hp, by rw [g2, e4]; decide, g6 (by decide) (by rw [e4]; decide) rfl⟩)
    ·refine .inr (.inr ⟨e1, e2, ?_⟩)
     have := mt (pc_least hm h).mp (fun hn => hn e3)
     rw [g2]
     omega
theorem dec_ok {x : List Nat} (hx : Byt x) (hl : x.length < 1000) {d : Dn} (h : dec x = some d) : d.ok := by
 unfold dec at h
 cases hd : dn 1000 x with
 | none => rw [hd] at h; cases h
 | some q =>
  obtain ⟨d', r⟩ := q
  simp only [hd, Option.bind_some] at h
  split at h
  ·simp only [Option.some.injEq] at h
   subst h
   exact (dn_ok 1000 x _ r hx (by omega) hd).1
  ·cases h
end Go.Lf
/- SlotStrict: the law's walk over what was read. -/
set_option linter.unusedVariables false
set_option linter.unusedSimpArgs false
namespace Go.Lf
open Go
def Dk.at : Dk → Nat → Vector Int 16 → Nat → Prop
 | .nil, _, v, m => ∀ j, m ≤ j → j < 16 → vg v (j : Int) = 0
 | .pg c i ks, b, v, m => m ≤ c ∧ c < 16 ∧ (∀ j, m ≤ j → j < c → vg v (j : Int) = 0) ∧ vg v (c : Int) = -(i : Int) ∧ ks.at b v (c + 1)
 | .nd c d ks, b, v, m => m ≤ c ∧ c < 16 ∧ (∀ j, m ≤ j → j < c → vg v (j : Int) = 0) ∧ vg v (c : Int) = (b : Int) ∧ ks.at (b + d.sz) v (c + 1)
theorem Dk.vec_below : ∀ {ks : Dk} {m b : Nat} {v : Vector Int 16}, ks.up m → ∀ {j : Nat}, j < m → vg (ks.vec b v) (j : Int) = vg v (j : Int)
 | .nil, m, b, v, _, j, _ => rfl
 | .pg c i ks, m, b, v, h, j, hj => by
  rw [Dk.vec, Dk.vec_below h.2.2 (by have := h.1; omega), vg_set _ _ h.2.1, if_neg (by have := h.1; omega)]
 | .nd c d ks, m, b, v, h, j, hj => by
  rw [Dk.vec, Dk.vec_below h.2.2 (by have := h.1; omega), vg_set _ _ h.2.1, if_neg (by have := h.1; omega)]
theorem Dk.at_vec : ∀ {ks : Dk} {m b : Nat} {v : Vector Int 16}, ks.up m → (∀ j, m ≤ j → vg v (j : Int) = 0) → ks.at b (ks.vec b v) m
 | .nil, m, b, v, _, hv => fun j hj _ => hv j hj
 | .pg c i ks, m, b, v, h, hv => by
  have h1 := h.1
  have h2 := h.2.1
  refine ⟨h1, h2, fun j hj hc => ?_, ?_, ?_⟩
  ·rw [Dk.vec, Dk.vec_below h.2.2 (by omega), vg_set _ _ h2, if_neg (by omega), hv j hj]
  ·rw [Dk.vec, Dk.vec_below h.2.2 (by omega), vg_set _ _ h2, if_pos rfl]
  ·refine Dk.at_vec h.2.2 fun j hj => ?_
   rw [vg_set _ _ h2, if_neg (by omega), hv j (by omega)]
 | .nd c d ks, m, b, v, h, hv => by
  have h1 := h.1
  have h2 := h.2.1
  refine ⟨h1, h2, fun j hj hc => ?_, ?_, ?_⟩
  ·rw [Dk.vec, Dk.vec_below h.2.2 (by omega), vg_set _ _ h2, if_neg (by omega), hv j hj]
  ·rw [Dk.vec, Dk.vec_below h.2.2 (by omega), vg_set _ _ h2, if_pos rfl]
  ·refine Dk.at_vec h.2.2 fun j hj => ?_
   rw [vg_set _ _ h2, if_neg (by omega), hv j (by omega)]
theorem Dk.at_vec0 {ks : Dk} {b : Nat} (h : ks.up 0) : ks.at b (ks.vec b (Vector.replicate 16 0)) 0 := Dk.at_vec h fun j _ => vg_zero j
theorem Dk.at_step {ks : Dk} {b m : Nat} {v : Vector Int 16} (h : ks.at b v m) (hm : m < 16) :
  (vg v (m : Int) = 0 ∧ ks.at b v (m + 1)) ∨ (∃ i r, ks = .pg m i r ∧ vg v (m : Int) = -(i : Int) ∧ r.at b v (m + 1)) ∨ (∃ d r, ks = .nd m d r ∧ vg v (m : Int) = (b : Int) ∧ r.at (b + d.sz) v (m + 1)) := by
 cases ks with
 | nil => exact .inl ⟨h m (Nat.le_refl _) hm, fun j hj h16 => h j (by omega) h16⟩
 | pg c i r =>
  obtain ⟨h1, h2, h3, h4, h5⟩ := h
  rcases Nat.lt_or_ge m c with hc | hc
  ·exact .inl ⟨h3 m (Nat.le_refl _) hc, by omega, h2, fun j hj hj' => h3 j (by omega) hj', h4, h5⟩
  ·have : m = c := by omega
   subst this
   exact .inr (.inl ⟨i, r, rfl, h4, h5⟩)
 | nd c d r =>
  obtain ⟨h1, h2, h3, h4, h5⟩ := h
  rcases Nat.lt_or_ge m c with hc | hc
  ·exact .inl ⟨h3 m (Nat.le_refl _) hc, by omega, h2, fun j hj hj' => h3 j (by omega) hj', h4, h5⟩
  ·have : m = c := by omega
   subst this
   exact .inr (.inr ⟨d, r, rfl, h4, h5⟩)
/-- Where the children stand. -/
def Dk.roots : Dk → Nat → List Nat
 | .nil, _ => []
 | .pg _ _ ks, b => ks.roots b
 | .nd _ d ks, b => b :: ks.roots (b + d.sz)
mutual
def Dn.incs : Dn → Nat → List Nat
 | .node _ _ _ _ ks, b => ks.roots (b + 1) ++ ks.incs (b + 1)
def Dk.incs : Dk → Nat → List Nat
 | .nil, _ => []
 | .pg _ _ ks, b => ks.incs b
 | .nd _ d ks, b => d.incs b ++ ks.incs (b + d.sz)
end
theorem Dn.sz_pos : ∀ d : Dn, 0 < d.sz
 | .node _ _ _ _ ks => by simp [Dn.sz]
mutual
theorem Dn.count : ∀ (d : Dn) (b j : Nat), (d.incs b).count j = if b < j ∧ j < b + d.sz then 1 else 0
 | .node k p h v ks, b, j => by
  rw [Dn.incs, Dk.count ks (b + 1) j, Dn.sz]
  have : (b + 1 ≤ j ∧ j < b + 1 + ks.sz) ↔ (b < j ∧ j < b + (ks.sz + 1)) := by omega
  simp only [this]
theorem Dk.count : ∀ (ks : Dk) (b j : Nat), (ks.roots b ++ ks.incs b).count j = if b ≤ j ∧ j < b + ks.sz then 1 else 0
 | .nil, b, j => by
  rw [if_neg (by simp only [Dk.sz]; omega)]
  rfl
 | .pg c i ks, b, j => Dk.count ks b j
 | .nd c d ks, b, j => by
  have h1 := Dn.count d b j
  have h2 := Dk.count ks (b + d.sz) j
  have hp := d.sz_pos
  rw [List.count_append] at h2
  rw [Dk.roots, Dk.incs, List.count_append, List.count_cons, List.count_append, h1, Dk.sz]
  have e : (List.count j (ks.roots (b + d.sz)) + if (b == j) = true then 1 else 0) + ((if b < j ∧ j < b + d.sz then 1 else 0) + List.count j (ks.incs (b + d.sz))) = (if (b == j) = true then 1 else 0) + (if b < j ∧ j < b + d.sz then 1 else 0) + (List.count j (ks.roots (b + d.sz)) + List.count j (ks.incs (b + d.sz))) := by omega
  rw [e, h2]
  have hb : (b == j) = true ↔ b = j := beq_iff_eq
  simp only [hb]
  split <;> split <;> split <;> split <;> omega
end
def incl (ch : List Int) : List Nat → List Int
 | [] => ch
 | j :: js => incl (ch.set j (w64 (gt ch (j : Int) + 1))) js
theorem incl_app (x y : List Nat) : ∀ ch, incl ch (x ++ y) = incl (incl ch x) y := by
 induction x with
 | nil => intro ch; rfl
 | cons a x ih => intro ch; exact ih _
theorem incl_len : ∀ (js : List Nat) (ch : List Int), (incl ch js).length = ch.length
 | [], ch => rfl
 | j :: js, ch => by rw [incl, incl_len js, List.length_set]
theorem gt_set (ch : List Int) (i j : Nat) (x : Int) (hi : i < ch.length) : gt (ch.set i x) (j : Int) = if i = j then x else gt ch (j : Int) := by
 unfold gt
 simp only [Int.toNat_natCast, List.getD_eq_getElem?_getD, List.getElem?_set]
 by_cases h : i = j
 ·subst h
  simp [hi]
 ·simp [h]
theorem incl_get : ∀ (js : List Nat) (ch : List Int) (j : Nat), (∀ i ∈ js, i < ch.length) → (∀ i : Nat, ∃ n : Nat, gt ch (i : Int) = (n : Int) ∧ n + js.length < 1000000) → ∃ n : Nat, gt ch (j : Int) = (n : Int) ∧ gt (incl ch js) (j : Int) = ((n + js.count j : Nat) : Int)
 | [], ch, j, _, h => by
  obtain ⟨n, h1, -⟩ := h j
  exact ⟨n, h1, by rw [incl, h1]; simp⟩
 | i :: js, ch, j, hi, h => by
  obtain ⟨n, h1, h2⟩ := h i
  simp only [List.length_cons] at h2
  have hil := hi i (List.mem_cons_self ..)
  have hw : w64 (gt ch (i : Int) + 1) = ((n + 1 : Nat) : Int) := by rw [h1]; exact w64_nat (by simp) (by omega)
  obtain ⟨m, g1, g2⟩ := incl_get js (ch.set i (w64 (gt ch (i : Int) + 1))) j (fun k hk => by rw [List.length_set]; exact hi k (List.mem_cons_of_mem _ hk)) (fun k => by
   rw [gt_set _ _ _ _ hil]
   split
   ·exact ⟨n + 1, hw, by omega⟩
   ·obtain ⟨n', h3, h4⟩ := h k
    simp only [List.length_cons] at h4
    exact ⟨n', h3, by omega⟩)
  obtain ⟨n', h3, h4⟩ := h j
  refine ⟨n', h3, ?_⟩
  rw [incl, g2]
  rw [gt_set _ _ _ _ hil] at g1
  rw [List.count_cons]
  by_cases hij : i = j
  ·subst hij
   rw [if_pos rfl, hw] at g1
   have : n = n' := by rw [h1] at h3; omega
   simp
   omega
  ·rw [if_neg hij, h3] at g1
   rw [if_neg (by simpa using hij)]
   simp
   omega
theorem page2_ok (n : Nat) : ref20_Page.f (n : Int) = some (decide (Pg n)) := page_ok n
theorem strict_l1 {y : List Slot} {i : Nat} (hi : i < y.length) (hy : y.length < 1000000) : ∀ (n fuel c : Nat) (ks : Dk) (bk : Nat) (ch : List Int) (k : Nat), c + n = 16 → n < fuel → ks.at bk (gt y (i : Int)).kids_ c → ks.ok → i < bk → bk + ks.sz ≤ y.length → ch.length = y.length → k ≤ c →
  law20_SlotStrict.l1 y (i : Int) fuel (ch, (k : Int), (c : Int)) = some (.inl (incl ch (ks.roots bk), ((k + ks.cnt : Nat) : Int)))
 | 0, 0, c, ks, bk, ch, k, _, h, _, _, _, _, _, _ => by omega
 | 0, fuel + 1, c, ks, bk, ch, k, hc, _, hat, _, _, _, _, _ => by
  rw [law20_SlotStrict.l1, bif_false (decide_eq_false (by omega))]
  cases ks with
  | nil => rfl
  | pg c' i' ks => have := hat.1; have := hat.2.1; omega
  | nd c' d ks => have := hat.1; have := hat.2.1; omega
 | n + 1, 0, c, ks, bk, ch, k, _, h, _, _, _, _, _, _ => by omega
 | n + 1, fuel + 1, c, ks, bk, ch, k, hc, h, hat, hok, hib, hbk, hch, hk => by
  rw [law20_SlotStrict.l1, bif_true (decide_eq_true (by omega)), gd_pos (by omega), gd_pos (by omega), w64_nat (x := (c : Int) + 1) (k := c + 1) (by simp) (by omega), w64_nat (x := (k : Int) + 1) (k := k + 1) (by simp) (by omega)]
  rcases Dk.at_step hat (by omega) with ⟨h0, h1⟩ | ⟨p, r, rfl, h0, h1⟩ | ⟨d, r, rfl, h0, h1⟩
  ·rw [h0, bif_true (c := (0 : Int) == 0) rfl]
   exact strict_l1 hi hy n fuel (c + 1) ks bk ch k (by omega) (by omega) h1 hok hib hbk hch (by omega)
  ·have hp : Pg p := hok.1
   have hp1 := hp.1
   rw [h0, bif_false (c := (-(p : Int)) == 0) (by rw [beq_eq_false_iff_ne]; omega), bif_false (c := decide (-(p : Int) > 0)) (decide_eq_false (by omega)), bif_true (c := decide (-(p : Int) < 0)) (decide_eq_true (by omega))]
   have e : w64 (0 - -(p : Int)) = (p : Int) := w64_nat (by omega) (by have := hp.2; omega)
   rw [e, page2_ok, decide_eq_true hp]
   simp only [Option.bind_some, Bool.not_true]
   rw [cond_false, bif_false (c := decide (-(p : Int) > 0)) (decide_eq_false (by omega))]
   simp only [Option.bind_some]
   have := strict_l1 hi hy n fuel (c + 1) r bk ch (k + 1) (by omega) (by omega) h1 hok.2 hib hbk hch (by omega)
   rw [this]
   simp only [Dk.roots, Dk.cnt]
   congr 4
   omega
  ·have hd := d.sz_pos
   simp only [Dk.sz] at hbk
   rw [h0, bif_false (c := (bk : Int) == 0) (by rw [beq_eq_false_iff_ne]; omega), bif_true (c := decide ((bk : Int) > 0)) (decide_eq_true (by omega)), bif_false (c := decide ((bk : Int) ≤ (i : Int))) (decide_eq_false (by omega)), bif_false (c := decide ((bk : Int) ≥ (y.length : Int))) (decide_eq_false (by omega)), bif_false (c := decide ((bk : Int) < 0)) (decide_eq_false (by omega))]
   simp only [Option.bind_some]
   rw [cond_false, bif_true (c := decide ((bk : Int) > 0)) (decide_eq_true (by omega)), gd_pos (by omega), gd_pos (by omega)]
   simp only [Option.bind_some]
   have := strict_l1 hi hy n fuel (c + 1) r (bk + d.sz) (ch.set bk (w64 (gt ch (bk : Int) + 1))) (k + 1) (by omega) (by omega) h1 hok.2 (by omega) (by omega) (by rw [List.length_set]; exact hch) (by omega)
   rw [Int.toNat_natCast, this]
   simp only [Dk.roots, Dk.cnt, incl]
   congr 4
   omega
end Go.Lf
/- SlotStrict: the plain law. -/
set_option linter.unusedVariables false
set_option linter.unusedSimpArgs false
namespace Go.Lf
open Go
theorem strict_node {y : List Slot} {b fuel : Nat} {ch : List Int} {k : Nat} {p v : List Nat} {h : Bool} {ks : Dk} (hy : y.length < 1000000) (hok : (Dn.node k p h v ks).ok) (hgt : gt y (b : Int) = ⟨(k : Int), S p, h, S v, ks.vec (b + 1) (Vector.replicate 16 0)⟩) (hb : b + 1 + ks.sz ≤ y.length) (hch : ch.length = y.length) :
  law20_SlotStrict.l0 y (fuel + 1) (ch, (b : Int)) = law20_SlotStrict.l0 y fuel (incl ch (ks.roots (b + 1)), ((b + 1 : Nat) : Int)) := by
 obtain ⟨o1, o2, o3, o4, o5⟩ := hok
 have hl1 := strict_l1 (y := y) (i := b) (by omega) hy 16 BIG 0 ks (b + 1) ch 0 rfl (by have := BIG_ge; omega) (by rw [hgt]; exact Dk.at_vec0 o4) o5 (by omega) hb hch (Nat.le_refl _)
 rw [show ((0 : Nat) : Int) = 0 from rfl, Nat.zero_add] at hl1
 rw [law20_SlotStrict.l0, bif_true (decide_eq_true (by omega)), hl1]
 simp only [Option.bind_some]
 rw [gd_pos (by omega), w64_nat (x := (b : Int) + 1) (k := b + 1) (by simp) (by omega), hgt]
 dsimp only
 have e2 : decide (((S v).size : Int) > 16) = false := decide_eq_false (by rw [S_size]; omega)
 have e3 : decide (((S p).size : Int) > 16) = false := decide_eq_false (by rw [S_size]; omega)
 rw [e2, e3]
 rcases o3 with ⟨rfl, rfl, hc⟩ | ⟨rfl, rfl, hp, hbp, hc, hh⟩ | ⟨rfl, rfl, hc⟩
 ·rw [hc, bif_true (c := ((1 : Nat) : Int) == 1) rfl, bif_true (c := ((0 : Nat) : Int) == 0) rfl, cond_true]
  rfl
 ·have hv : vg (ks.vec (b + 1) (Vector.replicate 16 0)) 0 ≠ 0 := by
   cases ks with
   | nil => exact hh.elim
   | pg c i r =>
    have hat := Dk.at_vec0 (b := b + 1) o4
    have hc0 : c = 0 := hh
    subst hc0
    have := hat.2.2.2.1
    rw [show ((0 : Nat) : Int) = 0 from rfl] at this
    rw [this]
    have := o5.1.1
    omega
   | nd c d r =>
    have hat := Dk.at_vec0 (b := b + 1) o4
    have hc0 : c = 0 := hh
    subst hc0
    have := hat.2.2.2.1
    rw [show ((0 : Nat) : Int) = 0 from rfl] at this
    rw [this]
    omega
  rw [hc, bif_false (c := ((2 : Nat) : Int) == 1) rfl, bif_true (c := ((2 : Nat) : Int) == 2) rfl, bif_true (c := ((1 : Nat) : Int) == 1) rfl, gd_pos (by decide), bif_true (c := vg (ks.vec (b + 1) (Vector.replicate 16 0)) 0 != 0) (by rw [bne_iff_ne]; exact hv), bif_true (c := !false) rfl, seq_e hbp, decide_eq_false hp, bif_true (c := !false) rfl]
  rfl
 ·rw [bif_false (c := ((3 : Nat) : Int) == 1) rfl, bif_false (c := ((3 : Nat) : Int) == 2) rfl, bif_true (c := ((3 : Nat) : Int) == 3) rfl, seq_e Byt.nil, decide_eq_true rfl, cond_true]
  by_cases h2 : 2 ≤ ks.cnt
  ·rw [bif_true (c := decide ((ks.cnt : Int) ≥ 2)) (decide_eq_true (by omega))]
   rfl
  ·have h1 : ks.cnt = 1 ∧ h = true := by
    cases h with
    | true => rw [if_pos rfl] at hc; exact ⟨by omega, rfl⟩
    | false => rw [if_neg (by decide)] at hc; omega
   rw [bif_false (c := decide ((ks.cnt : Int) ≥ 2)) (decide_eq_false (by omega)), h1.1, bif_true (c := ((1 : Nat) : Int) == 1) rfl, h1.2]
   rfl
theorem gt_mid (pre : List Slot) (a : Slot) (post : List Slot) : gt (pre ++ a :: post) (pre.length : Int) = a := by simp [gt]
mutual
theorem Dn.seg : ∀ (d : Dn) (y pre post : List Slot) (b fuel : Nat) (ch : List Int), d.ok → y.length < 1000000 → y = pre ++ d.slots b ++ post → pre.length = b → ch.length = y.length → d.sz ≤ fuel →
  law20_SlotStrict.l0 y fuel (ch, (b : Int)) = law20_SlotStrict.l0 y (fuel - d.sz) (incl ch (d.incs b), ((b + d.sz : Nat) : Int))
 | .node k p h v ks, y, pre, post, b, fuel, ch, hok, hy, e, hb, hch, hf => by
  simp only [Dn.sz] at hf
  obtain ⟨fuel, rfl⟩ : ∃ n, fuel = n + 1 := ⟨fuel - 1, by omega⟩
  have hylen : b + 1 + ks.sz ≤ y.length := by
   rw [e]
   simp only [List.length_append, Dn.slots_len, Dn.sz]
   omega
  rw [strict_node hy hok (by rw [e, ← hb, List.append_assoc, Dn.slots, List.cons_append, gt_mid]) hylen hch]
  rw [Dk.seg ks y (pre ++ [⟨(k : Int), S p, h, S v, ks.vec (b + 1) (Vector.replicate 16 0)⟩]) post (b + 1) fuel _ hok.2.2.2.2 hy (by rw [e, Dn.slots]; simp) (by simp [hb]) (by rw [incl_len]; exact hch) (by omega)]
  rw [Dn.incs, incl_app, Dn.sz, show fuel + 1 - (ks.sz + 1) = fuel - ks.sz by omega, show b + (ks.sz + 1) = b + 1 + ks.sz by omega]
theorem Dk.seg : ∀ (ks : Dk) (y pre post : List Slot) (b fuel : Nat) (ch : List Int), ks.ok → y.length < 1000000 → y = pre ++ ks.slots b ++ post → pre.length = b → ch.length = y.length → ks.sz ≤ fuel →
  law20_SlotStrict.l0 y fuel (ch, (b : Int)) = law20_SlotStrict.l0 y (fuel - ks.sz) (incl ch (ks.incs b), ((b + ks.sz : Nat) : Int))
 | .nil, y, pre, post, b, fuel, ch, _, _, _, _, _, _ => rfl
 | .pg c i ks, y, pre, post, b, fuel, ch, hok, hy, e, hb, hch, hf => Dk.seg ks y pre post b fuel ch hok.2 hy e hb hch hf
 | .nd c d ks, y, pre, post, b, fuel, ch, hok, hy, e, hb, hch, hf => by
  simp only [Dk.sz] at hf
  rw [Dn.seg d y pre (ks.slots (b + d.sz) ++ post) b fuel ch hok.1 hy (by rw [e, Dk.slots]; simp) hb hch (by omega)]
  rw [Dk.seg ks y (pre ++ d.slots b) post (b + d.sz) (fuel - d.sz) _ hok.2 hy (by rw [e, Dk.slots]; simp) (by rw [List.length_append, Dn.slots_len, hb]) (by rw [incl_len]; exact hch) (by omega)]
  rw [Dk.incs, incl_app, Dk.sz, show fuel - (d.sz + ks.sz) = fuel - d.sz - ks.sz by omega, show b + (d.sz + ks.sz) = b + d.sz + ks.sz by omega]
end
theorem strict_l2 {x : List Int} {N : Nat} (hN : x.length = N) (hl : N < 1000000) (h : ∀ j : Nat, j < N → gt x (j : Int) = if 0 < j then 1 else 0) : ∀ (fuel i : Nat), N - i < fuel → law20_SlotStrict.l2 x fuel (i : Int) = some (.inl ())
 | 0, i, hf => by omega
 | fuel + 1, i, hf => by
  rw [law20_SlotStrict.l2]
  rcases Nat.lt_or_ge i N with hi | hi
  ·rw [bif_true (decide_eq_true (by omega)), gd_pos (by omega), h i hi, w64_nat (x := (i : Int) + 1) (k := i + 1) (by simp) (by omega)]
   have e : (!(((if 0 < i then (1 : Int) else 0) == 1) == decide ((i : Int) > 0))) = false := by
    by_cases h0 : 0 < i
    ·rw [if_pos h0, decide_eq_true (by omega)]
     rfl
    ·rw [if_neg h0, decide_eq_false (by omega)]
     rfl
   rw [e, cond_false]
   exact strict_l2 hN hl h fuel (i + 1) (by omega)
  ·rw [bif_false (decide_eq_false (by omega))]
mutual
theorem Dn.incs_len : ∀ (d : Dn) (b : Nat), (d.incs b).length + 1 = d.sz
 | .node k p h v ks, b => by
  have := Dk.incs_len ks (b + 1)
  rw [Dn.incs, List.length_append, Dn.sz]
  omega
theorem Dk.incs_len : ∀ (ks : Dk) (b : Nat), (ks.roots b).length + (ks.incs b).length = ks.sz
 | .nil, b => rfl
 | .pg c i ks, b => Dk.incs_len ks b
 | .nd c d ks, b => by
  have h1 := Dn.incs_len d b
  have h2 := Dk.incs_len ks (b + d.sz)
  rw [Dk.roots, Dk.incs, List.length_cons, List.length_append, Dk.sz]
  omega
end
theorem strOne (a : Int) : (B (strOfNums [a])).length = 1 := by rw [B_len, strOfNums_size]; rfl
theorem slotStrict_plain (hw : law20_wakes.f = some true) (s : ByteArray) (a : Int) : law20_SlotStrict.f s a = some true := by
 have hB := BIG_ge
 unfold law20_SlotStrict.f
 rcases Nat.lt_or_ge 600 s.size with hs | hs
 ·rw [bif_true (decide_eq_true (by omega)), hw]
  rfl
 ·rw [bif_false (decide_eq_false (by omega))]
  obtain ⟨x, hx, rfl⟩ : ∃ x, Byt x ∧ s = S x := ⟨B s, byt_B s, (S_B s).symm⟩
  rw [S_size] at hs
  rw [Decode_ok hx (by omega)]
  cases hd : dec x with
  | none =>
   simp only [Option.bind_some, Bool.not_false]
   rw [cond_true, bif_true (c := (([] : List Slot).length : Int) == 0) rfl, hw]
   rfl
  | some d =>
   have hok := dec_ok hx (by omega) hd
   have hlen : d.sz ≤ x.length := by
    unfold dec at hd
    cases hq : dn 1000 x with
    | none => rw [hq] at hd; cases hd
    | some q =>
     obtain ⟨d', r⟩ := q
     have := dn_len 1000 x d' r hq
     simp only [hq, Option.bind_some] at hd
     split at hd
     ·simp only [Option.some.injEq] at hd
      subst hd
      omega
     ·cases hd
   have hpos := d.sz_pos
   simp only [Option.bind_some, Bool.not_true]
   have h1 := strOne a
   rw [cond_false, gd_pos (by rw [S_size, strOfNums_size]; simp; omega)]
   have e1 : S x ++ strOfNums [a] = S (x ++ B (strOfNums [a])) := by
    apply B_inj
    rw [B_append, B_S hx, B_S]
    intro b hb
    rcases List.mem_append.mp hb with hb | hb
    ·exact hx b hb
    ·exact B_lt hb
   have hx2 : Byt (x ++ B (strOfNums [a])) := by
    intro b hb
    rcases List.mem_append.mp hb with hb | hb
    ·exact hx b hb
    ·exact B_lt hb
   rw [e1, Decode_ok hx2 (by rw [List.length_append]; omega), dec_more (by intro e; rw [e] at h1; cases h1) hd]
   simp only [Option.bind_some]
   have hxl : x.length ≠ 0 := by omega
   rw [S_size, w64_nat (x := (x.length : Int) - 1) (k := x.length - 1) (by omega) (by omega), gd_pos (by omega), sub_S hx]
   have e2 : (x.take ((x.length - 1 : Nat) : Int).toNat).drop (0 : Int).toNat = x.take (x.length - 1) := by simp
   rw [e2, Decode_ok (hx.take _) (by rw [List.length_take]; omega)]
   have e3 : dec (x.take (x.length - 1)) = none := by
    cases hq : dec (x.take (x.length - 1)) with
    | none => rfl
    | some d' =>
     have := dec_more (y := x.drop (x.length - 1)) (by intro e; have := congrArg List.length e; rw [List.length_drop] at this; simp at this; omega) hq
     rw [List.take_append_drop, hd] at this
     cases this
   rw [e3]
   simp only [Option.bind_some]
   have hsl : (d.slots 0).length = d.sz := d.slots_len 0
   rw [cond_false, cond_false]
   simp only [Option.bind_some]
   rw [hsl, bif_false (c := ((d.sz : Nat) : Int) == 0) (by rw [beq_eq_false_iff_ne]; omega), gd_pos (by omega), Int.toNat_natCast]
   have hseg := Dn.seg d (d.slots 0) [] [] 0 BIG (List.replicate d.sz 0) hok (by rw [hsl]; omega) (by simp) rfl (by rw [List.length_replicate, hsl]) (by omega)
   rw [show ((0 : Nat) : Int) = 0 from rfl] at hseg
   obtain ⟨n, hn⟩ : ∃ n, BIG - d.sz = n + 1 := ⟨BIG - d.sz - 1, by omega⟩
   rw [hseg, hn, law20_SlotStrict.l0, bif_false (decide_eq_false (by rw [hsl]; omega))]
   simp only [Option.bind_some]
   have hl2 := strict_l2 (x := incl (List.replicate d.sz 0) (d.incs 0)) (N := d.sz) (by rw [incl_len, List.length_replicate]) (by omega) (fun j hj => by
    have hcount : ∀ i, (d.incs 0).count i = if 0 < i ∧ i < 0 + d.sz then 1 else 0 := fun i => Dn.count d 0 i
    have hinc := Dn.incs_len d 0
    obtain ⟨m, g1, g2⟩ := incl_get (d.incs 0) (List.replicate d.sz 0) j (fun i hi => by
     have := List.count_pos_iff.mpr hi
     rw [hcount] at this
     rw [List.length_replicate]
     split at this <;> omega) (fun i => ⟨0, by unfold gt; rw [List.getD_eq_getElem?_getD, List.getElem?_replicate]; split <;> rfl, by omega⟩)
    have g0 : gt (List.replicate d.sz (0 : Int)) (j : Int) = 0 := by unfold gt; rw [List.getD_eq_getElem?_getD, List.getElem?_replicate]; split <;> rfl
    rw [g2, hcount]
    have : m = 0 := by rw [g0] at g1; omega
    subst this
    by_cases h0 : 0 < j
    ·rw [if_pos ⟨h0, by omega⟩, if_pos h0]
     rfl
    ·rw [if_neg (fun h => h0 h.1), if_neg h0]
     rfl) BIG 0 (by omega)
   rw [show ((0 : Nat) : Int) = 0 from rfl] at hl2
   rw [hl2]
   simp only [Option.bind_some]
   rw [hw]
   rfl
end Go.Lf
