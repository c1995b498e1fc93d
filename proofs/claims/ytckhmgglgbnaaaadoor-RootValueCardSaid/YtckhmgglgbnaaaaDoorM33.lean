/- A node as an Item; its text; its hash. -/
import Derived.Test.YtckhmgglgbnaaaaDoorM32
set_option linter.unusedVariables false
set_option linter.unusedSimpArgs false
namespace Go.Lf
open Go
def pkd (s : ByteArray) : ByteArray := strOfNums [wu8 (s.size : Int)] ++ pck s
def jn (hs : List ByteArray) : ByteArray := ⟨(Lib.join (hs.map (·.data.toList)) (⟨#[]⟩ : ByteArray).data.toList).toArray⟩
def vl (v : ByteArray) : ByteArray := strOfNums [wu8 (v.size : Int)] ++ v
/-- An Item's text. -/
def enc (i : Item) : ByteArray :=
  if i.kind_ = 1 then (strOfNums [wu8 i.kind_] ++ pkd i.path_) ++ vl i.value_
  else if i.kind_ = 2 then (strOfNums [wu8 i.kind_] ++ pkd i.path_) ++ jn i.hashes_
  else if i.has_ = true then (((strOfNums [wu8 i.kind_] ++ strOfNums [wu8 (shr .i64 i.mask_ 8), wu8 i.mask_]) ++ (⟨#[1]⟩ : ByteArray)) ++ vl i.value_) ++ jn i.hashes_
  else ((strOfNums [wu8 i.kind_] ++ strOfNums [wu8 (shr .i64 i.mask_ 8), wu8 i.mask_]) ++ (⟨#[0]⟩ : ByteArray)) ++ jn i.hashes_
theorem pgood_ok {s : ByteArray} (h1 : s.size ≤ 16) (h2 : Sml s) : nibble_Good.f s = some true := by
  unfold nibble_Good.f
  rw [bif_true (decide_eq_true (by omega))]
  rcases small_ok (s := s) (by omega) with ⟨-, h⟩ | ⟨h, -⟩
  · rw [h]; rfl
  · exact absurd h2 h
theorem pack_ok {s : ByteArray} (h1 : s.size ≤ 16) (h2 : Sml s) : nibble_Pack.f s = some (pkd s, true) ∧ (pkd s).size = 1 + (s.size + 1) / 2 := by
  have hsz : (pck s).size = (s.size + 1) / 2 := by rw [← B_len, B_pck h2, pk_len, B_len]
  constructor
  · unfold nibble_Pack.f
    rw [pgood_ok h1 h2, Option.bind_some, bif_false (c := !true) rfl, two_ok (by omega) h2, Option.bind_some, gd_pos (by rw [strOfNums_size, hsz]; simp; omega)]
    rfl
  · unfold pkd
    rw [app_size, strOfNums_size, hsz]
    simp
theorem jn_list (hs : List ByteArray) : (jn hs).data.toList = (hs.map (·.data.toList)).flatten := by
  unfold jn
  have : ∀ x : List (List UInt8), Lib.join x ([] : List UInt8) = x.flatten := by
    intro x
    unfold Lib.join
    cases x with
    | nil => rfl
    | cons a x =>
      induction x generalizing a with
      | nil => simp [List.intercalate]
      | cons b x ih =>
        have := ih b
        simp [List.intercalate, List.intersperse] at this ⊢
        exact this
  simp [this]
theorem dl (s : ByteArray) : s.data.toList.length = s.size := by rw [Array.length_toList]; rfl
theorem jn_size {hs : List ByteArray} (h : ∀ x ∈ hs, x.size = 32) : (jn hs).size = 32 * hs.length := by
  rw [← dl, jn_list]
  induction hs with
  | nil => rfl
  | cons a hs ih =>
    have h2 : a.data.toList.length = 32 := by rw [dl]; exact h a (List.mem_cons_self ..)
    have h3 := ih fun x hx => h x (List.mem_cons_of_mem _ hx)
    simp only [List.map_cons, List.flatten_cons, List.length_append, List.length_cons]
    rw [h2, h3]
    omega
theorem join_ok {hs : List ByteArray} (h : ∀ x ∈ hs, x.size = 32) (hl : hs.length ≤ 16) : strings_Join.f hs (⟨#[]⟩ : ByteArray) = some (jn hs) := by
  unfold strings_Join.f
  have h1 := jn_size h
  have h2 : (Lib.join (hs.map (·.data.toList)) (⟨#[]⟩ : ByteArray).data.toList).length = (jn hs).size := by rw [← dl]; simp [jn]
  rw [gd_pos (by rw [h2, h1]; omega)]
  rfl
/-- An Item that may be. -/
structure Fit (i : Item) : Prop where
  msk : ∃ m : Nat, i.mask_ = (m : Int) ∧ m < 65536 ∧ popc 16 m = i.hashes_.length
  hsh : ∀ x ∈ i.hashes_, x.size = 32
  val : i.value_.size ≤ 16
  noval : i.has_ = false → i.value_ = ⟨#[]⟩
  path : i.path_.size ≤ 16
  sml : Sml i.path_
  kind : (i.kind_ = 1 ∧ i.has_ = true ∧ i.mask_ = 0) ∨ (i.kind_ = 2 ∧ i.has_ = false ∧ 0 < i.path_.size ∧ i.mask_ = 1) ∨ (i.kind_ = 3 ∧ i.path_ = ⟨#[]⟩ ∧ (2 ≤ i.hashes_.length ∨ i.has_ = true ∧ 1 ≤ i.hashes_.length))
theorem Fit.few {i : Item} (h : Fit i) : i.hashes_.length ≤ 16 := by
  obtain ⟨m, -, -, h⟩ := h.msk
  have := popc_le 16 m
  omega
theorem hidx_l0 {hs : List ByteArray} (h : ∀ x ∈ hs, x.size = 32) (hl : hs.length ≤ 16) : ∀ (fuel i : Nat), hs.length - i < fuel → slices_IndexFunc_string_node_hashes_c1.l0 hs fuel (i : Int) = some (.inl ())
  | 0, i, hf => by omega
  | fuel + 1, i, hf => by
    rw [slices_IndexFunc_string_node_hashes_c1.l0]
    rcases Nat.lt_or_ge i hs.length with hi | hi
    · have hm : (gt hs (i : Int)).size = 32 := by
        apply h
        rw [gt_nat, List.getD_eq_getElem?_getD, List.getElem?_eq_getElem hi]
        exact List.getElem_mem hi
      rw [bif_true (decide_eq_true (by omega)), gd_pos (by omega)]
      unfold node_hashes_c1.f
      rw [hm, Option.bind_some, bif_false (by decide), w64_nat (x := (i : Int) + 1) (k := i + 1) (by simp) (by omega)]
      exact hidx_l0 h hl fuel (i + 1) (by omega)
    · rw [bif_false (decide_eq_false (by omega))]
theorem hashes_ok {i : Item} (h : Fit i) : node_hashes.f i = some true := by
  unfold node_hashes.f
  obtain ⟨m, h1, h2, h3⟩ := h.msk
  have hw : wu64 i.mask_ = (m : Int) := by
    rw [h1]
    have := wrap64_nat m
    rw [Nat.mod_eq_of_lt (by omega)] at this
    exact this
  rw [hw, ones_ok h2, Option.bind_some, h3, bif_true (by simp)]
  unfold slices_ContainsFunc_string_node_hashes_c1.f slices_IndexFunc_string_node_hashes_c1.f
  have h0 := hidx_l0 h.hsh h.few BIG 0 (by have := h.few; have := BIG_ge; omega)
  rw [show ((0 : Nat) : Int) = 0 from rfl] at h0
  rw [h0]
  rfl
theorem seq_self (s : ByteArray) : seq_ s s = true := by rw [seq_B]; simp
theorem good_item {i : Item} (h : Fit i) : node_Good.f i = some true := by
  unfold node_Good.f
  obtain ⟨m, h1, h2, h3⟩ := h.msk
  have hv := h.val
  rw [bif_false (c := decide (i.mask_ < 0)) (decide_eq_false (by omega)), bif_false (c := decide (i.mask_ ≥ 65536)) (decide_eq_false (by omega)), hashes_ok h, Option.bind_some, bif_false (c := !true) rfl, bif_false (c := decide ((i.value_.size : Int) > 16)) (decide_eq_false (by omega)), pgood_ok h.path h.sml]
  have e : (bif !i.has_ then bif !(seq_ i.value_ (⟨#[]⟩ : ByteArray)) then some true else (some true).bind fun y152 => some (!y152) else (some true).bind fun y158 => some (!y158)) = some false := by
    cases hh : i.has_
    · rw [h.noval hh, seq_self]
      rfl
    · rfl
  rw [e, Option.bind_some, bif_false rfl]
  rcases h.kind with ⟨k1, k2, k3⟩ | ⟨k1, k2, k3, k4⟩ | ⟨k1, k2, k3⟩
  · rw [k1, k2, k3, bif_true (c := (1 : Int) == 1) rfl]
    simp [eq_node_face_T]
  · have hv0 := h.noval k2
    have hp : seq_ i.path_ (⟨#[]⟩ : ByteArray) = false := by
      rw [seq_B]
      apply decide_eq_false
      intro e
      rw [e] at k3
      exact absurd k3 (by decide)
    rw [k1, k2, k4, hv0, hp, bif_false (c := (2 : Int) == 1) rfl, bif_true (c := (2 : Int) == 2) rfl]
    simp [eq_node_face_T]
  · rw [k1, k2, seq_self, bif_false (c := (3 : Int) == 1) rfl, bif_false (c := (3 : Int) == 2) rfl, bif_true (c := (3 : Int) == 3) rfl, bif_true rfl]
    by_cases hl : 1 < i.hashes_.length
    · rw [bif_true (decide_eq_true (by omega))]
      rfl
    · rcases k3 with k3 | ⟨k3, k4⟩
      · omega
      · rw [bif_false (decide_eq_false (by omega)), k3, bif_true rfl, decide_eq_true (show (i.hashes_.length : Int) > 0 by omega)]
        rfl
theorem vl_size (v : ByteArray) : (vl v).size = 1 + v.size := by unfold vl; rw [app_size, strOfNums_size]; rfl
theorem enc_size {i : Item} (h : Fit i) : (enc i).size ≤ 2000 := by
  have hf := h.few
  have hj := jn_size h.hsh
  have hp := (pack_ok h.path h.sml).2
  have hv := h.val
  have hpp := h.path
  unfold enc
  split
  · simp only [app_size, strOfNums_size, vl_size, hp, List.length_cons, List.length_nil]; omega
  · split
    · simp only [app_size, strOfNums_size, vl_size, hp, hj, List.length_cons, List.length_nil]; omega
    · split
      · have : (⟨#[1]⟩ : ByteArray).size = 1 := rfl
        simp only [app_size, strOfNums_size, vl_size, hj, this, List.length_cons, List.length_nil]; omega
      · have : (⟨#[0]⟩ : ByteArray).size = 1 := rfl
        simp only [app_size, strOfNums_size, hj, this, List.length_cons, List.length_nil]; omega
theorem encode_ok {i : Item} (h : Fit i) : node_Encode.f i = some (enc i, true) := by
  unfold node_Encode.f
  have hf := h.few
  have hj := jn_size h.hsh
  obtain ⟨hp1, hp2⟩ := pack_ok h.path h.sml
  have hv := h.val
  have hpp := h.path
  have hval : node_value.f i.value_ = some (vl i.value_) := by
    unfold node_value.f
    rw [gd_pos (by rw [strOfNums_size]; simp; omega)]
    rfl
  have s1 : (⟨#[1]⟩ : ByteArray).size = 1 := rfl
  have s0 : (⟨#[0]⟩ : ByteArray).size = 1 := rfl
  rw [good_item h, Option.bind_some, bif_false (c := !true) rfl, hp1]
  simp only [Option.bind_some]
  rw [join_ok h.hsh hf, Option.bind_some]
  unfold enc
  rcases h.kind with ⟨k1, -⟩ | ⟨k1, -⟩ | ⟨k1, -⟩
  · rw [k1, bif_true (c := (1 : Int) == 1) rfl, if_pos rfl, gd_pos (by rw [strOfNums_size, hp2]; simp; omega), hval, Option.bind_some, gd_pos (by simp only [app_size, strOfNums_size, vl_size, hp2, List.length_cons, List.length_nil]; omega)]
  · rw [k1, bif_false (c := (2 : Int) == 1) rfl, bif_true (c := (2 : Int) == 2) rfl, if_neg (by decide), if_pos rfl, gd_pos (by rw [strOfNums_size, hp2]; simp; omega), gd_pos (by simp only [app_size, strOfNums_size, hj, hp2, List.length_cons, List.length_nil]; omega)]
  · rw [k1, bif_false (c := (3 : Int) == 1) rfl, bif_false (c := (3 : Int) == 2) rfl, if_neg (by decide), if_neg (by decide), gd_pos (by rw [strOfNums_size, strOfNums_size]; simp)]
    cases hh : i.has_
    · rw [if_neg (by simp), bif_true (c := !false) rfl, gd_pos (by simp only [app_size, strOfNums_size, s0, List.length_cons, List.length_nil]; omega), gd_pos (by simp only [app_size, strOfNums_size, s0, hj, List.length_cons, List.length_nil]; omega)]
    · rw [if_pos rfl, bif_false (c := !true) rfl, gd_pos (by simp only [app_size, strOfNums_size, s1, List.length_cons, List.length_nil]; omega), hval, Option.bind_some, gd_pos (by simp only [app_size, strOfNums_size, s1, vl_size, List.length_cons, List.length_nil]; omega), gd_pos (by simp only [app_size, strOfNums_size, s1, hj, vl_size, List.length_cons, List.length_nil]; omega)]
theorem hash_ok {i : Item} (h : Fit i) : node_Hash.f i = some (dg (enc i), true) ∧ (dg (enc i)).size = 32 := by
  have hs := enc_size h
  obtain ⟨h1, h2⟩ := dg_ok (s := enc i) (by omega)
  refine ⟨?_, h2⟩
  unfold node_Hash.f
  rw [encode_ok h]
  simp only [Option.bind_some]
  rw [bif_false (c := !true) rfl, h1]
  rfl
def Ks.mask : Ks → Nat
  | .nil => 0
  | .cons c _ ks => 2 ^ c + ks.mask
mutual
/-- A tree's hash. -/
noncomputable def T.hsh : T → ByteArray
  | .node l ks => dg (enc ⟨l.kind, l.path, l.has, l.value, (ks.mask : Int), ks.hshs⟩)
noncomputable def Ks.hshs : Ks → List ByteArray
  | .nil => []
  | .cons _ t ks => t.hsh :: ks.hshs
end
/-- The top node as an Item. -/
noncomputable def T.item : T → Item
  | .node l ks => ⟨l.kind, l.path, l.has, l.value, (ks.mask : Int), ks.hshs⟩
theorem T.hsh_item (t : T) : t.hsh = dg (enc t.item) := by
  obtain ⟨l, ks⟩ := t
  rw [T.hsh]
  rfl
theorem hshs_len : ∀ ks : Ks, ks.hshs.length = ks.cnt
  | .nil => by rw [Ks.hshs]; rfl
  | .cons c t ks => by rw [Ks.hshs, Ks.cnt, List.length_cons, hshs_len ks]
theorem popc_two : ∀ (c k r : Nat), c ≤ k → popc k (2 ^ c * r) = popc (k - c) r
  | 0, k, r, _ => by simp
  | c + 1, 0, r, h => by omega
  | c + 1, k + 1, r, h => by
    rw [popc, Nat.pow_succ, show 2 ^ c * 2 * r = 2 * (2 ^ c * r) by rw [Nat.mul_comm (2 ^ c) 2, Nat.mul_assoc], Nat.mul_mod_right, Nat.mul_div_cancel_left _ (by omega), popc_two c k r (by omega), Nat.zero_add]
    congr 1
    omega
theorem mask_div : ∀ {ks : Ks} {m : Nat}, ks.up m → m ≤ 16 → ∃ r, ks.mask = 2 ^ m * r ∧ r < 2 ^ (16 - m) ∧ popc (16 - m) r = ks.cnt
  | .nil, m, _, hm => ⟨0, rfl, Nat.two_pow_pos _, by
    have : ∀ k, popc k 0 = 0 := by
      intro k
      induction k with
      | zero => rfl
      | succ k ih => rw [popc, Nat.zero_div, ih]
    rw [this]
    rfl⟩
  | .cons c t ks, m, h, hm => by
    obtain ⟨h1, h2, h3⟩ := h
    obtain ⟨r, e1, e2, e3⟩ := mask_div h3 (by omega)
    have hc : 2 ^ c = 2 ^ m * 2 ^ (c - m) := by rw [← Nat.pow_add]; congr 1; omega
    have hc1 : 2 ^ (c + 1) = 2 ^ m * (2 ^ (c - m) * 2) := by rw [← Nat.mul_assoc, ← hc, Nat.pow_succ]
    refine ⟨2 ^ (c - m) * (1 + 2 * r), ?_, ?_, ?_⟩
    · rw [Ks.mask, e1, hc1, hc, Nat.mul_assoc, Nat.mul_assoc, ← Nat.mul_add]
      congr 1
      rw [Nat.mul_add, Nat.mul_one]
    · have : 2 ^ (16 - m) = 2 ^ (c - m) * (2 * 2 ^ (16 - (c + 1))) := by
        rw [← Nat.pow_succ', ← Nat.pow_add]
        congr 1
        omega
      rw [this]
      exact Nat.mul_lt_mul_of_pos_left (by omega) (Nat.two_pow_pos _)
    · rw [popc_two _ _ _ (by omega), Ks.cnt, show 16 - m - (c - m) = (16 - (c + 1)) + 1 by omega, popc]
      rw [show (1 + 2 * r) % 2 = 1 by omega, show (1 + 2 * r) / 2 = r by omega, e3]
      omega
mutual
theorem T.item_fit : ∀ {t : T}, t.fit → Fit t.item
  | .node l ks, h => by
    obtain ⟨⟨p1, p2, p3⟩, h2, h3, h4, h5⟩ := h
    obtain ⟨r, e1, e2, e3⟩ := mask_div h2 (by omega)
    rw [Nat.pow_zero, Nat.one_mul] at e1
    refine ⟨⟨ks.mask, rfl, by rw [e1]; exact e2, ?_⟩, Ks.hshs_size h5, p3, h3, p1, p2, ?_⟩
    · show popc 16 ks.mask = ks.hshs.length
      rw [hshs_len, e1]
      exact e3
    · rcases h4 with ⟨k1, k2, rfl⟩ | ⟨k1, k2, k3, t, rfl⟩ | ⟨k1, k2, k3⟩
      · exact .inl ⟨k1, k2, rfl⟩
      · exact .inr (.inl ⟨k1, k2, k3, rfl⟩)
      · refine .inr (.inr ⟨k1, k2, ?_⟩)
        show 2 ≤ ks.hshs.length ∨ l.has = true ∧ 1 ≤ ks.hshs.length
        rw [hshs_len]
        exact k3
theorem T.hsh_size : ∀ {t : T}, t.fit → t.hsh.size = 32
  | .node l ks, h => by
    obtain ⟨⟨p1, p2, p3⟩, h2, h3, h4, h5⟩ := h
    obtain ⟨r, e1, e2, e3⟩ := mask_div h2 (by omega)
    rw [Nat.pow_zero, Nat.one_mul] at e1
    rw [T.hsh]
    refine (hash_ok (i := ⟨l.kind, l.path, l.has, l.value, (ks.mask : Int), ks.hshs⟩) ⟨⟨ks.mask, rfl, by rw [e1]; exact e2, ?_⟩, Ks.hshs_size h5, p3, h3, p1, p2, ?_⟩).2
    · show popc 16 ks.mask = ks.hshs.length
      rw [hshs_len, e1]
      exact e3
    · rcases h4 with ⟨k1, k2, rfl⟩ | ⟨k1, k2, k3, t, rfl⟩ | ⟨k1, k2, k3⟩
      · exact .inl ⟨k1, k2, rfl⟩
      · exact .inr (.inl ⟨k1, k2, k3, rfl⟩)
      · refine .inr (.inr ⟨k1, k2, ?_⟩)
        show 2 ≤ ks.hshs.length ∨ l.has = true ∧ 1 ≤ ks.hshs.length
        rw [hshs_len]
        exact k3
theorem Ks.hshs_size : ∀ {ks : Ks}, ks.fit → ∀ x ∈ ks.hshs, x.size = 32
  | .nil, _, x, hx => by rw [Ks.hshs] at hx; cases hx
  | .cons c t ks, ⟨h1, h2⟩, x, hx => by
    rw [Ks.hshs] at hx
    rcases List.mem_cons.mp hx with rfl | hx
    · exact T.hsh_size h1
    · exact Ks.hshs_size h2 x hx
end
end Go.Lf
