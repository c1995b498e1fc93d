/- Unlike Items have unlike texts; trees of one hash are one, where no two unlike texts have one digest. -/
import Derived.Test.YtckhmgglgbnaaaaDoorM34
set_option linter.unusedVariables false
set_option linter.unusedSimpArgs false
namespace Go.Lf
open Go
theorem B_byte {k : Nat} (h : k < 256) : B (strOfNums [wu8 (k : Int)]) = [k] := by
  have hw : wu8 (k : Int) = (k : Int) := wu8_id (by omega)
  rw [hw, B_strOfNums (by intro x hx; simp at hx; omega)]
  simp
theorem B_vl {v : ByteArray} (h : v.size ≤ 16) : B (vl v) = v.size :: B v := by
  unfold vl
  rw [B_append, B_byte (by omega)]
  rfl
theorem B_pkd {s : ByteArray} (h : s.size ≤ 16) (hs : Sml s) : B (pkd s) = s.size :: pk (B s) := by
  unfold pkd
  rw [B_append, B_byte (by omega), B_pck hs]
  rfl
theorem enc1 {i : Item} (h : Fit i) (k : i.kind_ = 1) : B (enc i) = 1 :: i.path_.size :: (pk (B i.path_) ++ (i.value_.size :: B i.value_)) := by
  unfold enc
  rw [if_pos k, k, B_append, B_append, B_pkd h.path h.sml, B_vl h.val, show (1 : Int) = ((1 : Nat) : Int) from rfl, B_byte (by decide)]
  simp
theorem enc2 {i : Item} (h : Fit i) (k : i.kind_ = 2) : B (enc i) = 2 :: i.path_.size :: (pk (B i.path_) ++ B (jn i.hashes_)) := by
  unfold enc
  rw [if_neg (by rw [k]; decide), if_pos k, k, B_append, B_append, B_pkd h.path h.sml, show (2 : Int) = ((2 : Nat) : Int) from rfl, B_byte (by decide)]
  simp
theorem mask_bytes {m : Nat} (h : m < 65536) : B (strOfNums [wu8 (shr .i64 (m : Int) 8), wu8 (m : Int)]) = [m / 256, m % 256] := by
  have e1 : shr .i64 (m : Int) 8 = ((m / 256 : Nat) : Int) := by
    unfold shr
    have h1 : (IntKind.bits .i64) = 64 := rfl
    rw [h1]
    have : (2 : Int) ^ min (8 : Int).toNat 64 = ((256 : Nat) : Int) := by decide
    rw [this, Int.fdiv_eq_ediv_of_nonneg _ (by omega)]
    simp
  have e2 : wu8 (m : Int) = ((m % 256 : Nat) : Int) := by
    simp only [wu8, IntKind.wrap, IntKind.bits, IntKind.signed]
    simp
  have e3 : wu8 ((m / 256 : Nat) : Int) = ((m / 256 : Nat) : Int) := wu8_id (by omega)
  rw [e1, e2, e3, B_strOfNums (by intro x hx; simp at hx; omega)]
  simp
  omega
theorem enc3 {i : Item} {m : Nat} (h : Fit i) (k : i.kind_ = 3) (hm : i.mask_ = (m : Int)) (hm' : m < 65536) : B (enc i) = 3 :: (m / 256) :: (m % 256) :: ((if i.has_ = true then 1 :: i.value_.size :: B i.value_ else [0]) ++ B (jn i.hashes_)) := by
  unfold enc
  rw [if_neg (by rw [k]; decide), if_neg (by rw [k]; decide), k, hm]
  by_cases hh : i.has_ = true
  · rw [if_pos hh, if_pos hh]
    simp only [B_append]
    rw [mask_bytes hm', B_vl h.val, show (3 : Int) = ((3 : Nat) : Int) from rfl, B_byte (by decide)]
    rfl
  · rw [if_neg hh, if_neg hh]
    simp only [B_append]
    rw [mask_bytes hm', show (3 : Int) = ((3 : Nat) : Int) from rfl, B_byte (by decide)]
    rfl
theorem pk_inj : ∀ {x y : List Nat}, x.length = y.length → (∀ b ∈ x, b < 16) → (∀ b ∈ y, b < 16) → pk x = pk y → x = y
  | [], [], _, _, _, _ => rfl
  | [a], [b], _, _, _, h => by
    simp [pk] at h
    have : a = b := by omega
    rw [this]
  | a :: b :: x, c :: d :: y, hl, hx, hy, h => by
    simp only [pk, List.cons.injEq] at h
    have h1 := hx a (by simp)
    have h2 := hx b (by simp)
    have h3 := hy c (by simp)
    have h4 := hy d (by simp)
    have := pk_inj (x := x) (y := y) (by simpa using hl) (fun b hb => hx b (by simp [hb])) (fun b hb => hy b (by simp [hb])) h.2
    rw [this, show a = c by omega, show b = d by omega]
  | [], _ :: _, hl, _, _, _ => by simp at hl
  | _ :: _, [], hl, _, _, _ => by simp at hl
  | [_], _ :: _ :: _, hl, _, _, _ => by simp at hl
  | _ :: _ :: _, [_], hl, _, _, _ => by simp at hl
theorem path_inj {s t : ByteArray} {r q : List Nat} (hs : Sml s) (ht : Sml t) (hl : s.size = t.size) (h : pk (B s) ++ r = pk (B t) ++ q) : s = t ∧ r = q := by
  have hlen : (pk (B s)).length = (pk (B t)).length := by rw [pk_len, pk_len, B_len, B_len, hl]
  obtain ⟨h1, h2⟩ := List.append_inj h hlen
  exact ⟨B_inj (pk_inj (by rw [B_len, B_len, hl]) hs ht h1), h2⟩
theorem ba_ext {s t : ByteArray} (h : s.data.toList = t.data.toList) : s = t := by
  obtain ⟨⟨s⟩⟩ := s
  obtain ⟨⟨t⟩⟩ := t
  have : s = t := h
  rw [this]
theorem flat_inj : ∀ {x y : List ByteArray}, (∀ a ∈ x, a.size = 32) → (∀ a ∈ y, a.size = 32) → (x.map (·.data.toList)).flatten = (y.map (·.data.toList)).flatten → x = y
  | [], [], _, _, _ => rfl
  | [], b :: y, _, hy, h => by
    have h1 := congrArg List.length h
    have h2 := hy b (by simp)
    simp only [List.map_nil, List.flatten_nil, List.length_nil, List.map_cons, List.flatten_cons, List.length_append, dl] at h1
    omega
  | a :: x, [], hx, _, h => by
    have h1 := congrArg List.length h
    have h2 := hx a (by simp)
    simp only [List.map_nil, List.flatten_nil, List.length_nil, List.map_cons, List.flatten_cons, List.length_append, dl] at h1
    omega
  | a :: x, b :: y, hx, hy, h => by
    simp only [List.map_cons, List.flatten_cons] at h
    have h1 := hx a (by simp)
    have h2 := hy b (by simp)
    obtain ⟨g1, g2⟩ := List.append_inj h (by rw [dl, dl, h1, h2])
    rw [ba_ext g1, flat_inj (fun c hc => hx c (by simp [hc])) (fun c hc => hy c (by simp [hc])) g2]
theorem jn_inj {x y : List ByteArray} (hx : ∀ a ∈ x, a.size = 32) (hy : ∀ a ∈ y, a.size = 32) (h : B (jn x) = B (jn y)) : x = y := by
  have := B_inj h
  apply flat_inj hx hy
  rw [← jn_list, ← jn_list, this]
theorem Item.ext' {i j : Item} (h1 : i.kind_ = j.kind_) (h2 : i.path_ = j.path_) (h3 : i.has_ = j.has_) (h4 : i.value_ = j.value_) (h5 : i.mask_ = j.mask_) (h6 : i.hashes_ = j.hashes_) : i = j := by
  obtain ⟨a, b, c, d, e, f⟩ := i
  obtain ⟨a', b', c', d', e', f'⟩ := j
  simp only at h1 h2 h3 h4 h5 h6
  subst h1 h2 h3 h4 h5 h6
  rfl
theorem no_hashes {i : Item} (h : Fit i) (h0 : i.mask_ = 0) : i.hashes_ = [] := by
  obtain ⟨m, h1, h2, h3⟩ := h.msk
  have : m = 0 := by omega
  subst this
  have e : popc 16 0 = 0 := by decide
  rw [e] at h3
  exact List.eq_nil_of_length_eq_zero h3.symm
theorem enc_inj {i j : Item} (hi : Fit i) (hj : Fit j) (h : enc i = enc j) : i = j := by
  have hB : B (enc i) = B (enc j) := by rw [h]
  obtain ⟨m, m1, m2, m3⟩ := hi.msk
  obtain ⟨n, n1, n2, n3⟩ := hj.msk
  rcases hi.kind with ⟨a1, a2, a3⟩ | ⟨a1, a2, a3, a4⟩ | ⟨a1, a2, a3⟩ <;> rcases hj.kind with ⟨b1, b2, b3⟩ | ⟨b1, b2, b3, b4⟩ | ⟨b1, b2, b3⟩
  · rw [enc1 hi a1, enc1 hj b1] at hB
    simp only [List.cons.injEq, true_and] at hB
    obtain ⟨p1, p2⟩ := path_inj hi.sml hj.sml hB.1 hB.2
    simp only [List.cons.injEq] at p2
    exact Item.ext' (by rw [a1, b1]) p1 (by rw [a2, b2]) (B_inj p2.2) (by rw [a3, b3]) (by rw [no_hashes hi a3, no_hashes hj b3])
  · rw [enc1 hi a1, enc2 hj b1] at hB
    simp at hB
  · rw [enc1 hi a1, enc3 hj b1 n1 n2] at hB
    simp at hB
  · rw [enc2 hi a1, enc1 hj b1] at hB
    simp at hB
  · rw [enc2 hi a1, enc2 hj b1] at hB
    simp only [List.cons.injEq, true_and] at hB
    obtain ⟨p1, p2⟩ := path_inj hi.sml hj.sml hB.1 hB.2
    exact Item.ext' (by rw [a1, b1]) p1 (by rw [a2, b2]) (by rw [hi.noval a2, hj.noval b2]) (by rw [a4, b4]) (jn_inj hi.hsh hj.hsh p2)
  · rw [enc2 hi a1, enc3 hj b1 n1 n2] at hB
    simp at hB
  · rw [enc3 hi a1 m1 m2, enc1 hj b1] at hB
    simp at hB
  · rw [enc3 hi a1 m1 m2, enc2 hj b1] at hB
    simp at hB
  · rw [enc3 hi a1 m1 m2, enc3 hj b1 n1 n2] at hB
    simp only [List.cons.injEq, true_and] at hB
    obtain ⟨q1, q2, q3⟩ := hB
    have hmn : m = n := by omega
    by_cases c : i.has_ = true <;> by_cases d : j.has_ = true
    · rw [if_pos c, if_pos d] at q3
      simp only [List.cons_append, List.cons.injEq, true_and] at q3
      obtain ⟨r1, r2⟩ := List.append_inj q3.2 (by rw [B_len, B_len, q3.1])
      exact Item.ext' (by rw [a1, b1]) (by rw [a2, b2]) (by rw [c, d]) (B_inj r1) (by rw [m1, n1, hmn]) (jn_inj hi.hsh hj.hsh r2)
    · rw [if_pos c, if_neg d] at q3
      simp at q3
    · rw [if_neg c, if_pos d] at q3
      simp at q3
    · rw [if_neg c, if_neg d] at q3
      simp only [List.cons_append, List.nil_append, List.cons.injEq, true_and] at q3
      have c' : i.has_ = false := by simpa using c
      have d' : j.has_ = false := by simpa using d
      exact Item.ext' (by rw [a1, b1]) (by rw [a2, b2]) (by rw [c', d']) (by rw [hi.noval c', hj.noval d']) (by rw [m1, n1, hmn]) (jn_inj hi.hsh hj.hsh q3)
theorem lab_ext {a b : Lab} (h1 : a.kind = b.kind) (h2 : a.path = b.path) (h3 : a.has = b.has) (h4 : a.value = b.value) : a = b := by
  obtain ⟨a1, a2, a3, a4⟩ := a
  obtain ⟨b1, b2, b3, b4⟩ := b
  simp only at h1 h2 h3 h4
  subst h1 h2 h3 h4
  rfl
theorem mask_slot {c d q r : Nat} (h : 2 ^ c + 2 ^ (c + 1) * q = 2 ^ d + 2 ^ (d + 1) * r) : c = d := by
  have key : ∀ c d q r : Nat, c < d → 2 ^ c + 2 ^ (c + 1) * q = 2 ^ d + 2 ^ (d + 1) * r → False := by
    intro c d q r hcd h
    have e1 : 2 ^ d = 2 ^ (c + 1) * 2 ^ (d - (c + 1)) := by rw [← Nat.pow_add]; congr 1; omega
    have e2 : 2 ^ (d + 1) = 2 ^ (c + 1) * 2 ^ (d - c) := by rw [← Nat.pow_add]; congr 1; omega
    have h1 : (2 ^ c + 2 ^ (c + 1) * q) % 2 ^ (c + 1) = (2 ^ d + 2 ^ (d + 1) * r) % 2 ^ (c + 1) := by rw [h]
    rw [Nat.add_mul_mod_self_left, e1, e2, Nat.mul_assoc, ← Nat.mul_add, Nat.mul_mod_right, Nat.mod_eq_of_lt (Nat.pow_lt_pow_right (by decide) (by omega))] at h1
    have := Nat.two_pow_pos c
    omega
  rcases Nat.lt_trichotomy c d with hc | hc | hc
  · exact (key c d q r hc h).elim
  · exact hc
  · exact (key d c r q hc h.symm).elim
mutual
/-- Of two trees of one hash: they are one, if no two unlike texts beneath have one digest. -/
theorem T.same : ∀ (u v : T), u.fit → v.fit → (∀ x ∈ u.trs, ∀ y ∈ v.trs, x.hsh = y.hsh → enc x.item = enc y.item) → u.hsh = v.hsh → u = v
  | .node a ks, .node b ms, hu, hv, hc, h => by
    have hitem := enc_inj (T.item_fit hu) (T.item_fit hv) (hc (.node a ks) (by simp [T.trs]) (.node b ms) (by simp [T.trs]) h)
    simp only [T.item, Item.mk.injEq] at hitem
    obtain ⟨i1, i2, i3, i4, i5, i6⟩ := hitem
    have hks := Ks.same ks ms hu.2.2.2.2 hv.2.2.2.2 hu.2.1 hv.2.1 (by omega) i6 (fun x hx y hy => hc x (by rw [T.trs]; exact List.mem_cons_of_mem _ hx) y (by rw [T.trs]; exact List.mem_cons_of_mem _ hy))
    rw [hks, lab_ext i1 i2 i3 i4]
theorem Ks.same : ∀ (ks ms : Ks), ks.fit → ms.fit → ∀ {p : Nat}, ks.up p → ms.up p → ks.mask = ms.mask → ks.hshs = ms.hshs → (∀ x ∈ ks.trs, ∀ y ∈ ms.trs, x.hsh = y.hsh → enc x.item = enc y.item) → ks = ms
  | .nil, .nil, _, _, _, _, _, _, _, _ => rfl
  | .nil, .cons d v ms, _, _, _, _, _, _, h, _ => by
    rw [Ks.hshs, Ks.hshs] at h
    cases h
  | .cons c u ks, .nil, _, _, _, _, _, _, h, _ => by
    rw [Ks.hshs, Ks.hshs] at h
    cases h
  | .cons c u ks, .cons d v ms, hu, hv, p, up, uq, hm, h, hc => by
    rw [Ks.hshs, Ks.hshs] at h
    simp only [List.cons.injEq] at h
    obtain ⟨q, e1, -, -⟩ := mask_div up.2.2 (by have := up.2.1; omega)
    obtain ⟨r, e2, -, -⟩ := mask_div uq.2.2 (by have := uq.2.1; omega)
    rw [Ks.mask, Ks.mask] at hm
    have hcd : c = d := mask_slot (q := q) (r := r) (by rw [← e1, ← e2]; exact hm)
    subst hcd
    have hu' := T.same u v hu.1 hv.1 (fun x hx y hy => hc x (by rw [Ks.trs]; exact List.mem_append_left _ hx) y (by rw [Ks.trs]; exact List.mem_append_left _ hy)) h.1
    have hk' := Ks.same ks ms hu.2 hv.2 up.2.2 uq.2.2 (by omega) h.2 (fun x hx y hy => hc x (by rw [Ks.trs]; exact List.mem_append_right _ hx) y (by rw [Ks.trs]; exact List.mem_append_right _ hy))
    rw [hu', hk']
end
end Go.Lf
