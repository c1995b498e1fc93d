import Derived.Test.YtckhmgglgbnaaaaMC
/- Nodes that a trie may have; how a tree lies in a list; each place's tree. -/
set_option linter.unusedVariables false
set_option linter.unusedSimpArgs false
namespace Go.Lf
open Go
def Lab.fine (l : Lab) : Prop := l.path.size ≤ 16 ∧ Sml l.path ∧ l.value.size ≤ 16
mutual
/-- A tree that a trie may have. -/
def T.fit : T → Prop
  | .node l ks => l.fine ∧ ks.up 0 ∧ (l.has = false → l.value = ⟨#[]⟩) ∧ ((l.kind = 1 ∧ l.has = true ∧ ks = .nil) ∨ (l.kind = 2 ∧ l.has = false ∧ 0 < l.path.size ∧ ∃ t, ks = .cons 0 t .nil) ∨ (l.kind = 3 ∧ l.path = ⟨#[]⟩ ∧ (2 ≤ ks.cnt ∨ l.has = true ∧ 1 ≤ ks.cnt))) ∧ ks.fit
def Ks.fit : Ks → Prop
  | .nil => True
  | .cons _ t ks => t.fit ∧ ks.fit
end
section
variable {n : List ByteArray} {l : List Pair}
theorem mkKs_fit (hI : In n l) {f t d : Nat} (hR : Rg n f t d) {g : Nat → Nat → T} (hg : ∀ i j, Rg n i j (d + 1) → (g i j).fit) : ∀ m i, (f < i ∨ d < (nb n f).length ∧ f ≤ i) → (mkKs n g d t m i).fit
  | 0, i, _ => trivial
  | m + 1, i, hi => by
    unfold mkKs
    split
    · rename_i h
      have hgt := run_gt (n := n) (d := d) h
      exact ⟨hg _ _ (hR.run hI.srt hi h), mkKs_fit hI hR hg m _ (by omega)⟩
    · trivial
theorem mkKs_one {g : Nat → Nat → T} {d t m i : Nat} (hm : 0 < m) (hi : i < t) : 1 ≤ (mkKs n g d t m i).cnt := by
  obtain ⟨m, rfl⟩ : ∃ m', m = m' + 1 := ⟨m - 1, by omega⟩
  unfold mkKs
  rw [if_pos hi, Ks.cnt]
  omega
theorem mkKs_two {g : Nat → Nat → T} {d t m i : Nat} (hm : 1 < m) (hi : i < t) (hr : run n d t i < t) : 2 ≤ (mkKs n g d t m i).cnt := by
  obtain ⟨m, rfl⟩ : ∃ m', m = m' + 1 := ⟨m - 1, by omega⟩
  unfold mkKs
  rw [if_pos hi, Ks.cnt]
  have := mkKs_one (n := n) (g := g) (d := d) (m := m) (by omega) hr
  omega
theorem comm_pos {x y : List Nat} (hx : 0 < x.length) (hy : 0 < y.length) (h : x.getD 0 0 = y.getD 0 0) : 0 < comm x y := by
  cases x with
  | nil => simp at hx
  | cons a x =>
    cases y with
    | nil => simp at hy
    | cons b y =>
      simp only [List.getD_cons_zero] at h
      unfold comm
      rw [if_pos h]
      omega
theorem mk_fit (hI : In n l) (hE : Evn n) (hv : ∀ i, i < n.length → (val l i).size ≤ 16) : ∀ (k f t d : Nat), Rg n f t d → 17 ≤ d + k → (mk n l k f t d).fit
  | 0, f, t, d, hR, hd => by
    have := hI.short f (by have := hR.lt; have := hR.le; omega)
    have := hR.long f (Nat.le_refl _) hR.lt
    omega
  | k + 1, f, t, d, hR, hd => by
    have hlt := hR.lt
    have hle := hR.le
    have hsh := hI.short f (by omega)
    have hsz : (tx n f).size ≤ 16 := by rw [size_nb]; exact hsh
    have hlt16 : ∀ i, i < t → byteAt n i d < 16 := fun i hi => hI.nib i (by omega) d
    obtain ⟨-, hsm⟩ := hE f (by omega)
    rw [mk]
    by_cases h1 : t = f + 1
    · rw [if_pos h1]
      exact ⟨⟨Nat.le_trans (sub_le _ _ _) hsz, sml_sub hsm _ _, hv f (by omega)⟩, trivial, fun h => by simp at h, .inl ⟨rfl, rfl, rfl⟩, trivial⟩
    · rw [if_neg h1]
      by_cases h2 : 0 < comm ((nb n f).drop d) ((nb n (t - 1)).drop d)
      · rw [if_pos h2]
        have hcl := comm_le_left ((nb n f).drop d) ((nb n (t - 1)).drop d)
        rw [List.length_drop] at hcl
        have hpos : 0 < (sub (tx n f) (d : Int) ((d + comm ((nb n f).drop d) ((nb n (t - 1)).drop d) : Nat) : Int)).size := by
          have e := size_nb n f
          rw [← B_len, B_sub, List.length_drop, List.length_take, B_len]
          omega
        refine ⟨⟨Nat.le_trans (sub_le _ _ _) hsz, sml_sub hsm _ _, nil16⟩, ⟨by omega, by omega, trivial⟩, fun _ => rfl, .inr (.inl ⟨rfl, rfl, hpos, _, rfl⟩), mk_fit hI hE hv k f t _ (hR.comm hI.srt) (by omega), trivial⟩
      · rw [if_neg h2]
        have hg : ∀ i j, Rg n i j (d + 1) → (mk n l k i j (d + 1)).fit := fun i j h => mk_fit hI hE hv k i j (d + 1) h (by omega)
        by_cases h3 : (nb n f).length = d
        · rw [if_pos h3]
          refine ⟨⟨nil16, sml_nil, hv f (by omega)⟩, mkKs_up hI.srt hR _ hlt16 _ _ (by omega) _ (fun _ => Nat.zero_le _), fun h => by simp at h, .inr (.inr ⟨rfl, rfl, .inr ⟨rfl, mkKs_one (by omega) (by omega)⟩⟩), mkKs_fit hI hR hg _ _ (by omega)⟩
        · rw [if_neg h3]
          have hlong := hR.long f (Nat.le_refl _) hlt
          have hlong2 := hR.long (t - 1) (by omega) (by omega)
          have hgo := hR.go hI.srt (i := t - 1) (.inl (by omega)) (by omega)
          have hrun : run n d t f < t := by
            rcases Nat.lt_or_ge (run n d t f) t with h | h
            · exact h
            · have hall := runF_all (fun j => byteAt n j d == byteAt n f d) (t - f) f (t - 1) (by omega) (by unfold run at h; omega)
              have hb : byteAt n (t - 1) d = byteAt n f d := by simpa using hall
              exfalso
              apply h2
              apply comm_pos
              · rw [List.length_drop]; omega
              · rw [List.length_drop]; omega
              · unfold byteAt at hb
                simp only [List.getD_eq_getElem?_getD, List.getElem?_drop, Nat.add_zero] at hb ⊢
                exact hb.symm
          refine ⟨⟨nil16, sml_nil, nil16⟩, mkKs_up hI.srt hR _ hlt16 _ _ (by omega) _ (fun _ => Nat.zero_le _), fun _ => rfl, .inr (.inr ⟨rfl, rfl, .inl (mkKs_two (by omega) hlt hrun)⟩), mkKs_fit hI hR hg _ _ (by omega)⟩
theorem tre_fit (hm : MayP l) (hl : l.length < 1000000) (h0 : 0 < l.length) : (tre l).fit := by
  have hlen : (nibs l).length = l.length := by simp [nibs]
  exact mk_fit (in_nibs hm hl) evn_nibs (fun i hi => (hm i (by omega)).2.2.1) 17 0 l.length 0 (rg0 hm h0) (by omega)
end
mutual
/-- All trees beneath, in preorder. -/
def T.trs : T → List T
  | .node l ks => .node l ks :: ks.trs
def Ks.trs : Ks → List T
  | .nil => []
  | .cons _ t ks => t.trs ++ ks.trs
end
mutual
theorem T.trs_len : ∀ t : T, t.trs.length = t.sz
  | .node l ks => by simp [T.trs, T.sz, Ks.trs_len ks]
theorem Ks.trs_len : ∀ ks : Ks, ks.trs.length = ks.sz
  | .nil => rfl
  | .cons _ t ks => by simp [Ks.trs, Ks.sz, T.trs_len t, Ks.trs_len ks]
end
def LiesT (L : List T) (b : Nat) (t : T) : Prop := ∃ pre post, L = pre ++ (t.trs ++ post) ∧ pre.length = b
theorem LiesT.get {L : List T} {b : Nat} {t : T} (h : LiesT L b t) : L[b]? = some t := by
  obtain ⟨pre, post, rfl, rfl⟩ := h
  obtain ⟨l, ks⟩ := t
  simp [T.trs]
theorem Ks.all_mono {R S : T → Nat → Prop} : ∀ {ks : Ks} {b : Nat}, (∀ t i, b ≤ i → R t i → S t i) → ks.all R b → ks.all S b
  | .nil, b, _, _ => trivial
  | .cons c t ks, b, h, ⟨h1, h2⟩ => ⟨h _ _ (Nat.le_refl _) h1, Ks.all_mono (fun t i hi hr => h t i (by omega) hr) h2⟩
theorem Ks.all_lies {a : List Node} : ∀ (ks : Ks) (b : Nat) (pre post : List Node), a = pre ++ (ks.flat b ++ post) → pre.length = b → ks.all (fun t i => Lies a i t) b
  | .nil, b, _, _, _, _ => trivial
  | .cons c t ks, b, pre, post, h, hb => by
    rw [Ks.flat] at h
    refine ⟨⟨pre, ks.flat (b + t.sz) ++ post, by rw [h]; simp, hb⟩, Ks.all_lies ks (b + t.sz) (pre ++ t.flat b) post (by rw [h]; simp) (by simp [hb, T.flat_len])⟩
theorem Ks.all_liesT {L : List T} : ∀ (ks : Ks) (b : Nat) (pre post : List T), L = pre ++ (ks.trs ++ post) → pre.length = b → ks.all (fun t i => LiesT L i t) b
  | .nil, b, _, _, _, _ => trivial
  | .cons c t ks, b, pre, post, h, hb => by
    rw [Ks.trs] at h
    refine ⟨⟨pre, ks.trs ++ post, by rw [h]; simp, hb⟩, Ks.all_liesT ks (b + t.sz) (pre ++ t.trs) post (by rw [h]; simp) (by simp [hb, T.trs_len])⟩
theorem LiesT.kids {L : List T} {b : Nat} {l : Lab} {ks : Ks} (h : LiesT L b (.node l ks)) : ks.all (fun t i => LiesT L i t) (b + 1) := by
  obtain ⟨pre, post, rfl, rfl⟩ := h
  rw [T.trs]
  exact Ks.all_liesT ks _ (pre ++ [.node l ks]) post (by simp) (by simp)
/-- What stands at a place. -/
def Pos (a : List Node) (L : List T) (i : Nat) (u : T) : Prop := Lies a i u ∧ LiesT L i u ∧ u.fit
mutual
theorem T.pos {a : List Node} {L : List T} : ∀ (t : T) (b i : Nat), Pos a L b t → i < t.sz → ∃ u, t.trs[i]? = some u ∧ Pos a L (b + i) u
  | .node l ks, b, 0, h, _ => ⟨_, rfl, h⟩
  | .node l ks, b, i + 1, h, hi => by
    obtain ⟨u, h1, h2⟩ := Ks.pos ks (b + 1) i h.1.kids h.2.1.kids h.2.2.2.2.2.2 (by simp only [T.sz] at hi; omega)
    exact ⟨u, by simpa [T.trs] using h1, by rwa [show b + (i + 1) = b + 1 + i by omega]⟩
theorem Ks.pos {a : List Node} {L : List T} : ∀ (ks : Ks) (b i : Nat), ks.all (fun t i => Lies a i t) b → ks.all (fun t i => LiesT L i t) b → ks.fit → i < ks.sz → ∃ u, ks.trs[i]? = some u ∧ Pos a L (b + i) u
  | .nil, b, i, _, _, _, h => by simp [Ks.sz] at h
  | .cons c t ks, b, i, h1, h2, h3, h => by
    have hl := T.trs_len t
    rw [Ks.sz] at h
    rcases Nat.lt_or_ge i t.sz with hi | hi
    · obtain ⟨u, g1, g2⟩ := T.pos t b i ⟨h1.1, h2.1, h3.1⟩ hi
      exact ⟨u, by rw [Ks.trs, List.getElem?_append_left (by omega)]; exact g1, g2⟩
    · obtain ⟨u, g1, g2⟩ := Ks.pos ks (b + t.sz) (i - t.sz) h1.2 h2.2 h3.2 (by omega)
      exact ⟨u, by rw [Ks.trs, List.getElem?_append_right (by omega), hl]; exact g1, by rwa [show b + i = b + t.sz + (i - t.sz) by omega]⟩
end
theorem tre_pos {l : List Pair} (hm : MayP l) (hl : l.length < 1000000) (h0 : 0 < l.length) {i : Nat} (hi : i < (tri l).length) : ∃ u, (tre l).trs[i]? = some u ∧ Pos (tri l) (tre l).trs i u := by
  have he : l ≠ [] := List.length_pos_iff.mp h0
  rw [tri_len h0] at hi
  have h := T.pos (a := tri l) (L := (tre l).trs) (tre l) 0 i ⟨⟨[], [], by rw [tri, if_neg he]; simp, rfl⟩, ⟨[], [], by simp, rfl⟩, tre_fit hm hl h0⟩ hi
  simpa using h
end Go.Lf
/- The document's walk over the trie of pairs. -/
set_option linter.unusedVariables false
set_option linter.unusedSimpArgs false
namespace Go.Lf
open Go
theorem pk_two {x : List Nat} {k : Nat} (h : 2 * k + 1 < x.length) : pk (x.drop (2 * k)) = (16 * x.getD (2 * k) 0 + x.getD (2 * k + 1) 0) :: pk (x.drop (2 * (k + 1))) := by
  rw [drop_cons 0 (show 2 * k < x.length by omega), drop_cons 0 (show 2 * k + 1 < x.length by omega), pk]
  rfl
theorem key02_l0 {s : ByteArray} (hs : s.size ≤ 16) (he : s.size % 2 = 0) (hm : Sml s) : ∀ (n fuel k : Nat) (acc : List Int), s.size = 2 * k + 2 * n → 2 * n < fuel → acc.length ≤ k → ref02_Key.l0 s fuel (acc, ((2 * k : Nat) : Int)) = some (.inl (acc ++ (pk ((B s).drop (2 * k))).map Int.ofNat))
  | 0, 0, k, acc, h, hf, _ => by omega
  | n, fuel + 1, k, acc, h, hf, ha => by
    have ev : ((((s.size : Int).tmod 2) != 0)) = false := by
      have : ((s.size : Int).tmod 2) = ((s.size % 2 : Nat) : Int) := by rw [show (2 : Int) = ((2 : Nat) : Int) from rfl, ← Int.ofNat_tmod]
      rw [this, he]
      rfl
    rw [ref02_Key.l0]
    cases n with
    | zero =>
      rw [bif_false (decide_eq_false (by omega)), List.drop_eq_nil_of_le (by rw [B_len]; omega)]
      simp [pk]
    | succ n =>
      obtain ⟨fuel, rfl⟩ : ∃ f, fuel = f + 1 := ⟨fuel - 1, by omega⟩
      have hb : ∀ i, i < s.size → (B s).getD i 0 < 16 := fun i hi => by
        apply hm
        rw [List.getD_eq_getElem?_getD, List.getElem?_eq_getElem (by rw [B_len]; exact hi), Option.getD_some]
        exact List.getElem_mem _
      have h0 := hb (2 * k) (by omega)
      have h1 := hb (2 * k + 1) (by omega)
      have b0 : bt s ((2 * k : Nat) : Int) = (((B s).getD (2 * k) 0 : Nat) : Int) := bt_B _ _
      have b1 : bt s ((2 * k + 1 : Nat) : Int) = (((B s).getD (2 * k + 1) 0 : Nat) : Int) := bt_B _ _
      have t0 : (((2 * k : Nat) : Int).tmod 2 == 1) = false := by
        have : ((2 * k : Nat) : Int).tmod 2 = ((2 * k % 2 : Nat) : Int) := by rw [show (2 : Int) = ((2 : Nat) : Int) from rfl, ← Int.ofNat_tmod]
        rw [this, Nat.mul_mod_right]
        rfl
      have t1 : (((2 * k + 1 : Nat) : Int).tmod 2 == 1) = true := by
        have : ((2 * k + 1 : Nat) : Int).tmod 2 = (((2 * k + 1) % 2 : Nat) : Int) := by rw [show (2 : Int) = ((2 : Nat) : Int) from rfl, ← Int.ofNat_tmod]
        rw [this, show (2 * k + 1) % 2 = 1 by omega]
        rfl
      rw [bif_true (decide_eq_true (by omega)), gd_pos (by omega), b0, bif_false (decide_eq_false (by omega)), ev, Option.bind_some, bif_false rfl, t0, bif_false rfl]
      simp only [Option.bind_some]
      rw [w64_nat (x := ((2 * k : Nat) : Int) + 1) (k := 2 * k + 1) (by simp) (by omega), ref02_Key.l0]
      have e0 : w64 (((2 * k + 1 : Nat) : Int) - 1) = ((2 * k : Nat) : Int) := w64_nat (by omega) (by omega)
      rw [bif_true (decide_eq_true (by omega)), gd_pos (by omega), b1, bif_false (decide_eq_false (by omega)), ev, Option.bind_some, bif_false rfl, t1, bif_true rfl, e0, gd_pos (by omega), gd_pos (by omega), gd_pos (by omega), b0]
      simp only [Option.bind_some]
      rw [w64_nat (x := ((2 * k + 1 : Nat) : Int) + 1) (k := 2 * (k + 1)) (by omega) (by omega)]
      have hw : wu8 (wu8 ((((B s).getD (2 * k) 0 : Nat) : Int) * 16) + (((B s).getD (2 * k + 1) 0 : Nat) : Int)) = ((16 * (B s).getD (2 * k) 0 + (B s).getD (2 * k + 1) 0 : Nat) : Int) := by
        rw [wu8_id (x := (((B s).getD (2 * k) 0 : Nat) : Int) * 16) (by omega), wu8_id (x := (((B s).getD (2 * k) 0 : Nat) : Int) * 16 + (((B s).getD (2 * k + 1) 0 : Nat) : Int)) (by omega)]
        omega
      rw [hw, key02_l0 hs he hm n fuel (k + 1) _ (by omega) (by omega) (by simp; omega), pk_two (k := k) (by rw [B_len]; omega)]
      simp
theorem key02_ok {s : ByteArray} (hs : s.size ≤ 16) (he : s.size % 2 = 0) (hm : Sml s) : ref02_Key.f s = some ⟨pck s, true⟩ := by
  unfold ref02_Key.f
  have h := key02_l0 hs he hm (s.size / 2) BIG 0 [] (by omega) (by have := BIG_ge; omega) (by simp)
  rw [Nat.mul_zero, show ((0 : Nat) : Int) = 0 from rfl, List.drop_zero] at h
  rw [h]
  simp only [Option.bind_some, List.nil_append]
  congr 2
  apply B_inj
  rw [B_pck hm, B_strOfNums]
  · rw [List.map_map]
    exact (List.map_congr_left (fun _ _ => rfl)).trans (List.map_id _)
  · intro x hx
    obtain ⟨y, hy, rfl⟩ := List.mem_map.mp hx
    have := pk_lt hm y hy
    exact ⟨Int.natCast_nonneg _, by show (y : Int) < 256; omega⟩
/-- The children are met, and nothing beneath them is. -/
def Ks.Hd (met : List Bool) (to : List ByteArray) (q : ByteArray) (br : Bool) : Ks → Nat → Prop
  | .nil, _ => True
  | .cons c t r, b => met.getD b false = true ∧ to.getD b default = (if br then q ++ strOfNums [(c : Int)] else q) ∧ (∀ j, b < j → j < b + t.sz → met.getD j false = false) ∧ r.Hd met to q br (b + t.sz)
theorem Ks.Hd_congr {met met' : List Bool} {to to' : List ByteArray} {q : ByteArray} {br : Bool} : ∀ {ks : Ks} {b : Nat}, (∀ j, b ≤ j → met'.getD j false = met.getD j false ∧ to'.getD j default = to.getD j default) → ks.Hd met to q br b → ks.Hd met' to' q br b
  | .nil, _, _, _ => trivial
  | .cons c t r, b, h, ⟨h1, h2, h3, h4⟩ => by
    refine ⟨by rw [(h b (Nat.le_refl _)).1, h1], by rw [(h b (Nat.le_refl _)).2, h2], fun j hj hj' => by rw [(h j (by omega)).1, h3 j hj hj'], Ks.Hd_congr (fun j hj => h j (by omega)) h4⟩
theorem getD_setN {α : Type} {X : List α} {v u : Nat} {x d : α} (hv : v < X.length) : (X.set v x).getD u d = if u = v then x else X.getD u d := by
  rw [List.getD_eq_getElem?_getD, List.getD_eq_getElem?_getD, List.getElem?_set]
  split
  · rename_i h
    subst h
    simp [hv]
  · rename_i h
    rw [if_neg (fun e => h e.symm)]
theorem kids_l1 {a : List Node} {tf : List ByteArray} {f : Nat} (ha : a.length < 1000000000) {q : ByteArray} (hq : gt tf (f : Int) ++ (gt a (f : Int)).path_ = q) (hqs : q.size ≤ 2000) {br : Bool} (hbr : ((gt a (f : Int)).kind_ == 3) = br) :
    ∀ (fuel m : Nat) (ks : Ks) (bk : Nat) (met : List Bool) (to : List ByteArray), 16 - m < fuel → m ≤ 16 → ks.at bk (gt a (f : Int)).kids_ m → f < bk → bk + ks.sz ≤ a.length → met.length = a.length → to.length = a.length →
      (∀ j, bk ≤ j → j < bk + ks.sz → met.getD j false = false) →
      ∃ met' to', ref10_Pairs.l1 a tf f fuel (met, to, (m : Int)) = some (.inl (met', to')) ∧ met'.length = a.length ∧ to'.length = a.length ∧ ks.Hd met' to' q br bk ∧ ∀ j, (j < bk ∨ bk + ks.sz ≤ j) → met'.getD j false = met.getD j false ∧ to'.getD j default = to.getD j default
  | 0, m, ks, bk, met, to, h, _, _, _, _, _, _, _ => by omega
  | fuel + 1, m, ks, bk, met, to, h, hm, hat, hfb, hsz, hml, htl, hnm => by
    rw [ref10_Pairs.l1]
    rcases Nat.lt_or_ge m 16 with h16 | h16
    · rw [bif_true (decide_eq_true (by omega)), gd_pos (by omega), w64_nat (x := (m : Int) + 1) (k := m + 1) (by simp) (by omega)]
      rcases Ks.at_step hat h16 with ⟨h0, hat'⟩ | ⟨t, r, rfl, h0, hat'⟩
      · rw [h0, bif_true (c := (0 : Int) == 0) rfl]
        simp only [Option.bind_some]
        exact kids_l1 ha hq hqs hbr fuel (m + 1) ks bk met to (by omega) (by omega) hat' hfb hsz hml htl hnm
      · have hpos := T.sz_pos t
        have hksz : (Ks.cons m t r).sz = t.sz + r.sz := rfl
        have hne : ((bk : Int) == 0) = false := by rw [beq_eq_false_iff_ne]; omega
        have hg : gt met (bk : Int) = false := by
          have := hnm bk (Nat.le_refl _) (by omega)
          exact this
        have hset1 : (to.set bk q).length = a.length := by rw [List.length_set, htl]
        have hgs : gt (to.set bk q) (bk : Int) = q := by rw [gt_nat, getD_setN (by omega), if_pos rfl]
        rw [h0, hne, bif_false rfl, bif_false (decide_eq_false (by omega)), bif_false (decide_eq_false (by omega)), gd_pos (by omega), hg, Option.bind_some, bif_false rfl, gd_pos (by omega), gd_pos (by omega), hbr, Int.toNat_natCast, hq]
        have key : (bif br then
                    gd (0 ≤ (bk : Int) ∧ (bk : Int) < ((to.set bk q).length : Int)) <|
                    gd ((gt (to.set bk q) (bk : Int)).size + (strOfNums [wu8 (m : Int)]).size ≤ 9223372036854775807) <|
                    gd (0 ≤ (bk : Int) ∧ (bk : Int) < ((to.set bk q).length : Int)) <|
                    some (.inl (met.set bk true, (to.set bk q).set bk ((gt (to.set bk q) (bk : Int)) ++ (strOfNums [wu8 (m : Int)]))))
                  else
                    some (.inl (met.set bk true, to.set bk q)) : Option ((List Bool × List ByteArray) ⊕ ref10_Got_T)) = some (.inl (met.set bk true, to.set bk (if br then q ++ strOfNums [(m : Int)] else q))) := by
          cases br
          · rfl
          · rw [bif_true rfl, hset1, gd_pos (by omega), hgs, gd_pos (by rw [strOfNums_size]; simp; omega), gd_pos (by omega), wu8_id (x := (m : Int)) (by omega), List.set_set]
            rfl
        rw [key]
        simp only [Option.bind_some]
        obtain ⟨met', to', e1, e2, e3, e4, e5⟩ := kids_l1 ha hq hqs hbr fuel (m + 1) r (bk + t.sz) (met.set bk true) (to.set bk (if br then q ++ strOfNums [(m : Int)] else q)) (by omega) (by omega) hat' (by omega) (by omega) (by rw [List.length_set]; exact hml) (by rw [List.length_set]; exact htl) (fun j hj hj' => by
          rw [getD_setN (by omega), if_neg (by omega)]
          exact hnm j (by omega) (by omega))
        refine ⟨met', to', e1, e2, e3, ⟨?_, ?_, fun j hj hj' => ?_, e4⟩, fun j hj => ?_⟩
        · rw [(e5 bk (by omega)).1, getD_setN (by omega), if_pos rfl]
        · rw [(e5 bk (by omega)).2, getD_setN (by omega), if_pos rfl]
        · rw [(e5 j (by omega)).1, getD_setN (by omega), if_neg (by omega)]
          exact hnm j (by omega) (by omega)
        · obtain ⟨g1, g2⟩ := e5 j (by omega)
          rw [g1, g2, getD_setN (by omega), getD_setN (by omega), if_neg (by omega), if_neg (by omega)]
          exact ⟨rfl, rfl⟩
    · rw [bif_false (decide_eq_false (by omega))]
      have : ks = .nil := by
        cases ks with
        | nil => rfl
        | cons c t r =>
          obtain ⟨h1, h2, -⟩ := hat
          omega
      subst this
      exact ⟨met, to, rfl, hml, htl, trivial, fun j _ => ⟨rfl, rfl⟩⟩
theorem fit_short {l : Lab} {ks : Ks} {p : ByteArray} (hf : (T.node l ks).fit) (hw : (T.node l ks).wf p) (hc : ∀ x ∈ (T.node l ks).prs p, x.1.size ≤ 16) : (p ++ l.path).size ≤ 16 := by
  obtain ⟨-, -, -, h4, -⟩ := hf
  obtain ⟨-, -, -, -, w5⟩ := hw
  by_cases hh : l.has = true
  · have := hc (p ++ l.path, l.value) (by rw [T.prs, if_pos hh]; simp)
    exact this
  · cases ks with
    | nil =>
      rcases h4 with ⟨-, k2, -⟩ | ⟨-, -, -, t, k4⟩ | ⟨-, -, k3 | ⟨k3, -⟩⟩
      · exact absurd k2 hh
      · cases k4
      · simp [Ks.cnt] at k3
      · exact absurd k3 hh
    | cons c t r =>
      have h1 := w5.1
      obtain ⟨lab, ks'⟩ := t
      have h2 := h1.1
      split at h2
      · rw [app_size] at h2
        omega
      · exact h2
mutual
theorem T.rp {a : List Node} (ha : a.length < 1000000) : ∀ (t : T) (b : Nat) (p : ByteArray) (met : List Bool) (to : List ByteArray) (L : List Pair), Lies a b t → t.fit → t.wf p → (∀ x ∈ t.prs p, x.1.size ≤ 16) → met.length = a.length → to.length = a.length →
    (0 < b → met.getD b false = true) → to.getD b default = p → (∀ j, b < j → j < b + t.sz → met.getD j false = false) → L.length ≤ b →
    ∃ met' to', (∀ fuel, ref10_Pairs.l0 a (fuel + t.sz) (met, L, to, (b : Int)) = ref10_Pairs.l0 a fuel (met', L ++ (t.prs p).map prp, to', ((b + t.sz : Nat) : Int))) ∧ met'.length = a.length ∧ to'.length = a.length ∧ ∀ j, (j ≤ b ∨ b + t.sz ≤ j) → met'.getD j false = met.getD j false ∧ to'.getD j default = to.getD j default
  | .node l ks, b, p, met, to, L, hl, hf, hw, hc, hml, htl, hmb, htb, hint, hL => by
    have hlt := hl.lt
    have hsz : (T.node l ks).sz = ks.sz + 1 := rfl
    have hshort := fit_short hf hw hc
    have hg := hl.get
    obtain ⟨w1, w2, w3, w4, w5⟩ := hw
    obtain ⟨⟨f1, f2, f3⟩, f4, f5, f6, f7⟩ := hf
    have e1 : (gt a (b : Int)).path_ = l.path := by rw [hg]; rfl
    have e2 : (gt a (b : Int)).has_ = l.has := by rw [hg]; rfl
    have e3 : (gt a (b : Int)).value_ = l.value := by rw [hg]; rfl
    have e4 : (gt a (b : Int)).kind_ = l.kind := by rw [hg]; rfl
    have e5 : gt to (b : Int) = p := htb
    have hat : ks.at (b + 1) (gt a (b : Int)).kids_ 0 := by rw [hg]; exact Ks.at_vec0 f4
    obtain ⟨met1, to1, k1, k2, k3, k4, k5⟩ := kids_l1 (a := a) (tf := to) (f := b) (by omega) (q := p ++ l.path) (by rw [e5, e1]) (by omega) (br := l.kind == 3) (by rw [e4]) BIG 0 ks (b + 1) met to (by have := BIG_ge; omega) (by omega) hat (by omega) (by omega) hml htl (fun j hj hj' => hint j (by omega) (by omega))
    rw [show ((0 : Nat) : Int) = 0 from rfl] at k1
    obtain ⟨met2, to2, r1, r2, r3, r4⟩ := Ks.rp ha ks (b + 1) (p ++ l.path) (l.kind == 3) met1 to1 (L ++ if l.has then [prp (p ++ l.path, l.value)] else []) hl.kids f7 w5 (fun x hx => hc x (by rw [T.prs]; exact List.mem_append_right _ hx)) k4 k2 k3 (by split <;> simp <;> omega)
    refine ⟨met2, to2, fun fuel => ?_, r2, r3, fun j hj => ?_⟩
    · rw [hsz, ← Nat.add_assoc, ref10_Pairs.l0]
      have c1 : (bif decide ((b : Int) > 0) then
            gd (0 ≤ (b : Int) ∧ (b : Int) < (met.length : Int)) <|
            some (!(gt met (b : Int)))
          else
            some false) = some false := by
        by_cases hb : 0 < b
        · have hmt : gt met (b : Int) = true := by
            have := hmb hb
            rw [gt_nat]
            rw [List.getD_eq_getElem?_getD, List.getElem?_eq_getElem (by omega)] at this ⊢
            exact this
          rw [bif_true (decide_eq_true (by omega)), gd_pos (by omega), hmt]
          rfl
        · rw [bif_false (decide_eq_false (by omega))]
      rw [bif_true (decide_eq_true (by omega)), c1, Option.bind_some, bif_false rfl, gd_pos (by omega), gd_pos (by omega), e5, e1, gd_pos (by omega), bif_false (decide_eq_false (by omega)), Option.bind_some, bif_false (decide_eq_false (by omega)), e2, e3]
      have c2 : (bif l.has then
                    (ref02_Key.f (p ++ l.path)).bind fun y8322 =>
                    bif !y8322.ok_ then
                      some (.inr (⟨([] : List Pair), false⟩ : ref10_Got_T))
                    else
                      gd (L.length + 1 ≤ 274877906944) <|
                      some (.inl (L ++ [(⟨y8322.s_, l.value⟩ : Pair)]))
                  else
                    some (.inl L) : Option ((List Pair) ⊕ ref10_Got_T)) = some (.inl (L ++ if l.has then [prp (p ++ l.path, l.value)] else [])) := by
        cases hh : l.has
        · simp
        · obtain ⟨v1, v2⟩ := w3 hh
          rw [bif_true rfl, key02_ok hshort v1 v2, Option.bind_some]
          simp only [Bool.not_true]
          rw [bif_false rfl, gd_pos (by omega)]
          rfl
      rw [c2]
      simp only [Option.bind_some]
      rw [k1]
      simp only [Option.bind_some]
      rw [w64_nat (x := (b : Int) + 1) (k := b + 1) (by simp) (by omega), r1 fuel]
      rw [T.prs, List.map_append]
      have : (if l.has = true then [prp (p ++ l.path, l.value)] else []) = List.map prp (if l.has = true then [(p ++ l.path, l.value)] else []) := by split <;> rfl
      rw [this, List.append_assoc, show b + 1 + ks.sz = b + (ks.sz + 1) by omega]
    · obtain ⟨g1, g2⟩ := r4 j (by omega)
      obtain ⟨g3, g4⟩ := k5 j (by omega)
      exact ⟨by rw [g1, g3], by rw [g2, g4]⟩
theorem Ks.rp {a : List Node} (ha : a.length < 1000000) : ∀ (ks : Ks) (b : Nat) (q : ByteArray) (br : Bool) (met : List Bool) (to : List ByteArray) (L : List Pair), ks.all (fun t i => Lies a i t) b → ks.fit → ks.wf q br → (∀ x ∈ ks.prs q br, x.1.size ≤ 16) → ks.Hd met to q br b → met.length = a.length → to.length = a.length → L.length ≤ b →
    ∃ met' to', (∀ fuel, ref10_Pairs.l0 a (fuel + ks.sz) (met, L, to, (b : Int)) = ref10_Pairs.l0 a fuel (met', L ++ (ks.prs q br).map prp, to', ((b + ks.sz : Nat) : Int))) ∧ met'.length = a.length ∧ to'.length = a.length ∧ ∀ j, (j < b ∨ b + ks.sz ≤ j) → met'.getD j false = met.getD j false ∧ to'.getD j default = to.getD j default
  | .nil, b, q, br, met, to, L, _, _, _, _, _, hml, htl, _ => ⟨met, to, fun fuel => by simp [Ks.sz, Ks.prs], hml, htl, fun _ _ => ⟨rfl, rfl⟩⟩
  | .cons c t r, b, q, br, met, to, L, hl, hf, hw, hc, hh, hml, htl, hL => by
    obtain ⟨h1, h2, h3, h4⟩ := hh
    have hp := T.prs_len t (if br then q ++ strOfNums [(c : Int)] else q)
    have hpos := T.sz_pos t
    obtain ⟨met1, to1, k1, k2, k3, k4⟩ := T.rp ha t b (if br then q ++ strOfNums [(c : Int)] else q) met to L hl.1 hf.1 hw.1 (fun x hx => hc x (by rw [Ks.prs]; exact List.mem_append_left _ hx)) hml htl (fun _ => h1) h2 h3 hL
    obtain ⟨met2, to2, r1, r2, r3, r4⟩ := Ks.rp ha r (b + t.sz) q br met1 to1 (L ++ (t.prs (if br then q ++ strOfNums [(c : Int)] else q)).map prp) hl.2 hf.2 hw.2 (fun x hx => hc x (by rw [Ks.prs]; exact List.mem_append_right _ hx)) (Ks.Hd_congr (fun j hj => k4 j (by omega)) h4) k2 k3 (by simp; omega)
    refine ⟨met2, to2, fun fuel => ?_, r2, r3, fun j hj => ?_⟩
    · rw [Ks.sz, show fuel + (t.sz + r.sz) = (fuel + r.sz) + t.sz by omega, k1, r1, Ks.prs, List.map_append, List.append_assoc, Nat.add_assoc]
    · rw [Ks.sz] at hj
      obtain ⟨g1, g2⟩ := r4 j (by omega)
      obtain ⟨g3, g4⟩ := k4 j (by omega)
      exact ⟨by rw [g1, g3], by rw [g2, g4]⟩
end
theorem rsame_l0 {a : List Node} (ha : a.length < 1000000000) : ∀ (fuel i : Nat), a.length - i < fuel → ref10_Same.l0 a a fuel i = some (.inl ())
  | 0, i, h => by omega
  | fuel + 1, i, h => by
    rw [ref10_Same.l0]
    rcases Nat.lt_or_ge i a.length with hi | hi
    · have g : 0 ≤ (i : Int) ∧ (i : Int) < (a.length : Int) := by omega
      rw [bif_true (decide_eq_true g.2), gd_pos g, gd_pos g, w64_nat (x := (i : Int) + 1) (k := i + 1) (by simp) (by omega)]
      have : eq_Node (gt a (i : Int)) (gt a (i : Int)) = true := by simp [eq_Node]
      rw [this, bif_false (c := !true) rfl]
      exact rsame_l0 ha fuel (i + 1) (by omega)
    · rw [bif_false (decide_eq_false (by omega))]
theorem rsame_ok {a : List Node} (ha : a.length < 1000000000) : ref10_Same.f a a = some true := by
  unfold ref10_Same.f
  rw [bif_false (c := (a.length : Int) != (a.length : Int)) (by simp)]
  have := rsame_l0 ha BIG 0 (by have := BIG_ge; omega)
  rw [show ((0 : Nat) : Int) = 0 from rfl] at this
  rw [this]
  rfl
theorem rpairs_ok {l : List Pair} (hm : MayP l) (hl : l.length < 10000) : ref10_Pairs.f (tri l) = some ⟨l, true⟩ := by
  unfold ref10_Pairs.f
  by_cases he : l = []
  · subst he
    have e : tri ([] : List Pair) = [] := rfl
    obtain ⟨B, hB⟩ : ∃ B, BIG = B + 1 := ⟨BIG - 1, by have := BIG_ge; omega⟩
    have hb := Build2_ok hm (by simp)
    rw [e] at hb ⊢
    rw [gd_pos (by simp), gd_pos (by simp), hB, ref10_Pairs.l0, bif_false (by simp)]
    simp only [Option.bind_some]
    rw [hb]
    simp only [Option.bind_some, Bool.not_true]
    rw [bif_false rfl, rsame_ok (by simp)]
    rfl
  · have h0 : 0 < l.length := List.length_pos_iff.mpr he
    have hsz := tre_sz (l := l) (by omega) h0
    have htl := tri_len (l := l) h0
    have hpos := T.sz_pos (tre l)
    have hprs := tre_prs hm (by omega) h0
    obtain ⟨met', to', r1, -, -, -⟩ := T.rp (a := tri l) (by omega) (tre l) 0 ⟨#[]⟩ (List.replicate (tri l).length false) (List.replicate (tri l).length ⟨#[]⟩) [] ⟨[], [], by rw [tri, if_neg he]; simp, rfl⟩ (tre_fit hm (by omega) h0) (tre_wf hm (by omega) h0) (fun x hx => by
      have hmem : prp x ∈ l := by
        rw [← hprs]
        exact List.mem_map.mpr ⟨x, hx, rfl⟩
      obtain ⟨i, hi, e⟩ := List.mem_iff_getElem.mp hmem
      have h1 := (hm i hi).2.1
      have h2 : key l i = pck x.1 := by
        unfold key
        rw [List.getD_eq_getElem?_getD, List.getElem?_eq_getElem hi, Option.getD_some, e]
        rfl
      rw [h2] at h1
      have h3 : (pck x.1).size = (x.1.size + 1) / 2 := by
        unfold pck
        rw [← B_len]
        have : ∀ y : List Nat, (B (S y)).length = y.length := by
          intro y
          simp [B, S]
        rw [this, pk_len, B_len]
      omega) (by simp) (by simp) (by omega) (by
        rw [List.getD_eq_getElem?_getD, List.getElem?_replicate, if_pos (by omega)]
        rfl) (fun j _ hj => by
        rw [List.getD_eq_getElem?_getD, List.getElem?_replicate]
        split <;> rfl) (by simp)
    rw [hprs] at r1
    simp only [List.nil_append, Nat.zero_add] at r1
    obtain ⟨B, hB⟩ : ∃ B, BIG = (B + 1) + (tre l).sz := ⟨BIG - 1 - (tre l).sz, by have := BIG_ge; omega⟩
    rw [show ((0 : Nat) : Int) = 0 from rfl] at r1
    rw [gd_pos (by omega), gd_pos (by omega), Int.toNat_natCast, hB, r1, ref10_Pairs.l0, bif_false (decide_eq_false (by omega))]
    simp only [Option.bind_some]
    rw [Build2_ok hm (by omega)]
    simp only [Option.bind_some, Bool.not_true]
    rw [bif_false rfl, rsame_ok (by omega)]
    rfl
theorem rgood_ok {l : List Pair} (hm : MayP l) (hl : l.length < 10000) : ref10_Good.f (tri l) = some true := by
  unfold ref10_Good.f
  rw [rpairs_ok hm hl]
  rfl
end Go.Lf
/- A trie is short (the part of M46 that needs no walk of a key). -/
set_option linter.unusedVariables false
set_option linter.unusedSimpArgs false
namespace Go.Lf
open Go
theorem tri_short {l : List Pair} (hl : l.length < 10000) : (tri l).length < 1000000 := by
  by_cases he : l = []
  · subst he
    simp [tri]
  · have h0 : 0 < l.length := List.length_pos_iff.mpr he
    have htl := tri_len (l := l) h0
    have hsz := tre_sz (l := l) (by omega) h0
    omega
end Go.Lf
/- The program's and the document's word on any list of nodes: both say yes just to tries of pairs. -/
set_option linter.unusedVariables false
set_option linter.unusedSimpArgs false
namespace Go.Lf
open Go
/-- Lists of nodes that are gone through here. -/
def Sm (a : List Node) : Prop := a.length ≤ 1000 ∧ ∀ i : Nat, (gt a (i : Int)).path_.size ≤ 100000
def Bd (a : List Node) (n : Nat) (i : Int) (L : List Pair) (ps : List ByteArray) : Prop := ∃ n' : Nat, i = (n' : Int) ∧ n ≤ n' ∧ n' ≤ a.length ∧ L.length ≤ n' ∧ ps.length ≤ n'
theorem Bd.mono {a : List Node} {n m : Nat} {i : Int} {L : List Pair} {ps : List ByteArray} (h : Bd a n i L ps) (hm : m ≤ n) : Bd a m i L ps := by
  obtain ⟨n', h1, h2, h3⟩ := h
  exact ⟨n', h1, by omega, h3⟩
def WT (a : List Node) (kk : Nat) (rc : Rec) : Prop := ∀ (n : Nat) (L : List Pair) (ps : List ByteArray) (k : Int) (p : ByteArray), a.length - n < kk → n ≤ a.length → L.length ≤ n → ps.length ≤ n → p.size ≤ 200000 → ∃ b i L' ps', rc a (n : Int) L ps k p = some (b, i, L', ps') ∧ Bd a n i L' ps'
theorem wpair_ok {a : List Node} {n : Int} {L : List Pair} {ps : List ByteArray} {s v : ByteArray} (hs : s.size < 1000000) (hL : L.length < 1000000) : ∃ b L', trie_walker_pair.f a n L ps s v = some (b, L') ∧ L'.length = L.length + 1 := by
  unfold trie_walker_pair.f
  rcases key_ok (s := s) hs with ⟨-, -, h⟩ | ⟨-, h⟩
  · rw [h]
    simp only [Option.bind_some]
    rw [gd_pos (by omega)]
    exact ⟨_, _, rfl, by simp⟩
  · rw [h]
    simp only [Option.bind_some]
    rw [gd_pos (by omega)]
    exact ⟨_, _, rfl, by simp⟩
theorem wt_l0 {a : List Node} (hz : Sm a) {f : Nat} {p : ByteArray} (hp : p.size ≤ 16) {kk : Nat} {rc : Rec} (hrc : WT a kk rc) : ∀ (fuel m n : Nat) (L : List Pair) (ps : List ByteArray), 16 - m < fuel → a.length - n < kk → n ≤ a.length → L.length ≤ n → ps.length ≤ n →
    (∃ L' ps' i, trie_walker_walk.l0 a f p rc fuel (L, ps, (n : Int), (m : Int)) = some (.inl (L', ps', i)) ∧ Bd a n i L' ps') ∨ (∃ b i L' ps', trie_walker_walk.l0 a f p rc fuel (L, ps, (n : Int), (m : Int)) = some (.inr (b, i, L', ps')) ∧ Bd a n i L' ps')
  | 0, m, n, L, ps, h, _, _, _, _ => by omega
  | fuel + 1, m, n, L, ps, h, hk, hn, hL, hps => by
    obtain ⟨z1, z2⟩ := hz
    have zf := z2 f
    rw [trie_walker_walk.l0]
    rcases Nat.lt_or_ge m 16 with h16 | h16
    · rw [bif_true (decide_eq_true (by omega)), gd_pos (by omega)]
      have hq : ∃ q : ByteArray, (bif (gt a (f : Int)).kind_ == 3 then
            gd ((p ++ (gt a (f : Int)).path_).size + (strOfNums [wu8 (m : Int)]).size ≤ 9223372036854775807) <|
            some ((p ++ (gt a (f : Int)).path_) ++ (strOfNums [wu8 (m : Int)]))
          else
            some (p ++ (gt a (f : Int)).path_)) = some q ∧ q.size ≤ 200000 := by
        cases (gt a (f : Int)).kind_ == 3
        · exact ⟨_, rfl, by rw [app_size]; omega⟩
        · rw [bif_true rfl, gd_pos (by rw [strOfNums_size, app_size]; simp; omega)]
          exact ⟨_, rfl, by rw [app_size, strOfNums_size, app_size]; simp; omega⟩
      obtain ⟨q, q1, q2⟩ := hq
      rw [q1, Option.bind_some, w64_nat (x := (m : Int) + 1) (k := m + 1) (by simp) (by omega)]
      by_cases hv : vg (gt a (f : Int)).kids_ (m : Int) = 0
      · rw [hv, bif_false (c := (0 : Int) != 0) rfl]
        simp only [Option.bind_some]
        rw [bif_false rfl]
        exact wt_l0 ⟨z1, z2⟩ hp hrc fuel (m + 1) n L ps (by omega) hk hn hL hps
      · rw [bif_true (by simpa using hv)]
        obtain ⟨b, i, L', ps', r1, r2⟩ := hrc n L ps (vg (gt a (f : Int)).kids_ (m : Int)) q hk hn hL hps q2
        rw [r1]
        simp only [Option.bind_some]
        cases b
        · rw [bif_true (c := !false) rfl]
          exact .inr ⟨_, _, _, _, rfl, r2⟩
        · rw [bif_false (c := !true) rfl]
          obtain ⟨n', e, b1, b2, b3, b4⟩ := r2
          subst e
          rcases wt_l0 ⟨z1, z2⟩ hp hrc fuel (m + 1) n' L' ps' (by omega) (by omega) b2 b3 b4 with ⟨L2, ps2, i2, g1, g2⟩ | ⟨b', i2, L2, ps2, g1, g2⟩
          · exact .inl ⟨_, _, _, g1, g2.mono b1⟩
          · exact .inr ⟨_, _, _, _, g1, g2.mono b1⟩
    · rw [bif_false (decide_eq_false (by omega))]
      exact .inl ⟨_, _, _, rfl, n, rfl, Nat.le_refl _, hn, hL, hps⟩
theorem wt_walk {a : List Node} (hz : Sm a) : ∀ kk, WT a kk (trie_walker_walk.f kk)
  | 0 => fun n L ps k p h => by omega
  | kk + 1 => by
    intro n L ps k p h hn hL hps hp
    obtain ⟨z1, z2⟩ := hz
    rw [trie_walker_walk.f]
    have stop : ∃ b i L' ps', (some (false, (n : Int), L, ps) : Option (Bool × Int × List Pair × List ByteArray)) = some (b, i, L', ps') ∧ Bd a n i L' ps' := ⟨_, _, _, _, rfl, n, rfl, Nat.le_refl _, hn, hL, hps⟩
    by_cases c1 : k = (n : Int)
    · subst c1
      rw [bif_false (c := (n : Int) != (n : Int)) (by simp)]
      by_cases c2 : n < a.length
      · rw [bif_false (decide_eq_false (by omega)), Option.bind_some]
        by_cases c3 : p.size ≤ 16
        · have zn := z2 n
          have hb := BIG_ge
          have e1 : w64 ((n : Int) + 1) = ((n + 1 : Nat) : Int) := w64_nat (by simp) (by omega)
          rw [bif_false (decide_eq_false (by omega)), gd_pos (by omega), gd_pos (by omega), gd_pos (by omega), e1]
          have go : ∀ L1 : List Pair, L1.length ≤ n + 1 → ∃ b i L' ps', ((trie_walker_walk.l0 a (n : Int) p (trie_walker_walk.f kk) BIG (L1, ps ++ [p], ((n + 1 : Nat) : Int), 0)).bind fun
    | .inl (y721, y726, y731) =>
      some (true, y731, y721, y726)
    | .inr r925 =>
      some r925) = some (b, i, L', ps') ∧ Bd a n i L' ps' := fun L1 hL1 => by
            rcases wt_l0 ⟨z1, z2⟩ (f := n) c3 (wt_walk ⟨z1, z2⟩ kk) BIG 0 (n + 1) L1 (ps ++ [p]) (by omega) (by omega) (by omega) hL1 (by simp; omega) with ⟨L2, ps2, i2, g1, g2⟩ | ⟨b', i2, L2, ps2, g1, g2⟩
            · rw [show ((0 : Nat) : Int) = 0 from rfl] at g1
              rw [g1]
              exact ⟨_, _, _, _, rfl, g2.mono (by omega)⟩
            · rw [show ((0 : Nat) : Int) = 0 from rfl] at g1
              rw [g1]
              exact ⟨_, _, _, _, rfl, g2.mono (by omega)⟩
          cases hh : (gt a (n : Int)).has_
          · rw [bif_false rfl]
            simp only [Option.bind_some]
            rw [bif_false rfl]
            exact go L (by omega)
          · obtain ⟨b, L1, w1, w2⟩ := wpair_ok (a := a) (n := ((n + 1 : Nat) : Int)) (L := L) (ps := ps ++ [p]) (s := p ++ (gt a (n : Int)).path_) (v := (gt a (n : Int)).value_) (by rw [app_size]; omega) (by omega)
            rw [bif_true rfl, w1]
            simp only [Option.bind_some]
            cases b
            · rw [bif_true (c := !false) rfl]
              exact ⟨_, _, _, _, rfl, n + 1, rfl, by omega, by omega, by omega, by simp; omega⟩
            · rw [bif_false (c := !true) rfl]
              exact go L1 (by omega)
        · rw [bif_true (decide_eq_true (by omega))]
          exact stop
      · rw [bif_true (decide_eq_true (by omega)), Option.bind_some, bif_true rfl]
        exact stop
    · rw [bif_true (c := k != (n : Int)) (by simpa using c1), Option.bind_some, bif_true rfl]
      exact stop
theorem tsame_l0 {x y : List Node} (hx : x.length < 1000000000) (hxy : x.length = y.length) : ∀ (fuel i : Nat), x.length - i < fuel → (trie_Same.l0 x y fuel (i : Int) = some (.inl ()) ∧ x.drop i = y.drop i) ∨ trie_Same.l0 x y fuel (i : Int) = some (.inr false)
  | 0, i, h => by omega
  | fuel + 1, i, h => by
    rw [trie_Same.l0]
    rcases Nat.lt_or_ge i x.length with hi | hi
    · rw [bif_true (decide_eq_true (by omega)), gd_pos (by omega), gd_pos (by omega), gt_nat, gt_nat, w64_nat (x := (i : Int) + 1) (k := i + 1) (by simp) (by omega)]
      unfold eq_Node
      rw [drop_cons default hi, drop_cons default (show i < y.length by omega)]
      by_cases he : x.getD i default = y.getD i default
      · rw [decide_eq_true he, bif_false (c := !true) rfl]
        rcases tsame_l0 hx hxy fuel (i + 1) (by omega) with ⟨h1, h2⟩ | h1
        · exact .inl ⟨h1, by rw [he, h2]⟩
        · exact .inr h1
      · rw [decide_eq_false he, bif_true (c := !false) rfl]
        exact .inr rfl
    · rw [bif_false (decide_eq_false (by omega)), List.drop_eq_nil_of_le hi, List.drop_eq_nil_of_le (by omega)]
      exact .inl ⟨rfl, rfl⟩
theorem tsame_any {x y : List Node} (hx : x.length < 1000000000) : ∃ g, trie_Same.f x y = some g ∧ (g = true → x = y) := by
  unfold trie_Same.f
  by_cases hl : x.length = y.length
  · rw [bif_false (c := (x.length : Int) != (y.length : Int)) (by simp [hl])]
    have h := tsame_l0 hx hl BIG 0 (by have := BIG_ge; omega)
    rw [show ((0 : Nat) : Int) = 0 from rfl, List.drop_zero, List.drop_zero] at h
    rcases h with ⟨h1, h2⟩ | h1
    · rw [h1]; exact ⟨_, rfl, fun _ => h2⟩
    · rw [h1]; exact ⟨_, rfl, fun h => by cases h⟩
  · rw [bif_true (c := (x.length : Int) != (y.length : Int)) (by simp; omega)]
    exact ⟨_, rfl, fun h => by cases h⟩
/-- Yes means: a trie of pairs. -/
def Yes (a : List Node) (g : Bool) : Prop := g = true → ∃ l, MayP l ∧ l.length ≤ a.length ∧ a = tri l
theorem tgood_any {a : List Node} (hz : Sm a) : ∃ g, trie_Good.f a = some g ∧ Yes a g := by
  unfold trie_Good.f trie_walked.f
  have z1 := hz.1
  have key : ∀ (i : Int) (L : List Pair) (ps : List ByteArray), L.length ≤ a.length → ∃ g, (((trie_Build.f L).bind fun (y630, y631) =>
  (
      bif y631 then
        (trie_Same.f a y630).bind fun y46 =>
        some y46
      else
        some false).bind fun y42 =>
  some ((⟨a, i, L, ps⟩ : trie_walker_T), y42)).bind fun (y55, y56) => some y56) = some g ∧ Yes a g := fun i L ps hL => by
    by_cases hm : MayP L
    · rw [Build_ok hm (by omega)]
      simp only [Option.bind_some]
      obtain ⟨g, g1, g2⟩ := tsame_any (x := a) (y := tri L) (by omega)
      rw [bif_true rfl, g1]
      exact ⟨g, rfl, fun h => ⟨L, hm, hL, g2 h⟩⟩
    · have hb : trie_Build.f L = some (([] : List Node), false) := by
        unfold trie_Build.f
        rcases tmay_ok (l := L) (by omega) with ⟨h, -⟩ | ⟨-, h⟩
        · exact absurd h hm
        · rw [h]; rfl
      rw [hb]
      exact ⟨false, rfl, fun h => by cases h⟩
  by_cases he : 0 < a.length
  · obtain ⟨b, i, L, ps, w1, n', w2, w3, w4, w5, w6⟩ := wt_walk hz BIG 0 [] [] 0 ⟨#[]⟩ (by have := BIG_ge; omega) (by omega) (by simp) (by simp) (by decide)
    rw [show ((0 : Nat) : Int) = 0 from rfl] at w1
    rw [bif_true (c := decide ((a.length : Int) > 0)) (decide_eq_true (by omega)), w1]
    simp only [Option.bind_some]
    cases b
    · rw [bif_true (c := !false) rfl]
      exact ⟨false, rfl, fun h => by cases h⟩
    · rw [bif_false (c := !true) rfl]
      exact key i L ps (by omega)
  · rw [bif_false (c := decide ((a.length : Int) > 0)) (decide_eq_false (by omega))]
    simp only [Option.bind_some]
    rw [bif_false rfl]
    exact key 0 [] [] (by simp)
end Go.Lf
/- The document's word on any list of nodes; both words are one. -/
set_option linter.unusedVariables false
set_option linter.unusedSimpArgs false
namespace Go.Lf
open Go
theorem rkey_l0 {s : ByteArray} (hs : s.size ≤ 16) : ∀ (fuel i : Nat) (acc : List Int), s.size - i < fuel → acc.length ≤ i → ∃ r, ref02_Key.l0 s fuel (acc, (i : Int)) = some r
  | 0, i, acc, h, _ => by omega
  | fuel + 1, i, acc, h, ha => by
    rw [ref02_Key.l0]
    rcases Nat.lt_or_ge i s.size with hi | hi
    · have e1 : w64 ((i : Int) + 1) = ((i + 1 : Nat) : Int) := w64_nat (by simp) (by omega)
      have hc : ∃ c, (gd (0 ≤ (i : Int) ∧ (i : Int) < (s.size : Int)) <|
          bif decide ((bt s (i : Int)) > 15) then
            some true
          else
            some (((s.size : Int).tmod 2) != 0)) = some c := by
        rw [gd_pos (by omega)]
        cases decide ((bt s (i : Int)) > 15)
        · exact ⟨_, rfl⟩
        · exact ⟨_, rfl⟩
      obtain ⟨c, hc⟩ := hc
      rw [bif_true (decide_eq_true (by omega)), hc, Option.bind_some, e1]
      cases c
      · rw [bif_false rfl]
        by_cases ho : i % 2 = 1
        · have t1 : (((i : Nat) : Int).tmod 2 == 1) = true := by
            have : ((i : Nat) : Int).tmod 2 = ((i % 2 : Nat) : Int) := by rw [show (2 : Int) = ((2 : Nat) : Int) from rfl, ← Int.ofNat_tmod]
            rw [this, ho]
            rfl
          have e0 : w64 ((i : Int) - 1) = ((i - 1 : Nat) : Int) := w64_nat (by omega) (by omega)
          rw [t1, bif_true rfl, e0, gd_pos (by omega), gd_pos (by omega), gd_pos (by omega)]
          simp only [Option.bind_some]
          exact rkey_l0 hs fuel (i + 1) _ (by omega) (by simp; omega)
        · have t0 : (((i : Nat) : Int).tmod 2 == 1) = false := by
            have : ((i : Nat) : Int).tmod 2 = ((i % 2 : Nat) : Int) := by rw [show (2 : Int) = ((2 : Nat) : Int) from rfl, ← Int.ofNat_tmod]
            rw [this, show i % 2 = 0 by omega]
            rfl
          rw [t0, bif_false rfl]
          simp only [Option.bind_some]
          exact rkey_l0 hs fuel (i + 1) acc (by omega) (by omega)
      · rw [bif_true rfl]
        exact ⟨_, rfl⟩
    · rw [bif_false (decide_eq_false (by omega))]
      exact ⟨_, rfl⟩
theorem rkey_any {s : ByteArray} (hs : s.size ≤ 16) : ∃ r, ref02_Key.f s = some r := by
  unfold ref02_Key.f
  obtain ⟨r, h⟩ := rkey_l0 hs BIG 0 [] (by have := BIG_ge; omega) (by simp)
  rw [show ((0 : Nat) : Int) = 0 from rfl] at h
  rw [h]
  cases r
  · exact ⟨_, rfl⟩
  · exact ⟨_, rfl⟩
def Sz (to : List ByteArray) : Prop := ∀ j : Nat, (to.getD j default).size ≤ 17
theorem Sz.set {to : List ByteArray} (h : Sz to) {v : Nat} {x : ByteArray} (hv : v < to.length) (hx : x.size ≤ 17) : Sz (to.set v x) := by
  intro j
  rw [getD_setN hv]
  split
  · exact hx
  · exact h j
theorem rk_l1 {a : List Node} {tf : List ByteArray} {f : Nat} (ha : a.length ≤ 1000) {q : ByteArray} (hq : gt tf (f : Int) ++ (gt a (f : Int)).path_ = q) (hqs : q.size ≤ 16) :
    ∀ (fuel m : Nat) (met : List Bool) (to : List ByteArray), 16 - m < fuel → met.length = a.length → to.length = a.length → Sz to →
      (∃ met' to', ref10_Pairs.l1 a tf f fuel (met, to, (m : Int)) = some (.inl (met', to')) ∧ met'.length = a.length ∧ to'.length = a.length ∧ Sz to') ∨ ∃ g, ref10_Pairs.l1 a tf f fuel (met, to, (m : Int)) = some (.inr g) ∧ g.ok_ = false
  | 0, m, met, to, h, _, _, _ => by omega
  | fuel + 1, m, met, to, h, hml, htl, hsz => by
    rw [ref10_Pairs.l1]
    rcases Nat.lt_or_ge m 16 with h16 | h16
    · rw [bif_true (decide_eq_true (by omega)), gd_pos (by omega), w64_nat (x := (m : Int) + 1) (k := m + 1) (by simp) (by omega)]
      by_cases h0 : vg (gt a (f : Int)).kids_ (m : Int) = 0
      · rw [h0, bif_true (c := (0 : Int) == 0) rfl]
        simp only [Option.bind_some]
        exact rk_l1 ha hq hqs fuel (m + 1) met to (by omega) hml htl hsz
      · rw [bif_false (c := vg (gt a (f : Int)).kids_ (m : Int) == 0) (by simpa using h0)]
        by_cases h1 : vg (gt a (f : Int)).kids_ (m : Int) ≤ (f : Int)
        · rw [bif_true (decide_eq_true h1), Option.bind_some, bif_true rfl]
          exact .inr ⟨_, rfl, rfl⟩
        · rw [bif_false (decide_eq_false h1)]
          by_cases h2 : vg (gt a (f : Int)).kids_ (m : Int) ≥ (a.length : Int)
          · rw [bif_true (decide_eq_true h2), Option.bind_some, bif_true rfl]
            exact .inr ⟨_, rfl, rfl⟩
          · obtain ⟨bk, hbk⟩ : ∃ bk : Nat, vg (gt a (f : Int)).kids_ (m : Int) = (bk : Int) := ⟨(vg (gt a (f : Int)).kids_ (m : Int)).toNat, by omega⟩
            rw [bif_false (decide_eq_false h2)]
            rw [hbk] at h0 h1 h2 ⊢
            rw [gd_pos (by omega)]
            cases hg : gt met (bk : Int)
            · have hset1 : (to.set bk q).length = a.length := by rw [List.length_set, htl]
              have hgs : gt (to.set bk q) (bk : Int) = q := by rw [gt_nat, getD_setN (by omega), if_pos rfl]
              rw [Option.bind_some, bif_false rfl, gd_pos (by omega), gd_pos (by omega), Int.toNat_natCast, hq]
              cases (gt a (f : Int)).kind_ == 3
              · rw [bif_false rfl]
                simp only [Option.bind_some]
                exact rk_l1 ha hq hqs fuel (m + 1) _ _ (by omega) (by rw [List.length_set]; exact hml) hset1 (hsz.set (by omega) (by omega))
              · rw [bif_true rfl, hset1, gd_pos (by omega), hgs, gd_pos (by rw [strOfNums_size]; simp; omega), gd_pos (by omega)]
                simp only [Option.bind_some]
                exact rk_l1 ha hq hqs fuel (m + 1) _ _ (by omega) (by rw [List.length_set]; exact hml) (by rw [List.length_set]; exact hset1) ((hsz.set (by omega) (by omega)).set (by omega) (by rw [app_size, strOfNums_size]; simp; omega))
            · rw [Option.bind_some, bif_true rfl]
              exact .inr ⟨_, rfl, rfl⟩
    · rw [bif_false (decide_eq_false (by omega))]
      exact .inl ⟨_, _, rfl, hml, htl, hsz⟩
theorem rp_l0 {a : List Node} (hz : Sm a) : ∀ (fuel i : Nat) (met : List Bool) (L : List Pair) (to : List ByteArray), a.length - i < fuel → i ≤ a.length → L.length ≤ i → met.length = a.length → to.length = a.length → Sz to →
      (∃ met' L' to', ref10_Pairs.l0 a fuel (met, L, to, (i : Int)) = some (.inl (met', L', to')) ∧ L'.length ≤ a.length) ∨ ∃ g, ref10_Pairs.l0 a fuel (met, L, to, (i : Int)) = some (.inr g) ∧ g.ok_ = false
  | 0, i, met, L, to, h, _, _, _, _, _ => by omega
  | fuel + 1, i, met, L, to, h, hi', hL, hml, htl, hsz => by
    obtain ⟨z1, z2⟩ := hz
    have zi := z2 i
    have zt : (gt to (i : Int)).size ≤ 17 := hsz i
    rw [ref10_Pairs.l0]
    rcases Nat.lt_or_ge i a.length with hi | hi
    · have hc : ∃ c, (bif decide ((i : Int) > 0) then
            gd (0 ≤ (i : Int) ∧ (i : Int) < (met.length : Int)) <|
            some (!(gt met (i : Int)))
          else
            some false) = some c := by
        by_cases h0 : 0 < i
        · rw [bif_true (decide_eq_true (by omega)), gd_pos (by omega)]
          exact ⟨_, rfl⟩
        · rw [bif_false (decide_eq_false (by omega))]
          exact ⟨_, rfl⟩
      obtain ⟨c, hc⟩ := hc
      rw [bif_true (decide_eq_true (by omega)), hc, Option.bind_some]
      cases c
      · rw [bif_false rfl, gd_pos (by omega), gd_pos (by omega), gd_pos (by omega)]
        by_cases c1 : (gt a (i : Int)).path_.size ≤ 16
        · rw [bif_false (decide_eq_false (by omega)), Option.bind_some]
          by_cases c2 : (gt to (i : Int) ++ (gt a (i : Int)).path_).size ≤ 16
          · rw [bif_false (decide_eq_false (by omega))]
            have go : ∀ L1 : List Pair, L1.length ≤ i + 1 → (∃ met' L' to', ((ref10_Pairs.l1 a to (i : Int) BIG (met, to, 0)).bind fun
            | .inl (y8868, y8873) =>
              ref10_Pairs.l0 a fuel (y8868, L1, y8873, w64 ((i : Int) + 1))
            | .inr r9049 =>
              some (.inr r9049)) = some (.inl (met', L', to')) ∧ L'.length ≤ a.length) ∨ ∃ g, ((ref10_Pairs.l1 a to (i : Int) BIG (met, to, 0)).bind fun
            | .inl (y8868, y8873) =>
              ref10_Pairs.l0 a fuel (y8868, L1, y8873, w64 ((i : Int) + 1))
            | .inr r9049 =>
              some (.inr r9049)) = some (.inr g) ∧ g.ok_ = false := fun L1 hL1 => by
              rcases rk_l1 (a := a) (tf := to) (f := i) z1 rfl c2 BIG 0 met to (by have := BIG_ge; omega) hml htl hsz with ⟨m1, t1, g1, g2, g3, g4⟩ | ⟨g, g1, g2⟩
              · rw [show ((0 : Nat) : Int) = 0 from rfl] at g1
                rw [g1]
                simp only [Option.bind_some]
                rw [w64_nat (x := (i : Int) + 1) (k := i + 1) (by simp) (by omega)]
                exact rp_l0 ⟨z1, z2⟩ fuel (i + 1) m1 L1 t1 (by omega) (by omega) hL1 g2 g3 g4
              · rw [show ((0 : Nat) : Int) = 0 from rfl] at g1
                rw [g1]
                exact .inr ⟨_, rfl, g2⟩
            cases hh : (gt a (i : Int)).has_
            · rw [bif_false rfl]
              simp only [Option.bind_some]
              exact go L (by omega)
            · obtain ⟨r, hr⟩ := rkey_any c2
              rw [bif_true rfl, hr, Option.bind_some]
              cases hro : r.ok_
              · rw [bif_true (c := !false) rfl]
                exact .inr ⟨_, rfl, rfl⟩
              · rw [bif_false (c := !true) rfl, gd_pos (by omega)]
                simp only [Option.bind_some]
                exact go _ (by simp; omega)
          · rw [bif_true (decide_eq_true (by omega))]
            exact .inr ⟨_, rfl, rfl⟩
        · rw [bif_true (decide_eq_true (by omega)), Option.bind_some, bif_true rfl]
          exact .inr ⟨_, rfl, rfl⟩
      · rw [bif_true rfl]
        exact .inr ⟨_, rfl, rfl⟩
    · rw [bif_false (decide_eq_false (by omega))]
      exact .inl ⟨_, _, _, rfl, by omega⟩
theorem rsame2_l0 {x y : List Node} (hx : x.length < 1000000000) (hxy : x.length = y.length) : ∀ (fuel i : Nat), x.length - i < fuel → (ref10_Same.l0 x y fuel (i : Int) = some (.inl ()) ∧ x.drop i = y.drop i) ∨ ref10_Same.l0 x y fuel (i : Int) = some (.inr false)
  | 0, i, h => by omega
  | fuel + 1, i, h => by
    rw [ref10_Same.l0]
    rcases Nat.lt_or_ge i x.length with hi | hi
    · rw [bif_true (decide_eq_true (by omega)), gd_pos (by omega), gd_pos (by omega), gt_nat, gt_nat, w64_nat (x := (i : Int) + 1) (k := i + 1) (by simp) (by omega)]
      unfold eq_Node
      rw [drop_cons default hi, drop_cons default (show i < y.length by omega)]
      by_cases he : x.getD i default = y.getD i default
      · rw [decide_eq_true he, bif_false (c := !true) rfl]
        rcases rsame2_l0 hx hxy fuel (i + 1) (by omega) with ⟨h1, h2⟩ | h1
        · exact .inl ⟨h1, by rw [he, h2]⟩
        · exact .inr h1
      · rw [decide_eq_false he, bif_true (c := !false) rfl]
        exact .inr rfl
    · rw [bif_false (decide_eq_false (by omega)), List.drop_eq_nil_of_le hi, List.drop_eq_nil_of_le (by omega)]
      exact .inl ⟨rfl, rfl⟩
theorem rsame_any {x y : List Node} (hx : x.length < 1000000000) : ∃ g, ref10_Same.f x y = some g ∧ (g = true → x = y) := by
  unfold ref10_Same.f
  by_cases hl : x.length = y.length
  · rw [bif_false (c := (x.length : Int) != (y.length : Int)) (by simp [hl])]
    have h := rsame2_l0 hx hl BIG 0 (by have := BIG_ge; omega)
    rw [show ((0 : Nat) : Int) = 0 from rfl, List.drop_zero, List.drop_zero] at h
    rcases h with ⟨h1, h2⟩ | h1
    · rw [h1]; exact ⟨_, rfl, fun _ => h2⟩
    · rw [h1]; exact ⟨_, rfl, fun h => by cases h⟩
  · rw [bif_true (c := (x.length : Int) != (y.length : Int)) (by simp; omega)]
    exact ⟨_, rfl, fun h => by cases h⟩
theorem rgood_any {a : List Node} (hz : Sm a) : ∃ g, ref10_Good.f a = some g ∧ Yes a g := by
  unfold ref10_Good.f ref10_Pairs.f
  have z1 := hz.1
  rw [gd_pos (by omega), gd_pos (by omega), Int.toNat_natCast]
  rcases rp_l0 hz BIG 0 (List.replicate a.length false) [] (List.replicate a.length ⟨#[]⟩) (by have := BIG_ge; omega) (by omega) (by simp) (by simp) (by simp) (fun j => by
    rw [List.getD_eq_getElem?_getD, List.getElem?_replicate]
    split <;> decide) with ⟨m1, L, t1, g1, g2⟩ | ⟨g, g1, g2⟩
  · rw [show ((0 : Nat) : Int) = 0 from rfl] at g1
    rw [g1]
    simp only [Option.bind_some]
    by_cases hm : MayP L
    · rw [Build2_ok hm (by omega), Option.bind_some, bif_false (c := !true) rfl]
      have hts := tri_short (l := L) (by omega)
      obtain ⟨g, h1, h2⟩ := rsame_any (x := tri L) (y := a) (by omega)
      rw [h1]
      cases g
      · exact ⟨false, rfl, fun h => by cases h⟩
      · exact ⟨true, rfl, fun _ => ⟨L, hm, g2, (h2 rfl).symm⟩⟩
    · have hb : ref10_Build.f L = some ⟨[], [], false⟩ := by
        unfold ref10_Build.f
        rcases may_ok (l := L) (by omega) with ⟨h, -⟩ | ⟨-, h⟩
        · exact absurd h hm
        · rw [h]; rfl
      rw [hb]
      exact ⟨false, rfl, fun h => by cases h⟩
  · rw [show ((0 : Nat) : Int) = 0 from rfl] at g1
    rw [g1]
    refine ⟨g.ok_, rfl, fun h => ?_⟩
    rw [g2] at h
    cases h
/-- The program and the document say the same of any list of nodes: no, or that it is a trie of pairs. -/
theorem good_any {a : List Node} (hz : Sm a) : (trie_Good.f a = some false ∧ ref10_Good.f a = some false) ∨ ∃ l, MayP l ∧ l.length ≤ 1000 ∧ a = tri l := by
  have z1 := hz.1
  obtain ⟨g, g1, g2⟩ := tgood_any hz
  obtain ⟨g', g3, g4⟩ := rgood_any hz
  cases g
  · cases g'
    · exact .inl ⟨g1, g3⟩
    · obtain ⟨l, h1, h2, h3⟩ := g4 rfl
      exact .inr ⟨l, h1, by omega, h3⟩
  · obtain ⟨l, h1, h2, h3⟩ := g2 rfl
    exact .inr ⟨l, h1, by omega, h3⟩
end Go.Lf
