/- The walk over a trie finds its pairs and its paths. -/
import Derived.Test.YtckhmgglgbnaaaaDoorM7
set_option linter.unusedVariables false
set_option linter.unusedSimpArgs false
namespace Go.Lf
open Go
mutual
/-- The nibble texts with their values. -/
def T.prs : T → ByteArray → List (ByteArray × ByteArray)
  | .node l ks, p => (if l.has then [(p ++ l.path, l.value)] else []) ++ ks.prs (p ++ l.path) (l.kind == 3)
def Ks.prs : Ks → ByteArray → Bool → List (ByteArray × ByteArray)
  | .nil, _, _ => []
  | .cons c t ks, p, b => t.prs (if b then p ++ strOfNums [(c : Int)] else p) ++ ks.prs p b
end
mutual
/-- A trie that the walk takes. -/
def T.wf : T → ByteArray → Prop
  | .node l ks, p => p.size ≤ 16 ∧ l.path.size ≤ 1000 ∧ (l.has = true → (p ++ l.path).size % 2 = 0 ∧ Sml (p ++ l.path)) ∧ ks.up 0 ∧ ks.wf (p ++ l.path) (l.kind == 3)
def Ks.wf : Ks → ByteArray → Bool → Prop
  | .nil, _, _ => True
  | .cons c t ks, p, b => t.wf (if b then p ++ strOfNums [(c : Int)] else p) ∧ ks.wf p b
end
mutual
theorem T.prs_len : ∀ (t : T) (p : ByteArray), (t.prs p).length ≤ t.sz
  | .node l ks, p => by
    have := Ks.prs_len ks (p ++ l.path) (l.kind == 3)
    rw [T.prs, T.sz, List.length_append]
    split <;> simp <;> omega
theorem Ks.prs_len : ∀ (ks : Ks) (p : ByteArray) (b : Bool), (ks.prs p b).length ≤ ks.sz
  | .nil, p, b => by simp [Ks.prs, Ks.sz]
  | .cons c t ks, p, b => by
    have h1 := T.prs_len t (if b then p ++ strOfNums [(c : Int)] else p)
    have h2 := Ks.prs_len ks p b
    rw [Ks.prs, Ks.sz, List.length_append]
    omega
end
def prp (x : ByteArray × ByteArray) : Pair := ⟨pck x.1, x.2⟩
/-- Each child's fact, at its place and with what leads to it. -/
def Ks.each (R : T → Nat → ByteArray → Prop) : Ks → Nat → ByteArray → Bool → Prop
  | .nil, _, _, _ => True
  | .cons c t ks, b, p, br => R t b (if br then p ++ strOfNums [(c : Int)] else p) ∧ ks.each R (b + t.sz) p br
theorem app_size (x y : ByteArray) : (x ++ y).size = x.size + y.size := by rw [← B_len, B_append, List.length_append, B_len, B_len]
abbrev Rec := (List Node) → Int → (List Pair) → (List ByteArray) → Int → ByteArray → Option (Bool × Int × List Pair × List ByteArray)
def WalkR (a : List Node) (rc : Rec) (t : T) (b : Nat) (p : ByteArray) : Prop :=
  ∀ (L : List Pair) (ps : List ByteArray), L.length ≤ b → ps.length = b → rc a (b : Int) L ps (b : Int) p = some (true, ((b + t.sz : Nat) : Int), L ++ (t.prs p).map prp, ps ++ t.paths p)
theorem walk_l0 {a : List Node} {f : Nat} {p : ByteArray} {rc : Rec} {q : ByteArray} (hq : q = p ++ (gt a (f : Int)).path_) (hqs : q.size ≤ 2000) {br : Bool} (hbr : ((gt a (f : Int)).kind_ == 3) = br) (ha : a.length ≤ 1000000000) :
    ∀ (fuel m : Nat) (ks : Ks) (bk : Nat) (L : List Pair) (ps : List ByteArray), 16 - m < fuel → m ≤ 16 → ks.at bk (gt a (f : Int)).kids_ m → 0 < bk → ks.each (WalkR a rc) bk q br → L.length ≤ bk → ps.length = bk →
      trie_walker_walk.l0 a f p rc fuel (L, ps, bk, m) = some (.inl (L ++ (ks.prs q br).map prp, ps ++ ks.paths q br, ((bk + ks.sz : Nat) : Int)))
  | 0, m, ks, bk, L, ps, h, _, _, _, _, _, _ => by omega
  | fuel + 1, m, ks, bk, L, ps, h, hm, hat, hb0, he, hL, hps => by
    rw [trie_walker_walk.l0]
    rcases Nat.lt_or_ge m 16 with h16 | h16
    · rw [bif_true (decide_eq_true (by omega)), gd_pos (by omega), ← hq]
      have hc : (bif (gt a (f : Int)).kind_ == 3 then
            gd (q.size + (strOfNums [wu8 (m : Int)]).size ≤ 9223372036854775807) <|
            some (q ++ (strOfNums [wu8 (m : Int)]))
          else
            some q) = some (if br then q ++ strOfNums [(m : Int)] else q) := by
        rw [wu8_id (x := (m : Int)) (by omega), hbr]
        cases br
        · rfl
        · rw [bif_true rfl, gd_pos (by rw [strOfNums_size]; simp; omega)]; rfl
      rw [hc, Option.bind_some, w64_nat (x := (m : Int) + 1) (k := m + 1) (by simp) (by omega)]
      rcases Ks.at_step hat h16 with ⟨h0, hat'⟩ | ⟨t, r, rfl, h0, hat'⟩
      · rw [h0, bif_false (c := (0 : Int) != 0) rfl]
        simp only [Option.bind_some]
        rw [bif_false rfl]
        exact walk_l0 hq hqs hbr ha fuel (m + 1) ks bk L ps (by omega) (by omega) hat' hb0 he hL hps
      · rw [h0, bif_true (c := (bk : Int) != 0) (by simp; omega)]
        obtain ⟨h1, h2⟩ := he
        rw [h1 L ps hL hps]
        simp only [Option.bind_some, Bool.not_true]
        rw [bif_false rfl]
        have hlen := T.prs_len t (if br then q ++ strOfNums [(m : Int)] else q)
        rw [walk_l0 hq hqs hbr ha fuel (m + 1) r (bk + t.sz) _ _ (by omega) (by omega) hat' (by omega) h2 (by simp; omega) (by simp [T.paths_len]; omega)]
        simp [Ks.prs, Ks.paths, Ks.sz, Nat.add_assoc]
    · rw [bif_false (decide_eq_false (by omega))]
      have : ks = .nil := by
        cases ks with
        | nil => rfl
        | cons c t r =>
          obtain ⟨h1, h2, -⟩ := hat
          omega
      subst this
      simp [Ks.prs, Ks.paths, Ks.sz]
mutual
theorem T.walk : ∀ (t : T) (b : Nat) (p : ByteArray) (kk : Nat) (a pre post : List Node), a = pre ++ (t.flat b ++ post) → pre.length = b → t.wf p → t.sz ≤ kk → a.length ≤ 1000000000 → WalkR a (trie_walker_walk.f kk) t b p
  | .node l ks, b, p, 0, a, pre, post, hae, hb, hw, hk, ha => by
    have := T.sz_pos (.node l ks)
    omega
  | .node l ks, b, p, kk + 1, a, pre, post, hae, hb, hw, hk, ha => by
    intro L ps hL hps
    obtain ⟨w1, w2, w3, w4, w5⟩ := hw
    have hal : a.length = pre.length + ((T.node l ks).sz + post.length) := by rw [hae]; simp [T.flat_len]
    have hsz : (T.node l ks).sz = ks.sz + 1 := rfl
    rw [trie_walker_walk.f]
    have hg : gt a (b : Int) = l.node (ks.vec (b + 1) v0) := by
      rw [hae, ← hb, T.flat, List.cons_append]
      exact gt_end _ _ _
    have c1 : (bif (b : Int) != (b : Int) then some true else bif decide ((b : Int) ≥ (a.length : Int)) then some true else some (decide ((p.size : Int) > 16))) = some false := by
      rw [bif_false (by simp), bif_false (decide_eq_false (by omega)), decide_eq_false (by omega)]
    rw [c1, Option.bind_some, bif_false rfl, gd_pos (by omega), gd_pos (by omega), w64_nat (x := (b : Int) + 1) (k := b + 1) (by simp) (by omega)]
    have hp : (gt a (b : Int)).path_ = l.path := by rw [hg]; rfl
    have hh : (gt a (b : Int)).has_ = l.has := by rw [hg]; rfl
    have hv : (gt a (b : Int)).value_ = l.value := by rw [hg]; rfl
    have hki : (gt a (b : Int)).kids_ = ks.vec (b + 1) v0 := by rw [hg]; rfl
    have hkd : ((gt a (b : Int)).kind_ == 3) = (l.kind == 3) := by rw [hg]; rfl
    rw [gd_pos (by rw [hp]; omega), hh]
    have hqs : (p ++ l.path).size ≤ 2000 := by rw [app_size]; omega
    have heach : ks.each (WalkR a (trie_walker_walk.f kk)) (b + 1) (p ++ l.path) (l.kind == 3) :=
      Ks.walk ks (b + 1) (p ++ l.path) (l.kind == 3) kk a (pre ++ [l.node (ks.vec (b + 1) v0)]) post (by rw [hae, T.flat]; simp) (by simp [hb]) w5 (by omega) ha
    have hat : ks.at (b + 1) (gt a (b : Int)).kids_ 0 := by rw [hki]; exact Ks.at_vec0 w4
    have step : ∀ (L' : List Pair), L'.length ≤ b + 1 → trie_walker_walk.l0 a (b : Int) p (trie_walker_walk.f kk) BIG (L', ps ++ [p], ((b + 1 : Nat) : Int), 0) = some (.inl (L' ++ (ks.prs (p ++ l.path) (l.kind == 3)).map prp, ps ++ (T.node l ks).paths p, ((b + (T.node l ks).sz : Nat) : Int))) := by
      intro L' hL'
      have h := walk_l0 (a := a) (f := b) (p := p) (rc := trie_walker_walk.f kk) (q := p ++ l.path) (by rw [hp]) hqs hkd ha BIG 0 ks (b + 1) L' (ps ++ [p]) (by have := BIG_ge; omega) (by omega) hat (by omega) heach hL' (by simp; omega)
      rw [show ((0 : Nat) : Int) = 0 from rfl] at h
      rw [h]
      simp [T.paths, hsz, Nat.add_assoc, Nat.add_comm 1]
    cases hhas : l.has
    · rw [bif_false rfl]
      simp only [Option.bind_some]
      rw [bif_false rfl, step L (by omega)]
      simp [T.prs, hhas]
    · rw [bif_true rfl, hp, hv]
      unfold trie_walker_pair.f
      obtain ⟨e1, e2⟩ := w3 hhas
      rcases key_ok (s := p ++ l.path) (by omega) with ⟨-, -, h3⟩ | ⟨h3, -⟩
      · rw [h3]
        simp only [Option.bind_some]
        rw [gd_pos (by omega)]
        simp only [Option.bind_some, Bool.not_true]
        rw [bif_false rfl, step _ (by simp; omega)]
        simp [T.prs, hhas, prp]
      · exact absurd ⟨e1, e2⟩ h3
theorem Ks.walk : ∀ (ks : Ks) (b : Nat) (p : ByteArray) (br : Bool) (kk : Nat) (a pre post : List Node), a = pre ++ (ks.flat b ++ post) → pre.length = b → ks.wf p br → ks.sz ≤ kk → a.length ≤ 1000000000 → ks.each (WalkR a (trie_walker_walk.f kk)) b p br
  | .nil, b, p, br, kk, a, pre, post, _, _, _, _, _ => trivial
  | .cons c t ks, b, p, br, kk, a, pre, post, hae, hb, hw, hk, ha => by
    have hsz : (Ks.cons c t ks).sz = t.sz + ks.sz := rfl
    refine ⟨T.walk t b _ kk a pre (ks.flat (b + t.sz) ++ post) (by rw [hae, Ks.flat]; simp) hb hw.1 (by omega) ha, ?_⟩
    exact Ks.walk ks (b + t.sz) p br kk a (pre ++ t.flat b) post (by rw [hae, Ks.flat]; simp) (by simp [hb, T.flat_len]) hw.2 (by omega) ha
end
end Go.Lf
