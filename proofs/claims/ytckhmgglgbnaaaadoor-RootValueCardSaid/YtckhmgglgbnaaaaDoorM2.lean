/- The trie of sorted pairs, as a tree. -/
import Derived.Test.YtckhmgglgbnaaaaDoorM1
set_option linter.unusedVariables false
set_option linter.unusedSimpArgs false
namespace Go.Lf
open Go

/-- The first place from j on, of m, where p fails. -/
def runF (p : Nat → Bool) : Nat → Nat → Nat
  | 0, j => j
  | m + 1, j => if p j then runF p m (j + 1) else j
theorem runF_ge (p : Nat → Bool) : ∀ m j, j ≤ runF p m j
  | 0, j => Nat.le_refl _
  | m + 1, j => by
    unfold runF
    split
    · have := runF_ge p m (j + 1); omega
    · omega
theorem runF_le (p : Nat → Bool) : ∀ m j, runF p m j ≤ j + m
  | 0, j => Nat.le_refl _
  | m + 1, j => by
    unfold runF
    split
    · have := runF_le p m (j + 1); omega
    · omega
theorem runF_all (p : Nat → Bool) : ∀ m j i, j ≤ i → i < runF p m j → p i = true
  | 0, j, i, h, h' => by unfold runF at h'; omega
  | m + 1, j, i, h, h' => by
    unfold runF at h'
    split at h'
    · rcases Nat.eq_or_lt_of_le h with rfl | h1
      · assumption
      · exact runF_all p m (j + 1) i h1 h'
    · omega
theorem runF_end (p : Nat → Bool) : ∀ m j, runF p m j < j + m → p (runF p m j) = false
  | 0, j, h => by unfold runF at h; omega
  | m + 1, j, h => by
    unfold runF at h ⊢
    split
    · rename_i e
      rw [if_pos e] at h
      exact runF_end p m (j + 1) (by omega)
    · simpa using ‹¬ p j = true›

theorem lex_mid : ∀ (c : Nat) {x y z : List Nat}, x < y → y < z → c ≤ x.length → c ≤ z.length → x.take c = z.take c → c ≤ y.length ∧ y.take c = x.take c
  | 0, _, _, _, _, _, _, _, _ => by simp
  | c + 1, [], _, _, _, _, h, _, _ => by simp at h
  | c + 1, _ :: _, _, [], _, _, _, h, _ => by simp at h
  | c + 1, a :: x, [], e :: z, h, _, _, _, _ => by simp at h
  | c + 1, a :: x, b :: y, e :: z, h1, h2, h3, h4, h5 => by
    simp only [List.cons_lt_cons_iff] at h1 h2
    simp only [List.take_succ_cons, List.cons.injEq] at h5
    simp only [List.length_cons, Nat.add_le_add_iff_right] at h3 h4
    obtain ⟨rfl, h5⟩ := h5
    have hab : a = b ∧ x < y ∧ y < z := by
      rcases h1 with h1 | ⟨rfl, h1⟩
      · rcases h2 with h2 | ⟨rfl, h2⟩ <;> omega
      · rcases h2 with h2 | ⟨-, h2⟩
        · omega
        · exact ⟨rfl, h1, h2⟩
    obtain ⟨rfl, h1, h2⟩ := hab
    obtain ⟨h6, h7⟩ := lex_mid c h1 h2 h3 h4 h5
    exact ⟨by simpa using h6, by simpa using h7⟩
theorem lex_at : ∀ (c : Nat) {x y : List Nat}, x < y → c ≤ x.length → x.take c = y.take c → c < y.length ∧ (c < x.length → x.getD c 0 ≤ y.getD c 0)
  | 0, [], [], h, _, _ => by simp at h
  | 0, [], b :: y, h, _, _ => by simp
  | 0, a :: x, [], h, _, _ => by simp at h
  | 0, a :: x, b :: y, h, _, _ => by
    simp only [List.cons_lt_cons_iff] at h
    simp
    omega
  | c + 1, [], _, _, h, _ => by simp at h
  | c + 1, a :: x, [], h, _, _ => by simp at h
  | c + 1, a :: x, b :: y, h, h3, h5 => by
    simp only [List.cons_lt_cons_iff] at h
    simp only [List.take_succ_cons, List.cons.injEq] at h5
    simp only [List.length_cons, Nat.add_le_add_iff_right] at h3
    obtain ⟨rfl, h5⟩ := h5
    rcases h with h | ⟨-, h⟩
    · omega
    · obtain ⟨h6, h7⟩ := lex_at c h h3 h5
      exact ⟨by simpa using h6, fun h8 => by simpa using h7 (by simpa using h8)⟩
theorem take_succ_eq {x y : List Nat} {c : Nat} (h : x.take c = y.take c) (hx : c < x.length) (hy : c < y.length) (e : x.getD c 0 = y.getD c 0) : x.take (c + 1) = y.take (c + 1) := by
  rw [List.take_add_one, List.take_add_one, h, List.getElem?_eq_getElem hx, List.getElem?_eq_getElem hy]
  simp only [List.getD_eq_getElem?_getD, List.getElem?_eq_getElem hx, List.getElem?_eq_getElem hy, Option.getD_some] at e
  rw [e]

def tx (n : List ByteArray) (i : Nat) : ByteArray := n.getD i default
def nb (n : List ByteArray) (i : Nat) : List Nat := B (tx n i)
def byteAt (n : List ByteArray) (i d : Nat) : Nat := (nb n i).getD d 0
def val (l : List Pair) (i : Nat) : ByteArray := (l.getD i default).value_
def run (n : List ByteArray) (d t i : Nat) : Nat := runF (fun j => byteAt n j d == byteAt n i d) (t - i) i
def mkKs (n : List ByteArray) (f : Nat → Nat → T) (d t : Nat) : Nat → Nat → Ks
  | 0, _ => .nil
  | m + 1, i => if i < t then .cons (byteAt n i d) (f i (run n d t i)) (mkKs n f d t m (run n d t i)) else .nil
def mk (n : List ByteArray) (l : List Pair) : Nat → Nat → Nat → Nat → T
  | 0, _, _, _ => default
  | k + 1, f, t, d =>
    if t = f + 1 then .node ⟨1, sub (tx n f) d (tx n f).size, true, val l f⟩ .nil
    else if 0 < comm ((nb n f).drop d) ((nb n (t - 1)).drop d) then
      .node ⟨2, sub (tx n f) d (d + comm ((nb n f).drop d) ((nb n (t - 1)).drop d) : Nat), false, ⟨#[]⟩⟩ (.cons 0 (mk n l k f t (d + comm ((nb n f).drop d) ((nb n (t - 1)).drop d))) .nil)
    else if (nb n f).length = d then .node ⟨3, ⟨#[]⟩, true, val l f⟩ (mkKs n (fun i j => mk n l k i j (d + 1)) d t (t - f) (f + 1))
    else .node ⟨3, ⟨#[]⟩, false, ⟨#[]⟩⟩ (mkKs n (fun i j => mk n l k i j (d + 1)) d t (t - f) f)

def Srt (n : List ByteArray) : Prop := ∀ i j, i < j → j < n.length → nb n i < nb n j
/-- The texts from f to t begin alike, up to d. -/
structure Rg (n : List ByteArray) (f t d : Nat) : Prop where
  lt : f < t
  le : t ≤ n.length
  long : ∀ i, f ≤ i → i < t → d ≤ (nb n i).length
  same : ∀ i, f ≤ i → i < t → (nb n i).take d = (nb n f).take d
variable {n : List ByteArray} {l : List Pair}
theorem Rg.comm (hs : Srt n) {f t d : Nat} (h : Rg n f t d) : Rg n f t (d + comm ((nb n f).drop d) ((nb n (t - 1)).drop d)) := by
  obtain ⟨h1, h2, h3, h4⟩ := h
  generalize hc : Lf.comm ((nb n f).drop d) ((nb n (t - 1)).drop d) = c
  have hl : d + c ≤ (nb n f).length := by
    have := comm_le_left ((nb n f).drop d) ((nb n (t - 1)).drop d)
    have := h3 f (Nat.le_refl _) h1
    simp at *
    omega
  have hl' : d + c ≤ (nb n (t - 1)).length := by
    have := comm_le_right ((nb n f).drop d) ((nb n (t - 1)).drop d)
    have := h3 (t - 1) (by omega) (by omega)
    simp at *
    omega
  have hx : (nb n f).take (d + c) = (nb n (t - 1)).take (d + c) := by
    have e := comm_take ((nb n f).drop d) ((nb n (t - 1)).drop d)
    rw [hc] at e
    rw [List.take_add, List.take_add, e, h4 (t - 1) (by omega) (by omega)]
  have key : ∀ i, f ≤ i → i < t → d + c ≤ (nb n i).length ∧ (nb n i).take (d + c) = (nb n f).take (d + c) := by
    intro i hi ht
    rcases Nat.eq_or_lt_of_le hi with rfl | hi'
    · exact ⟨hl, rfl⟩
    · rcases Nat.eq_or_lt_of_le (show i ≤ t - 1 by omega) with rfl | ht'
      · exact ⟨hl', hx.symm⟩
      · exact lex_mid (d + c) (hs f i hi' (by omega)) (hs i (t - 1) ht' (by omega)) hl hl' hx
  exact ⟨h1, h2, fun i a b => (key i a b).1, fun i a b => (key i a b).2⟩
/-- Where the first does not end at d, none does; where it does, the others go on. -/
theorem Rg.go (hs : Srt n) {f t d : Nat} (h : Rg n f t d) {i : Nat} (hi : f < i ∨ d < (nb n f).length ∧ f ≤ i) (ht : i < t) : d < (nb n i).length := by
  rcases Nat.lt_or_ge f i with hf | hf
  · exact (lex_at d (hs f i hf (by have := h.le; omega)) (h.long f (Nat.le_refl _) h.lt) (h.same i (by omega) ht).symm).1
  · rcases hi with hi | hi
    · omega
    · have : i = f := by omega
      subst this
      exact hi.1
theorem run_gt {d t i : Nat} (h : i < t) : i < run n d t i := by
  unfold run
  obtain ⟨m, hm⟩ : ∃ m, t - i = m + 1 := ⟨t - i - 1, by omega⟩
  rw [hm, runF, if_pos (by simp)]
  exact runF_ge _ _ _
theorem run_le {d t i : Nat} (h : i ≤ t) : run n d t i ≤ t := by
  have := runF_le (fun j => byteAt n j d == byteAt n i d) (t - i) i
  unfold run
  omega
/-- A run of texts with one number at d. -/
theorem Rg.run (hs : Srt n) {f t d : Nat} (h : Rg n f t d) {i : Nat} (hi : f < i ∨ d < (nb n f).length ∧ f ≤ i) (ht : i < t) : Rg n i (run n d t i) (d + 1) := by
  have hr := run_le (n := n) (d := d) (Nat.le_of_lt ht)
  have hg := run_gt (n := n) (d := d) ht
  have key : ∀ j, i ≤ j → j < Lf.run n d t i → d < (nb n j).length ∧ (nb n j).take (d + 1) = (nb n i).take (d + 1) := by
    intro j hij hj
    have hf : f ≤ i := by omega
    have e := runF_all _ _ _ j hij hj
    simp only [beq_iff_eq] at e
    have l1 := h.go hs (i := j) (by omega) (by omega)
    have l2 := h.go hs (i := i) hi ht
    exact ⟨l1, take_succ_eq (by rw [h.same j (by omega) (by omega), h.same i hf ht]) l1 l2 e⟩
  exact ⟨hg, by have := h.le; omega, fun j a b => (key j a b).1, fun j a b => (key j a b).2⟩
theorem byte_le (hs : Srt n) {f t d : Nat} (h : Rg n f t d) {i j : Nat} (hi : f < i ∨ d < (nb n f).length ∧ f ≤ i) (hij : i < j) (hj : j < t) : byteAt n i d ≤ byteAt n j d := by
  have hf : f ≤ i := by omega
  exact (lex_at d (hs i j hij (by have := h.le; omega)) (h.long i hf (by omega)) (by rw [h.same i hf (by omega), h.same j (by omega) hj])).2 (h.go hs hi (by omega))
/-- The next run's number is greater. -/
theorem run_next (hs : Srt n) {f t d : Nat} (h : Rg n f t d) {i : Nat} (hi : f < i ∨ d < (nb n f).length ∧ f ≤ i) (ht : i < t) (hr : run n d t i < t) : byteAt n i d < byteAt n (run n d t i) d := by
  have hg := run_gt (n := n) (d := d) ht
  have h1 := byte_le hs h hi hg hr
  have h2 := runF_end (fun j => byteAt n j d == byteAt n i d) (t - i) i (by have := hr; unfold run at this; omega)
  simp only [beq_eq_false_iff_ne, ne_eq] at h2
  have h3 : byteAt n (run n d t i) d ≠ byteAt n i d := h2
  omega
theorem mkKs_up (hs : Srt n) {f t d : Nat} (h : Rg n f t d) (g : Nat → Nat → T) (hb : ∀ i, i < t → byteAt n i d < 16) : ∀ (m i : Nat), (f < i ∨ d < (nb n f).length ∧ f ≤ i) → ∀ c, (i < t → c ≤ byteAt n i d) → (mkKs n g d t m i).up c
  | 0, i, hi, c, hc => trivial
  | m + 1, i, hi, c, hc => by
    unfold mkKs
    split
    · rename_i ht
      refine ⟨hc ht, hb i ht, mkKs_up hs h g hb m _ ?_ _ fun hr => run_next hs h hi ht hr⟩
      have := run_gt (n := n) (d := d) ht
      left; omega
    · trivial
end Go.Lf
