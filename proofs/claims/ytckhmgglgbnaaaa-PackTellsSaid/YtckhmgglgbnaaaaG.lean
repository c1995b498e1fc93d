/- Nodes and Plans that are read as arguments. -/
import Derived.Test.YtckhmgglgbnaaaaZF
import Derived.Test.YtckhmgglgbnaaaaU6
import Derived.OpenShut
set_option linter.unusedVariables false
set_option linter.unusedSimpArgs false
namespace Go.Lf
open Go
theorem opens_ints {H : Type} {enc : TypeId × Value → H} {P : Program} {t e n : Nat} {k : IntKind} (ht : P.underlying t = some (.array n e)) (he : P.underlying e = some (.int k)) (hc : P.cellsOf e = 1) {W : World} {fuel : Nat} {cs : List Value} {r : DataW H × List MemPlace} (hct : cs.length = n)
    (h : DataW.trod enc P W 0 (fun _ => true) true fuel t cs = some r) : ∃ v : Vector Int n, cs = arrC k v := by
  obtain ⟨xs, m, -, -, hl, hn, hel⟩ := DataW.trod_array ht h
  have hall : ∀ i, i < n → ∃ z : Int, cs[i]? = some (.int k z) := fun i hi => by
    have h1 := hel i hi
    rw [hc, Nat.mul_one, List.getElem?_eq_getElem (by omega)] at h1
    obtain ⟨q, e1, -, -⟩ := DataW.trod_int he h1
    have h3 := congrArg (fun l : List Value => l[0]?) e1
    simp [List.getElem?_take, List.getElem?_drop] at h3
    exact ⟨q, h3⟩
  obtain ⟨zs, z1, z2⟩ := list_of hall
  refine ⟨⟨zs.toArray, by simp [z1]⟩, ?_⟩
  unfold arrC
  apply List.ext_getElem?
  intro i
  rcases Nat.lt_or_ge i n with hi | hi
  · have := z2 i zs[i] (List.getElem?_eq_getElem (by omega))
    rw [this]
    simp [List.getElem?_eq_getElem (show i < zs.length by omega)]
  · rw [List.getElem?_eq_none (by omega), List.getElem?_eq_none (by simp; omega)]
theorem opens_node {H : Type} {enc : TypeId × Value → H} : Opens enc P 51 ek_Node (fun _ => True) := fun W fuel cs r h => by
  obtain ⟨hl, f0, r0, h0⟩ := trod_field h (k := 0) (off := 0) (ft := 3) (m := 1) (by kernel_rfl)
  obtain ⟨-, f1, r1, h1⟩ := trod_field h (k := 1) (off := 1) (ft := 9) (m := 1) (by kernel_rfl)
  obtain ⟨-, f2, r2, h2⟩ := trod_field h (k := 2) (off := 2) (ft := 4) (m := 1) (by kernel_rfl)
  obtain ⟨-, f3, r3, h3⟩ := trod_field h (k := 3) (off := 3) (ft := 9) (m := 1) (by kernel_rfl)
  obtain ⟨-, f4, r4, h4⟩ := trod_field h (k := 4) (off := 4) (ft := 49) (m := 16) (by kernel_rfl)
  have hc : P.cellsOf 51 = 20 := by kernel_rfl
  rw [hc] at hl
  obtain ⟨x0, e0, -⟩ := opens_int (k := .i64) (by kernel_rfl) _ _ _ _ h0
  obtain ⟨x1, e1, -⟩ := opens_string (by kernel_rfl) _ _ _ _ h1
  obtain ⟨x2, e2, -⟩ := opens_bool (by kernel_rfl) _ _ _ _ h2
  obtain ⟨x3, e3, -⟩ := opens_string (by kernel_rfl) _ _ _ _ h3
  obtain ⟨x4, e4⟩ := opens_ints (n := 16) (e := 3) (k := .i64) (by kernel_rfl) (by kernel_rfl) (by kernel_rfl) (by simp; omega) h4
  refine ⟨⟨x0, x1, x2, x3, x4⟩, ?_, trivial⟩
  match cs, hl with
  | a :: b :: c :: d :: rest, hl =>
    have e0 : [a] = [.int .i64 x0] := e0
    have e1 : [b] = [.string x1] := e1
    have e2 : [c] = [.bool x2] := e2
    have e3 : [d] = [.string x3] := e3
    have e5 : rest.take 16 = arrC .i64 x4 := e4
    rw [List.take_of_length_le (by simp only [List.length_cons] at hl; omega)] at e5
    cases e0; cases e1; cases e2; cases e3
    rw [e5]
    rfl
theorem opens_plan {H : Type} {enc : TypeId × Value → H} : Opens enc P 26 ek_Plan (fun _ => True) := fun W fuel cs r h => by
  obtain ⟨hl, f0, r0, h0⟩ := trod_field h (k := 0) (off := 0) (ft := 9) (m := 1) (by kernel_rfl)
  obtain ⟨-, f1, r1, h1⟩ := trod_field h (k := 1) (off := 1) (ft := 3) (m := 1) (by kernel_rfl)
  obtain ⟨-, f2, r2, h2⟩ := trod_field h (k := 2) (off := 2) (ft := 24) (m := 1) (by kernel_rfl)
  obtain ⟨-, f3, r3, h3⟩ := trod_field h (k := 3) (off := 3) (ft := 24) (m := 1) (by kernel_rfl)
  have hc : P.cellsOf 26 = 4 := by kernel_rfl
  rw [hc] at hl
  obtain ⟨x0, e0, -⟩ := opens_string (by kernel_rfl) _ _ _ _ h0
  obtain ⟨x1, e1, -⟩ := opens_int (k := .i64) (by kernel_rfl) _ _ _ _ h1
  obtain ⟨x2, ⟨v2, e2, b2⟩, -⟩ := opens_slice (K := ekI .i64) (e := 3) (by kernel_rfl) (opens_int (k := .i64) (by kernel_rfl)) _ _ _ _ h2
  obtain ⟨x3, ⟨v3, e3, b3⟩, -⟩ := opens_slice (K := ekI .i64) (e := 3) (by kernel_rfl) (opens_int (k := .i64) (by kernel_rfl)) _ _ _ _ h3
  refine ⟨⟨x0, x1, x2, x3⟩, ⟨v2, v3, ?_, b2, b3⟩, trivial⟩
  match cs, hl with
  | [a, b, c, d], hl =>
    have e0 : [a] = [.string x0] := e0
    have e1 : [b] = [.int .i64 x1] := e1
    have e2 : [c] = [v2] := e2
    have e3 : [d] = [v3] := e3
    cases e0; cases e1; cases e2; cases e3
    rfl
/-- An argument that is a struct. -/
theorem open_struct {H : Type} {enc : TypeId × Value → H} {P : Program} {α : Type} {K : EK α} {B : α → Prop} {W : World} {t : Nat} {v : Value} {d : DataW H} {ps : List MemPlace} (ho : Opens enc P t K B) (h : DataW.Trod enc P W 0 (fun _ => true) true t v d ps) (hsz : K.sz ≠ 1) : ∃ x cs, v = .agg ⟨cs⟩ ∧ K.rel (IW W) x cs ∧ B x := by
  obtain ⟨f, h⟩ := h
  obtain ⟨x, h1, h2⟩ := ho _ _ _ _ h
  have hl := K.len h1
  cases v with
  | agg cs => exact ⟨x, cs.toList, rfl, h1, h2⟩
  | _ => exact absurd hl.symm hsz
end Go.Lf
