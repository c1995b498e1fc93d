/- strings.Builder inside a block of nine cells (slot's writer): its methods by their code. -/
import Derived.Test.YtckhmgglgbnaaaaUM
import Derived.Test.YtckhmgglgbnaaaaProg
import Derived.Lib.Builder
import Derived.Lib.UnsafeStr
import Derived.Laws.Externs
set_option linter.unusedVariables false
set_option linter.unusedSimpArgs false
namespace Go.Lf
open Go
noncomputable abbrev PP : Program := Go.Proofs.Try.prog
/-- A Builder's own address: none yet, or where it lies. -/
def OwnA (b : Nat) (v : Value) : Prop := v = .pointer none ∨ v = .pointer (some ⟨b, 6, none⟩)
theorem OwnA.nil (b : Nat) : OwnA b (.pointer none) := .inl rfl
theorem OwnA.self (b : Nat) : OwnA b (.pointer (some ⟨b, 6, none⟩)) := .inr rfl
theorem OwnA.one {b : Nat} {v : Value} (h : OwnA b v) : v.oneCell' = true := by rcases h with rfl | rfl <;> rfl
theorem bytesOK_iff {xs : List Int} : bytesOK xs = true ↔ xs ≠ [] ∧ ∀ x ∈ xs, 0 ≤ x ∧ x < 256 := by simp [bytesOK]
theorem bl_ty101 : tyD PP 101 = some (false, 1, 8, [.pointer none]) := by kernel_rfl
theorem bl_ty53 : tyD PP 53 = some (false, 1, 24, [.slice none 0 0]) := by kernel_rfl
theorem bl_ty5 : tyD PP 5 = some (false, 1, 1, [.int .u8 0]) := by kernel_rfl
theorem bl_z5 : ((PP.info? 5).bind fun i => i.zero) = some (.int .u8 0) := by kernel_rfl
theorem bl_fd0 : fdD PP 103 0 = some (0, 101, 1) := by kernel_rfl
theorem bl_fd1 : fdD PP 103 1 = some (1, 53, 1) := by kernel_rfl
theorem bl_el53 : elD PP 53 = some (none, 5, 1) := by kernel_rfl
theorem bl_u101 : PP.underlying 101 = some (.pointer 103) := by kernel_rfl
theorem bl_u164 : PP.underlying 164 = some .unsafePointer := by kernel_rfl
theorem bl_u53 : PP.underlying 53 = some (.slice 5) := by kernel_rfl
theorem bl_u9 : PP.underlying 9 = some .string := by kernel_rfl
theorem bl_lies : liesAt PP PP.depth 105 (9 / PP.cellsOf 105) 6 103 1 = true := by kernel_rfl
theorem bl_i103 : ∃ j, PP.info? 103 = some j ∧ j.size = 2 := by
 have h : (PP.info? 103).map (·.size) = some 2 := by kernel_rfl
 cases hi : PP.info? 103 with
 | none => rw [hi] at h; cases h
 | some j => rw [hi] at h; exact ⟨j, rfl, by simpa using h⟩
theorem bl_call104 (args : Array Value) (w : World) : (callFunc 104 args).run PP w = ((Extern.AbiNoEscape.same args).run PP w).andThen fun v w' => .ok (.value v) w' :=
 run_callFunc_extern Go.Proofs.Try.func104 (by kernel_rfl) (by kernel_rfl) (by kernel_rfl) (by kernel_rfl) args w
section rules
variable {P : Program} {E : World} {I : IH} {O : List Atom} {w : World} {n : Nat} {L : List (Nat × Value)} {a : Act} {ty : TypeId} {pos : String} {aft : Array Edge} {d : Nat} {gd : Option (Nat × Bool)}
theorem r_peqN (hf : Fr n L a) {t t' te : TypeId} {x y : Operand} {p : Option Addr} (hx : ev L x = some (.pointer p)) (hy : ev L y = some (.pointer none)) (hu : P.underlying t = some (.pointer te)) :
  (execOp a.eval (⟨some d, .binOp .eql t x y t', ty, pos, aft, gd⟩ : Oper)).run P w = .ok (.value (.bool p.isNone)) w := by
 have hp : P.underlying t = some (.pointer (P.pointee t)) := by
  rw [hu]
  simp [Program.pointee, hu]
 have hg : (eqGuard .eql t x y (.pointer p) (.pointer none)).run P w = .ok () w := by unfold eqGuard; simp
 simp only [execOp, hf.ev hx, hf.ev hy, Sem.run_bind, hg, Result.andThen_ok, run_eql_pointer_nil w t p hp, Sem.run_pure]
theorem r_pneS (hf : Fr n L a) {t t' te : TypeId} {j : TypeInfo} {x y : Operand} {p : Addr} (hx : ev L x = some (.pointer (some p))) (hy : ev L y = some (.pointer (some p))) (hu : P.underlying t = some (.pointer te)) (hj : P.info? te = some j) :
  (execOp a.eval (⟨some d, .binOp .neq t x y t', ty, pos, aft, gd⟩ : Oper)).run P w = .ok (.value (.bool false)) w := by
 have hg : (eqGuard .neq t x y (.pointer (some p)) (.pointer (some p))).run P w = .ok () w := by unfold eqGuard; simp
 simp only [execOp, hf.ev hx, hf.ev hy, Sem.run_bind, hg, Result.andThen_ok, Lib.run_neq_ptr_same w p hu hj, Sem.run_pure]
end rules
abbrev wcells (c0 c1 c2 c3 c4 c5 addr buf c8 : Value) : List Value := [c0, c1, c2, c3, c4, c5, addr, buf, c8]
variable {E : World} {I : IH} {F : List Atom} {w : World} {b : Nat} {c0 c1 c2 c3 c4 c5 addr buf c8 : Value}
theorem bl_shape (hw : Ok E I (.blk b (.cells ⟨wcells c0 c1 c2 c3 c4 c5 addr buf c8⟩ 105 (0, 0)) :: F) w) : w.shape? b = some (105, 9) := by
 have := own_blk (i := 0) hw rfl
 simp [World.shape?, this]
theorem builder_copyCheck_ok (hw : Ok E I (.blk b (.cells ⟨wcells c0 c1 c2 c3 c4 c5 addr buf c8⟩ 105 (0, 0)) :: F) w) (hA : OwnA b addr) :
  Calls PP 99 ⟨[.pointer (some ⟨b, 6, none⟩)]⟩ w fun e w' => ∃ v, e = .returned v ∧ v = .tuple ⟨[]⟩ ∧ Ok E I (.blk b (.cells ⟨wcells c0 c1 c2 c3 c4 c5 (.pointer (some ⟨b, 6, none⟩)) buf c8⟩ 105 (0, 0)) :: F) w' := by
 obtain ⟨j, hj, hjs⟩ := bl_i103
 refine c_enter Go.Proofs.Try.func99 rfl Go.Proofs.Try.ntmps99 rfl fun a hf => ?_
 replace hf : Fr 20 [(0, .pointer (some ⟨b, 6, none⟩))] a := hf
 refine wp_seq ?_
 refine wp_region_lit ?_
 refine o_run hf (r_move hf rfl) rfl fun a hf => ?_
 refine o_run hf (r_nilCheck hf rfl) rfl fun a hf => ?_
 refine o_run hf (r_fieldAddr hf rfl bl_fd0) rfl fun a hf => ?_
 refine o_run hf (r_load hw hf rfl bl_ty101 0 rfl rfl) rfl fun a hf => ?_
 rcases hA with rfl | rfl
 ·refine o_run hf (r_peqN hf rfl rfl bl_u101) rfl fun a hf => ?_
  refine o_nil ?_
  refine c_then ?_
  refine wp_cond_true (hf.ev rfl) ?_
  refine wp_region_lit ?_
  refine o_run hf (r_move hf rfl) rfl fun a hf => ?_
  refine o_run hf (r_move hf rfl) rfl fun a hf => ?_
  refine o_run hf (v := .pointer (some ⟨b, 6, none⟩)) (by
   have h1 : a.eval (.tmp 8) = .pointer (some ⟨b, 6, none⟩) := hf.ev rfl
   simp [Run, execOp, h1, Lib.run_to_unsafe (P := PP) w ⟨b, 6, none⟩ bl_u101 bl_u164 hj (by rw [hjs]; decide) (bl_shape hw) (show 6 < 9 by decide)]) rfl fun a hf => ?_
  refine o_run hf (v := .pointer (some ⟨b, 6, none⟩)) (by
   have h1 : a.eval (.tmp 9) = .pointer (some ⟨b, 6, none⟩) := hf.ev rfl
   have h2 : a.eval (.func 104) = .func (.func 104) #[] #[] := rfl
   simp [Run, execOp, resolve, h1, h2, Deferred.ofValue, invoke, bl_call104, Lib.run_noEscape]) rfl fun a hf => ?_
  refine o_run hf (v := .pointer (some ⟨b, 6, none⟩)) (by
   have h1 : a.eval (.tmp 10) = .pointer (some ⟨b, 6, none⟩) := hf.ev rfl
   simp [Run, execOp, h1, Lib.run_from_unsafe (P := PP) w ⟨b, 6, none⟩ bl_u164 bl_u101 hj (bl_shape hw) bl_lies]) rfl fun a hf => ?_
  refine o_run hf (r_nilCheck hf rfl) rfl fun a hf => ?_
  refine o_run hf (r_fieldAddr hf rfl bl_fd0) rfl fun a hf => ?_
  obtain ⟨w, hrun, hw⟩ := e_store (P := PP) hw hf (x := .tmp 13) (y := .tmp 11) rfl rfl bl_ty101 0 rfl (vs := [.pointer (some ⟨b, 6, none⟩)]) rfl rfl (by simp [Value.oneCell']) (by simp) (cs' := wcells c0 c1 c2 c3 c4 c5 (.pointer (some ⟨b, 6, none⟩)) buf c8) rfl
  refine o_effU (hrun ..) ?_
  refine o_nil ?_
  exact b_end0 hf Go.Proofs.Try.results99 ⟨_, rfl, rfl, hw⟩
 ·refine o_run hf (r_peqN hf rfl rfl bl_u101) rfl fun a hf => ?_
  refine o_nil ?_
  refine c_then ?_
  refine wp_cond_false (hf.ev rfl) ?_
  refine wp_seq ?_
  refine wp_region_lit ?_
  refine o_run hf (r_move hf rfl) rfl fun a hf => ?_
  refine o_run hf (r_nilCheck hf rfl) rfl fun a hf => ?_
  refine o_run hf (r_fieldAddr hf rfl bl_fd0) rfl fun a hf => ?_
  refine o_run hf (r_load hw hf rfl bl_ty101 0 rfl rfl) rfl fun a hf => ?_
  refine o_run hf (r_move hf rfl) rfl fun a hf => ?_
  refine o_run hf (r_pneS hf rfl rfl bl_u101 hj) rfl fun a hf => ?_
  refine o_nil ?_
  refine c_then ?_
  refine wp_cond_false (hf.ev rfl) ?_
  refine wp_skip ?_
  exact b_end0 hf Go.Proofs.Try.results99 ⟨_, rfl, rfl, hw⟩
theorem cb_99 : Callable PP 99 := ⟨⟨_, Go.Proofs.Try.func99, by kernel_rfl, by kernel_rfl⟩⟩
variable {m : Nat} {cs : List Value} {xs : List Int}
theorem builder_WriteByte_ok (hw : Ok E I (.blk b (.cells ⟨wcells c0 c1 c2 c3 c4 c5 addr buf c8⟩ 105 (0, 0)) :: .row buf 5 1 m cs :: F) w) (hA : OwnA b addr) (hR : RowR (ekI .u8) I cs xs) (x : Int) (hb : xs.length + 1 ≤ 274877906944) :
  Calls PP 89 ⟨[.pointer (some ⟨b, 6, none⟩), .int .u8 x]⟩ w fun e w' => ∃ v, e = .returned v ∧ ∃ (bv : Value) (m' : Nat) (cs' : List Value), v = .nilIface ∧ Ok E I (.blk b (.cells ⟨wcells c0 c1 c2 c3 c4 c5 (.pointer (some ⟨b, 6, none⟩)) bv c8⟩ 105 (0, 0)) :: .row bv 5 1 m' cs' :: F) w' ∧ RowR (ekI .u8) I cs' (xs ++ [x]) := by
 refine c_enter Go.Proofs.Try.func89 rfl Go.Proofs.Try.ntmps89 rfl fun a hf => ?_
 replace hf : Fr 17 [(0, .pointer (some ⟨b, 6, none⟩)), (1, .int .u8 x)] a := hf
 refine wp_seq ?_
 refine wp_region_lit ?_
 refine o_run hf (r_assign hf rfl) rfl fun a hf => ?_
 refine o_nil ?_
 refine c_then ?_
 refine wp_seq ?_
 refine wp_region_lit ?_
 refine o_run hf (r_move hf rfl) rfl fun a hf => ?_
 refine o_call hf cb_99 rfl rfl (builder_copyCheck_ok hw hA) (fun v w a hK hf => ?_)
 obtain ⟨rfl, hw⟩ := hK
 refine o_nil ?_
 refine c_then ?_
 refine wp_seq ?_
 refine wp_region_lit ?_
 refine o_run hf (r_move hf rfl) rfl fun a hf => ?_
 refine o_run hf (r_move hf rfl) rfl fun a hf => ?_
 refine o_run hf (r_nilCheck hf rfl) rfl fun a hf => ?_
 refine o_run hf (r_fieldAddr hf rfl bl_fd1) rfl fun a hf => ?_
 refine o_run hf (r_load hw hf rfl bl_ty53 0 rfl rfl) rfl fun a hf => ?_
 refine o_run hf (r_move hf rfl) rfl fun a hf => ?_
 obtain ⟨w, v7, hrun8, hw, hRR9⟩ := e_buildSlice (P := PP) (K := (ekI .u8)) (m := 1) hw hf (parts := [(0, .tmp 12)]) bl_el53 bl_ty5 rfl rfl rfl (ccs := [[Value.int .u8 x]]) rfl (xs := [x]) ⟨rfl, trivial⟩ rfl
 refine o_eff hf (hrun8 ..) rfl fun a hf => ?_
 obtain ⟨w, v15, m16, cs17, hrun18, hw, hRR19⟩ := e_append (P := PP) (K := (ekI .u8)) (ty := 53) hw hf (s := .tmp 11) (x := .tmp 13) bl_el53 bl_ty5 rfl (by decide) 2 rfl rfl rfl hR (ys := [x]) (row_rd (K := (ekI .u8)) hw (i := 0) rfl hRR9) (by simpa using hb)
 refine o_eff hf (hrun18 ..) rfl fun a hf => ?_
 refine o_run hf (r_nilCheck hf rfl) rfl fun a hf => ?_
 refine o_run hf (r_fieldAddr hf rfl bl_fd1) rfl fun a hf => ?_
 obtain ⟨w, hrun12, hw⟩ := e_store (P := PP) hw hf (x := .tmp 16) (y := .tmp 14) rfl rfl bl_ty53 1 rfl (vs := [v15]) (one_cells (row_one hw (i := 2) rfl)) rfl (ones_cons (row_one hw (i := 2) rfl) ones_nil) (by simp) (cs' := wcells c0 c1 c2 c3 c4 c5 (.pointer (some ⟨b, 6, none⟩)) v15 c8) rfl
 refine o_effU (hrun12 ..) ?_
 refine o_nil ?_
 refine c_then ?_
 refine wp_seq ?_
 refine wp_region_lit ?_
 refine o_run hf (r_assign hf rfl) rfl fun a hf => ?_
 refine o_nil ?_
 refine c_then ?_
 refine wp_ret ?_
 replace hw : Ok E I (.blk b (.cells ⟨wcells c0 c1 c2 c3 c4 c5 (.pointer (some ⟨b, 6, none⟩)) v15 c8⟩ 105 (0, 0)) :: .row v15 5 1 m16 cs17 :: F) w := hw.sub (List.Sublist.cons _ (List.Sublist.refl _))
 exact b_ret1 hf Go.Proofs.Try.results89 rfl ⟨_, rfl, v15, m16, cs17, rfl, hw, hRR19⟩
theorem builder_WriteString_ok (hw : Ok E I (.blk b (.cells ⟨wcells c0 c1 c2 c3 c4 c5 addr buf c8⟩ 105 (0, 0)) :: .row buf 5 1 m cs :: F) w) (hA : OwnA b addr) (hR : RowR (ekI .u8) I cs xs) (x : ByteArray) (hb : xs.length + x.size ≤ 274877906944) :
  Calls PP 90 ⟨[.pointer (some ⟨b, 6, none⟩), .string x]⟩ w fun e w' => ∃ v, e = .returned v ∧ ∃ (bv : Value) (m' : Nat) (cs' : List Value), v = .tuple ⟨[.int .i64 (x.size : Int), .nilIface]⟩ ∧ Ok E I (.blk b (.cells ⟨wcells c0 c1 c2 c3 c4 c5 (.pointer (some ⟨b, 6, none⟩)) bv c8⟩ 105 (0, 0)) :: .row bv 5 1 m' cs' :: F) w' ∧ RowR (ekI .u8) I cs' (xs ++ nums x) := by
 refine c_enter Go.Proofs.Try.func90 rfl Go.Proofs.Try.ntmps90 rfl fun a hf => ?_
 replace hf : Fr 19 [(0, .pointer (some ⟨b, 6, none⟩)), (1, .string x)] a := hf
 refine wp_seq ?_
 refine wp_region_lit ?_
 refine o_run hf (r_assign hf rfl) rfl fun a hf => ?_
 refine o_run hf (r_assign hf rfl) rfl fun a hf => ?_
 refine o_nil ?_
 refine c_then ?_
 refine wp_seq ?_
 refine wp_region_lit ?_
 refine o_run hf (r_move hf rfl) rfl fun a hf => ?_
 refine o_call hf cb_99 rfl rfl (builder_copyCheck_ok hw hA) (fun v w a hK hf => ?_)
 obtain ⟨rfl, hw⟩ := hK
 refine o_nil ?_
 refine c_then ?_
 refine wp_seq ?_
 refine wp_region_lit ?_
 refine o_run hf (r_move hf rfl) rfl fun a hf => ?_
 refine o_run hf (r_move hf rfl) rfl fun a hf => ?_
 refine o_run hf (r_nilCheck hf rfl) rfl fun a hf => ?_
 refine o_run hf (r_fieldAddr hf rfl bl_fd1) rfl fun a hf => ?_
 refine o_run hf (r_load hw hf rfl bl_ty53 0 rfl rfl) rfl fun a hf => ?_
 refine o_run hf (r_move hf rfl) rfl fun a hf => ?_
 obtain ⟨w, v15, m16, cs17, hrun18, hw, hRR19⟩ := e_appendS (P := PP) (ty := 53) hw hf (s := .tmp 12) (x := .tmp 13) bl_u53 bl_u9 bl_ty5 bl_z5 1 rfl rfl rfl hR hb
 refine o_eff hf (hrun18 ..) rfl fun a hf => ?_
 refine o_run hf (r_nilCheck hf rfl) rfl fun a hf => ?_
 refine o_run hf (r_fieldAddr hf rfl bl_fd1) rfl fun a hf => ?_
 obtain ⟨w, hrun12, hw⟩ := e_store (P := PP) hw hf (x := .tmp 16) (y := .tmp 14) rfl rfl bl_ty53 0 rfl (vs := [v15]) (one_cells (row_one hw (i := 1) rfl)) rfl (ones_cons (row_one hw (i := 1) rfl) ones_nil) (by simp) (cs' := wcells c0 c1 c2 c3 c4 c5 (.pointer (some ⟨b, 6, none⟩)) v15 c8) rfl
 refine o_effU (hrun12 ..) ?_
 refine o_nil ?_
 refine c_then ?_
 refine wp_seq ?_
 refine wp_region_lit ?_
 refine o_run hf (r_move hf rfl) rfl fun a hf => ?_
 refine o_run hf (r_lenS hf bl_u9 rfl) rfl fun a hf => ?_
 refine o_run hf (r_assign hf rfl) rfl fun a hf => ?_
 refine o_run hf (r_assign hf rfl) rfl fun a hf => ?_
 refine o_nil ?_
 refine c_then ?_
 refine wp_ret ?_
 exact b_ret2 hf Go.Proofs.Try.results90 rfl rfl ⟨_, rfl, v15, m16, cs17, rfl, hw, hRR19⟩

theorem Ok.lose {A : Atom} {O : List Atom} {w' : World} (h : Ok E I (A :: O) w) (hg : w.grownBy w' A.foot) : Ok E I O w' := by
 have h1 : Ok E I ((A :: O).set 0 (.row (.slice none 0 0) 5 1 0 [])) w' := h.step (i := 0) rfl hg (by exact ⟨rfl, .inl ⟨rfl, rfl⟩⟩) (by intro b hb; cases hb)
 exact Ok.tail h1
theorem grown_freeze {g n : Nat} (hn : n ≠ 0) : w.grownBy (w.freeze ⟨g, 0, none⟩ n) (some g) := by
 unfold World.freeze
 rw [if_neg hn]
 refine ⟨rfl, rfl, rfl, by simp, fun k hk hne => ?_⟩
 have : g ≠ k := fun e => hne (by rw [e])
 simp [Array.getElem?_modify, this]
theorem bl_u136 : PP.underlying 136 = some (.pointer 5) := by kernel_rfl
theorem bl_c5 : PP.cellsOf 5 = 1 := by kernel_rfl
theorem mixPP : PP.follows .mixedOrders = true := by kernel_rfl
theorem builder_String_ok (hw : Ok E I (.blk b (.cells ⟨wcells c0 c1 c2 c3 c4 c5 addr buf c8⟩ 105 (0, 0)) :: .row buf 5 1 m cs :: F) w) (hR : RowR (ekI .u8) I cs xs) (hg : bytesOK xs = true) :
  Calls PP 54 ⟨[.pointer (some ⟨b, 6, none⟩)]⟩ w fun e w' => ∃ v, e = .returned v ∧ v = .string (strOfNums xs) ∧ Ok E I (.blk b (.cells ⟨wcells c0 c1 c2 c3 c4 c5 addr buf c8⟩ 105 (0, 0)) :: F) w' := by
 obtain ⟨hne, hx⟩ := bytesOK_iff.mp hg
 refine c_enter Go.Proofs.Try.func54 rfl Go.Proofs.Try.ntmps54 rfl fun a hf => ?_
 replace hf : Fr 14 [(0, .pointer (some ⟨b, 6, none⟩))] a := hf
 refine wp_seq ?_
 refine wp_region_lit ?_
 refine o_run hf (r_assign hf rfl) rfl fun a hf => ?_
 refine o_nil ?_
 refine c_then ?_
 refine wp_seq ?_
 refine c_drawn mixPP [] (.rd 0 (.rd 1 (.rd 2 (.rd 3 (.rd 4 (.rd 5 (.rd 6 (.rd 7 (.rd 8 (.rd 9 (.ef 10 (.rd 11 .done)))))))))))) (by kernel_rfl) hw (fun w => Ok E I (.blk b (.cells ⟨wcells c0 c1 c2 c3 c4 c5 addr buf c8⟩ 105 (0, 0)) :: F) w) (fun w hw => ⟨hw.sub (List.Sublist.cons_cons _ (List.Sublist.cons _ (List.Sublist.refl _))), ?_⟩)
 have hm : m = xs.length := row_len (K := ekI .u8) (i := 1) hw rfl hR
 have hown := row_form (i := 1) hw rfl
 have hpos : 0 < xs.length := List.length_pos_iff.mpr hne
 obtain ⟨hlen, h2⟩ := id hown
 rcases h2 with ⟨rfl, h0⟩ | ⟨g, cap, cur, rfl, _, hg, hc, hmx, hs, ht⟩
 ·omega
 ·refine t_rd rfl hf (fun w hw => r_move hf rfl) rfl fun a hf => ?_
  refine t_rd rfl hf (fun w hw => r_nilCheck hf rfl) rfl fun a hf => ?_
  refine t_rd rfl hf (fun w hw => r_fieldAddr hf rfl bl_fd1) rfl fun a hf => ?_
  refine t_rd rfl hf (fun w hw => r_load hw hf rfl bl_ty53 0 rfl rfl) rfl fun a hf => ?_
  refine t_rd rfl hf (v := .pointer (some ⟨g, 0, none⟩)) (fun w hw => by
   have h1 : a.eval (.tmp 6) = .slice (some ⟨g, 0, none⟩) m cap := hf.ev rfl
   simp [execOp, resolve, invoke, builtin, h1, Lib.run_unsafeSliceData_row (P := PP) (w := w) _ _ ⟨g, 0, none⟩ m cap (by omega)]) rfl fun a hf => ?_
  refine t_rd rfl hf (fun w hw => r_move hf rfl) rfl fun a hf => ?_
  refine t_rd rfl hf (fun w hw => r_nilCheck hf rfl) rfl fun a hf => ?_
  refine t_rd rfl hf (fun w hw => r_fieldAddr hf rfl bl_fd1) rfl fun a hf => ?_
  refine t_rd rfl hf (fun w hw => r_load hw hf rfl bl_ty53 0 rfl rfl) rfl fun a hf => ?_
  refine t_rd rfl hf (v := .int .i64 (xs.length : Int)) (fun w hw => by
   have h1 : a.eval (.tmp 11) = .slice (some ⟨g, 0, none⟩) m cap := hf.ev rfl
   simp [execOp, resolve, invoke, builtin, Builtin.len_, h1, hm]; rfl) rfl fun a hf => ?_
  refine t_ef rfl ?_
  have hnums : (xs.map fun n => UInt8.ofNat n.toNat).length = xs.length := by simp
  have hrun := Lib.run_unsafeString_row (P := PP) (w := w) 136 3 9 5 bl_u136 bl_c5 g cur.size (by simp [World.shape?, hg]) (xs.map fun n => UInt8.ofNat n.toNat) (by simpa using hne) (by rw [hnums]; omega) (by rw [hnums]; simp only [maxLen] at hmx; omega) (fun j x hj => by
   rw [List.getElem?_map] at hj
   cases hxj : xs[j]? with
   | none => rw [hxj] at hj; cases hj
   | some y =>
    rw [hxj] at hj
    simp only [Option.map_some, Option.some.injEq] at hj
    have h1 := hR.2 j y hxj
    have h1' : List.take 1 (cs.drop (j * 1)) = [.int .u8 y] := h1
    rw [Nat.mul_one] at h1'
    have h3 := congrArg (fun l : List Value => l[0]?) h1'
    simp [List.getElem?_take, List.getElem?_drop] at h3
    have hyb := hx y (List.mem_of_getElem? hxj)
    have hxy : ((x.toNat : Nat) : Int) = y := by
     rw [← hj]
     simp
     omega
    rw [hxy]
    exact hown.cells (g := g) rfl j _ h3)
  rw [hnums] at hrun
  have hw2 : Ok E I (.blk b (.cells ⟨wcells c0 c1 c2 c3 c4 c5 addr (.slice (some ⟨g, 0, none⟩) m cap) c8⟩ 105 (0, 0)) :: F) (w.freeze ⟨g, 0, none⟩ xs.length) := (hw.front (i := 1) rfl).lose (grown_freeze (g := g) (n := xs.length) (by omega))
  refine t_eff hf (v := .string (strOfNums xs)) (w' := w.freeze ⟨g, 0, none⟩ xs.length) (by
   have h1 : a.eval (.tmp 7) = .pointer (some ⟨g, 0, none⟩) := hf.ev rfl
   have h2 : a.eval (.tmp 12) = .int .i64 (xs.length : Int) := hf.ev rfl
   simp [execOp, resolve, invoke, builtin, h1, h2, hrun, strOfNums]) rfl fun a hf => ⟨.inr hw2, ?_⟩
  refine t_rd rfl hf (fun w hw => r_assign hf rfl) rfl fun a hf => ?_
  refine t_done ?_
  refine c_then ?_
  refine wp_ret ?_
  exact b_ret1 hf Go.Proofs.Try.results54 rfl ⟨_, rfl, rfl, hw2⟩
end Go.Lf
