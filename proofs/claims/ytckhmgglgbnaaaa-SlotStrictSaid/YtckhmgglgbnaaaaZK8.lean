import Derived.Test.YtckhmgglgbnaaaaZD
import Derived.Test.YtckhmgglgbnaaaaZF
import Derived.Test.YtckhmgglgbnaaaaUB
import Derived.Test.YtckhmgglgbnaaaaN
import Derived.Test.YtckhmgglgbnaaaaBL
import Derived.Test.YtckhmgglgbnaaaaZK7
set_option linter.unusedVariables false
set_option linter.unusedSimpArgs false
set_option maxHeartbeats 1000000
set_option maxRecDepth 20000
namespace Go.Lf
open Go Go.Proofs.Try
set_option maxHeartbeats 2000000 in
theorem trie_builder_build_scc (kk : Nat) : (∀ {E : World} {I : IH} {F : List Atom} {w : World} {a0b : Nat} {a0_p_l : List Pair} {a0_p_lv232 : Value} {a0_p_n : List ByteArray} {a0_p_nv : Value} {a0_p_nm : Nat} {a0_p_ncs : List Value} {a0_p_t : List Node} {a0_p_tv : Value} {a0_p_tm : Nat} {a0_p_tcs : List Value} {a1 : Int} {a2 : Int} {a3 : Int} {res0 : Int} {new_a0_p_t : List Node} (hw : Ok E I (.blk a0b (.cells ⟨[a0_p_lv232, a0_p_nv, a0_p_tv]⟩ 161 (0, 0)) :: .row a0_p_nv 9 1 a0_p_nm a0_p_ncs :: .row a0_p_tv 51 20 a0_p_tm a0_p_tcs :: F) w) (hR233 : RS ek_Pair I a0_p_lv232 a0_p_l) (ha0_p_n : RowR ekS I a0_p_ncs a0_p_n) (ha0_p_t : RowR ek_Node I a0_p_tcs a0_p_t) (hp : trie_builder_build.f kk a0_p_l a0_p_n a0_p_t a1 a2 a3 = some (res0, new_a0_p_t)),
  Calls P 97 ⟨[Value.pointer (some ⟨a0b, 0, none⟩), Value.int .i64 a1, Value.int .i64 a2, Value.int .i64 a3]⟩ w fun e w' => ∃ v, e = .returned v ∧ ∃ rv14117 : Value, ∃ rm14118 : Nat, ∃ rcs14119 : List Value, v = Value.int .i64 res0 ∧ Ok E I (.blk a0b (.cells ⟨[a0_p_lv232, a0_p_nv, rv14117]⟩ 161 (0, 0)) :: .row a0_p_nv 9 1 a0_p_nm a0_p_ncs :: .row rv14117 51 20 rm14118 rcs14119 :: F) w' ∧ RowR ek_Node I rcs14119 new_a0_p_t) ∧
 (∀ {E : World} {I : IH} {F : List Atom} {w : World} {a0b : Nat} {a0_p_l : List Pair} {a0_p_lv234 : Value} {a0_p_n : List ByteArray} {a0_p_nv : Value} {a0_p_nm : Nat} {a0_p_ncs : List Value} {a0_p_t : List Node} {a0_p_tv : Value} {a0_p_tm : Nat} {a0_p_tcs : List Value} {a1 : Int} {a2 : Int} {a3 : Int} {res0 : Node} {new_a0_p_t : List Node} (hw : Ok E I (.blk a0b (.cells ⟨[a0_p_lv234, a0_p_nv, a0_p_tv]⟩ 161 (0, 0)) :: .row a0_p_nv 9 1 a0_p_nm a0_p_ncs :: .row a0_p_tv 51 20 a0_p_tm a0_p_tcs :: F) w) (hR235 : RS ek_Pair I a0_p_lv234 a0_p_l) (ha0_p_n : RowR ekS I a0_p_ncs a0_p_n) (ha0_p_t : RowR ek_Node I a0_p_tcs a0_p_t) (hp : trie_builder_branch.f kk a0_p_l a0_p_n a0_p_t a1 a2 a3 = some (res0, new_a0_p_t)),
  Calls P 103 ⟨[Value.pointer (some ⟨a0b, 0, none⟩), Value.int .i64 a1, Value.int .i64 a2, Value.int .i64 a3]⟩ w fun e w' => ∃ v, e = .returned v ∧ ∃ rv14121 : Value, ∃ rm14122 : Nat, ∃ rcs14123 : List Value, v = Value.agg ⟨Value.int .i64 res0.kind_ :: Value.string res0.path_ :: Value.bool res0.has_ :: Value.string res0.value_ :: arrC .i64 res0.kids_⟩ ∧ Ok E I (.blk a0b (.cells ⟨[a0_p_lv234, a0_p_nv, rv14121]⟩ 161 (0, 0)) :: .row a0_p_nv 9 1 a0_p_nm a0_p_ncs :: .row rv14121 51 20 rm14122 rcs14123 :: F) w' ∧ RowR ek_Node I rcs14123 new_a0_p_t) := by
 induction kk with
 | zero =>
  refine ⟨?_, ?_⟩
  ·intro E I F w a0b a0_p_l a0_p_lv232 a0_p_n a0_p_nv a0_p_nm a0_p_ncs a0_p_t a0_p_tv a0_p_tm a0_p_tcs a1 a2 a3 res0 new_a0_p_t hw hR233 ha0_p_n ha0_p_t hp
   rw [trie_builder_build.f] at hp
   cases hp
  ·intro E I F w a0b a0_p_l a0_p_lv234 a0_p_n a0_p_nv a0_p_nm a0_p_ncs a0_p_t a0_p_tv a0_p_tm a0_p_tcs a1 a2 a3 res0 new_a0_p_t hw hR235 ha0_p_n ha0_p_t hp
   rw [trie_builder_branch.f] at hp
   cases hp
 | succ kk ihr =>
  obtain ⟨ihr_trie_builder_build, ihr_trie_builder_branch⟩ := ihr
  refine ⟨?_, ?_⟩
  ·intro E I F w a0b a0_p_l a0_p_lv232 a0_p_n a0_p_nv a0_p_nm a0_p_ncs a0_p_t a0_p_tv a0_p_tm a0_p_tcs a1 a2 a3 res0 new_a0_p_t hw hR233 ha0_p_n ha0_p_t hp
   refine c_enter func97 rfl ntmps97 rfl fun a hf => ?_
   replace hf : Fr 107 [(0, .pointer (some ⟨a0b, 0, none⟩)), (1, .int .i64 a1), (2, .int .i64 a2), (3, .int .i64 a3)] a := hf
   rw [trie_builder_build.f] at hp
   refine wq <| wr <| oa hf rfl rfl fun a hf => oN <| ct <| wq <| wr <| om hf rfl rfl fun a hf => oR hf (nC hf rfl) rfl fun a hf => oR hf (rF hf rfl fd_161_2) rfl fun a hf => oR hf (rL hw hf rfl ty_23 0 rfl rfl) rfl fun a hf => oR hf (r_lenL (K := ek_Node) hf el_23 rfl (rR (K := ek_Node) hw (i := 2) rfl ha0_p_t)) rfl fun a hf => oa hf rfl rfl fun a hf => oN <| ct <| wq ?_
   refine wr <| om hf rfl rfl fun a hf => om hf rfl rfl fun a hf => oR hf (nC hf rfl) rfl fun a hf => oR hf (rF hf rfl fd_161_2) rfl fun a hf => oR hf (rL hw hf rfl ty_23 0 rfl rfl) rfl fun a hf => oR hf (r_build hf bd_51 (vs := []) rfl trivial (by decide) (out := (.int .i64 0 :: .string e0 :: .bool false :: .string e0 :: arrC .i64 (Vector.replicate 16 0 : Vector Int 16))) rfl) rfl fun a hf => ?_
   obtain ⟨w, v1, hrun2, hw, hRR3⟩ := e_buildSlice (P := P) (K := ek_Node) (m := 1) hw hf (parts := [(0, .tmp 24)]) el_23 ty_51 rfl rfl rfl (ccs := [(Value.int .i64 0 :: Value.string e0 :: Value.bool false :: Value.string e0 :: arrC .i64 (Vector.replicate 16 0 : Vector Int 16))]) rfl (xs := [(⟨0, e0, false, e0, (Vector.replicate 16 0 : Vector Int 16)⟩ : Node)]) ⟨rfl, trivial⟩ rfl
   obtain ⟨cs4, hcs⟩ : ∃ cs, cs = ([(Value.int .i64 0 :: Value.string e0 :: Value.bool false :: Value.string e0 :: arrC .i64 (Vector.replicate 16 0 : Vector Int 16))] : List (List Value)).flatten := ⟨_, rfl⟩
   rw [← hcs] at hw hRR3; clear hcs
   refine o_eff hf (hrun2 ..) rfl fun a hf => ?_
   obtain ⟨hg6, hp⟩ := gS hp
   obtain ⟨w, v7, m8, cs9, hrun11, hw, hRR10⟩ := e_append (P := P) (K := ek_Node) (ty := 23) hw hf (s := .tmp 23) (x := .tmp 25) el_23 ty_51 rfl (by decide) 3 rfl rfl rfl ha0_p_t (ys := [(⟨0, e0, false, e0, (Vector.replicate 16 0 : Vector Int 16)⟩ : Node)]) (rR (K := ek_Node) hw (i := 0) rfl hRR3) hg6
   replace hw : Ok E I (.row v1 51 20 1 cs4 :: .blk a0b (.cells ⟨[a0_p_lv232, a0_p_nv, a0_p_tv]⟩ 161 (0, 0)) :: .row a0_p_nv 9 1 a0_p_nm a0_p_ncs :: .row v7 51 20 m8 cs9 :: F) w := hw
   refine o_eff hf (hrun11 ..) rfl fun a hf => oR hf (nC hf rfl) rfl fun a hf => oR hf (rF hf rfl fd_161_2) rfl fun a hf => ?_
   obtain ⟨w, hrun12, hw⟩ := e_store (P := P) hw hf (x := .tmp 28) (y := .tmp 26) rfl rfl ty_23 1 rfl (vs := [v7]) (oE (row_one hw (i := 3) rfl)) rfl (oC (row_one hw (i := 3) rfl) ones_nil) (by simp [arrC_len]) (cs' := [a0_p_lv232, a0_p_nv, v7]) rfl
   dsimp only [List.set] at hw
   refine o_effU (hrun12 ..) <| oN <| ct <| wq <| wr <| om hf rfl rfl fun a hf => oR hf (nC hf rfl) rfl fun a hf => oR hf (rF hf rfl fd_161_1) rfl fun a hf => oR hf (rL hw hf rfl ty_45 1 rfl rfl) rfl fun a hf => om hf rfl rfl fun a hf => ?_
   obtain ⟨hg13, hp⟩ := gS hp
   refine oR hf (rI (K := ekS) hf el_45 rfl rfl (rR (K := ekS) hw (i := 2) rfl ha0_p_n) hg13) rfl fun a hf => oR hf (r_loadH (K := ekS) hf rfl ty_9 (rR (K := ekS) hw (i := 2) rfl ha0_p_n) hg13 rfl (fun cs h => ekS_f0 h)) rfl fun a hf => om hf rfl rfl fun a hf => ?_
   obtain ⟨hg14, hp⟩ := gS hp
   refine oR hf (r_sliceSl hf und_9 rfl rfl hg14) rfl fun a hf => oa hf rfl rfl fun a hf => oN <| ct <| wq <| wq <| wr <| om hf rfl rfl fun a hf => om hf rfl rfl fun a hf => oR hf (r_sub hf rfl rfl) rfl fun a hf => oR hf (iC hf rfl rfl rfl) rfl fun a hf => oN <| ct <| cC hf rfl (fun hb15 => ?_) (fun hb15 => ?_)
   ·replace hp := cond_t hb15 hp
    refine wq <| c_drawn mix [16] (.rd 0 (.rd 1 (.rd 2 (.rd 3 (.rd 4 (.rd 5 (.rd 6 (.rd 7 (.rd 8 (.rd 9 (.rd 10 (.rd 11 (.rd 12 (.rd 13 (.rd 14 (.rd 15 (.ef 16 .done))))))))))))))))) (by kernel_rfl) hw (fun w => Ok E I (.row v1 51 20 1 cs4 :: .blk a0b (.cells ⟨[a0_p_lv232, a0_p_nv, v7]⟩ 161 (0, 0)) :: .row a0_p_nv 9 1 a0_p_nm a0_p_ncs :: .row v7 51 20 m8 cs9 :: F) w) (fun w hw => ⟨hw.sub (scc (scc (scc (scc sr)))), ?_⟩)
    refine tm rfl hf rfl rfl fun a hf => tR rfl hf (fun w hw => nC hf rfl) rfl fun a hf => tR rfl hf (fun w hw => rF hf rfl fd_161_2) rfl fun a hf => tR rfl hf (fun w hw => rL hw hf rfl ty_23 1 rfl rfl) rfl fun a hf => tm rfl hf rfl rfl fun a hf => tm rfl hf rfl rfl fun a hf => tm rfl hf rfl rfl fun a hf => tR rfl hf (fun w hw => nC hf rfl) rfl fun a hf => tR rfl hf (fun w hw => rF hf rfl fd_161_0) rfl fun a hf => tR rfl hf (fun w hw => rL hw hf rfl ty_43 1 rfl rfl) rfl fun a hf => tm rfl hf rfl rfl fun a hf => ?_
    obtain ⟨hg17, hp⟩ := gS hp
    refine tR rfl hf (fun w hw => rI (K := ek_Pair) hf el_43 rfl rfl (hR233.rd hw) hg17) rfl fun a hf => tR rfl hf (fun w hw => r_fieldAddrH hf rfl fd_55_1) rfl fun a hf => tR rfl hf (fun w hw => r_loadH (K := ek_Pair) hf rfl ty_9 (hR233.rd hw) hg17 rfl (fun cs h => Pair_f1 h)) rfl fun a hf => tR rfl hf (fun w hw => r_build hf bd_51 (vs := [.int .i64 1, .string (sub (gt a0_p_n a1) a3 ((gt a0_p_n a1).size : Int)), .bool true, .string ((gt a0_p_l a1).value_)]) rfl ⟨rfl, rfl, rfl, rfl, trivial⟩ (by decide) (out := (.int .i64 1 :: .string (sub (gt a0_p_n a1) a3 ((gt a0_p_n a1).size : Int)) :: .bool true :: .string ((gt a0_p_l a1).value_) :: arrC .i64 (Vector.replicate 16 0 : Vector Int 16))) rfl) rfl fun a hf => ?_
    obtain ⟨hg18, hp⟩ := gS hp
    refine tR rfl hf (fun w hw => rI (K := ek_Node) hf el_23 rfl rfl (rR (K := ek_Node) hw (i := 3) rfl hRR10) hg18) rfl fun a hf => t_ef rfl ?_
    obtain ⟨w, cs20, hrun19, hw, hRR21⟩ := e_storeH (P := P) (K := ek_Node) hw hf (x := .tmp 57) (y := .tmp 56) rfl rfl ty_51 3 rfl hRR10 hg18 rfl (vs := (.int .i64 1 :: .string (sub (gt a0_p_n a1) a3 ((gt a0_p_n a1).size : Int)) :: .bool true :: .string ((gt a0_p_l a1).value_) :: arrC .i64 (Vector.replicate 16 0 : Vector Int 16))) rfl (by simp [arrC_len]) (oC rfl (oC rfl (oC rfl (oC rfl (arrC_one _ _))))) (Nat.le_of_eq (by rfl)) (x' := (⟨1, sub (gt a0_p_n a1) a3 ((gt a0_p_n a1).size : Int), true, (gt a0_p_l a1).value_, (Vector.replicate 16 0 : Vector Int 16)⟩ : Node)) (whole_store rfl)
    replace hw : Ok E I (.row v1 51 20 1 cs4 :: .blk a0b (.cells ⟨[a0_p_lv232, a0_p_nv, v7]⟩ 161 (0, 0)) :: .row a0_p_nv 9 1 a0_p_nm a0_p_ncs :: .row v7 51 20 m8 cs20 :: F) w := hw
    refine t_effU (hrun19 ..) ⟨.inl rfl, ?_⟩
    refine t_done <| ct <| wq <| wr <| om hf rfl rfl fun a hf => oa hf rfl rfl fun a hf => oN <| ct <| wp_ret <| c_thenR ?_
    replace hw : Ok E I (.blk a0b (.cells ⟨[a0_p_lv232, a0_p_nv, v7]⟩ 161 (0, 0)) :: .row a0_p_nv 9 1 a0_p_nm a0_p_ncs :: .row v7 51 20 m8 cs20 :: F) w := hw.sub (sc (scc (scc (scc sr))))
    have ho := oI hp
    simp only [Prod.mk.injEq] at ho
    obtain ⟨rfl, rfl⟩ := ho
    exact b_ret1 hf results97 rfl ⟨_, rfl, ⟨v7, m8, cs20, rfl, hw, hRR21⟩⟩
   ·replace hp := cond_f hb15 hp
    refine wp_skip <| ct <| wq <| wq <| wr <| om hf rfl rfl fun a hf => om hf rfl rfl fun a hf => oR hf (nC hf rfl) rfl fun a hf => oR hf (rF hf rfl fd_161_1) rfl fun a hf => oR hf (rL hw hf rfl ty_45 1 rfl rfl) rfl fun a hf => om hf rfl rfl fun a hf => oR hf (r_sub hf rfl rfl) rfl fun a hf => ?_
    obtain ⟨hg22, hp⟩ := gS hp
    refine oR hf (rI (K := ekS) hf el_45 rfl rfl (rR (K := ekS) hw (i := 2) rfl ha0_p_n) hg22) rfl fun a hf => oR hf (r_loadH (K := ekS) hf rfl ty_9 (rR (K := ekS) hw (i := 2) rfl ha0_p_n) hg22 rfl (fun cs h => ekS_f0 h)) rfl fun a hf => om hf rfl rfl fun a hf => ?_
    obtain ⟨hg23, hp⟩ := gS hp
    refine oR hf (r_sliceSl hf und_9 rfl rfl hg23) rfl fun a hf => ?_
    obtain ⟨y24, hy25, hp⟩ := bS hp
    have hc27 := nibble_Common_ok hw hy25
    refine o_call hf cb_102 rfl rfl hc27 (fun v29 w a hK28 hf => ?_)
    obtain ⟨rfl, hw⟩ := hK28
    refine oa hf rfl rfl fun a hf => oN <| ct <| wq <| wr <| om hf rfl rfl fun a hf => oR hf (iC hf rfl rfl rfl) rfl fun a hf => oN <| ct <| cC hf rfl (fun hb30 => ?_) (fun hb30 => ?_)
    ·replace hp := cond_t hb30 hp
     refine wq <| wr <| om hf rfl rfl fun a hf => om hf rfl rfl fun a hf => ?_
     obtain ⟨hg31, hp⟩ := gS hp
     refine oR hf (r_sliceSh hf und_9 rfl rfl hg31) rfl fun a hf => oR hf (r_build hf bd_51 (vs := [.int .i64 2, .string (sub (sub (gt a0_p_n a1) a3 ((gt a0_p_n a1).size : Int)) 0 y24)]) rfl ⟨rfl, rfl, trivial⟩ (by decide) (out := (.int .i64 2 :: .string (sub (sub (gt a0_p_n a1) a3 ((gt a0_p_n a1).size : Int)) 0 y24) :: .bool false :: .string e0 :: arrC .i64 (Vector.replicate 16 0 : Vector Int 16))) rfl) rfl fun a hf => ?_
     obtain ⟨b32, w, hrun33, hw⟩ := e_alloc (P := P) (a := a) hw ty_51
     refine o_eff hf (hrun33 ..) rfl fun a hf => ?_
     obtain ⟨w, hrun35, hw⟩ := e_store (P := P) hw hf (x := .tmp 12) (y := .tmp 76) rfl rfl ty_51 0 rfl (vs := (.int .i64 2 :: .string (sub (sub (gt a0_p_n a1) a3 ((gt a0_p_n a1).size : Int)) 0 y24) :: .bool false :: .string e0 :: arrC .i64 (Vector.replicate 16 0 : Vector Int 16))) rfl (by simp [arrC_len]) (oC rfl (oC rfl (oC rfl (oC rfl (arrC_one _ _))))) (by simp [arrC_len]) (cs' := (.int .i64 2 :: .string (sub (sub (gt a0_p_n a1) a3 ((gt a0_p_n a1).size : Int)) 0 y24) :: .bool false :: .string e0 :: arrC .i64 (Vector.replicate 16 0 : Vector Int 16))) (by simp [arrC_len])
     dsimp only [List.set] at hw
     refine o_effU (hrun35 ..) <| oN <| ct <| wq <| wr <| om hf rfl rfl fun a hf => om hf rfl rfl fun a hf => om hf rfl rfl fun a hf => om hf rfl rfl fun a hf => om hf rfl rfl fun a hf => oR hf (r_add hf rfl rfl) rfl fun a hf => ?_
     replace hw : Ok E I (.blk a0b (.cells ⟨[a0_p_lv232, a0_p_nv, v7]⟩ 161 (0, 0)) :: .row a0_p_nv 9 1 a0_p_nm a0_p_ncs :: .row v7 51 20 m8 cs9 :: .blk b32 (.cells ⟨.int .i64 2 :: .string (sub (sub (gt a0_p_n a1) a3 ((gt a0_p_n a1).size : Int)) 0 y24) :: .bool false :: .string e0 :: arrC .i64 (Vector.replicate 16 0 : Vector Int 16)⟩ 51 (0, 0)) :: .row v1 51 20 1 cs4 :: F) w := ((hw.front (i := 4) rfl).front (i := 4) rfl).front (i := 4) rfl
     obtain ⟨y39, hy38, hp⟩ := bS hp
     obtain ⟨y36, y37⟩ := y39
     have hc40 := ihr_trie_builder_build hw hR233 ha0_p_n hRR10 hy38
     refine o_call hf cb_97 rfl rfl hc40 (fun v46 w a hK41 hf => ?_)
     obtain ⟨rv42, rm43, rcs44, rfl, hw, hRR45⟩ := hK41
     refine oR hf (rF hf rfl fd_51_4) rfl fun a hf => ?_
     obtain ⟨hg47, hp⟩ := gS hp
     refine oR hf (r_indexAddrA hf el_49 rfl rfl hg47) rfl fun a hf => ?_
     obtain ⟨w, hrun48, hw⟩ := e_store (P := P) hw hf (x := .tmp 85) (y := .tmp 83) rfl rfl ty_3 3 rfl (vs := [.int .i64 y36]) rfl rfl (oC rfl ones_nil) (by first | (simp [arrC_len] <;> omega) | (have h := hg47; try (simp only [w64, wu8, wu16, wu32, wu64] at h); simp only [List.length_cons, arrC_len]; omega)) (cs' := (.int .i64 2 :: .string (sub (sub (gt a0_p_n a1) a3 ((gt a0_p_n a1).size : Int)) 0 y24) :: .bool false :: .string e0 :: arrC .i64 (vset (Vector.replicate 16 0 : Vector Int 16) 0 y36))) (arr_store (pre := [.int .i64 2, .string (sub (sub (gt a0_p_n a1) a3 ((gt a0_p_n a1).size : Int)) 0 y24), .bool false, .string e0]) (v := (Vector.replicate 16 0 : Vector Int 16)) rfl rfl rfl hg47)
     dsimp only [List.set] at hw
     refine o_effU (hrun48 ..) <| oN <| ct <| wq <| c_drawn mix [7] (.rd 0 (.rd 1 (.rd 2 (.rd 3 (.rd 4 (.rd 5 (.rd 6 (.ef 7 .done)))))))) (by kernel_rfl) hw (fun w => Ok E I (.blk a0b (.cells ⟨[a0_p_lv232, a0_p_nv, rv42]⟩ 161 (0, 0)) :: .row a0_p_nv 9 1 a0_p_nm a0_p_ncs :: .row rv42 51 20 rm43 rcs44 :: .blk b32 (.cells ⟨.int .i64 2 :: .string (sub (sub (gt a0_p_n a1) a3 ((gt a0_p_n a1).size : Int)) 0 y24) :: .bool false :: .string e0 :: arrC .i64 (vset (Vector.replicate 16 0 : Vector Int 16) 0 y36)⟩ 51 (0, 0)) :: .row v1 51 20 1 cs4 :: F) w) (fun w hw => ⟨hw.sub (scc (scc (scc (scc (scc sr))))), ?_⟩)
     refine tm rfl hf rfl rfl fun a hf => tR rfl hf (fun w hw => nC hf rfl) rfl fun a hf => tR rfl hf (fun w hw => rF hf rfl fd_161_2) rfl fun a hf => tR rfl hf (fun w hw => rL hw hf rfl ty_23 0 rfl rfl) rfl fun a hf => tm rfl hf rfl rfl fun a hf => tR rfl hf (fun w hw => r_loadA hw hf rfl ty_51 3 rfl (vs := (.int .i64 2 :: .string (sub (sub (gt a0_p_n a1) a3 ((gt a0_p_n a1).size : Int)) 0 y24) :: .bool false :: .string e0 :: arrC .i64 (vset (Vector.replicate 16 0 : Vector Int 16) 0 y36))) (take_all (by simp [arrC_len])) (by simp [arrC_len])) rfl fun a hf => ?_
     obtain ⟨hg50, hp⟩ := gS hp
     refine tR rfl hf (fun w hw => rI (K := ek_Node) hf el_23 rfl rfl (rR (K := ek_Node) hw (i := 2) rfl hRR45) hg50) rfl fun a hf => t_ef rfl ?_
     obtain ⟨w, cs52, hrun51, hw, hRR53⟩ := e_storeH (P := P) (K := ek_Node) hw hf (x := .tmp 92) (y := .tmp 91) rfl rfl ty_51 2 rfl hRR45 hg50 rfl (vs := (.int .i64 2 :: .string (sub (sub (gt a0_p_n a1) a3 ((gt a0_p_n a1).size : Int)) 0 y24) :: .bool false :: .string e0 :: arrC .i64 (vset (Vector.replicate 16 0 : Vector Int 16) 0 y36))) rfl (by simp [arrC_len]) (oC rfl (oC rfl (oC rfl (oC rfl (arrC_one _ _))))) (Nat.le_of_eq (by rfl)) (x' := (⟨2, sub (sub (gt a0_p_n a1) a3 ((gt a0_p_n a1).size : Int)) 0 y24, false, e0, vset (Vector.replicate 16 0 : Vector Int 16) 0 y36⟩ : Node)) (whole_store rfl)
     replace hw : Ok E I (.blk a0b (.cells ⟨[a0_p_lv232, a0_p_nv, rv42]⟩ 161 (0, 0)) :: .row a0_p_nv 9 1 a0_p_nm a0_p_ncs :: .row rv42 51 20 rm43 cs52 :: .blk b32 (.cells ⟨.int .i64 2 :: .string (sub (sub (gt a0_p_n a1) a3 ((gt a0_p_n a1).size : Int)) 0 y24) :: .bool false :: .string e0 :: arrC .i64 (vset (Vector.replicate 16 0 : Vector Int 16) 0 y36)⟩ 51 (0, 0)) :: .row v1 51 20 1 cs4 :: F) w := hw
     refine t_effU (hrun51 ..) ⟨.inl rfl, ?_⟩
     refine t_done <| ct <| wq <| wr <| om hf rfl rfl fun a hf => oa hf rfl rfl fun a hf => oN <| ct <| wp_ret <| c_thenR ?_
     replace hw : Ok E I (.blk a0b (.cells ⟨[a0_p_lv232, a0_p_nv, rv42]⟩ 161 (0, 0)) :: .row a0_p_nv 9 1 a0_p_nm a0_p_ncs :: .row rv42 51 20 rm43 cs52 :: F) w := hw.sub (scc (scc (scc (sc (sc sr)))))
     have ho := oI hp
     simp only [Prod.mk.injEq] at ho
     obtain ⟨rfl, rfl⟩ := ho
     exact b_ret1 hf results97 rfl ⟨_, rfl, ⟨rv42, rm43, cs52, rfl, hw, hRR53⟩⟩
    ·replace hp := cond_f hb30 hp
     refine wp_skip <| ct <| wq <| wr <| om hf rfl rfl fun a hf => om hf rfl rfl fun a hf => om hf rfl rfl fun a hf => om hf rfl rfl fun a hf => ?_
     replace hw : Ok E I (.blk a0b (.cells ⟨[a0_p_lv232, a0_p_nv, v7]⟩ 161 (0, 0)) :: .row a0_p_nv 9 1 a0_p_nm a0_p_ncs :: .row v7 51 20 m8 cs9 :: .row v1 51 20 1 cs4 :: F) w := ((hw.front (i := 3) rfl).front (i := 3) rfl).front (i := 3) rfl
     obtain ⟨y57, hy56, hp⟩ := bS hp
     obtain ⟨y54, y55⟩ := y57
     have hc58 := ihr_trie_builder_branch hw hR233 ha0_p_n hRR10 hy56
     refine o_call hf cb_103 rfl rfl hc58 (fun v64 w a hK59 hf => ?_)
     obtain ⟨rv60, rm61, rcs62, rfl, hw, hRR63⟩ := hK59
     obtain ⟨b65, w, hrun66, hw⟩ := e_alloc (P := P) (a := a) hw ty_51
     refine o_eff hf (hrun66 ..) rfl fun a hf => ?_
     obtain ⟨w, hrun68, hw⟩ := e_store (P := P) hw hf (x := .tmp 13) (y := .tmp 98) rfl rfl ty_51 0 rfl (vs := (.int .i64 y54.kind_ :: .string y54.path_ :: .bool y54.has_ :: .string y54.value_ :: arrC .i64 y54.kids_)) rfl (by simp [arrC_len]) (oC rfl (oC rfl (oC rfl (oC rfl (arrC_one _ _))))) (by simp [arrC_len]) (cs' := (.int .i64 y54.kind_ :: .string y54.path_ :: .bool y54.has_ :: .string y54.value_ :: arrC .i64 y54.kids_)) (by simp [arrC_len])
     dsimp only [List.set] at hw
     refine o_effU (hrun68 ..) <| oN <| ct <| wq <| c_drawn mix [7] (.rd 0 (.rd 1 (.rd 2 (.rd 3 (.rd 4 (.rd 5 (.rd 6 (.ef 7 .done)))))))) (by kernel_rfl) hw (fun w => Ok E I (.blk b65 (.cells ⟨.int .i64 y54.kind_ :: .string y54.path_ :: .bool y54.has_ :: .string y54.value_ :: arrC .i64 y54.kids_⟩ 51 (0, 0)) :: .blk a0b (.cells ⟨[a0_p_lv232, a0_p_nv, rv60]⟩ 161 (0, 0)) :: .row a0_p_nv 9 1 a0_p_nm a0_p_ncs :: .row rv60 51 20 rm61 rcs62 :: .row v1 51 20 1 cs4 :: F) w) (fun w hw => ⟨hw.sub (scc (scc (scc (scc (scc sr))))), ?_⟩)
     refine tm rfl hf rfl rfl fun a hf => tR rfl hf (fun w hw => nC hf rfl) rfl fun a hf => tR rfl hf (fun w hw => rF hf rfl fd_161_2) rfl fun a hf => tR rfl hf (fun w hw => rL hw hf rfl ty_23 1 rfl rfl) rfl fun a hf => tm rfl hf rfl rfl fun a hf => tR rfl hf (fun w hw => r_loadA hw hf rfl ty_51 0 rfl (vs := (.int .i64 y54.kind_ :: .string y54.path_ :: .bool y54.has_ :: .string y54.value_ :: arrC .i64 y54.kids_)) (take_all (by simp [arrC_len])) (by simp [arrC_len])) rfl fun a hf => ?_
     obtain ⟨hg70, hp⟩ := gS hp
     refine tR rfl hf (fun w hw => rI (K := ek_Node) hf el_23 rfl rfl (rR (K := ek_Node) hw (i := 3) rfl hRR63) hg70) rfl fun a hf => t_ef rfl ?_
     obtain ⟨w, cs72, hrun71, hw, hRR73⟩ := e_storeH (P := P) (K := ek_Node) hw hf (x := .tmp 105) (y := .tmp 104) rfl rfl ty_51 3 rfl hRR63 hg70 rfl (vs := (.int .i64 y54.kind_ :: .string y54.path_ :: .bool y54.has_ :: .string y54.value_ :: arrC .i64 y54.kids_)) rfl (by simp [arrC_len]) (oC rfl (oC rfl (oC rfl (oC rfl (arrC_one _ _))))) (Nat.le_of_eq (by rfl)) (x' := y54) (whole_store rfl)
     replace hw : Ok E I (.blk b65 (.cells ⟨.int .i64 y54.kind_ :: .string y54.path_ :: .bool y54.has_ :: .string y54.value_ :: arrC .i64 y54.kids_⟩ 51 (0, 0)) :: .blk a0b (.cells ⟨[a0_p_lv232, a0_p_nv, rv60]⟩ 161 (0, 0)) :: .row a0_p_nv 9 1 a0_p_nm a0_p_ncs :: .row rv60 51 20 rm61 cs72 :: .row v1 51 20 1 cs4 :: F) w := hw
     refine t_effU (hrun71 ..) ⟨.inl rfl, ?_⟩
     refine t_done <| ct <| wq <| wr <| om hf rfl rfl fun a hf => oa hf rfl rfl fun a hf => oN <| ct <| wp_ret ?_
     replace hw : Ok E I (.blk a0b (.cells ⟨[a0_p_lv232, a0_p_nv, rv60]⟩ 161 (0, 0)) :: .row a0_p_nv 9 1 a0_p_nm a0_p_ncs :: .row rv60 51 20 rm61 cs72 :: F) w := hw.sub (sc (scc (scc (scc (sc sr)))))
     have ho := oI hp
     simp only [Prod.mk.injEq] at ho
     obtain ⟨rfl, rfl⟩ := ho
     exact b_ret1 hf results97 rfl ⟨_, rfl, ⟨rv60, rm61, cs72, rfl, hw, hRR73⟩⟩
  ·intro E I F w a0b a0_p_l a0_p_lv234 a0_p_n a0_p_nv a0_p_nm a0_p_ncs a0_p_t a0_p_tv a0_p_tm a0_p_tcs a1 a2 a3 res0 new_a0_p_t hw hR235 ha0_p_n ha0_p_t hp
   refine c_enter func103 rfl ntmps103 rfl fun a hf => ?_
   replace hf : Fr 77 [(0, .pointer (some ⟨a0b, 0, none⟩)), (1, .int .i64 a1), (2, .int .i64 a2), (3, .int .i64 a3)] a := hf
   rw [trie_builder_branch.f] at hp
   refine wq <| wr ?_
   obtain ⟨b1, w, hrun2, hw⟩ := e_alloc (P := P) (a := a) hw ty_51
   refine o_eff hf (hrun2 ..) rfl fun a hf => oN <| ct <| wq <| wr <| oR hf (r_build hf bd_51 (vs := [.int .i64 3]) rfl ⟨rfl, trivial⟩ (by decide) (out := (.int .i64 3 :: .string e0 :: .bool false :: .string e0 :: arrC .i64 (Vector.replicate 16 0 : Vector Int 16))) rfl) rfl fun a hf => ?_
   obtain ⟨b4, w, hrun5, hw⟩ := e_alloc (P := P) (a := a) hw ty_51
   refine o_eff hf (hrun5 ..) rfl fun a hf => ?_
   obtain ⟨w, hrun7, hw⟩ := e_store (P := P) hw hf (x := .tmp 9) (y := .tmp 12) rfl rfl ty_51 0 rfl (vs := (.int .i64 3 :: .string e0 :: .bool false :: .string e0 :: arrC .i64 (Vector.replicate 16 0 : Vector Int 16))) rfl (by simp [arrC_len]) (oC rfl (oC rfl (oC rfl (oC rfl (arrC_one _ _))))) (by simp [arrC_len]) (cs' := (.int .i64 3 :: .string e0 :: .bool false :: .string e0 :: arrC .i64 (Vector.replicate 16 0 : Vector Int 16))) (by simp [arrC_len])
   dsimp only [List.set] at hw
   refine o_effU (hrun7 ..) <| oN <| ct ?_
   obtain ⟨out23, hp, hq24⟩ := bS hp
   refine c_cut (fun a w => ∃ y20 : Bool, ∃ y21 : ByteArray, ∃ y22 : Int, (y20, y21, y22) = out23 ∧ Ok E I (.blk b4 (.cells ⟨.int .i64 3 :: .string e0 :: .bool y20 :: .string y21 :: arrC .i64 (Vector.replicate 16 0 : Vector Int 16)⟩ 51 (0, 0)) :: .blk b1 (.cells ⟨.int .i64 0 :: .string e0 :: .bool false :: .string e0 :: arrC .i64 (Vector.replicate 16 0 : Vector Int 16)⟩ 51 (0, 0)) :: .blk a0b (.cells ⟨[a0_p_lv234, a0_p_nv, a0_p_tv]⟩ 161 (0, 0)) :: .row a0_p_nv 9 1 a0_p_nm a0_p_ncs :: .row a0_p_tv 51 20 a0_p_tm a0_p_tcs :: F) w ∧ Fr 77 ([(0, .pointer (some ⟨a0b, 0, none⟩)), (1, .int .i64 y22), (2, .int .i64 a2), (3, .int .i64 a3), (8, .pointer (some ⟨b1, 0, none⟩)), (9, .pointer (some ⟨b4, 0, none⟩))]) a) ?_ ?_
   ·refine wq <| wr <| om hf rfl rfl fun a hf => oR hf (nC hf rfl) rfl fun a hf => oR hf (rF hf rfl fd_161_1) rfl fun a hf => oR hf (rL hw hf rfl ty_45 2 rfl rfl) rfl fun a hf => om hf rfl rfl fun a hf => ?_
    obtain ⟨hg25, hp⟩ := gS hp
    refine oR hf (rI (K := ekS) hf el_45 rfl rfl (rR (K := ekS) hw (i := 3) rfl ha0_p_n) hg25) rfl fun a hf => oR hf (r_loadH (K := ekS) hf rfl ty_9 (rR (K := ekS) hw (i := 3) rfl ha0_p_n) hg25 rfl (fun cs h => ekS_f0 h)) rfl fun a hf => oR hf (r_lenS hf und_9 rfl) rfl fun a hf => om hf rfl rfl fun a hf => oR hf (iC hf rfl rfl rfl) rfl fun a hf => oN <| ct <| cC hf rfl (fun hb26 => ?_) (fun hb26 => ?_)
    ·replace hp := cond_t hb26 hp
     refine wq <| c_drawn mix [11] (.rd 0 (.rd 1 (.rd 2 (.rd 3 (.rd 4 (.rd 5 (.rd 6 (.rd 7 (.rd 8 (.ef 9 (.rd 10 (.ef 11 .done)))))))))))) (by kernel_rfl) hw (fun w => Ok E I (.blk b1 (.cells ⟨.int .i64 0 :: .string e0 :: .bool false :: .string e0 :: arrC .i64 (Vector.replicate 16 0 : Vector Int 16)⟩ 51 (0, 0)) :: .blk a0b (.cells ⟨[a0_p_lv234, a0_p_nv, a0_p_tv]⟩ 161 (0, 0)) :: .row a0_p_nv 9 1 a0_p_nm a0_p_ncs :: .row a0_p_tv 51 20 a0_p_tm a0_p_tcs :: F) w) (fun w hw => ⟨hw.sub (sc (scc (scc (scc (scc sr))))), ?_⟩)
     refine tm rfl hf rfl rfl fun a hf => tR rfl hf (fun w hw => nC hf rfl) rfl fun a hf => tR rfl hf (fun w hw => rF hf rfl fd_161_0) rfl fun a hf => tR rfl hf (fun w hw => rL hw hf rfl ty_43 1 rfl rfl) rfl fun a hf => tm rfl hf rfl rfl fun a hf => ?_
     obtain ⟨hg28, hp⟩ := gS hp
     refine tR rfl hf (fun w hw => rI (K := ek_Pair) hf el_43 rfl rfl (hR235.rd hw) hg28) rfl fun a hf => tR rfl hf (fun w hw => r_fieldAddrH hf rfl fd_55_1) rfl fun a hf => tR rfl hf (fun w hw => r_loadH (K := ek_Pair) hf rfl ty_9 (hR235.rd hw) hg28 rfl (fun cs h => Pair_f1 h)) rfl fun a hf => tR rfl hf (fun w hw => rF hf rfl fd_51_2) rfl fun a hf => t_ef rfl ?_
     obtain ⟨w, hrun29, hw⟩ := e_store (P := P) hw hf (x := .tmp 31) (y := .const (Value.bool true)) rfl rfl ty_4 0 rfl (vs := [.bool true]) (oE rfl) rfl (oC rfl ones_nil) (by simp [arrC_len]) (cs' := (.int .i64 3 :: .string e0 :: .bool true :: .string e0 :: arrC .i64 (Vector.replicate 16 0 : Vector Int 16))) rfl
     dsimp only [List.set] at hw
     refine t_effU (hrun29 ..) ⟨.inr (hw.back (IH.le_refl _) (sc (scc (scc (scc (scc sr)))))), ?_⟩
     refine tR rfl hf (fun w hw => rF hf rfl fd_51_3) rfl fun a hf => t_ef rfl ?_
     obtain ⟨w, hrun30, hw⟩ := e_store (P := P) hw hf (x := .tmp 32) (y := .tmp 30) rfl rfl ty_9 0 rfl (vs := [.string ((gt a0_p_l a1).value_)]) (oE rfl) rfl (oC rfl ones_nil) (by simp [arrC_len]) (cs' := (.int .i64 3 :: .string e0 :: .bool true :: .string ((gt a0_p_l a1).value_) :: arrC .i64 (Vector.replicate 16 0 : Vector Int 16))) rfl
     dsimp only [List.set] at hw
     refine t_effU (hrun30 ..) ⟨.inl rfl, ?_⟩
     refine t_done <| ct <| wr <| om hf rfl rfl fun a hf => oR hf (r_add hf rfl rfl) rfl fun a hf => oa hf rfl rfl fun a hf => oN <| ct ?_
     have ho := oI hp
     subst ho
     exact ⟨true, ((gt a0_p_l a1).value_), (w64 (a1 + 1)), rfl, hw, hf.to ⟨rfl, rfl, rfl, rfl, rfl, rfl, trivial⟩⟩
    ·replace hp := cond_f hb26 hp
     refine wp_skip <| ct ?_
     have ho := oI hp
     subst ho
     exact ⟨false, e0, a1, rfl, hw, hf.to ⟨rfl, rfl, rfl, rfl, rfl, rfl, trivial⟩⟩
   ·intro a w hM
    obtain ⟨y20, y21, y22, rfl, hw, hf⟩ := hM
    replace hp := hq24
    refine wq ?_
    obtain ⟨out432, hp, hq433⟩ := bS hp
    refine c_cutX (fun a w => ∃ y426 : List Node, ∃ y431 : Vector Int 16, ∃ yv427 : Value, ∃ m428 : Nat, ∃ cs429 : List Value, (y426, y431) = out432 ∧ Ok E I (.blk b4 (.cells ⟨.int .i64 3 :: .string e0 :: .bool y20 :: .string y21 :: arrC .i64 y431⟩ 51 (0, 0)) :: .blk b1 (.cells ⟨.int .i64 0 :: .string e0 :: .bool false :: .string e0 :: arrC .i64 (Vector.replicate 16 0 : Vector Int 16)⟩ 51 (0, 0)) :: .blk a0b (.cells ⟨[a0_p_lv234, a0_p_nv, yv427]⟩ 161 (0, 0)) :: .row a0_p_nv 9 1 a0_p_nm a0_p_ncs :: .row yv427 51 20 m428 cs429 :: F) w ∧ Fr 77 ([(8, .pointer (some ⟨b1, 0, none⟩)), (9, .pointer (some ⟨b4, 0, none⟩))]) a ∧ RowR ek_Node I cs429 y426) ?_ ?_
    ·refine wp_block <| c_loop <| c_fuel (trie_builder_branch.l0 a0_p_l a0_p_n a2 a3 (trie_builder_build.f kk)) out432 (fun (y292, y297, y298) a w => ∃ yv293 : Value, ∃ m294 : Nat, ∃ cs295 : List Value, Ok E I (.blk b4 (.cells ⟨.int .i64 3 :: .string e0 :: .bool y20 :: .string y21 :: arrC .i64 y297⟩ 51 (0, 0)) :: .blk b1 (.cells ⟨.int .i64 0 :: .string e0 :: .bool false :: .string e0 :: arrC .i64 (Vector.replicate 16 0 : Vector Int 16)⟩ 51 (0, 0)) :: .blk a0b (.cells ⟨[a0_p_lv234, a0_p_nv, yv293]⟩ 161 (0, 0)) :: .row a0_p_nv 9 1 a0_p_nm a0_p_ncs :: .row yv293 51 20 m294 cs295 :: F) w ∧ Fr 77 ([(0, .pointer (some ⟨a0b, 0, none⟩)), (1, .int .i64 y298), (2, .int .i64 a2), (3, .int .i64 a3), (8, .pointer (some ⟨b1, 0, none⟩)), (9, .pointer (some ⟨b4, 0, none⟩))]) a ∧ RowR ek_Node I cs295 y292) (fun _ => rfl) ?_ BIG (a0_p_t, (Vector.replicate 16 0 : Vector Int 16), y22) _ _ ⟨a0_p_tv, a0_p_tm, a0_p_tcs, hw, hf.to ⟨rfl, rfl, rfl, rfl, rfl, rfl, trivial⟩, ha0_p_t⟩ hp
     intro k st a w hI hp ih
     obtain ⟨y292, y297, y298⟩ := st
     obtain ⟨yv293, m294, cs295, hw, hf, hRR296⟩ := hI
     rw [trie_builder_branch.l0] at hp
     refine wq <| wq <| wr <| om hf rfl rfl fun a hf => om hf rfl rfl fun a hf => oR hf (iC hf rfl rfl rfl) rfl fun a hf => oN <| ct <| cC hf rfl (fun hb435 => ?_) (fun hb435 => ?_)
     ·replace hp := cond_t hb435 hp
      refine wp_skip <| ct <| wp_block <| wq <| wr <| om hf rfl rfl fun a hf => oR hf (nC hf rfl) rfl fun a hf => oR hf (rF hf rfl fd_161_1) rfl fun a hf => oR hf (rL hw hf rfl ty_45 2 rfl rfl) rfl fun a hf => om hf rfl rfl fun a hf => ?_
      obtain ⟨hg436, hp⟩ := gS hp
      refine oR hf (rI (K := ekS) hf el_45 rfl rfl (rR (K := ekS) hw (i := 3) rfl ha0_p_n) hg436) rfl fun a hf => oR hf (r_loadH (K := ekS) hf rfl ty_9 (rR (K := ekS) hw (i := 3) rfl ha0_p_n) hg436 rfl (fun cs h => ekS_f0 h)) rfl fun a hf => om hf rfl rfl fun a hf => ?_
      obtain ⟨hg437, hp⟩ := gS hp
      refine oR hf (r_indexS hf und_9 rfl rfl hg437) rfl fun a hf => oa hf rfl rfl fun a hf => oN <| ct <| wq <| wr <| om hf rfl rfl fun a hf => oa hf rfl rfl fun a hf => oN <| ct <| wq ?_
      obtain ⟨out519, hp, hq520⟩ := bS hp
      refine c_cutX (fun a w => ∃ y518 : Int, y518 = out519 ∧ Ok E I (.blk b4 (.cells ⟨.int .i64 3 :: .string e0 :: .bool y20 :: .string y21 :: arrC .i64 y297⟩ 51 (0, 0)) :: .blk b1 (.cells ⟨.int .i64 0 :: .string e0 :: .bool false :: .string e0 :: arrC .i64 (Vector.replicate 16 0 : Vector Int 16)⟩ 51 (0, 0)) :: .blk a0b (.cells ⟨[a0_p_lv234, a0_p_nv, yv293]⟩ 161 (0, 0)) :: .row a0_p_nv 9 1 a0_p_nm a0_p_ncs :: .row yv293 51 20 m294 cs295 :: F) w ∧ Fr 77 ([(0, .pointer (some ⟨a0b, 0, none⟩)), (1, .int .i64 y298), (2, .int .i64 a2), (3, .int .i64 a3), (8, .pointer (some ⟨b1, 0, none⟩)), (9, .pointer (some ⟨b4, 0, none⟩)), (10, .int .u8 (bt (gt a0_p_n y298) a3)), (11, .int .i64 y518)]) a) ?_ ?_
      ·refine wp_block <| c_loop <| c_fuel (trie_builder_branch.l1 a0_p_n a2 a3 y298) out519 (fun (y491 : Int) a w => Ok E I (.blk b4 (.cells ⟨.int .i64 3 :: .string e0 :: .bool y20 :: .string y21 :: arrC .i64 y297⟩ 51 (0, 0)) :: .blk b1 (.cells ⟨.int .i64 0 :: .string e0 :: .bool false :: .string e0 :: arrC .i64 (Vector.replicate 16 0 : Vector Int 16)⟩ 51 (0, 0)) :: .blk a0b (.cells ⟨[a0_p_lv234, a0_p_nv, yv293]⟩ 161 (0, 0)) :: .row a0_p_nv 9 1 a0_p_nm a0_p_ncs :: .row yv293 51 20 m294 cs295 :: F) w ∧ Fr 77 ([(0, .pointer (some ⟨a0b, 0, none⟩)), (1, .int .i64 y298), (2, .int .i64 a2), (3, .int .i64 a3), (8, .pointer (some ⟨b1, 0, none⟩)), (9, .pointer (some ⟨b4, 0, none⟩)), (10, .int .u8 (bt (gt a0_p_n y298) a3)), (11, .int .i64 y491)]) a) (fun _ => rfl) ?_ BIG y298 _ _ ⟨hw, hf.to ⟨rfl, rfl, rfl, rfl, rfl, rfl, rfl, rfl, trivial⟩⟩ hp
       intro k y491 a w hI hp ih
       obtain ⟨hw, hf⟩ := hI
       rw [trie_builder_branch.l1] at hp
       refine wq ?_
       obtain ⟨out542, hp, hq543⟩ := bS hp
       refine c_cut (fun a w => ∃ y541 : Bool, y541 = out542 ∧ Ok E I (.blk b4 (.cells ⟨.int .i64 3 :: .string e0 :: .bool y20 :: .string y21 :: arrC .i64 y297⟩ 51 (0, 0)) :: .blk b1 (.cells ⟨.int .i64 0 :: .string e0 :: .bool false :: .string e0 :: arrC .i64 (Vector.replicate 16 0 : Vector Int 16)⟩ 51 (0, 0)) :: .blk a0b (.cells ⟨[a0_p_lv234, a0_p_nv, yv293]⟩ 161 (0, 0)) :: .row a0_p_nv 9 1 a0_p_nm a0_p_ncs :: .row yv293 51 20 m294 cs295 :: F) w ∧ Fr 77 ([(0, .pointer (some ⟨a0b, 0, none⟩)), (1, .int .i64 y298), (2, .int .i64 a2), (3, .int .i64 a3), (8, .pointer (some ⟨b1, 0, none⟩)), (9, .pointer (some ⟨b4, 0, none⟩)), (10, .int .u8 (bt (gt a0_p_n y298) a3)), (11, .int .i64 y491), (63, .bool y541)]) a) ?_ ?_
       ·refine wr <| om hf rfl rfl fun a hf => om hf rfl rfl fun a hf => oR hf (iC hf rfl rfl rfl) rfl fun a hf => om hf rfl rfl fun a hf => g_split hf (g := 51) rfl (fun hb544 hf => ?_) (fun hb544 hf => ?_)
        ·replace hp := cond_t hb544 hp
         refine oW hf (g := 51) rfl rfl <| om hf rfl rfl fun a hf => oW hf (g := 51) rfl rfl <| oR hf (nC hf rfl) rfl fun a hf => oW hf (g := 51) rfl rfl <| oR hf (rF hf rfl fd_161_1) rfl fun a hf => oW hf (g := 51) rfl rfl <| oR hf (rL hw hf rfl ty_45 2 rfl rfl) rfl fun a hf => oW hf (g := 51) rfl rfl <| om hf rfl rfl fun a hf => ?_
         obtain ⟨hg545, hp⟩ := gS hp
         refine oW hf (g := 51) rfl rfl <| oR hf (rI (K := ekS) hf el_45 rfl rfl (rR (K := ekS) hw (i := 3) rfl ha0_p_n) hg545) rfl fun a hf => oW hf (g := 51) rfl rfl <| oR hf (r_loadH (K := ekS) hf rfl ty_9 (rR (K := ekS) hw (i := 3) rfl ha0_p_n) hg545 rfl (fun cs h => ekS_f0 h)) rfl fun a hf => oW hf (g := 51) rfl rfl <| om hf rfl rfl fun a hf => ?_
         obtain ⟨hg546, hp⟩ := gS hp
         refine oW hf (g := 51) rfl rfl <| oR hf (r_indexS hf und_9 rfl rfl hg546) rfl fun a hf => oW hf (g := 51) rfl rfl <| om hf rfl rfl fun a hf => oW hf (g := 51) rfl rfl <| oR hf (iC hf rfl rfl rfl) rfl fun a hf => oR hf (pT hf rfl rfl) rfl fun a hf => oN <| ct ?_
         have ho := oI hp
         subst ho
         exact ⟨((bt (gt a0_p_n y491) a3) == (bt (gt a0_p_n y298) a3)), rfl, hw, hf.to ⟨rfl, rfl, rfl, rfl, rfl, rfl, rfl, rfl, rfl, trivial⟩⟩
        ·replace hp := cond_f hb544 hp
         refine oQ hf (g := 51) rfl fun a hf => oQ hf (g := 51) rfl fun a hf => oQ hf (g := 51) rfl fun a hf => oQ hf (g := 51) rfl fun a hf => oQ hf (g := 51) rfl fun a hf => oQ hf (g := 51) rfl fun a hf => oQ hf (g := 51) rfl fun a hf => oQ hf (g := 51) rfl fun a hf => oQ hf (g := 51) rfl fun a hf => oQ hf (g := 51) rfl fun a hf => oQ hf (g := 51) rfl fun a hf => oR hf (pF hf rfl rfl) rfl fun a hf => oN <| ct ?_
         have ho := oI hp
         subst ho
         exact ⟨false, rfl, hw, hf.to ⟨rfl, rfl, rfl, rfl, rfl, rfl, rfl, rfl, rfl, trivial⟩⟩
       ·intro a w hM
        obtain ⟨y541, rfl, hw, hf⟩ := hM
        replace hp := hq543
        refine cC hf rfl (fun hb547 => ?_) (fun hb547 => ?_)
        ·replace hp := cond_t hb547 hp
         refine wp_skip <| ct <| wp_block <| wr <| om hf rfl rfl fun a hf => oR hf (r_add hf rfl rfl) rfl fun a hf => oa hf rfl rfl fun a hf => oN <| c_blockN <| ct ?_
         exact ih (w64 (y491 + 1)) _ _ ⟨hw, hf.to ⟨rfl, rfl, rfl, rfl, rfl, rfl, rfl, rfl, trivial⟩⟩ hp
        ·replace hp := cond_f hb547 hp
         refine wp_exit <| c_thenE <| c_thenE <| c_exit <| ct ?_
         have ho := oI hp
         subst ho
         exact ⟨y491, rfl, hw, hf.to ⟨rfl, rfl, rfl, rfl, rfl, rfl, rfl, rfl, trivial⟩⟩
      ·intro a w hM
       obtain ⟨y518, rfl, hw, hf⟩ := hM
       replace hp := hq520
       refine ct <| wq <| wr <| om hf rfl rfl fun a hf => om hf rfl rfl fun a hf => om hf rfl rfl fun a hf => om hf rfl rfl fun a hf => om hf rfl rfl fun a hf => oR hf (r_add hf rfl rfl) rfl fun a hf => ?_
       replace hw : Ok E I (.blk a0b (.cells ⟨[a0_p_lv234, a0_p_nv, yv293]⟩ 161 (0, 0)) :: .row a0_p_nv 9 1 a0_p_nm a0_p_ncs :: .row yv293 51 20 m294 cs295 :: .blk b4 (.cells ⟨.int .i64 3 :: .string e0 :: .bool y20 :: .string y21 :: arrC .i64 y297⟩ 51 (0, 0)) :: .blk b1 (.cells ⟨.int .i64 0 :: .string e0 :: .bool false :: .string e0 :: arrC .i64 (Vector.replicate 16 0 : Vector Int 16)⟩ 51 (0, 0)) :: F) w := ((hw.front (i := 4) rfl).front (i := 4) rfl).front (i := 4) rfl
       obtain ⟨y552, hy551, hp⟩ := bS hp
       obtain ⟨y549, y550⟩ := y552
       have hc553 := ihr_trie_builder_build hw hR235 ha0_p_n hRR296 hy551
       refine o_call hf cb_97 rfl rfl hc553 (fun v559 w a hK554 hf => ?_)
       obtain ⟨rv555, rm556, rcs557, rfl, hw, hRR558⟩ := hK554
       refine oR hf (rF hf rfl fd_51_4) rfl fun a hf => ?_
       obtain ⟨hg560, hp⟩ := gS hp
       refine oR hf (r_indexAddrA hf el_49 rfl rfl hg560) rfl fun a hf => ?_
       obtain ⟨w, hrun561, hw⟩ := e_store (P := P) hw hf (x := .tmp 74) (y := .tmp 72) rfl rfl ty_3 3 rfl (vs := [.int .i64 y549]) rfl rfl (oC rfl ones_nil) (by first | (simp [arrC_len] <;> omega) | (have h := hg560; try (simp only [w64, wu8, wu16, wu32, wu64] at h); simp only [List.length_cons, arrC_len]; omega)) (cs' := (.int .i64 3 :: .string e0 :: .bool y20 :: .string y21 :: arrC .i64 (vset y297 (bt (gt a0_p_n y298) a3) y549))) (arr_store (pre := [.int .i64 3, .string e0, .bool y20, .string y21]) (v := y297) rfl rfl rfl hg560)
       dsimp only [List.set] at hw
       refine o_effU (hrun561 ..) <| oN <| ct <| wr <| om hf rfl rfl fun a hf => oa hf rfl rfl fun a hf => oN <| c_blockN <| ct ?_
       replace hw : Ok E I (.blk b4 (.cells ⟨.int .i64 3 :: .string e0 :: .bool y20 :: .string y21 :: arrC .i64 (vset y297 (bt (gt a0_p_n y298) a3) y549)⟩ 51 (0, 0)) :: .blk b1 (.cells ⟨.int .i64 0 :: .string e0 :: .bool false :: .string e0 :: arrC .i64 (Vector.replicate 16 0 : Vector Int 16)⟩ 51 (0, 0)) :: .blk a0b (.cells ⟨[a0_p_lv234, a0_p_nv, rv555]⟩ 161 (0, 0)) :: .row a0_p_nv 9 1 a0_p_nm a0_p_ncs :: .row rv555 51 20 rm556 rcs557 :: F) w := ((((hw.front (i := 2) rfl).front (i := 2) rfl).front (i := 2) rfl).front (i := 4) rfl).front (i := 4) rfl
       exact ih (y550, vset y297 (bt (gt a0_p_n y298) a3) y549, y518) _ _ ⟨rv555, rm556, rcs557, hw, hf.to ⟨rfl, rfl, rfl, rfl, rfl, rfl, trivial⟩, hRR558⟩ hp
     ·replace hp := cond_f hb435 hp
      refine wp_exit <| c_thenE <| c_thenE <| c_exit <| ct ?_
      have ho := oI hp
      subst ho
      exact ⟨y292, y297, yv293, m294, cs295, rfl, hw, hf.to ⟨rfl, rfl, trivial⟩, hRR296⟩
    ·intro a w hM
     obtain ⟨y426, y431, yv427, m428, cs429, rfl, hw, hf, hRR430⟩ := hM
     replace hp := hq433
     refine ct <| wq <| wr <| oR hf (r_loadA hw hf rfl ty_51 0 rfl (vs := (.int .i64 3 :: .string e0 :: .bool y20 :: .string y21 :: arrC .i64 y431)) (take_all (by simp [arrC_len])) (by simp [arrC_len])) rfl fun a hf => ?_
     obtain ⟨w, hrun563, hw⟩ := e_store (P := P) hw hf (x := .tmp 8) (y := .tmp 76) rfl rfl ty_51 1 rfl (vs := (.int .i64 3 :: .string e0 :: .bool y20 :: .string y21 :: arrC .i64 y431)) rfl (by simp [arrC_len]) (oC rfl (oC rfl (oC rfl (oC rfl (arrC_one _ _))))) (by simp [arrC_len]) (cs' := (.int .i64 3 :: .string e0 :: .bool y20 :: .string y21 :: arrC .i64 y431)) (by simp [arrC_len])
     dsimp only [List.set] at hw
     refine o_effU (hrun563 ..) <| oN <| ct <| wp_ret ?_
     replace hw : Ok E I (.blk b1 (.cells ⟨.int .i64 3 :: .string e0 :: .bool y20 :: .string y21 :: arrC .i64 y431⟩ 51 (0, 0)) :: .blk a0b (.cells ⟨[a0_p_lv234, a0_p_nv, yv427]⟩ 161 (0, 0)) :: .row a0_p_nv 9 1 a0_p_nm a0_p_ncs :: .row yv427 51 20 m428 cs429 :: F) w := hw.sub (sc (scc (scc (scc (scc sr)))))
     have ho := oI hp
     simp only [Prod.mk.injEq] at ho
     obtain ⟨rfl, rfl⟩ := ho
     exact b_retC hw hf results103 ty_51 rfl 0 rfl (vs := (.int .i64 3 :: .string e0 :: .bool y20 :: .string y21 :: arrC .i64 y431)) (take_all (by simp [arrC_len])) (by simp [arrC_len]) ⟨_, rfl, ⟨yv427, m428, cs429, rfl, hw.tail, hRR430⟩⟩
theorem trie_builder_build_ok (kk : Nat) : ∀ {E : World} {I : IH} {F : List Atom} {w : World} {a0b : Nat} {a0_p_l : List Pair} {a0_p_lv232 : Value} {a0_p_n : List ByteArray} {a0_p_nv : Value} {a0_p_nm : Nat} {a0_p_ncs : List Value} {a0_p_t : List Node} {a0_p_tv : Value} {a0_p_tm : Nat} {a0_p_tcs : List Value} {a1 : Int} {a2 : Int} {a3 : Int} {res0 : Int} {new_a0_p_t : List Node} (hw : Ok E I (.blk a0b (.cells ⟨[a0_p_lv232, a0_p_nv, a0_p_tv]⟩ 161 (0, 0)) :: .row a0_p_nv 9 1 a0_p_nm a0_p_ncs :: .row a0_p_tv 51 20 a0_p_tm a0_p_tcs :: F) w) (hR233 : RS ek_Pair I a0_p_lv232 a0_p_l) (ha0_p_n : RowR ekS I a0_p_ncs a0_p_n) (ha0_p_t : RowR ek_Node I a0_p_tcs a0_p_t) (hp : trie_builder_build.f kk a0_p_l a0_p_n a0_p_t a1 a2 a3 = some (res0, new_a0_p_t)),
  Calls P 97 ⟨[Value.pointer (some ⟨a0b, 0, none⟩), Value.int .i64 a1, Value.int .i64 a2, Value.int .i64 a3]⟩ w fun e w' => ∃ v, e = .returned v ∧ ∃ rv14117 : Value, ∃ rm14118 : Nat, ∃ rcs14119 : List Value, v = Value.int .i64 res0 ∧ Ok E I (.blk a0b (.cells ⟨[a0_p_lv232, a0_p_nv, rv14117]⟩ 161 (0, 0)) :: .row a0_p_nv 9 1 a0_p_nm a0_p_ncs :: .row rv14117 51 20 rm14118 rcs14119 :: F) w' ∧ RowR ek_Node I rcs14119 new_a0_p_t := (trie_builder_build_scc kk).1
theorem trie_builder_branch_ok (kk : Nat) : ∀ {E : World} {I : IH} {F : List Atom} {w : World} {a0b : Nat} {a0_p_l : List Pair} {a0_p_lv234 : Value} {a0_p_n : List ByteArray} {a0_p_nv : Value} {a0_p_nm : Nat} {a0_p_ncs : List Value} {a0_p_t : List Node} {a0_p_tv : Value} {a0_p_tm : Nat} {a0_p_tcs : List Value} {a1 : Int} {a2 : Int} {a3 : Int} {res0 : Node} {new_a0_p_t : List Node} (hw : Ok E I (.blk a0b (.cells ⟨[a0_p_lv234, a0_p_nv, a0_p_tv]⟩ 161 (0, 0)) :: .row a0_p_nv 9 1 a0_p_nm a0_p_ncs :: .row a0_p_tv 51 20 a0_p_tm a0_p_tcs :: F) w) (hR235 : RS ek_Pair I a0_p_lv234 a0_p_l) (ha0_p_n : RowR ekS I a0_p_ncs a0_p_n) (ha0_p_t : RowR ek_Node I a0_p_tcs a0_p_t) (hp : trie_builder_branch.f kk a0_p_l a0_p_n a0_p_t a1 a2 a3 = some (res0, new_a0_p_t)),
  Calls P 103 ⟨[Value.pointer (some ⟨a0b, 0, none⟩), Value.int .i64 a1, Value.int .i64 a2, Value.int .i64 a3]⟩ w fun e w' => ∃ v, e = .returned v ∧ ∃ rv14121 : Value, ∃ rm14122 : Nat, ∃ rcs14123 : List Value, v = Value.agg ⟨Value.int .i64 res0.kind_ :: Value.string res0.path_ :: Value.bool res0.has_ :: Value.string res0.value_ :: arrC .i64 res0.kids_⟩ ∧ Ok E I (.blk a0b (.cells ⟨[a0_p_lv234, a0_p_nv, rv14121]⟩ 161 (0, 0)) :: .row a0_p_nv 9 1 a0_p_nm a0_p_ncs :: .row rv14121 51 20 rm14122 rcs14123 :: F) w' ∧ RowR ek_Node I rcs14123 new_a0_p_t := (trie_builder_build_scc kk).2

theorem trie_Build_ok {E : World} {I : IH} {F : List Atom} {w : World} {a0 : List Pair} {a0v1129 : Value} {res0 : List Node} {res1 : Bool} (hw : Ok E I (F) w) (hR1130 : RS ek_Pair I a0v1129 a0) (hp : trie_Build.f a0 = some (res0, res1)) :
  Calls P 85 ⟨[a0v1129]⟩ w fun e w' => ∃ v, e = .returned v ∧ ∃ I2 : IH, ∃ rvv14125 : Value, v = Value.tuple ⟨[rvv14125, Value.bool res1]⟩ ∧ IH.le I I2 ∧ Ok E I2 (F) w' ∧ RS ek_Node I2 rvv14125 res0 := by
 refine c_enter func85 rfl ntmps85 rfl fun a hf => ?_
 replace hf : Fr 43 [(0, a0v1129)] a := hf
 unfold trie_Build.f at hp
 refine wq <| wr <| oa hf rfl rfl fun a hf => oa hf rfl rfl fun a hf => oN <| ct <| wq <| wq <| wr <| om hf rfl rfl fun a hf => ?_
 obtain ⟨y228, hy229, hp⟩ := bS hp
 have hc231 := trie_may_ok hw hR1130 hy229
 refine o_call hf cb_95 rfl rfl hc231 (fun v233 w a hK232 hf => ?_)
 obtain ⟨rfl, hw⟩ := hK232
 refine oR hf (r_not hf rfl) rfl fun a hf => oN <| ct <| cC hf rfl (fun hb234 => ?_) (fun hb234 => ?_)
 ·replace hp := cond_t hb234 hp
  refine wq <| wr <| oa hf rfl rfl fun a hf => oa hf rfl rfl fun a hf => oN <| ct <| wp_ret <| c_thenR ?_
  have ho := oI hp
  simp only [Prod.mk.injEq] at ho
  obtain ⟨rfl, rfl⟩ := ho
  exact b_ret2 hf results85 rfl rfl ⟨_, rfl, ⟨I, (Value.slice none 0 0), rfl, (IH.le_refl _), hw, RS.nil⟩⟩
 ·replace hp := cond_f hb234 hp
  refine wp_skip <| ct <| wq <| wr <| om hf rfl rfl fun a hf => oR hf (r_build hf bd_161 (vs := [a0v1129]) rfl ⟨hR1130.one, trivial⟩ (by decide) (out := [a0v1129, .slice none 0 0, .slice none 0 0]) rfl) rfl fun a hf => ?_
  obtain ⟨b235, w, hrun236, hw⟩ := e_box (P := P) hw hf (e := 161) (x := .tmp 11) rfl (cs := [a0v1129, Value.slice none 0 0, Value.slice none 0 0]) rfl
  refine o_eff hf (hrun236 ..) rfl fun a hf => oa hf rfl rfl fun a hf => oN <| ct <| wq <| wq <| wr <| om hf rfl rfl fun a hf => oR hf (r_lenL (K := ek_Pair) hf el_43 rfl (hR1130.rd hw)) rfl fun a hf => om hf rfl rfl fun a hf => oN <| ct ?_
  replace hw := hw.nilrow 9 1
  have hRR109 : RowR ekS I [] [] := RowR.nil
  obtain ⟨out202, hp, hq203⟩ := bS hp
  refine c_cutX (fun a w => ∃ y197 : List ByteArray, ∃ yv198 : Value, ∃ m199 : Nat, ∃ cs200 : List Value, y197 = out202 ∧ Ok E I (.row yv198 9 1 m199 cs200 :: .blk b235 (.cells ⟨[a0v1129, yv198, .slice none 0 0]⟩ 161 (0, 0)) :: F) w ∧ Fr 43 ([(0, a0v1129), (4, .pointer (some ⟨b235, 0, none⟩))]) a ∧ RowR ekS I cs200 y197) ?_ ?_
  ·refine wp_block <| c_loop <| c_fuel (trie_Build.l0 a0) out202 (fun (y166, y171) a w => ∃ yv167 : Value, ∃ m168 : Nat, ∃ cs169 : List Value, Ok E I (.row yv167 9 1 m168 cs169 :: .blk b235 (.cells ⟨[a0v1129, yv167, .slice none 0 0]⟩ 161 (0, 0)) :: F) w ∧ Fr 43 ([(0, a0v1129), (4, .pointer (some ⟨b235, 0, none⟩)), (13, a0v1129), (14, .int .i64 (a0.length : Int)), (15, .int .i64 y171)]) a ∧ RowR ekS I cs169 y166) (fun _ => rfl) ?_ BIG (([] : List ByteArray), 0) _ _ ⟨(.slice none 0 0), 0, [], hw, hf.to ⟨rfl, rfl, rfl, rfl, rfl, trivial⟩, hRR109⟩ hp
   intro k st a w hI hp ih
   obtain ⟨y166, y171⟩ := st
   obtain ⟨yv167, m168, cs169, hw, hf, hRR170⟩ := hI
   rw [trie_Build.l0] at hp
   refine wq <| wr <| oR hf (iC hf rfl rfl rfl) rfl fun a hf => oN <| ct <| wq <| cC hf rfl (fun hb205 => ?_) (fun hb205 => ?_)
   ·replace hp := cond_t hb205 hp
    refine wp_skip <| ct <| wq <| wp_block <| wq <| wr ?_
    obtain ⟨hg206, hp⟩ := gS hp
    refine oR hf (rI (K := ek_Pair) hf el_43 rfl rfl (hR1130.rd hw) hg206) rfl fun a hf => oR hf (r_loadHP (K := ek_Pair) hf rfl ty_55 (hR1130.rd hw) hg206 rfl (vs := [.string ((gt a0 y171).key_), .string ((gt a0 y171).value_)]) (fun cs h => Pair_all h) (by simp [arrC_len])) rfl fun a hf => ?_
    obtain ⟨b207, w, hrun208, hw⟩ := e_alloc (P := P) (a := a) hw ty_55
    refine o_eff hf (hrun208 ..) rfl fun a hf => ?_
    obtain ⟨w, hrun210, hw⟩ := e_store (P := P) hw hf (x := .tmp 6) (y := .tmp 18) rfl rfl ty_55 0 rfl (vs := [.string ((gt a0 y171).key_), .string ((gt a0 y171).value_)]) rfl rfl (oC rfl (oC rfl ones_nil)) (by simp [arrC_len]) (cs' := [.string ((gt a0 y171).key_), .string ((gt a0 y171).value_)]) rfl
    dsimp only [List.set] at hw
    refine o_effU (hrun210 ..) <| oN <| ct <| c_drawn mix [12] (.rd 0 (.rd 1 (.rd 2 (.rd 3 (.rd 4 (.rd 5 (.rd 6 (.ef 7 (.ef 8 (.ef 9 (.ef 10 (.rd 11 (.ef 12 .done))))))))))))) (by kernel_rfl) hw (fun w => Ok E I (.blk b207 (.cells ⟨[.string ((gt a0 y171).key_), .string ((gt a0 y171).value_)]⟩ 55 (0, 0)) :: .blk b235 (.cells ⟨[a0v1129, yv167, .slice none 0 0]⟩ 161 (0, 0)) :: F) w) (fun w hw => ⟨hw.sub (scc (sc (scc sr))), ?_⟩)
    refine tm rfl hf rfl rfl fun a hf => tm rfl hf rfl rfl fun a hf => tR rfl hf (fun w hw => nC hf rfl) rfl fun a hf => tR rfl hf (fun w hw => rF hf rfl fd_161_1) rfl fun a hf => tR rfl hf (fun w hw => rL hw hf rfl ty_45 1 rfl rfl) rfl fun a hf => tR rfl hf (fun w hw => rF hf rfl fd_55_0) rfl fun a hf => tR rfl hf (fun w hw => rL hw hf rfl ty_9 0 rfl rfl) rfl fun a hf => t_ef rfl ?_
    obtain ⟨y212, hy213, hp⟩ := bS hp
    have hc215 := nibble_Of_ok hw hy213
    refine t_call hf cb_96 rfl rfl hc215 (fun v217 w a hK216 hf => ?_)
    obtain ⟨rfl, hw⟩ := hK216
    refine ⟨.inr (hw.back (IH.le_refl _) (scc (sc (scc sr)))), ?_⟩
    refine t_ef rfl ?_
    obtain ⟨w, v218, hrun219, hw, hRR220⟩ := e_buildSlice (P := P) (K := ekS) (m := 1) hw hf (parts := [(0, .tmp 26)]) el_45 ty_9 rfl rfl rfl (ccs := [[Value.string y212]]) rfl (xs := [y212]) ⟨rfl, trivial⟩ rfl
    obtain ⟨cs221, hcs⟩ : ∃ cs, cs = ([[Value.string y212]] : List (List Value)).flatten := ⟨_, rfl⟩
    rw [← hcs] at hw hRR220; clear hcs
    refine t_eff hf (hrun219 ..) rfl fun a hf => ⟨.inr (hw.back (IH.le_refl _) (sc (scc (sc (scc sr))))), ?_⟩
    refine t_ef rfl ?_
    obtain ⟨hg223, hp⟩ := gS hp
    obtain ⟨w, v224, m225, cs226, hrun228, hw, hRR227⟩ := e_append (P := P) (K := ekS) (ty := 45) hw hf (s := .tmp 23) (x := .tmp 27) el_45 ty_9 rfl (by decide) 2 rfl rfl rfl hRR170 (ys := [y212]) (rR (K := ekS) hw (i := 0) rfl hRR220) hg223
    replace hw : Ok E I (.row v218 9 1 1 cs221 :: .blk b207 (.cells ⟨[.string ((gt a0 y171).key_), .string ((gt a0 y171).value_)]⟩ 55 (0, 0)) :: .row v224 9 1 m225 cs226 :: .blk b235 (.cells ⟨[a0v1129, yv167, .slice none 0 0]⟩ 161 (0, 0)) :: F) w := hw
    refine t_eff hf (hrun228 ..) rfl fun a hf => ⟨.inr (hw.back (IH.le_refl _) (sc (scc (sc (scc sr))))), ?_⟩
    refine t_ef rfl <| t_eff hf (nC hf rfl) rfl fun a hf => ⟨.inr (hw.back (IH.le_refl _) (sc (scc (sc (scc sr))))), ?_⟩
    refine tR rfl hf (fun w hw => rF hf rfl fd_161_1) rfl fun a hf => t_ef rfl ?_
    obtain ⟨w, hrun229, hw⟩ := e_store (P := P) hw hf (x := .tmp 30) (y := .tmp 28) rfl rfl ty_45 3 rfl (vs := [v224]) (oE (row_one hw (i := 2) rfl)) rfl (oC (row_one hw (i := 2) rfl) ones_nil) (by simp [arrC_len]) (cs' := [a0v1129, v224, .slice none 0 0]) rfl
    dsimp only [List.set] at hw
    refine t_effU (hrun229 ..) ⟨.inl rfl, ?_⟩
    refine t_done <| c_blockN <| ct <| wr <| oR hf (r_add hf rfl rfl) rfl fun a hf => om hf rfl rfl fun a hf => oN <| ct ?_
    replace hw : Ok E I (.row v224 9 1 m225 cs226 :: .blk b235 (.cells ⟨[a0v1129, v224, .slice none 0 0]⟩ 161 (0, 0)) :: F) w := hw.sub (sc (sc (scc (scc sr))))
    exact ih (y166 ++ [y212], w64 (y171 + 1)) _ _ ⟨v224, m225, cs226, hw, hf.to ⟨rfl, rfl, rfl, rfl, rfl, trivial⟩, hRR227⟩ hp
   ·replace hp := cond_f hb205 hp
    refine wp_exit <| c_thenE <| c_thenE <| c_exit <| ct ?_
    have ho := oI hp
    subst ho
    exact ⟨y166, yv167, m168, cs169, rfl, hw, hf.to ⟨rfl, rfl, trivial⟩, hRR170⟩
  ·intro a w hM
   obtain ⟨y197, yv198, m199, cs200, rfl, hw, hf, hRR201⟩ := hM
   replace hp := hq203
   refine ct ?_
   replace hw := hw.nilrow 51 20
   have hRR592 : RowR ek_Node I [] [] := RowR.nil
   obtain ⟨out610, hp, hq611⟩ := bS hp
   refine c_cut (fun a w => ∃ y605 : List Node, ∃ yv606 : Value, ∃ m607 : Nat, ∃ cs608 : List Value, y605 = out610 ∧ Ok E I (.row yv606 51 20 m607 cs608 :: .row yv198 9 1 m199 cs200 :: .blk b235 (.cells ⟨[a0v1129, yv198, yv606]⟩ 161 (0, 0)) :: F) w ∧ Fr 43 ([(4, .pointer (some ⟨b235, 0, none⟩))]) a ∧ RowR ek_Node I cs608 y605) ?_ ?_
   ·refine wq <| wr <| om hf rfl rfl fun a hf => oR hf (r_lenL (K := ek_Pair) hf el_43 rfl (hR1130.rd hw)) rfl fun a hf => oR hf (iC hf rfl rfl rfl) rfl fun a hf => oN <| ct <| cC hf rfl (fun hb612 => ?_) (fun hb612 => ?_)
    ·replace hp := cond_t hb612 hp
     refine wr <| om hf rfl rfl fun a hf => om hf rfl rfl fun a hf => oR hf (r_lenL (K := ek_Pair) hf el_43 rfl (hR1130.rd hw)) rfl fun a hf => ?_
     replace hw : Ok E I (.blk b235 (.cells ⟨[a0v1129, yv198, (.slice none 0 0)]⟩ 161 (0, 0)) :: .row yv198 9 1 m199 cs200 :: .row (.slice none 0 0) 51 20 0 [] :: F) w := ((hw.front (i := 0) rfl).front (i := 1) rfl).front (i := 2) rfl
     obtain ⟨y616, hy615, hp⟩ := bS hp
     obtain ⟨y613, y614⟩ := y616
     have hc617 := trie_builder_build_ok BIG hw hR1130 hRR201 hRR592 hy615
     refine o_call hf cb_97 rfl rfl hc617 (fun v623 w a hK618 hf => ?_)
     obtain ⟨rv619, rm620, rcs621, rfl, hw, hRR622⟩ := hK618
     refine oN <| ct ?_
     have ho := oI hp
     subst ho
     replace hw : Ok E I (.row rv619 51 20 rm620 rcs621 :: .row yv198 9 1 m199 cs200 :: .blk b235 (.cells ⟨[a0v1129, yv198, rv619]⟩ 161 (0, 0)) :: F) w := ((hw.front (i := 0) rfl).front (i := 1) rfl).front (i := 2) rfl
     exact ⟨y614, rv619, rm620, rcs621, rfl, hw, hf.to ⟨rfl, trivial⟩, hRR622⟩
    ·replace hp := cond_f hb612 hp
     refine wp_skip <| ct ?_
     have ho := oI hp
     subst ho
     exact ⟨([] : List Node), (Value.slice none 0 0), 0, [], rfl, hw, hf.to ⟨rfl, trivial⟩, hRR592⟩
   ·intro a w hM
    obtain ⟨y605, yv606, m607, cs608, rfl, hw, hf, hRR609⟩ := hM
    replace hp := hq611
    refine wq <| wr <| om hf rfl rfl fun a hf => oR hf (nC hf rfl) rfl fun a hf => oR hf (rF hf rfl fd_161_2) rfl fun a hf => oR hf (rL hw hf rfl ty_23 2 rfl rfl) rfl fun a hf => oa hf rfl rfl fun a hf => oa hf rfl rfl fun a hf => oN <| ct <| wp_ret ?_
    have hw : Ok E I (.row yv606 51 20 m607 cs608 :: .row yv198 9 1 m199 cs200 :: .blk b235 (.cells ⟨[a0v1129, yv198, yv606]⟩ 161 (0, 0)) :: F) w := hw.front (i := 0) rfl
    obtain ⟨I624, hle625, hw, hR626⟩ := row_freeze (K := ek_Node) hw hRR609
    replace hRR201 := hRR201.mono hle625
    replace hR1130 := hR1130.mono hle625
    replace hw : Ok E I624 (F) w := hw.sub (sc (sc sr))
    have ho := oI hp
    simp only [Prod.mk.injEq] at ho
    obtain ⟨rfl, rfl⟩ := ho
    exact b_ret2 hf results85 rfl rfl ⟨_, rfl, ⟨I624, yv606, rfl, hle625, hw, hR626⟩⟩
end Go.Lf
