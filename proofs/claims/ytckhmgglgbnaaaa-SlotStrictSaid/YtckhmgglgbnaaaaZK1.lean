import Derived.Test.YtckhmgglgbnaaaaZD
import Derived.Test.YtckhmgglgbnaaaaZF
import Derived.Test.YtckhmgglgbnaaaaUB
import Derived.Test.YtckhmgglgbnaaaaN
import Derived.Test.YtckhmgglgbnaaaaBL
import Derived.Test.YtckhmgglgbnaaaaZK0
set_option linter.unusedVariables false
set_option linter.unusedSimpArgs false
set_option maxHeartbeats 1000000
set_option maxRecDepth 20000
namespace Go.Lf
open Go Go.Proofs.Try
set_option maxHeartbeats 2000000 in
theorem ref10_maker_add_ok (kk : Nat) : ∀ {E : World} {I : IH} {F : List Atom} {w : World} {a0b : Nat} {a0_p_l : List Pair} {a0_p_lv229 : Value} {a0_p_n : List ByteArray} {a0_p_nv : Value} {a0_p_nm : Nat} {a0_p_ncs : List Value} {a0_p_t : List Node} {a0_p_tv : Value} {a0_p_tm : Nat} {a0_p_tcs : List Value} {a0_p_p : List ByteArray} {a0_p_pv : Value} {a0_p_pm : Nat} {a0_p_pcs : List Value} {a1 : Int} {a2 : Int} {a3 : Int} {res0 : Int} {new_a0_p_t : List Node} {new_a0_p_p : List ByteArray} (hw : Ok E I (.blk a0b (.cells ⟨[a0_p_lv229, a0_p_nv, a0_p_tv, a0_p_pv]⟩ 94 (0, 0)) :: .row a0_p_nv 9 1 a0_p_nm a0_p_ncs :: .row a0_p_tv 51 20 a0_p_tm a0_p_tcs :: .row a0_p_pv 9 1 a0_p_pm a0_p_pcs :: F) w) (hR230 : RS ek_Pair I a0_p_lv229 a0_p_l) (ha0_p_n : RowR ekS I a0_p_ncs a0_p_n) (ha0_p_t : RowR ek_Node I a0_p_tcs a0_p_t) (ha0_p_p : RowR ekS I a0_p_pcs a0_p_p) (hp : ref10_maker_add.f kk a0_p_l a0_p_n a0_p_t a0_p_p a1 a2 a3 = some (res0, new_a0_p_t, new_a0_p_p)),
  Calls P 47 ⟨[Value.pointer (some ⟨a0b, 0, none⟩), Value.int .i64 a1, Value.int .i64 a2, Value.int .i64 a3]⟩ w fun e w' => ∃ v, e = .returned v ∧ ∃ rv14081 : Value, ∃ rm14082 : Nat, ∃ rcs14083 : List Value, ∃ rv14085 : Value, ∃ rm14086 : Nat, ∃ rcs14087 : List Value, v = Value.int .i64 res0 ∧ Ok E I (.blk a0b (.cells ⟨[a0_p_lv229, a0_p_nv, rv14081, rv14085]⟩ 94 (0, 0)) :: .row a0_p_nv 9 1 a0_p_nm a0_p_ncs :: .row rv14081 51 20 rm14082 rcs14083 :: .row rv14085 9 1 rm14086 rcs14087 :: F) w' ∧ RowR ek_Node I rcs14083 new_a0_p_t ∧ RowR ekS I rcs14087 new_a0_p_p := by
 induction kk with
 | zero =>
  intro E I F w a0b a0_p_l a0_p_lv229 a0_p_n a0_p_nv a0_p_nm a0_p_ncs a0_p_t a0_p_tv a0_p_tm a0_p_tcs a0_p_p a0_p_pv a0_p_pm a0_p_pcs a1 a2 a3 res0 new_a0_p_t new_a0_p_p hw hR230 ha0_p_n ha0_p_t ha0_p_p hp
  rw [ref10_maker_add.f] at hp
  cases hp
 | succ kk ihr =>
  intro E I F w a0b a0_p_l a0_p_lv229 a0_p_n a0_p_nv a0_p_nm a0_p_ncs a0_p_t a0_p_tv a0_p_tm a0_p_tcs a0_p_p a0_p_pv a0_p_pm a0_p_pcs a1 a2 a3 res0 new_a0_p_t new_a0_p_p hw hR230 ha0_p_n ha0_p_t ha0_p_p hp
  refine c_enter func47 rfl ntmps47 rfl fun a hf => ?_
  replace hf : Fr 231 [(0, .pointer (some ⟨a0b, 0, none⟩)), (1, .int .i64 a1), (2, .int .i64 a2), (3, .int .i64 a3)] a := hf
  rw [ref10_maker_add.f] at hp
  refine wq <| wr <| oa hf rfl rfl fun a hf => oN <| ct <| wq <| wr <| om hf rfl rfl fun a hf => oR hf (nC hf rfl) rfl fun a hf => oR hf (rF hf rfl fd_94_2) rfl fun a hf => oR hf (rL hw hf rfl ty_23 0 rfl rfl) rfl fun a hf => oR hf (r_lenL (K := ek_Node) hf el_23 rfl (rR (K := ek_Node) hw (i := 2) rfl ha0_p_t)) rfl fun a hf => oa hf rfl rfl fun a hf => oN <| ct <| wq ?_
  refine wr <| om hf rfl rfl fun a hf => om hf rfl rfl fun a hf => oR hf (nC hf rfl) rfl fun a hf => oR hf (rF hf rfl fd_94_2) rfl fun a hf => oR hf (rL hw hf rfl ty_23 0 rfl rfl) rfl fun a hf => oR hf (r_build hf bd_51 (vs := []) rfl trivial (by decide) (out := (.int .i64 0 :: .string e0 :: .bool false :: .string e0 :: arrC .i64 (Vector.replicate 16 0 : Vector Int 16))) rfl) rfl fun a hf => ?_
  obtain ⟨w, v1, hrun2, hw, hRR3⟩ := e_buildSlice (P := P) (K := ek_Node) (m := 1) hw hf (parts := [(0, .tmp 24)]) el_23 ty_51 rfl rfl rfl (ccs := [(Value.int .i64 0 :: Value.string e0 :: Value.bool false :: Value.string e0 :: arrC .i64 (Vector.replicate 16 0 : Vector Int 16))]) rfl (xs := [(⟨0, e0, false, e0, (Vector.replicate 16 0 : Vector Int 16)⟩ : Node)]) ⟨rfl, trivial⟩ rfl
  obtain ⟨cs4, hcs⟩ : ∃ cs, cs = ([(Value.int .i64 0 :: Value.string e0 :: Value.bool false :: Value.string e0 :: arrC .i64 (Vector.replicate 16 0 : Vector Int 16))] : List (List Value)).flatten := ⟨_, rfl⟩
  rw [← hcs] at hw hRR3; clear hcs
  refine o_eff hf (hrun2 ..) rfl fun a hf => ?_
  obtain ⟨hg6, hp⟩ := gS hp
  obtain ⟨w, v7, m8, cs9, hrun11, hw, hRR10⟩ := e_append (P := P) (K := ek_Node) (ty := 23) hw hf (s := .tmp 23) (x := .tmp 25) el_23 ty_51 rfl (by decide) 3 rfl rfl rfl ha0_p_t (ys := [(⟨0, e0, false, e0, (Vector.replicate 16 0 : Vector Int 16)⟩ : Node)]) (rR (K := ek_Node) hw (i := 0) rfl hRR3) hg6
  replace hw : Ok E I (.row v1 51 20 1 cs4 :: .blk a0b (.cells ⟨[a0_p_lv229, a0_p_nv, a0_p_tv, a0_p_pv]⟩ 94 (0, 0)) :: .row a0_p_nv 9 1 a0_p_nm a0_p_ncs :: .row v7 51 20 m8 cs9 :: .row a0_p_pv 9 1 a0_p_pm a0_p_pcs :: F) w := hw
  refine o_eff hf (hrun11 ..) rfl fun a hf => oR hf (nC hf rfl) rfl fun a hf => oR hf (rF hf rfl fd_94_2) rfl fun a hf => ?_
  obtain ⟨w, hrun12, hw⟩ := e_store (P := P) hw hf (x := .tmp 28) (y := .tmp 26) rfl rfl ty_23 1 rfl (vs := [v7]) (oE (row_one hw (i := 3) rfl)) rfl (oC (row_one hw (i := 3) rfl) ones_nil) (by simp [arrC_len]) (cs' := [a0_p_lv229, a0_p_nv, v7, a0_p_pv]) rfl
  dsimp only [List.set] at hw
  refine o_effU (hrun12 ..) <| oN <| ct <| wq <| c_drawn mix [18] (.rd 0 (.rd 1 (.rd 2 (.rd 3 (.rd 4 (.rd 5 (.rd 6 (.rd 7 (.rd 8 (.rd 9 (.rd 10 (.rd 11 (.rd 12 (.rd 13 (.ef 14 (.ef 15 (.ef 16 (.rd 17 (.ef 18 .done))))))))))))))))))) (by kernel_rfl) hw (fun w => Ok E I (.row v1 51 20 1 cs4 :: .blk a0b (.cells ⟨[a0_p_lv229, a0_p_nv, v7, a0_p_pv]⟩ 94 (0, 0)) :: .row a0_p_nv 9 1 a0_p_nm a0_p_ncs :: .row v7 51 20 m8 cs9 :: F) w) (fun w hw => ⟨hw.sub (scc (scc (scc (scc (sc sr))))), ?_⟩)
  refine tm rfl hf rfl rfl fun a hf => tm rfl hf rfl rfl fun a hf => tR rfl hf (fun w hw => nC hf rfl) rfl fun a hf => tR rfl hf (fun w hw => rF hf rfl fd_94_3) rfl fun a hf => tR rfl hf (fun w hw => rL hw hf rfl ty_45 1 rfl rfl) rfl fun a hf => tm rfl hf rfl rfl fun a hf => tR rfl hf (fun w hw => nC hf rfl) rfl fun a hf => tR rfl hf (fun w hw => rF hf rfl fd_94_1) rfl fun a hf => tR rfl hf (fun w hw => rL hw hf rfl ty_45 1 rfl rfl) rfl fun a hf => tm rfl hf rfl rfl fun a hf => ?_
  obtain ⟨hg14, hp⟩ := gS hp
  refine tR rfl hf (fun w hw => rI (K := ekS) hf el_45 rfl rfl (rR (K := ekS) hw (i := 2) rfl ha0_p_n) hg14) rfl fun a hf => tR rfl hf (fun w hw => r_loadH (K := ekS) hf rfl ty_9 (rR (K := ekS) hw (i := 2) rfl ha0_p_n) hg14 rfl (fun cs h => ekS_f0 h)) rfl fun a hf => tm rfl hf rfl rfl fun a hf => ?_
  obtain ⟨hg15, hp⟩ := gS hp
  refine tR rfl hf (fun w hw => r_sliceSh hf und_9 rfl rfl hg15) rfl fun a hf => t_ef rfl ?_
  obtain ⟨w, v16, hrun17, hw, hRR18⟩ := e_buildSlice (P := P) (K := ekS) (m := 1) hw hf (parts := [(0, .tmp 42)]) el_45 ty_9 rfl rfl rfl (ccs := [[Value.string (sub (gt a0_p_n a1) 0 a3)]]) rfl (xs := [sub (gt a0_p_n a1) 0 a3]) ⟨rfl, trivial⟩ rfl
  obtain ⟨cs19, hcs⟩ : ∃ cs, cs = ([[Value.string (sub (gt a0_p_n a1) 0 a3)]] : List (List Value)).flatten := ⟨_, rfl⟩
  rw [← hcs] at hw hRR18; clear hcs
  refine t_eff hf (hrun17 ..) rfl fun a hf => ⟨.inr (hw.back (IH.le_refl _) (sc (scc (scc (scc (scc (sc sr))))))), ?_⟩
  refine t_ef rfl ?_
  obtain ⟨hg21, hp⟩ := gS hp
  obtain ⟨w, v22, m23, cs24, hrun26, hw, hRR25⟩ := e_append (P := P) (K := ekS) (ty := 45) hw hf (s := .tmp 33) (x := .tmp 43) el_45 ty_9 rfl (by decide) 5 rfl rfl rfl ha0_p_p (ys := [sub (gt a0_p_n a1) 0 a3]) (rR (K := ekS) hw (i := 0) rfl hRR18) hg21
  replace hw : Ok E I (.row v16 9 1 1 cs19 :: .row v1 51 20 1 cs4 :: .blk a0b (.cells ⟨[a0_p_lv229, a0_p_nv, v7, a0_p_pv]⟩ 94 (0, 0)) :: .row a0_p_nv 9 1 a0_p_nm a0_p_ncs :: .row v7 51 20 m8 cs9 :: .row v22 9 1 m23 cs24 :: F) w := hw
  refine t_eff hf (hrun26 ..) rfl fun a hf => ⟨.inr (hw.back (IH.le_refl _) (sc (scc (scc (scc (scc (sc sr))))))), ?_⟩
  refine t_ef rfl <| t_eff hf (nC hf rfl) rfl fun a hf => ⟨.inr (hw.back (IH.le_refl _) (sc (scc (scc (scc (scc (sc sr))))))), ?_⟩
  refine tR rfl hf (fun w hw => rF hf rfl fd_94_3) rfl fun a hf => t_ef rfl ?_
  obtain ⟨w, hrun27, hw⟩ := e_store (P := P) hw hf (x := .tmp 46) (y := .tmp 44) rfl rfl ty_45 2 rfl (vs := [v22]) (oE (row_one hw (i := 5) rfl)) rfl (oC (row_one hw (i := 5) rfl) ones_nil) (by simp [arrC_len]) (cs' := [a0_p_lv229, a0_p_nv, v7, v22]) rfl
  dsimp only [List.set] at hw
  refine t_effU (hrun27 ..) ⟨.inl rfl, ?_⟩
  refine t_done <| ct <| wq <| wq <| wr <| om hf rfl rfl fun a hf => om hf rfl rfl fun a hf => oR hf (r_add hf rfl rfl) rfl fun a hf => oR hf (iC hf rfl rfl rfl) rfl fun a hf => oN <| ct <| cC hf rfl (fun hb28 => ?_) (fun hb28 => ?_)
  ·replace hp := cond_t hb28 hp
   refine wq <| c_drawn mix [24] (.rd 0 (.rd 1 (.rd 2 (.rd 3 (.rd 4 (.rd 5 (.rd 6 (.rd 7 (.rd 8 (.rd 9 (.rd 10 (.rd 11 (.rd 12 (.rd 13 (.rd 14 (.rd 15 (.rd 16 (.rd 17 (.rd 18 (.rd 19 (.rd 20 (.rd 21 (.rd 22 (.rd 23 (.ef 24 .done))))))))))))))))))))))))) (by kernel_rfl) hw (fun w => Ok E I (.row v16 9 1 1 cs19 :: .row v1 51 20 1 cs4 :: .blk a0b (.cells ⟨[a0_p_lv229, a0_p_nv, v7, v22]⟩ 94 (0, 0)) :: .row a0_p_nv 9 1 a0_p_nm a0_p_ncs :: .row v7 51 20 m8 cs9 :: .row v22 9 1 m23 cs24 :: F) w) (fun w hw => ⟨hw.sub (scc (scc (scc (scc (scc (scc sr)))))), ?_⟩)
   refine tm rfl hf rfl rfl fun a hf => tR rfl hf (fun w hw => nC hf rfl) rfl fun a hf => tR rfl hf (fun w hw => rF hf rfl fd_94_2) rfl fun a hf => tR rfl hf (fun w hw => rL hw hf rfl ty_23 2 rfl rfl) rfl fun a hf => tm rfl hf rfl rfl fun a hf => tm rfl hf rfl rfl fun a hf => tR rfl hf (fun w hw => nC hf rfl) rfl fun a hf => tR rfl hf (fun w hw => rF hf rfl fd_94_1) rfl fun a hf => tR rfl hf (fun w hw => rL hw hf rfl ty_45 2 rfl rfl) rfl fun a hf => tm rfl hf rfl rfl fun a hf => ?_
   obtain ⟨hg30, hp⟩ := gS hp
   refine tR rfl hf (fun w hw => rI (K := ekS) hf el_45 rfl rfl (rR (K := ekS) hw (i := 3) rfl ha0_p_n) hg30) rfl fun a hf => tR rfl hf (fun w hw => r_loadH (K := ekS) hf rfl ty_9 (rR (K := ekS) hw (i := 3) rfl ha0_p_n) hg30 rfl (fun cs h => ekS_f0 h)) rfl fun a hf => tm rfl hf rfl rfl fun a hf => ?_
   obtain ⟨hg31, hp⟩ := gS hp
   refine tR rfl hf (fun w hw => r_sliceSl hf und_9 rfl rfl hg31) rfl fun a hf => tm rfl hf rfl rfl fun a hf => tR rfl hf (fun w hw => nC hf rfl) rfl fun a hf => tR rfl hf (fun w hw => rF hf rfl fd_94_0) rfl fun a hf => tR rfl hf (fun w hw => rL hw hf rfl ty_43 2 rfl rfl) rfl fun a hf => tm rfl hf rfl rfl fun a hf => ?_
   obtain ⟨hg32, hp⟩ := gS hp
   refine tR rfl hf (fun w hw => rI (K := ek_Pair) hf el_43 rfl rfl (hR230.rd hw) hg32) rfl fun a hf => tR rfl hf (fun w hw => r_fieldAddrH hf rfl fd_55_1) rfl fun a hf => tR rfl hf (fun w hw => r_loadH (K := ek_Pair) hf rfl ty_9 (hR230.rd hw) hg32 rfl (fun cs h => Pair_f1 h)) rfl fun a hf => tR rfl hf (fun w hw => r_build hf bd_51 (vs := [.int .i64 1, .string (sub (gt a0_p_n a1) a3 ((gt a0_p_n a1).size : Int)), .bool true, .string ((gt a0_p_l a1).value_)]) rfl ⟨rfl, rfl, rfl, rfl, trivial⟩ (by decide) (out := (.int .i64 1 :: .string (sub (gt a0_p_n a1) a3 ((gt a0_p_n a1).size : Int)) :: .bool true :: .string ((gt a0_p_l a1).value_) :: arrC .i64 (Vector.replicate 16 0 : Vector Int 16))) rfl) rfl fun a hf => ?_
   obtain ⟨hg33, hp⟩ := gS hp
   refine tR rfl hf (fun w hw => rI (K := ek_Node) hf el_23 rfl rfl (rR (K := ek_Node) hw (i := 4) rfl hRR10) hg33) rfl fun a hf => t_ef rfl ?_
   obtain ⟨w, cs35, hrun34, hw, hRR36⟩ := e_storeH (P := P) (K := ek_Node) hw hf (x := .tmp 74) (y := .tmp 73) rfl rfl ty_51 4 rfl hRR10 hg33 rfl (vs := (.int .i64 1 :: .string (sub (gt a0_p_n a1) a3 ((gt a0_p_n a1).size : Int)) :: .bool true :: .string ((gt a0_p_l a1).value_) :: arrC .i64 (Vector.replicate 16 0 : Vector Int 16))) rfl (by simp [arrC_len]) (oC rfl (oC rfl (oC rfl (oC rfl (arrC_one _ _))))) (Nat.le_of_eq (by rfl)) (x' := (⟨1, sub (gt a0_p_n a1) a3 ((gt a0_p_n a1).size : Int), true, (gt a0_p_l a1).value_, (Vector.replicate 16 0 : Vector Int 16)⟩ : Node)) (whole_store rfl)
   replace hw : Ok E I (.row v16 9 1 1 cs19 :: .row v1 51 20 1 cs4 :: .blk a0b (.cells ⟨[a0_p_lv229, a0_p_nv, v7, v22]⟩ 94 (0, 0)) :: .row a0_p_nv 9 1 a0_p_nm a0_p_ncs :: .row v7 51 20 m8 cs35 :: .row v22 9 1 m23 cs24 :: F) w := hw
   refine t_effU (hrun34 ..) ⟨.inl rfl, ?_⟩
   refine t_done <| ct <| wq <| wr <| om hf rfl rfl fun a hf => oa hf rfl rfl fun a hf => oN <| ct <| wp_ret <| c_thenR ?_
   replace hw : Ok E I (.blk a0b (.cells ⟨[a0_p_lv229, a0_p_nv, v7, v22]⟩ 94 (0, 0)) :: .row a0_p_nv 9 1 a0_p_nm a0_p_ncs :: .row v7 51 20 m8 cs35 :: .row v22 9 1 m23 cs24 :: F) w := hw.sub (sc (sc (scc (scc (scc (scc sr))))))
   have ho := oI hp
   simp only [Prod.mk.injEq] at ho
   obtain ⟨rfl, rfl, rfl⟩ := ho
   exact b_ret1 hf results47 rfl ⟨_, rfl, ⟨v7, m8, cs35, v22, m23, cs24, rfl, hw, hRR36, hRR25⟩⟩
  ·replace hp := cond_f hb28 hp
   refine wp_skip <| ct <| wq <| c_drawn mix [] (.rd 0 (.rd 1 (.rd 2 (.rd 3 (.rd 4 (.rd 5 (.rd 6 (.rd 7 (.rd 8 (.rd 9 (.rd 10 (.rd 11 (.rd 12 (.rd 13 (.rd 14 (.rd 15 (.rd 16 (.rd 17 (.rd 18 (.ef 19 (.rd 20 .done))))))))))))))))))))) (by kernel_rfl) hw (fun w => Ok E I (.row v16 9 1 1 cs19 :: .row v1 51 20 1 cs4 :: .blk a0b (.cells ⟨[a0_p_lv229, a0_p_nv, v7, v22]⟩ 94 (0, 0)) :: .row a0_p_nv 9 1 a0_p_nm a0_p_ncs :: .row v7 51 20 m8 cs9 :: .row v22 9 1 m23 cs24 :: F) w) (fun w hw => ⟨hw.sub (scc (scc (scc (scc (scc (scc sr)))))), ?_⟩)
   refine tm rfl hf rfl rfl fun a hf => tR rfl hf (fun w hw => nC hf rfl) rfl fun a hf => tR rfl hf (fun w hw => rF hf rfl fd_94_1) rfl fun a hf => tR rfl hf (fun w hw => rL hw hf rfl ty_45 2 rfl rfl) rfl fun a hf => tm rfl hf rfl rfl fun a hf => ?_
   obtain ⟨hg38, hp⟩ := gS hp
   refine tR rfl hf (fun w hw => rI (K := ekS) hf el_45 rfl rfl (rR (K := ekS) hw (i := 3) rfl ha0_p_n) hg38) rfl fun a hf => tR rfl hf (fun w hw => r_loadH (K := ekS) hf rfl ty_9 (rR (K := ekS) hw (i := 3) rfl ha0_p_n) hg38 rfl (fun cs h => ekS_f0 h)) rfl fun a hf => tm rfl hf rfl rfl fun a hf => ?_
   obtain ⟨hg39, hp⟩ := gS hp
   refine tR rfl hf (fun w hw => r_sliceSl hf und_9 rfl rfl hg39) rfl fun a hf => tm rfl hf rfl rfl fun a hf => tR rfl hf (fun w hw => nC hf rfl) rfl fun a hf => tR rfl hf (fun w hw => rF hf rfl fd_94_1) rfl fun a hf => tR rfl hf (fun w hw => rL hw hf rfl ty_45 2 rfl rfl) rfl fun a hf => tm rfl hf rfl rfl fun a hf => tR rfl hf (fun w hw => r_sub hf rfl rfl) rfl fun a hf => ?_
   obtain ⟨hg40, hp⟩ := gS hp
   refine tR rfl hf (fun w hw => rI (K := ekS) hf el_45 rfl rfl (rR (K := ekS) hw (i := 3) rfl ha0_p_n) hg40) rfl fun a hf => tR rfl hf (fun w hw => r_loadH (K := ekS) hf rfl ty_9 (rR (K := ekS) hw (i := 3) rfl ha0_p_n) hg40 rfl (fun cs h => ekS_f0 h)) rfl fun a hf => tm rfl hf rfl rfl fun a hf => ?_
   obtain ⟨hg41, hp⟩ := gS hp
   refine tR rfl hf (fun w hw => r_sliceSl hf und_9 rfl rfl hg41) rfl fun a hf => t_ef rfl ?_
   obtain ⟨y42, hy43, hp⟩ := bS hp
   have hc45 := ref02_Common_ok hw hy43
   refine t_call hf cb_67 rfl rfl hc45 (fun v47 w a hK46 hf => ?_)
   obtain ⟨rfl, hw⟩ := hK46
   refine ⟨.inr (hw.back (IH.le_refl _) (scc (scc (scc (scc (scc (scc sr))))))), ?_⟩
   refine tR rfl hf (fun w hw => r_assign hf rfl) rfl fun a hf => t_done <| ct <| wq <| wq <| wr <| om hf rfl rfl fun a hf => oR hf (iC hf rfl rfl rfl) rfl fun a hf => oN <| ct <| cC hf rfl (fun hb48 => ?_) (fun hb48 => ?_)
   ·replace hp := cond_t hb48 hp
    refine wq <| c_drawn mix [19] (.rd 0 (.rd 1 (.rd 2 (.rd 3 (.rd 4 (.rd 5 (.rd 6 (.rd 7 (.rd 8 (.rd 9 (.rd 10 (.rd 11 (.rd 12 (.rd 13 (.rd 14 (.rd 15 (.rd 16 (.rd 17 (.rd 18 (.ef 19 .done)))))))))))))))))))) (by kernel_rfl) hw (fun w => Ok E I (.row v16 9 1 1 cs19 :: .row v1 51 20 1 cs4 :: .blk a0b (.cells ⟨[a0_p_lv229, a0_p_nv, v7, v22]⟩ 94 (0, 0)) :: .row a0_p_nv 9 1 a0_p_nm a0_p_ncs :: .row v7 51 20 m8 cs9 :: .row v22 9 1 m23 cs24 :: F) w) (fun w hw => ⟨hw.sub (scc (scc (scc (scc (scc (scc sr)))))), ?_⟩)
    refine tm rfl hf rfl rfl fun a hf => tR rfl hf (fun w hw => nC hf rfl) rfl fun a hf => tR rfl hf (fun w hw => rF hf rfl fd_94_2) rfl fun a hf => tR rfl hf (fun w hw => rL hw hf rfl ty_23 2 rfl rfl) rfl fun a hf => tm rfl hf rfl rfl fun a hf => tm rfl hf rfl rfl fun a hf => tR rfl hf (fun w hw => nC hf rfl) rfl fun a hf => tR rfl hf (fun w hw => rF hf rfl fd_94_1) rfl fun a hf => tR rfl hf (fun w hw => rL hw hf rfl ty_45 2 rfl rfl) rfl fun a hf => tm rfl hf rfl rfl fun a hf => ?_
    obtain ⟨hg50, hp⟩ := gS hp
    refine tR rfl hf (fun w hw => rI (K := ekS) hf el_45 rfl rfl (rR (K := ekS) hw (i := 3) rfl ha0_p_n) hg50) rfl fun a hf => tR rfl hf (fun w hw => r_loadH (K := ekS) hf rfl ty_9 (rR (K := ekS) hw (i := 3) rfl ha0_p_n) hg50 rfl (fun cs h => ekS_f0 h)) rfl fun a hf => tm rfl hf rfl rfl fun a hf => tm rfl hf rfl rfl fun a hf => tm rfl hf rfl rfl fun a hf => tR rfl hf (fun w hw => r_add hf rfl rfl) rfl fun a hf => ?_
    obtain ⟨hg51, hp⟩ := gS hp
    refine tR rfl hf (fun w hw => r_sliceS hf und_9 rfl rfl rfl hg51) rfl fun a hf => tR rfl hf (fun w hw => r_build hf bd_51 (vs := [.int .i64 2, .string (sub (gt a0_p_n a1) a3 (w64 (a3 + y42)))]) rfl ⟨rfl, rfl, trivial⟩ (by decide) (out := (.int .i64 2 :: .string (sub (gt a0_p_n a1) a3 (w64 (a3 + y42))) :: .bool false :: .string e0 :: arrC .i64 (Vector.replicate 16 0 : Vector Int 16))) rfl) rfl fun a hf => ?_
    obtain ⟨hg52, hp⟩ := gS hp
    refine tR rfl hf (fun w hw => rI (K := ek_Node) hf el_23 rfl rfl (rR (K := ek_Node) hw (i := 4) rfl hRR10) hg52) rfl fun a hf => t_ef rfl ?_
    obtain ⟨w, cs54, hrun53, hw, hRR55⟩ := e_storeH (P := P) (K := ek_Node) hw hf (x := .tmp 116) (y := .tmp 115) rfl rfl ty_51 4 rfl hRR10 hg52 rfl (vs := (.int .i64 2 :: .string (sub (gt a0_p_n a1) a3 (w64 (a3 + y42))) :: .bool false :: .string e0 :: arrC .i64 (Vector.replicate 16 0 : Vector Int 16))) rfl (by simp [arrC_len]) (oC rfl (oC rfl (oC rfl (oC rfl (arrC_one _ _))))) (Nat.le_of_eq (by rfl)) (x' := (⟨2, sub (gt a0_p_n a1) a3 (w64 (a3 + y42)), false, e0, (Vector.replicate 16 0 : Vector Int 16)⟩ : Node)) (whole_store rfl)
    replace hw : Ok E I (.row v16 9 1 1 cs19 :: .row v1 51 20 1 cs4 :: .blk a0b (.cells ⟨[a0_p_lv229, a0_p_nv, v7, v22]⟩ 94 (0, 0)) :: .row a0_p_nv 9 1 a0_p_nm a0_p_ncs :: .row v7 51 20 m8 cs54 :: .row v22 9 1 m23 cs24 :: F) w := hw
    refine t_effU (hrun53 ..) ⟨.inl rfl, ?_⟩
    refine t_done <| ct <| wq <| wr <| om hf rfl rfl fun a hf => om hf rfl rfl fun a hf => om hf rfl rfl fun a hf => om hf rfl rfl fun a hf => om hf rfl rfl fun a hf => oR hf (r_add hf rfl rfl) rfl fun a hf => ?_
    replace hw : Ok E I (.blk a0b (.cells ⟨[a0_p_lv229, a0_p_nv, v7, v22]⟩ 94 (0, 0)) :: .row a0_p_nv 9 1 a0_p_nm a0_p_ncs :: .row v7 51 20 m8 cs54 :: .row v22 9 1 m23 cs24 :: .row v16 9 1 1 cs19 :: .row v1 51 20 1 cs4 :: F) w := (((hw.front (i := 5) rfl).front (i := 5) rfl).front (i := 5) rfl).front (i := 5) rfl
    obtain ⟨y60, hy59, hp⟩ := bS hp
    obtain ⟨y56, y57, y58⟩ := y60
    have hc61 := ihr hw hR230 ha0_p_n hRR55 hRR25 hy59
    refine o_call hf cb_47 rfl rfl hc61 (fun v71 w a hK62 hf => ?_)
    obtain ⟨rv63, rm64, rcs65, rv67, rm68, rcs69, rfl, hw, hRR66, hRR70⟩ := hK62
    refine oa hf rfl rfl fun a hf => oN <| ct <| wq <| wr <| om hf rfl rfl fun a hf => oR hf (nC hf rfl) rfl fun a hf => oR hf (rF hf rfl fd_94_2) rfl fun a hf => oR hf (rL hw hf rfl ty_23 0 rfl rfl) rfl fun a hf => om hf rfl rfl fun a hf => om hf rfl rfl fun a hf => ?_
    obtain ⟨hg72, hp⟩ := gS hp
    refine oR hf (rI (K := ek_Node) hf el_23 rfl rfl (rR (K := ek_Node) hw (i := 2) rfl hRR66) hg72) rfl fun a hf => oR hf (r_fieldAddrH hf rfl fd_51_4) rfl fun a hf => ?_
    obtain ⟨hg73, hp⟩ := gS hp
    refine oR hf (r_indexAddrAH hf el_49 rfl rfl hg73) rfl fun a hf => ?_
    obtain ⟨w, cs75, hrun74, hw, hRR76⟩ := e_storeH (P := P) (K := ek_Node) hw hf (x := .tmp 132) (y := .tmp 129) rfl rfl ty_3 2 rfl hRR66 hg72 (Nat.add_assoc ..) (vs := [.int .i64 y56]) (oE rfl) rfl (oC rfl ones_nil) (by have := hg73; show 4 + _ + 1 ≤ 20; omega) (x' := { gt y57 (a0_p_t.length : Int) with kids_ := vset (gt y57 (a0_p_t.length : Int)).kids_ 0 y56 }) (fun c h => Node_setat h hg73)
    replace hw : Ok E I (.blk a0b (.cells ⟨[a0_p_lv229, a0_p_nv, rv63, rv67]⟩ 94 (0, 0)) :: .row a0_p_nv 9 1 a0_p_nm a0_p_ncs :: .row rv63 51 20 rm64 cs75 :: .row rv67 9 1 rm68 rcs69 :: .row v16 9 1 1 cs19 :: .row v1 51 20 1 cs4 :: F) w := hw
    refine o_effU (hrun74 ..) <| oN <| ct <| wq <| wr <| om hf rfl rfl fun a hf => oa hf rfl rfl fun a hf => oN <| ct <| wp_ret <| c_thenR ?_
    replace hw : Ok E I (.blk a0b (.cells ⟨[a0_p_lv229, a0_p_nv, rv63, rv67]⟩ 94 (0, 0)) :: .row a0_p_nv 9 1 a0_p_nm a0_p_ncs :: .row rv63 51 20 rm64 cs75 :: .row rv67 9 1 rm68 rcs69 :: F) w := hw.sub (scc (scc (scc (scc (sc (sc sr))))))
    have ho := oI hp
    simp only [Prod.mk.injEq] at ho
    obtain ⟨rfl, rfl, rfl⟩ := ho
    exact b_ret1 hf results47 rfl ⟨_, rfl, ⟨rv63, rm64, cs75, rv67, rm68, rcs69, rfl, hw, hRR76, hRR70⟩⟩
   ·replace hp := cond_f hb48 hp
    refine wp_skip <| ct <| wq <| wr <| om hf rfl rfl fun a hf => oR hf (nC hf rfl) rfl fun a hf => oR hf (rF hf rfl fd_94_2) rfl fun a hf => oR hf (rL hw hf rfl ty_23 2 rfl rfl) rfl fun a hf => om hf rfl rfl fun a hf => ?_
    obtain ⟨hg77, hp⟩ := gS hp
    refine oR hf (rI (K := ek_Node) hf el_23 rfl rfl (rR (K := ek_Node) hw (i := 4) rfl hRR10) hg77) rfl fun a hf => oR hf (r_fieldAddrH hf rfl fd_51_0) rfl fun a hf => ?_
    obtain ⟨w, cs79, hrun78, hw, hRR80⟩ := e_storeH (P := P) (K := ek_Node) hw hf (x := .tmp 140) (y := .const (Value.int .i64 3)) rfl rfl ty_3 4 rfl hRR10 hg77 rfl (vs := [.int .i64 3]) (oE rfl) rfl (oC rfl ones_nil) (by decide) (x' := { gt (a0_p_t ++ [(⟨0, e0, false, e0, (Vector.replicate 16 0 : Vector Int 16)⟩ : Node)]) (a0_p_t.length : Int) with kind_ := 3 }) (fun c h => Node_set0 h)
    replace hw : Ok E I (.row v16 9 1 1 cs19 :: .row v1 51 20 1 cs4 :: .blk a0b (.cells ⟨[a0_p_lv229, a0_p_nv, v7, v22]⟩ 94 (0, 0)) :: .row a0_p_nv 9 1 a0_p_nm a0_p_ncs :: .row v7 51 20 m8 cs79 :: .row v22 9 1 m23 cs24 :: F) w := hw
    refine o_effU (hrun78 ..) <| oN <| ct ?_
    obtain ⟨out113, hp, hq114⟩ := bS hp
    refine c_cut (fun a w => ∃ y107 : List Node, ∃ y112 : Int, ∃ yv108 : Value, ∃ m109 : Nat, ∃ cs110 : List Value, (y107, y112) = out113 ∧ Ok E I (.row v16 9 1 1 cs19 :: .row v1 51 20 1 cs4 :: .blk a0b (.cells ⟨[a0_p_lv229, a0_p_nv, yv108, v22]⟩ 94 (0, 0)) :: .row a0_p_nv 9 1 a0_p_nm a0_p_ncs :: .row yv108 51 20 m109 cs110 :: .row v22 9 1 m23 cs24 :: F) w ∧ Fr 231 ([(0, .pointer (some ⟨a0b, 0, none⟩)), (1, .int .i64 y112), (2, .int .i64 a2), (3, .int .i64 a3), (9, .int .i64 (a0_p_t.length : Int))]) a ∧ RowR ek_Node I cs110 y107) ?_ ?_
    ·refine wq <| wr <| om hf rfl rfl fun a hf => oR hf (nC hf rfl) rfl fun a hf => oR hf (rF hf rfl fd_94_1) rfl fun a hf => oR hf (rL hw hf rfl ty_45 2 rfl rfl) rfl fun a hf => om hf rfl rfl fun a hf => ?_
     obtain ⟨hg115, hp⟩ := gS hp
     refine oR hf (rI (K := ekS) hf el_45 rfl rfl (rR (K := ekS) hw (i := 3) rfl ha0_p_n) hg115) rfl fun a hf => oR hf (r_loadH (K := ekS) hf rfl ty_9 (rR (K := ekS) hw (i := 3) rfl ha0_p_n) hg115 rfl (fun cs h => ekS_f0 h)) rfl fun a hf => oR hf (r_lenS hf und_9 rfl) rfl fun a hf => om hf rfl rfl fun a hf => oR hf (iC hf rfl rfl rfl) rfl fun a hf => oN <| ct <| cC hf rfl (fun hb116 => ?_) (fun hb116 => ?_)
     ·replace hp := cond_t hb116 hp
      refine wq <| c_drawn mix [23] (.rd 0 (.rd 1 (.rd 2 (.rd 3 (.rd 4 (.rd 5 (.rd 6 (.rd 7 (.rd 8 (.rd 9 (.rd 10 (.rd 11 (.rd 12 (.rd 13 (.rd 14 (.rd 15 (.rd 16 (.rd 17 (.rd 18 (.rd 19 (.ef 20 (.ef 21 (.rd 22 (.ef 23 .done)))))))))))))))))))))))) (by kernel_rfl) hw (fun w => Ok E I (.row v16 9 1 1 cs19 :: .row v1 51 20 1 cs4 :: .blk a0b (.cells ⟨[a0_p_lv229, a0_p_nv, v7, v22]⟩ 94 (0, 0)) :: .row a0_p_nv 9 1 a0_p_nm a0_p_ncs :: .row v22 9 1 m23 cs24 :: F) w) (fun w hw => ⟨hw.sub (scc (scc (scc (scc (sc (scc sr)))))), ?_⟩)
      refine tm rfl hf rfl rfl fun a hf => tR rfl hf (fun w hw => nC hf rfl) rfl fun a hf => tR rfl hf (fun w hw => rF hf rfl fd_94_2) rfl fun a hf => tR rfl hf (fun w hw => rL hw hf rfl ty_23 2 rfl rfl) rfl fun a hf => tm rfl hf rfl rfl fun a hf => tm rfl hf rfl rfl fun a hf => tR rfl hf (fun w hw => nC hf rfl) rfl fun a hf => tR rfl hf (fun w hw => rF hf rfl fd_94_2) rfl fun a hf => tR rfl hf (fun w hw => rL hw hf rfl ty_23 2 rfl rfl) rfl fun a hf => tm rfl hf rfl rfl fun a hf => tm rfl hf rfl rfl fun a hf => tR rfl hf (fun w hw => nC hf rfl) rfl fun a hf => tR rfl hf (fun w hw => rF hf rfl fd_94_0) rfl fun a hf => tR rfl hf (fun w hw => rL hw hf rfl ty_43 2 rfl rfl) rfl fun a hf => tm rfl hf rfl rfl fun a hf => ?_
      obtain ⟨hg118, hp⟩ := gS hp
      refine tR rfl hf (fun w hw => rI (K := ek_Pair) hf el_43 rfl rfl (hR230.rd hw) hg118) rfl fun a hf => tR rfl hf (fun w hw => r_fieldAddrH hf rfl fd_55_1) rfl fun a hf => tR rfl hf (fun w hw => r_loadH (K := ek_Pair) hf rfl ty_9 (hR230.rd hw) hg118 rfl (fun cs h => Pair_f1 h)) rfl fun a hf => ?_
      obtain ⟨hg119, hp⟩ := gS hp
      have hrd120 := rR (K := ek_Node) hw (i := 4) rfl hRR80
      refine tR rfl hf (fun w hw => rI (K := ek_Node) hf el_23 rfl rfl hrd120 hg119) rfl fun a hf => tR rfl hf (fun w hw => r_fieldAddrH hf rfl fd_51_2) rfl fun a hf => t_ef rfl ?_
      obtain ⟨w, cs122, hrun121, hw, hRR123⟩ := e_storeH (P := P) (K := ek_Node) hw hf (x := .tmp 170) (y := .const (Value.bool true)) rfl rfl ty_4 4 rfl hRR80 hg119 rfl (vs := [.bool true]) (oE rfl) rfl (oC rfl ones_nil) (by decide) (x' := { gt ((a0_p_t ++ [(⟨0, e0, false, e0, (Vector.replicate 16 0 : Vector Int 16)⟩ : Node)]).set (a0_p_t.length : Int).toNat ({ gt (a0_p_t ++ [(⟨0, e0, false, e0, (Vector.replicate 16 0 : Vector Int 16)⟩ : Node)]) (a0_p_t.length : Int) with kind_ := 3 })) (a0_p_t.length : Int) with has_ := true }) (fun c h => Node_set2 h)
      replace hw : Ok E I (.row v16 9 1 1 cs19 :: .row v1 51 20 1 cs4 :: .blk a0b (.cells ⟨[a0_p_lv229, a0_p_nv, v7, v22]⟩ 94 (0, 0)) :: .row a0_p_nv 9 1 a0_p_nm a0_p_ncs :: .row v7 51 20 m8 cs122 :: .row v22 9 1 m23 cs24 :: F) w := hw
      refine t_effU (hrun121 ..) ⟨.inr (hw.back (IH.le_refl _) (scc (scc (scc (scc (sc (scc sr))))))), ?_⟩
      refine t_ef rfl ?_
      obtain ⟨hg124, hp⟩ := gS hp
      refine t_eff hf (rI (K := ek_Node) hf el_23 rfl rfl (rR (K := ek_Node) hw (i := 4) rfl hRR123) hg124) rfl fun a hf => ⟨.inr (hw.back (IH.le_refl _) (scc (scc (scc (scc (sc (scc sr))))))), ?_⟩
      refine tR rfl hf (fun w hw => r_fieldAddrH hf rfl fd_51_3) rfl fun a hf => t_ef rfl ?_
      obtain ⟨w, cs126, hrun125, hw, hRR127⟩ := e_storeH (P := P) (K := ek_Node) hw hf (x := .tmp 172) (y := .tmp 168) rfl rfl ty_9 4 rfl hRR123 hg124 rfl (vs := [.string ((gt a0_p_l a1).value_)]) (oE rfl) rfl (oC rfl ones_nil) (by decide) (x' := { gt (((a0_p_t ++ [(⟨0, e0, false, e0, (Vector.replicate 16 0 : Vector Int 16)⟩ : Node)]).set (a0_p_t.length : Int).toNat ({ gt (a0_p_t ++ [(⟨0, e0, false, e0, (Vector.replicate 16 0 : Vector Int 16)⟩ : Node)]) (a0_p_t.length : Int) with kind_ := 3 })).set (a0_p_t.length : Int).toNat ({ gt ((a0_p_t ++ [(⟨0, e0, false, e0, (Vector.replicate 16 0 : Vector Int 16)⟩ : Node)]).set (a0_p_t.length : Int).toNat ({ gt (a0_p_t ++ [(⟨0, e0, false, e0, (Vector.replicate 16 0 : Vector Int 16)⟩ : Node)]) (a0_p_t.length : Int) with kind_ := 3 })) (a0_p_t.length : Int) with has_ := true })) (a0_p_t.length : Int) with value_ := (gt a0_p_l a1).value_ }) (fun c h => Node_set3 h)
      replace hw : Ok E I (.row v16 9 1 1 cs19 :: .row v1 51 20 1 cs4 :: .blk a0b (.cells ⟨[a0_p_lv229, a0_p_nv, v7, v22]⟩ 94 (0, 0)) :: .row a0_p_nv 9 1 a0_p_nm a0_p_ncs :: .row v7 51 20 m8 cs126 :: .row v22 9 1 m23 cs24 :: F) w := hw
      refine t_effU (hrun125 ..) ⟨.inl rfl, ?_⟩
      refine t_done <| ct <| wr <| om hf rfl rfl fun a hf => oR hf (r_add hf rfl rfl) rfl fun a hf => oa hf rfl rfl fun a hf => oN <| ct ?_
      have ho := oI hp
      subst ho
      exact ⟨((((a0_p_t ++ [(⟨0, e0, false, e0, (Vector.replicate 16 0 : Vector Int 16)⟩ : Node)]).set (a0_p_t.length : Int).toNat ({ gt (a0_p_t ++ [(⟨0, e0, false, e0, (Vector.replicate 16 0 : Vector Int 16)⟩ : Node)]) (a0_p_t.length : Int) with kind_ := 3 })).set (a0_p_t.length : Int).toNat ({ gt ((a0_p_t ++ [(⟨0, e0, false, e0, (Vector.replicate 16 0 : Vector Int 16)⟩ : Node)]).set (a0_p_t.length : Int).toNat ({ gt (a0_p_t ++ [(⟨0, e0, false, e0, (Vector.replicate 16 0 : Vector Int 16)⟩ : Node)]) (a0_p_t.length : Int) with kind_ := 3 })) (a0_p_t.length : Int) with has_ := true })).set (a0_p_t.length : Int).toNat ({ gt (((a0_p_t ++ [(⟨0, e0, false, e0, (Vector.replicate 16 0 : Vector Int 16)⟩ : Node)]).set (a0_p_t.length : Int).toNat ({ gt (a0_p_t ++ [(⟨0, e0, false, e0, (Vector.replicate 16 0 : Vector Int 16)⟩ : Node)]) (a0_p_t.length : Int) with kind_ := 3 })).set (a0_p_t.length : Int).toNat ({ gt ((a0_p_t ++ [(⟨0, e0, false, e0, (Vector.replicate 16 0 : Vector Int 16)⟩ : Node)]).set (a0_p_t.length : Int).toNat ({ gt (a0_p_t ++ [(⟨0, e0, false, e0, (Vector.replicate 16 0 : Vector Int 16)⟩ : Node)]) (a0_p_t.length : Int) with kind_ := 3 })) (a0_p_t.length : Int) with has_ := true })) (a0_p_t.length : Int) with value_ := (gt a0_p_l a1).value_ })), (w64 (a1 + 1)), v7, m8, cs126, rfl, hw, hf.to ⟨rfl, rfl, rfl, rfl, rfl, trivial⟩, hRR127⟩
     ·replace hp := cond_f hb116 hp
      refine wp_skip <| ct ?_
      have ho := oI hp
      subst ho
      exact ⟨((a0_p_t ++ [(⟨0, e0, false, e0, (Vector.replicate 16 0 : Vector Int 16)⟩ : Node)]).set (a0_p_t.length : Int).toNat ({ gt (a0_p_t ++ [(⟨0, e0, false, e0, (Vector.replicate 16 0 : Vector Int 16)⟩ : Node)]) (a0_p_t.length : Int) with kind_ := 3 })), a1, v7, m8, cs79, rfl, hw, hf.to ⟨rfl, rfl, rfl, rfl, rfl, trivial⟩, hRR80⟩
    ·intro a w hM
     obtain ⟨y107, y112, yv108, m109, cs110, rfl, hw, hf, hRR111⟩ := hM
     replace hp := hq114
     refine wq ?_
     obtain ⟨out784, hp, hq785⟩ := bS hp
     refine c_cutX (fun a w => ∃ y774 : List ByteArray, ∃ y779 : List Node, ∃ yv775 : Value, ∃ m776 : Nat, ∃ cs777 : List Value, ∃ yv780 : Value, ∃ m781 : Nat, ∃ cs782 : List Value, (y774, y779) = out784 ∧ Ok E I (.row v16 9 1 1 cs19 :: .row v1 51 20 1 cs4 :: .blk a0b (.cells ⟨[a0_p_lv229, a0_p_nv, yv780, yv775]⟩ 94 (0, 0)) :: .row a0_p_nv 9 1 a0_p_nm a0_p_ncs :: .row yv780 51 20 m781 cs782 :: .row yv775 9 1 m776 cs777 :: F) w ∧ Fr 231 ([(9, .int .i64 (a0_p_t.length : Int))]) a ∧ RowR ekS I cs777 y774 ∧ RowR ek_Node I cs782 y779) ?_ ?_
     ·refine wp_block <| c_loop <| c_fuel (ref10_maker_add.l0 a0_p_l a0_p_n a0_p_t a2 a3 (ref10_maker_add.f kk)) out784 (fun (y555, y560, y565) a w => ∃ yv556 : Value, ∃ m557 : Nat, ∃ cs558 : List Value, ∃ yv561 : Value, ∃ m562 : Nat, ∃ cs563 : List Value, Ok E I (.row v16 9 1 1 cs19 :: .row v1 51 20 1 cs4 :: .blk a0b (.cells ⟨[a0_p_lv229, a0_p_nv, yv561, yv556]⟩ 94 (0, 0)) :: .row a0_p_nv 9 1 a0_p_nm a0_p_ncs :: .row yv561 51 20 m562 cs563 :: .row yv556 9 1 m557 cs558 :: F) w ∧ Fr 231 ([(0, .pointer (some ⟨a0b, 0, none⟩)), (1, .int .i64 y565), (2, .int .i64 a2), (3, .int .i64 a3), (9, .int .i64 (a0_p_t.length : Int))]) a ∧ RowR ekS I cs558 y555 ∧ RowR ek_Node I cs563 y560) (fun _ => rfl) ?_ BIG (a0_p_p ++ [sub (gt a0_p_n a1) 0 a3], y107, y112) _ _ ⟨v22, m23, cs24, yv108, m109, cs110, hw, hf.to ⟨rfl, rfl, rfl, rfl, rfl, trivial⟩, hRR25, hRR111⟩ hp
      intro k st a w hI hp ih
      obtain ⟨y555, y560, y565⟩ := st
      obtain ⟨yv556, m557, cs558, yv561, m562, cs563, hw, hf, hRR559, hRR564⟩ := hI
      rw [ref10_maker_add.l0] at hp
      refine wq <| wq <| wr <| om hf rfl rfl fun a hf => om hf rfl rfl fun a hf => oR hf (iC hf rfl rfl rfl) rfl fun a hf => oN <| ct <| cC hf rfl (fun hb787 => ?_) (fun hb787 => ?_)
      ·replace hp := cond_t hb787 hp
       refine wp_skip <| ct <| wp_block <| wq <| wr <| om hf rfl rfl fun a hf => oa hf rfl rfl fun a hf => oN <| ct <| wq ?_
       obtain ⟨out923, hp, hq924⟩ := bS hp
       refine c_cutX (fun a w => ∃ y922 : Int, y922 = out923 ∧ Ok E I (.row v16 9 1 1 cs19 :: .row v1 51 20 1 cs4 :: .blk a0b (.cells ⟨[a0_p_lv229, a0_p_nv, yv561, yv556]⟩ 94 (0, 0)) :: .row a0_p_nv 9 1 a0_p_nm a0_p_ncs :: .row yv561 51 20 m562 cs563 :: .row yv556 9 1 m557 cs558 :: F) w ∧ Fr 231 ([(0, .pointer (some ⟨a0b, 0, none⟩)), (1, .int .i64 y565), (2, .int .i64 a2), (3, .int .i64 a3), (9, .int .i64 (a0_p_t.length : Int)), (12, .int .i64 y922)]) a) ?_ ?_
       ·refine wp_block <| c_loop <| c_fuel (ref10_maker_add.l1 a0_p_n a2 a3 y565) out923 (fun (y877 : Int) a w => Ok E I (.row v16 9 1 1 cs19 :: .row v1 51 20 1 cs4 :: .blk a0b (.cells ⟨[a0_p_lv229, a0_p_nv, yv561, yv556]⟩ 94 (0, 0)) :: .row a0_p_nv 9 1 a0_p_nm a0_p_ncs :: .row yv561 51 20 m562 cs563 :: .row yv556 9 1 m557 cs558 :: F) w ∧ Fr 231 ([(0, .pointer (some ⟨a0b, 0, none⟩)), (1, .int .i64 y565), (2, .int .i64 a2), (3, .int .i64 a3), (9, .int .i64 (a0_p_t.length : Int)), (12, .int .i64 y877)]) a) (fun _ => rfl) ?_ BIG y565 _ _ ⟨hw, hf.to ⟨rfl, rfl, rfl, rfl, rfl, rfl, trivial⟩⟩ hp
        intro k y877 a w hI hp ih
        obtain ⟨hw, hf⟩ := hI
        rw [ref10_maker_add.l1] at hp
        refine wq ?_
        obtain ⟨out961, hp, hq962⟩ := bS hp
        refine c_cut (fun a w => ∃ y960 : Bool, y960 = out961 ∧ Ok E I (.row v16 9 1 1 cs19 :: .row v1 51 20 1 cs4 :: .blk a0b (.cells ⟨[a0_p_lv229, a0_p_nv, yv561, yv556]⟩ 94 (0, 0)) :: .row a0_p_nv 9 1 a0_p_nm a0_p_ncs :: .row yv561 51 20 m562 cs563 :: .row yv556 9 1 m557 cs558 :: F) w ∧ Fr 231 ([(0, .pointer (some ⟨a0b, 0, none⟩)), (1, .int .i64 y565), (2, .int .i64 a2), (3, .int .i64 a3), (9, .int .i64 (a0_p_t.length : Int)), (12, .int .i64 y877), (202, .bool y960)]) a) ?_ ?_
        ·refine c_drawn mix [] (.rd 0 (.rd 1 (.rd 2 (.rd 3 (.rd 4 (.rd 5 (.rd 6 (.rd 7 (.rd 8 (.rd 9 (.rd 10 (.rd 11 (.rd 12 (.rd 13 (.rd 14 (.rd 15 (.rd 16 (.rd 17 (.rd 18 (.rd 19 (.rd 20 (.rd 21 (.rd 22 (.rd 23 .done)))))))))))))))))))))))) (by kernel_rfl) hw (fun w => Ok E I (.row v16 9 1 1 cs19 :: .row v1 51 20 1 cs4 :: .blk a0b (.cells ⟨[a0_p_lv229, a0_p_nv, yv561, yv556]⟩ 94 (0, 0)) :: .row a0_p_nv 9 1 a0_p_nm a0_p_ncs :: .row yv561 51 20 m562 cs563 :: .row yv556 9 1 m557 cs558 :: F) w) (fun w hw => ⟨hw.sub (scc (scc (scc (scc (scc (scc sr)))))), ?_⟩)
         refine tm rfl hf rfl rfl fun a hf => tm rfl hf rfl rfl fun a hf => tR rfl hf (fun w hw => iC hf rfl rfl rfl) rfl fun a hf => tm rfl hf rfl rfl fun a hf => g_split hf (g := 182) rfl (fun hb964 hf => ?_) (fun hb964 hf => ?_)
         ·replace hp := cond_t hb964 hp
          refine tG rfl rfl hf rfl (fun w hw => r_move hf rfl) rfl fun a hf => tG rfl rfl hf rfl (fun w hw => nC hf rfl) rfl fun a hf => tG rfl rfl hf rfl (fun w hw => rF hf rfl fd_94_1) rfl fun a hf => tG rfl rfl hf rfl (fun w hw => rL hw hf rfl ty_45 2 rfl rfl) rfl fun a hf => tG rfl rfl hf rfl (fun w hw => r_move hf rfl) rfl fun a hf => ?_
          obtain ⟨hg965, hp⟩ := gS hp
          refine tG rfl rfl hf rfl (fun w hw => rI (K := ekS) hf el_45 rfl rfl (rR (K := ekS) hw (i := 3) rfl ha0_p_n) hg965) rfl fun a hf => tG rfl rfl hf rfl (fun w hw => r_loadH (K := ekS) hf rfl ty_9 (rR (K := ekS) hw (i := 3) rfl ha0_p_n) hg965 rfl (fun cs h => ekS_f0 h)) rfl fun a hf => tG rfl rfl hf rfl (fun w hw => r_move hf rfl) rfl fun a hf => ?_
          obtain ⟨hg966, hp⟩ := gS hp
          refine tG rfl rfl hf rfl (fun w hw => r_indexS hf und_9 rfl rfl hg966) rfl fun a hf => tG rfl rfl hf rfl (fun w hw => r_move hf rfl) rfl fun a hf => tG rfl rfl hf rfl (fun w hw => nC hf rfl) rfl fun a hf => tG rfl rfl hf rfl (fun w hw => rF hf rfl fd_94_1) rfl fun a hf => tG rfl rfl hf rfl (fun w hw => rL hw hf rfl ty_45 2 rfl rfl) rfl fun a hf => tG rfl rfl hf rfl (fun w hw => r_move hf rfl) rfl fun a hf => ?_
          obtain ⟨hg967, hp⟩ := gS hp
          refine tG rfl rfl hf rfl (fun w hw => rI (K := ekS) hf el_45 rfl rfl (rR (K := ekS) hw (i := 3) rfl ha0_p_n) hg967) rfl fun a hf => tG rfl rfl hf rfl (fun w hw => r_loadH (K := ekS) hf rfl ty_9 (rR (K := ekS) hw (i := 3) rfl ha0_p_n) hg967 rfl (fun cs h => ekS_f0 h)) rfl fun a hf => tG rfl rfl hf rfl (fun w hw => r_move hf rfl) rfl fun a hf => ?_
          obtain ⟨hg968, hp⟩ := gS hp
          refine tG rfl rfl hf rfl (fun w hw => r_indexS hf und_9 rfl rfl hg968) rfl fun a hf => tG rfl rfl hf rfl (fun w hw => iC hf rfl rfl rfl) rfl fun a hf => tR rfl hf (fun w hw => pT hf rfl rfl) rfl fun a hf => t_done <| ct ?_
          have ho := oI hp
          subst ho
          exact ⟨((bt (gt a0_p_n y877) a3) == (bt (gt a0_p_n y565) a3)), rfl, hw, hf.to ⟨rfl, rfl, rfl, rfl, rfl, rfl, rfl, trivial⟩⟩
         ·replace hp := cond_f hb964 hp
          refine tS rfl rfl hf rfl rfl rfl fun a hf => tS rfl rfl hf rfl rfl rfl fun a hf => tS rfl rfl hf rfl rfl rfl fun a hf => tS rfl rfl hf rfl rfl rfl fun a hf => tS rfl rfl hf rfl rfl rfl fun a hf => tS rfl rfl hf rfl rfl rfl fun a hf => tS rfl rfl hf rfl rfl rfl fun a hf => tS rfl rfl hf rfl rfl rfl fun a hf => tS rfl rfl hf rfl rfl rfl fun a hf => tS rfl rfl hf rfl rfl rfl fun a hf => tS rfl rfl hf rfl rfl rfl fun a hf => tS rfl rfl hf rfl rfl rfl fun a hf => tS rfl rfl hf rfl rfl rfl fun a hf => tS rfl rfl hf rfl rfl rfl fun a hf => tS rfl rfl hf rfl rfl rfl fun a hf => tS rfl rfl hf rfl rfl rfl fun a hf => ?_
          refine tS rfl rfl hf rfl rfl rfl fun a hf => tS rfl rfl hf rfl rfl rfl fun a hf => tS rfl rfl hf rfl rfl rfl fun a hf => tR rfl hf (fun w hw => pF hf rfl rfl) rfl fun a hf => t_done <| ct ?_
          have ho := oI hp
          subst ho
          exact ⟨false, rfl, hw, hf.to ⟨rfl, rfl, rfl, rfl, rfl, rfl, rfl, trivial⟩⟩
        ·intro a w hM
         obtain ⟨y960, rfl, hw, hf⟩ := hM
         replace hp := hq962
         refine cC hf rfl (fun hb969 => ?_) (fun hb969 => ?_)
         ·replace hp := cond_t hb969 hp
          refine wp_skip <| ct <| wp_block <| wr <| om hf rfl rfl fun a hf => oR hf (r_add hf rfl rfl) rfl fun a hf => oa hf rfl rfl fun a hf => oN <| c_blockN <| ct ?_
          exact ih (w64 (y877 + 1)) _ _ ⟨hw, hf.to ⟨rfl, rfl, rfl, rfl, rfl, rfl, trivial⟩⟩ hp
         ·replace hp := cond_f hb969 hp
          refine wp_exit <| c_thenE <| c_thenE <| c_exit <| ct ?_
          have ho := oI hp
          subst ho
          exact ⟨y877, rfl, hw, hf.to ⟨rfl, rfl, rfl, rfl, rfl, rfl, trivial⟩⟩
       ·intro a w hM
        obtain ⟨y922, rfl, hw, hf⟩ := hM
        replace hp := hq924
        refine ct <| wq <| wr <| om hf rfl rfl fun a hf => om hf rfl rfl fun a hf => om hf rfl rfl fun a hf => om hf rfl rfl fun a hf => oR hf (r_add hf rfl rfl) rfl fun a hf => ?_
        replace hw : Ok E I (.blk a0b (.cells ⟨[a0_p_lv229, a0_p_nv, yv561, yv556]⟩ 94 (0, 0)) :: .row a0_p_nv 9 1 a0_p_nm a0_p_ncs :: .row yv561 51 20 m562 cs563 :: .row yv556 9 1 m557 cs558 :: .row v16 9 1 1 cs19 :: .row v1 51 20 1 cs4 :: F) w := (((hw.front (i := 5) rfl).front (i := 5) rfl).front (i := 5) rfl).front (i := 5) rfl
        obtain ⟨y975, hy974, hp⟩ := bS hp
        obtain ⟨y971, y972, y973⟩ := y975
        have hc976 := ihr hw hR230 ha0_p_n hRR564 hRR559 hy974
        refine o_call hf cb_47 rfl rfl hc976 (fun v986 w a hK977 hf => ?_)
        obtain ⟨rv978, rm979, rcs980, rv982, rm983, rcs984, rfl, hw, hRR981, hRR985⟩ := hK977
        refine oa hf rfl rfl fun a hf => oN <| ct <| wq <| c_drawn mix [18] (.rd 0 (.rd 1 (.rd 2 (.rd 3 (.rd 4 (.rd 5 (.rd 6 (.rd 7 (.rd 8 (.rd 9 (.rd 10 (.rd 11 (.rd 12 (.rd 13 (.rd 14 (.ef 15 (.ef 16 (.rd 17 (.ef 18 .done))))))))))))))))))) (by kernel_rfl) hw (fun w => Ok E I (.blk a0b (.cells ⟨[a0_p_lv229, a0_p_nv, rv978, rv982]⟩ 94 (0, 0)) :: .row a0_p_nv 9 1 a0_p_nm a0_p_ncs :: .row rv978 51 20 rm979 rcs980 :: .row rv982 9 1 rm983 rcs984 :: .row v16 9 1 1 cs19 :: .row v1 51 20 1 cs4 :: F) w) (fun w hw => ⟨hw.sub (scc (scc (scc (scc (scc (scc sr)))))), ?_⟩)
        refine tm rfl hf rfl rfl fun a hf => tR rfl hf (fun w hw => nC hf rfl) rfl fun a hf => tR rfl hf (fun w hw => rF hf rfl fd_94_2) rfl fun a hf => tR rfl hf (fun w hw => rL hw hf rfl ty_23 0 rfl rfl) rfl fun a hf => tm rfl hf rfl rfl fun a hf => tm rfl hf rfl rfl fun a hf => tR rfl hf (fun w hw => nC hf rfl) rfl fun a hf => tR rfl hf (fun w hw => rF hf rfl fd_94_1) rfl fun a hf => tR rfl hf (fun w hw => rL hw hf rfl ty_45 0 rfl rfl) rfl fun a hf => tm rfl hf rfl rfl fun a hf => ?_
        obtain ⟨hg988, hp⟩ := gS hp
        refine tR rfl hf (fun w hw => rI (K := ekS) hf el_45 rfl rfl (rR (K := ekS) hw (i := 1) rfl ha0_p_n) hg988) rfl fun a hf => tR rfl hf (fun w hw => r_loadH (K := ekS) hf rfl ty_9 (rR (K := ekS) hw (i := 1) rfl ha0_p_n) hg988 rfl (fun cs h => ekS_f0 h)) rfl fun a hf => tm rfl hf rfl rfl fun a hf => ?_
        obtain ⟨hg989, hp⟩ := gS hp
        refine tR rfl hf (fun w hw => r_indexS hf und_9 rfl rfl hg989) rfl fun a hf => tm rfl hf rfl rfl fun a hf => t_ef rfl ?_
        obtain ⟨hg990, hp⟩ := gS hp
        refine t_eff hf (rI (K := ek_Node) hf el_23 rfl rfl (rR (K := ek_Node) hw (i := 2) rfl hRR981) hg990) rfl fun a hf => ⟨.inr (hw.back (IH.le_refl _) (scc (scc (scc (scc (scc (scc sr))))))), ?_⟩
        refine t_ef rfl <| t_eff hf (r_fieldAddrH hf rfl fd_51_4) rfl fun a hf => ⟨.inr (hw.back (IH.le_refl _) (scc (scc (scc (scc (scc (scc sr))))))), ?_⟩
        obtain ⟨hg991, hp⟩ := gS hp
        refine tR rfl hf (fun w hw => r_indexAddrAH hf el_49 rfl rfl hg991) rfl fun a hf => t_ef rfl ?_
        obtain ⟨w, cs993, hrun992, hw, hRR994⟩ := e_storeH (P := P) (K := ek_Node) hw hf (x := .tmp 228) (y := .tmp 225) rfl rfl ty_3 2 rfl hRR981 hg990 (Nat.add_assoc ..) (vs := [.int .i64 y971]) (oE rfl) rfl (oC rfl ones_nil) (by have := hg991; show 4 + _ + 1 ≤ 20; omega) (x' := { gt y972 (a0_p_t.length : Int) with kids_ := vset (gt y972 (a0_p_t.length : Int)).kids_ (bt (gt a0_p_n y565) a3) y971 }) (fun c h => Node_setat h hg991)
        replace hw : Ok E I (.blk a0b (.cells ⟨[a0_p_lv229, a0_p_nv, rv978, rv982]⟩ 94 (0, 0)) :: .row a0_p_nv 9 1 a0_p_nm a0_p_ncs :: .row rv978 51 20 rm979 cs993 :: .row rv982 9 1 rm983 rcs984 :: .row v16 9 1 1 cs19 :: .row v1 51 20 1 cs4 :: F) w := hw
        refine t_effU (hrun992 ..) ⟨.inl rfl, ?_⟩
        refine t_done <| ct <| wr <| om hf rfl rfl fun a hf => oa hf rfl rfl fun a hf => oN <| c_blockN <| ct ?_
        replace hw : Ok E I (.row v16 9 1 1 cs19 :: .row v1 51 20 1 cs4 :: .blk a0b (.cells ⟨[a0_p_lv229, a0_p_nv, rv978, rv982]⟩ 94 (0, 0)) :: .row a0_p_nv 9 1 a0_p_nm a0_p_ncs :: .row rv978 51 20 rm979 cs993 :: .row rv982 9 1 rm983 rcs984 :: F) w := (((((hw.front (i := 3) rfl).front (i := 3) rfl).front (i := 3) rfl).front (i := 3) rfl).front (i := 5) rfl).front (i := 5) rfl
        exact ih (y973, y972.set (a0_p_t.length : Int).toNat ({ gt y972 (a0_p_t.length : Int) with kids_ := vset (gt y972 (a0_p_t.length : Int)).kids_ (bt (gt a0_p_n y565) a3) y971 }), y922) _ _ ⟨rv982, rm983, rcs984, rv978, rm979, cs993, hw, hf.to ⟨rfl, rfl, rfl, rfl, rfl, trivial⟩, hRR985, hRR994⟩ hp
      ·replace hp := cond_f hb787 hp
       refine wp_exit <| c_thenE <| c_thenE <| c_exit <| ct ?_
       have ho := oI hp
       subst ho
       exact ⟨y555, y560, yv556, m557, cs558, yv561, m562, cs563, rfl, hw, hf.to ⟨rfl, trivial⟩, hRR559, hRR564⟩
     ·intro a w hM
      obtain ⟨y774, y779, yv775, m776, cs777, yv780, m781, cs782, rfl, hw, hf, hRR778, hRR783⟩ := hM
      replace hp := hq785
      refine ct <| wq <| wr <| om hf rfl rfl fun a hf => oa hf rfl rfl fun a hf => oN <| ct <| wp_ret ?_
      replace hw : Ok E I (.blk a0b (.cells ⟨[a0_p_lv229, a0_p_nv, yv780, yv775]⟩ 94 (0, 0)) :: .row a0_p_nv 9 1 a0_p_nm a0_p_ncs :: .row yv780 51 20 m781 cs782 :: .row yv775 9 1 m776 cs777 :: F) w := hw.sub (sc (sc (scc (scc (scc (scc sr))))))
      have ho := oI hp
      simp only [Prod.mk.injEq] at ho
      obtain ⟨rfl, rfl, rfl⟩ := ho
      exact b_ret1 hf results47 rfl ⟨_, rfl, ⟨yv780, m781, cs782, yv775, m776, cs777, rfl, hw, hRR783, hRR778⟩⟩

theorem ref10_Build_ok {E : World} {I : IH} {F : List Atom} {w : World} {a0 : List Pair} {a0v6 : Value} {res0 : ref10_Both_T} (hw : Ok E I (F) w) (hR7 : RS ek_Pair I a0v6 a0) (hp : ref10_Build.f a0 = some res0) :
  Calls P 24 ⟨[a0v6]⟩ w fun e w' => ∃ v, e = .returned v ∧ ∃ I2 : IH, ∃ rvv14089 : Value, ∃ rvv14091 : Value, v = Value.agg ⟨[rvv14089, rvv14091, Value.bool res0.ok_]⟩ ∧ IH.le I I2 ∧ Ok E I2 (F) w' ∧ RS ek_Node I2 rvv14089 res0.t_ ∧ RS ekS I2 rvv14091 res0.p_ := by
 refine c_enter func24 rfl ntmps24 rfl fun a hf => ?_
 replace hf : Fr 49 [(0, a0v6)] a := hf
 unfold ref10_Build.f at hp
 refine wq <| wr ?_
 obtain ⟨b1, w, hrun2, hw⟩ := e_alloc (P := P) (a := a) hw ty_47
 refine o_eff hf (hrun2 ..) rfl fun a hf => oN <| ct <| wq <| wq <| wr <| om hf rfl rfl fun a hf => ?_
 obtain ⟨y284, hy285, hp⟩ := bS hp
 have hc287 := ref10_May_ok hw hR7 hy285
 refine o_call hf cb_23 rfl rfl hc287 (fun v289 w a hK288 hf => ?_)
 obtain ⟨rfl, hw⟩ := hK288
 refine oR hf (r_not hf rfl) rfl fun a hf => oN <| ct <| cC hf rfl (fun hb290 => ?_) (fun hb290 => ?_)
 ·replace hp := cond_t hb290 hp
  refine wq <| wr <| oR hf (r_build hf bd_47 (vs := []) rfl trivial (by decide) (out := [.slice none 0 0, .slice none 0 0, .bool false]) rfl) rfl fun a hf => ?_
  obtain ⟨w, hrun291, hw⟩ := e_store (P := P) hw hf (x := .tmp 2) (y := .tmp 8) rfl rfl ty_47 0 rfl (vs := [.slice none 0 0, .slice none 0 0, .bool false]) rfl rfl (oC rfl (oC rfl (oC rfl ones_nil))) (by simp [arrC_len]) (cs' := [.slice none 0 0, .slice none 0 0, .bool false]) rfl
  dsimp only [List.set] at hw
  refine o_effU (hrun291 ..) <| oN <| ct <| wp_ret <| c_thenR ?_
  have ho := oI hp
  subst ho
  exact b_retC hw hf results24 ty_47 rfl 0 rfl (vs := [.slice none 0 0, .slice none 0 0, .bool false]) rfl rfl ⟨_, rfl, ⟨I, (Value.slice none 0 0), (Value.slice none 0 0), rfl, (IH.le_refl _), hw.tail, RS.nil, RS.nil⟩⟩
 ·replace hp := cond_f hb290 hp
  refine wp_skip <| ct <| wq <| wr <| om hf rfl rfl fun a hf => oR hf (r_build hf bd_94 (vs := [a0v6]) rfl ⟨hR7.one, trivial⟩ (by decide) (out := [a0v6, .slice none 0 0, .slice none 0 0, .slice none 0 0]) rfl) rfl fun a hf => ?_
  obtain ⟨b292, w, hrun293, hw⟩ := e_box (P := P) hw hf (e := 94) (x := .tmp 10) rfl (cs := [a0v6, Value.slice none 0 0, Value.slice none 0 0, Value.slice none 0 0]) rfl
  refine o_eff hf (hrun293 ..) rfl fun a hf => oa hf rfl rfl fun a hf => oN <| ct <| wq <| wq <| wr <| oa hf rfl rfl fun a hf => oN <| ct ?_
  replace hw := hw.nilrow 9 1
  have hRR122 : RowR ekS I [] [] := RowR.nil
  obtain ⟨out203, hp, hq204⟩ := bS hp
  refine c_cutX (fun a w => ∃ y198 : List ByteArray, ∃ yv199 : Value, ∃ m200 : Nat, ∃ cs201 : List Value, y198 = out203 ∧ Ok E I (.row yv199 9 1 m200 cs201 :: .blk b292 (.cells ⟨[a0v6, yv199, .slice none 0 0, .slice none 0 0]⟩ 94 (0, 0)) :: .blk b1 (.cells ⟨[.slice none 0 0, .slice none 0 0, .bool false]⟩ 47 (0, 0)) :: F) w ∧ Fr 49 ([(0, a0v6), (2, .pointer (some ⟨b1, 0, none⟩)), (3, .pointer (some ⟨b292, 0, none⟩))]) a ∧ RowR ekS I cs201 y198) ?_ ?_
  ·refine wp_block <| c_loop <| c_fuel (ref10_Build.l0 a0) out203 (fun (y171, y176) a w => ∃ yv172 : Value, ∃ m173 : Nat, ∃ cs174 : List Value, Ok E I (.row yv172 9 1 m173 cs174 :: .blk b292 (.cells ⟨[a0v6, yv172, .slice none 0 0, .slice none 0 0]⟩ 94 (0, 0)) :: .blk b1 (.cells ⟨[.slice none 0 0, .slice none 0 0, .bool false]⟩ 47 (0, 0)) :: F) w ∧ Fr 49 ([(0, a0v6), (2, .pointer (some ⟨b1, 0, none⟩)), (3, .pointer (some ⟨b292, 0, none⟩)), (4, .int .i64 y176)]) a ∧ RowR ekS I cs174 y171) (fun _ => rfl) ?_ BIG (([] : List ByteArray), 0) _ _ ⟨(.slice none 0 0), 0, [], hw, hf.to ⟨rfl, rfl, rfl, rfl, trivial⟩, hRR122⟩ hp
   intro k st a w hI hp ih
   obtain ⟨y171, y176⟩ := st
   obtain ⟨yv172, m173, cs174, hw, hf, hRR175⟩ := hI
   rw [ref10_Build.l0] at hp
   refine wq <| wq <| wr <| om hf rfl rfl fun a hf => om hf rfl rfl fun a hf => oR hf (r_lenL (K := ek_Pair) hf el_43 rfl (hR7.rd hw)) rfl fun a hf => oR hf (iC hf rfl rfl rfl) rfl fun a hf => oN <| ct <| cC hf rfl (fun hb206 => ?_) (fun hb206 => ?_)
   ·replace hp := cond_t hb206 hp
    refine wp_skip <| ct <| wq <| wp_block <| c_drawn mix [15] (.rd 0 (.rd 1 (.rd 2 (.rd 3 (.rd 4 (.rd 5 (.rd 6 (.rd 7 (.rd 8 (.rd 9 (.ef 10 (.ef 11 (.ef 12 (.ef 13 (.rd 14 (.ef 15 .done)))))))))))))))) (by kernel_rfl) hw (fun w => Ok E I (.blk b292 (.cells ⟨[a0v6, yv172, .slice none 0 0, .slice none 0 0]⟩ 94 (0, 0)) :: .blk b1 (.cells ⟨[.slice none 0 0, .slice none 0 0, .bool false]⟩ 47 (0, 0)) :: F) w) (fun w hw => ⟨hw.sub (sc (scc (scc sr))), ?_⟩)
    refine tm rfl hf rfl rfl fun a hf => tm rfl hf rfl rfl fun a hf => tR rfl hf (fun w hw => nC hf rfl) rfl fun a hf => tR rfl hf (fun w hw => rF hf rfl fd_94_1) rfl fun a hf => tR rfl hf (fun w hw => rL hw hf rfl ty_45 0 rfl rfl) rfl fun a hf => tm rfl hf rfl rfl fun a hf => tm rfl hf rfl rfl fun a hf => ?_
    obtain ⟨hg208, hp⟩ := gS hp
    refine tR rfl hf (fun w hw => rI (K := ek_Pair) hf el_43 rfl rfl (hR7.rd hw) hg208) rfl fun a hf => tR rfl hf (fun w hw => r_fieldAddrH hf rfl fd_55_0) rfl fun a hf => tR rfl hf (fun w hw => r_loadH (K := ek_Pair) hf rfl ty_9 (hR7.rd hw) hg208 rfl (fun cs h => Pair_f0 h)) rfl fun a hf => t_ef rfl ?_
    obtain ⟨y209, hy210, hp⟩ := bS hp
    have hc212 := ref02_Of_ok hw hy210
    refine t_call hf cb_46 rfl rfl hc212 (fun v214 w a hK213 hf => ?_)
    obtain ⟨rfl, hw⟩ := hK213
    refine ⟨.inr (hw.back (IH.le_refl _) (sc (scc (scc sr)))), ?_⟩
    refine t_ef rfl ?_
    obtain ⟨w, v215, hrun216, hw, hRR217⟩ := e_buildSlice (P := P) (K := ekS) (m := 1) hw hf (parts := [(0, .tmp 28)]) el_45 ty_9 rfl rfl rfl (ccs := [[Value.string y209]]) rfl (xs := [y209]) ⟨rfl, trivial⟩ rfl
    obtain ⟨cs218, hcs⟩ : ∃ cs, cs = ([[Value.string y209]] : List (List Value)).flatten := ⟨_, rfl⟩
    rw [← hcs] at hw hRR217; clear hcs
    refine t_eff hf (hrun216 ..) rfl fun a hf => ⟨.inr (hw.back (IH.le_refl _) (sc (sc (scc (scc sr))))), ?_⟩
    refine t_ef rfl ?_
    obtain ⟨hg220, hp⟩ := gS hp
    obtain ⟨w, v221, m222, cs223, hrun225, hw, hRR224⟩ := e_append (P := P) (K := ekS) (ty := 45) hw hf (s := .tmp 22) (x := .tmp 29) el_45 ty_9 rfl (by decide) 1 rfl rfl rfl hRR175 (ys := [y209]) (rR (K := ekS) hw (i := 0) rfl hRR217) hg220
    replace hw : Ok E I (.row v215 9 1 1 cs218 :: .row v221 9 1 m222 cs223 :: .blk b292 (.cells ⟨[a0v6, yv172, .slice none 0 0, .slice none 0 0]⟩ 94 (0, 0)) :: .blk b1 (.cells ⟨[.slice none 0 0, .slice none 0 0, .bool false]⟩ 47 (0, 0)) :: F) w := hw
    refine t_eff hf (hrun225 ..) rfl fun a hf => ⟨.inr (hw.back (IH.le_refl _) (sc (sc (scc (scc sr))))), ?_⟩
    refine t_ef rfl <| t_eff hf (nC hf rfl) rfl fun a hf => ⟨.inr (hw.back (IH.le_refl _) (sc (sc (scc (scc sr))))), ?_⟩
    refine tR rfl hf (fun w hw => rF hf rfl fd_94_1) rfl fun a hf => t_ef rfl ?_
    obtain ⟨w, hrun226, hw⟩ := e_store (P := P) hw hf (x := .tmp 32) (y := .tmp 30) rfl rfl ty_45 2 rfl (vs := [v221]) (oE (row_one hw (i := 1) rfl)) rfl (oC (row_one hw (i := 1) rfl) ones_nil) (by simp [arrC_len]) (cs' := [a0v6, v221, .slice none 0 0, .slice none 0 0]) rfl
    dsimp only [List.set] at hw
    refine t_effU (hrun226 ..) ⟨.inl rfl, ?_⟩
    refine t_done <| c_blockN <| ct <| wr <| om hf rfl rfl fun a hf => oR hf (r_add hf rfl rfl) rfl fun a hf => oa hf rfl rfl fun a hf => oN <| ct ?_
    replace hw : Ok E I (.row v221 9 1 m222 cs223 :: .blk b292 (.cells ⟨[a0v6, v221, .slice none 0 0, .slice none 0 0]⟩ 94 (0, 0)) :: .blk b1 (.cells ⟨[.slice none 0 0, .slice none 0 0, .bool false]⟩ 47 (0, 0)) :: F) w := hw.sub (sc (scc (scc (scc sr))))
    exact ih (y171 ++ [y209], w64 (y176 + 1)) _ _ ⟨v221, m222, cs223, hw, hf.to ⟨rfl, rfl, rfl, rfl, trivial⟩, hRR224⟩ hp
   ·replace hp := cond_f hb206 hp
    refine wp_exit <| c_thenE <| c_thenE <| c_exit <| ct ?_
    have ho := oI hp
    subst ho
    exact ⟨y171, yv172, m173, cs174, rfl, hw, hf.to ⟨rfl, rfl, rfl, trivial⟩, hRR175⟩
  ·intro a w hM
   obtain ⟨y198, yv199, m200, cs201, rfl, hw, hf, hRR202⟩ := hM
   replace hp := hq204
   refine ct ?_
   replace hw := hw.nilrow 51 20
   have hRR1038 : RowR ek_Node I [] [] := RowR.nil
   replace hw := hw.nilrow 9 1
   have hRR1040 : RowR ekS I [] [] := RowR.nil
   obtain ⟨out1068, hp, hq1069⟩ := bS hp
   refine c_cut (fun a w => ∃ y1058 : List Node, ∃ y1063 : List ByteArray, ∃ yv1059 : Value, ∃ m1060 : Nat, ∃ cs1061 : List Value, ∃ yv1064 : Value, ∃ m1065 : Nat, ∃ cs1066 : List Value, (y1058, y1063) = out1068 ∧ Ok E I (.row yv1064 9 1 m1065 cs1066 :: .row yv1059 51 20 m1060 cs1061 :: .row yv199 9 1 m200 cs201 :: .blk b292 (.cells ⟨[a0v6, yv199, yv1059, yv1064]⟩ 94 (0, 0)) :: .blk b1 (.cells ⟨[.slice none 0 0, .slice none 0 0, .bool false]⟩ 47 (0, 0)) :: F) w ∧ Fr 49 ([(2, .pointer (some ⟨b1, 0, none⟩)), (3, .pointer (some ⟨b292, 0, none⟩))]) a ∧ RowR ek_Node I cs1061 y1058 ∧ RowR ekS I cs1066 y1063) ?_ ?_
   ·refine wq <| wr <| om hf rfl rfl fun a hf => oR hf (r_lenL (K := ek_Pair) hf el_43 rfl (hR7.rd hw)) rfl fun a hf => oR hf (iC hf rfl rfl rfl) rfl fun a hf => oN <| ct <| cC hf rfl (fun hb1070 => ?_) (fun hb1070 => ?_)
    ·replace hp := cond_t hb1070 hp
     refine wr <| om hf rfl rfl fun a hf => om hf rfl rfl fun a hf => oR hf (r_lenL (K := ek_Pair) hf el_43 rfl (hR7.rd hw)) rfl fun a hf => ?_
     replace hw : Ok E I (.blk b292 (.cells ⟨[a0v6, yv199, (.slice none 0 0), (.slice none 0 0)]⟩ 94 (0, 0)) :: .row yv199 9 1 m200 cs201 :: .row (.slice none 0 0) 51 20 0 [] :: .row (.slice none 0 0) 9 1 0 [] :: .blk b1 (.cells ⟨[.slice none 0 0, .slice none 0 0, .bool false]⟩ 47 (0, 0)) :: F) w := (((hw.front (i := 0) rfl).front (i := 1) rfl).front (i := 2) rfl).front (i := 3) rfl
     obtain ⟨y1075, hy1074, hp⟩ := bS hp
     obtain ⟨y1071, y1072, y1073⟩ := y1075
     have hc1076 := ref10_maker_add_ok BIG hw hR7 hRR202 hRR1038 hRR1040 hy1074
     refine o_call hf cb_47 rfl rfl hc1076 (fun v1086 w a hK1077 hf => ?_)
     obtain ⟨rv1078, rm1079, rcs1080, rv1082, rm1083, rcs1084, rfl, hw, hRR1081, hRR1085⟩ := hK1077
     refine oN <| ct ?_
     have ho := oI hp
     subst ho
     replace hw : Ok E I (.row rv1082 9 1 rm1083 rcs1084 :: .row rv1078 51 20 rm1079 rcs1080 :: .row yv199 9 1 m200 cs201 :: .blk b292 (.cells ⟨[a0v6, yv199, rv1078, rv1082]⟩ 94 (0, 0)) :: .blk b1 (.cells ⟨[.slice none 0 0, .slice none 0 0, .bool false]⟩ 47 (0, 0)) :: F) w := ((((hw.front (i := 4) rfl).front (i := 1) rfl).front (i := 2) rfl).front (i := 3) rfl).front (i := 4) rfl
     exact ⟨y1072, y1073, rv1078, rm1079, rcs1080, rv1082, rm1083, rcs1084, rfl, hw, hf.to ⟨rfl, rfl, trivial⟩, hRR1081, hRR1085⟩
    ·replace hp := cond_f hb1070 hp
     refine wp_skip <| ct ?_
     have ho := oI hp
     subst ho
     exact ⟨([] : List Node), ([] : List ByteArray), (Value.slice none 0 0), 0, [], (Value.slice none 0 0), 0, [], rfl, hw, hf.to ⟨rfl, rfl, trivial⟩, hRR1038, hRR1040⟩
   ·intro a w hM
    obtain ⟨y1058, y1063, yv1059, m1060, cs1061, yv1064, m1065, cs1066, rfl, hw, hf, hRR1062, hRR1067⟩ := hM
    replace hp := hq1069
    refine wq <| c_drawn mix [9] (.rd 0 (.rd 1 (.rd 2 (.rd 3 (.rd 4 (.rd 5 (.rd 6 (.rd 7 (.rd 8 (.ef 9 .done)))))))))) (by kernel_rfl) hw (fun w => Ok E I (.row yv1064 9 1 m1065 cs1066 :: .row yv1059 51 20 m1060 cs1061 :: .row yv199 9 1 m200 cs201 :: .blk b292 (.cells ⟨[a0v6, yv199, yv1059, yv1064]⟩ 94 (0, 0)) :: .blk b1 (.cells ⟨[.slice none 0 0, .slice none 0 0, .bool false]⟩ 47 (0, 0)) :: F) w) (fun w hw => ⟨hw.sub (scc (scc (scc (scc (scc sr))))), ?_⟩)
    refine tm rfl hf rfl rfl fun a hf => tR rfl hf (fun w hw => nC hf rfl) rfl fun a hf => tR rfl hf (fun w hw => rF hf rfl fd_94_2) rfl fun a hf => tR rfl hf (fun w hw => rL hw hf rfl ty_23 3 rfl rfl) rfl fun a hf => tm rfl hf rfl rfl fun a hf => tR rfl hf (fun w hw => nC hf rfl) rfl fun a hf => tR rfl hf (fun w hw => rF hf rfl fd_94_3) rfl fun a hf => tR rfl hf (fun w hw => rL hw hf rfl ty_45 3 rfl rfl) rfl fun a hf => ?_
    have ho1088 := row_one hw (i := 1) rfl
    have ho1089 := row_one hw (i := 0) rfl
    refine tR rfl hf (fun w hw => r_build hf bd_47 (vs := [yv1059, yv1064, .bool true]) rfl ⟨ho1088, ho1089, rfl, trivial⟩ (by decide) (out := [yv1059, yv1064, .bool true]) rfl) rfl fun a hf => t_ef rfl ?_
    obtain ⟨w, hrun1090, hw⟩ := e_store (P := P) hw hf (x := .tmp 2) (y := .tmp 48) rfl rfl ty_47 4 rfl (vs := [yv1059, yv1064, .bool true]) rfl rfl (oC (row_one hw (i := 1) rfl) (oC (row_one hw (i := 0) rfl) (oC rfl ones_nil))) (by simp [arrC_len]) (cs' := [yv1059, yv1064, .bool true]) rfl
    dsimp only [List.set] at hw
    refine t_effU (hrun1090 ..) ⟨.inl rfl, ?_⟩
    refine t_done <| ct <| wp_ret ?_
    have hw : Ok E I (.row yv1059 51 20 m1060 cs1061 :: .row yv1064 9 1 m1065 cs1066 :: .row yv199 9 1 m200 cs201 :: .blk b292 (.cells ⟨[a0v6, yv199, yv1059, yv1064]⟩ 94 (0, 0)) :: .blk b1 (.cells ⟨[yv1059, yv1064, Value.bool true]⟩ 47 (0, 0)) :: F) w := hw.front (i := 1) rfl
    obtain ⟨I1097, hle1098, hw, hR1099⟩ := row_freeze (K := ek_Node) hw hRR1062
    replace hRR1067 := hRR1067.mono hle1098
    replace hRR202 := hRR202.mono hle1098
    replace hR7 := hR7.mono hle1098
    have hw : Ok E I1097 (.row yv1064 9 1 m1065 cs1066 :: .row yv199 9 1 m200 cs201 :: .blk b292 (.cells ⟨[a0v6, yv199, yv1059, yv1064]⟩ 94 (0, 0)) :: .blk b1 (.cells ⟨[yv1059, yv1064, Value.bool true]⟩ 47 (0, 0)) :: F) w := hw.front (i := 0) rfl
    obtain ⟨I1100, hle1101, hw, hR1102⟩ := row_freeze (K := ekS) hw hRR1067
    replace hR1099 := hR1099.mono hle1101
    replace hRR202 := hRR202.mono hle1101
    replace hR7 := hR7.mono hle1101
    replace hw : Ok E I1100 (.blk b1 (.cells ⟨[yv1059, yv1064, .bool true]⟩ 47 (0, 0)) :: F) w := hw.sub (sc (sc (scc sr)))
    have ho := oI hp
    subst ho
    exact b_retC hw hf results24 ty_47 rfl 0 rfl (vs := [yv1059, yv1064, .bool true]) rfl rfl ⟨_, rfl, ⟨I1100, yv1059, yv1064, rfl, (IH.le_trans hle1098 hle1101), hw.tail, hR1099, hR1102⟩⟩
end Go.Lf
