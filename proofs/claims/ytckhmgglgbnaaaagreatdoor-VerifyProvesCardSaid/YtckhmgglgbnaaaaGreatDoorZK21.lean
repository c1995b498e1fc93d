import Derived.Test.YtckhmgglgbnaaaaGreatDoorZD
import Derived.Test.YtckhmgglgbnaaaaGreatDoorZF
import Derived.Test.YtckhmgglgbnaaaaGreatDoorJ
import Derived.Test.YtckhmgglgbnaaaaGreatDoorUB
import Derived.Test.YtckhmgglgbnaaaaGreatDoorZK11
import Derived.Test.YtckhmgglgbnaaaaGreatDoorZK15
import Derived.Test.YtckhmgglgbnaaaaGreatDoorZK20
set_option linter.unusedVariables false
set_option linter.unusedSimpArgs false
set_option maxHeartbeats 1000000
set_option maxRecDepth 20000
namespace Go.Lf
open Go Go.Proofs.Tryz
theorem get_Walk_ok {E : World} {I : IH} {F : List Atom} {w : World} {a0 : List Node} {a0v1 : Value} {a1 : ByteArray} {res0 : List Int} {res1 : Int} (hw : Ok E I (F) w) (hG : Gl I) (hR2 : RS ek_Node I a0v1 a0) (hp : get_Walk.f a0 a1 = some (res0, res1)) :
  Calls P 33 ⟨[a0v1, Value.string a1]⟩ w fun e w' => ∃ v, e = .returned v ∧ ∃ I2 : IH, ∃ rvv223 : Value, v = Value.tuple ⟨[rvv223, Value.int .i64 res1]⟩ ∧ IH.le I I2 ∧ Ok E I2 (F) w' ∧ RS (ekI .i64) I2 rvv223 res0 := by
 refine c_enter func33 rfl ntmps33 rfl fun a hf => ?_
 replace hf : Fr 21 [(0, a0v1), (1, .string a1)] a := hf
 unfold get_Walk.f at hp
 refine wq <| wr <| oa hf rfl rfl fun a hf => oa hf rfl rfl fun a hf => oN <| ct <| wq <| wr <| om hf rfl rfl fun a hf => om hf rfl rfl fun a hf => ?_
 obtain ⟨y162, hy161, hp⟩ := bS hp
 obtain ⟨y159, y160⟩ := y162
 have hc163 := get_gone_ok hw hG hR2 hy161
 refine o_call hf cb_40 rfl rfl hc163 (fun v171 w a hK164 hf => ?_)
 rcases hK164 with ⟨rfl, rfl, hw⟩ | ⟨ox_164, rfl, I2_164, rb169, rvv165, rvv167, rfl, hle172, hw, hR166, hR168⟩
 ·dsimp only at hp
  refine om hf rfl rfl fun a hf => oR hf (rE hf rfl rfl) rfl fun a hf => oR hf (rE hf rfl rfl) rfl fun a hf => oa hf rfl rfl fun a hf => oa hf rfl rfl fun a hf => oN <| ct <| wq <| wq <| wr <| om hf rfl rfl fun a hf => oR hf (iC hf rfl rfl rfl) rfl fun a hf => oN <| ct <| cC hf rfl (fun hb173 => ?_) (fun hb173 => ?_)
  ·replace hp := cond_t hb173 hp
   refine wq <| wr <| om hf rfl rfl fun a hf => oa hf rfl rfl fun a hf => oa hf rfl rfl fun a hf => oN <| ct <| wp_ret <| c_thenR ?_
   have ho := oI hp
   simp only [Prod.mk.injEq] at ho
   obtain ⟨rfl, rfl⟩ := ho
   exact b_ret2 hf results33 rfl rfl ⟨_, rfl, ⟨I, (Value.slice none 0 0), rfl, (IH.le_refl _), hw, RS.nil⟩⟩
  ·replace hp := cond_f hb173 hp
   refine wp_skip <| ct <| wq <| wr <| om hf rfl rfl fun a hf => ?_
   obtain ⟨hg174, hp⟩ := gS hp
   exact absurd hg174 (by omega)
 ·dsimp only at hp
  replace hG := hG.mono hle172
  replace hR2 := hR2.mono hle172
  refine om hf rfl rfl fun a hf => oR hf (rE hf rfl rfl) rfl fun a hf => oR hf (rE hf rfl rfl) rfl fun a hf => oa hf rfl rfl fun a hf => oa hf rfl rfl fun a hf => oN <| ct <| wq <| wq <| wr <| om hf rfl rfl fun a hf => oR hf (iC hf rfl rfl rfl) rfl fun a hf => oN <| ct <| cC hf rfl (fun hb175 => ?_) (fun hb175 => ?_)
  ·replace hp := cond_t hb175 hp
   refine wq <| wr <| om hf rfl rfl fun a hf => oa hf rfl rfl fun a hf => oa hf rfl rfl fun a hf => oN <| ct <| wp_ret <| c_thenR ?_
   replace hw : Ok E I2_164 (F) w := hw.sub (sc sr)
   have ho := oI hp
   simp only [Prod.mk.injEq] at ho
   obtain ⟨rfl, rfl⟩ := ho
   exact b_ret2 hf results33 rfl rfl ⟨_, rfl, ⟨I2_164, (Value.slice none 0 0), rfl, hle172, hw, RS.nil⟩⟩
  ·replace hp := cond_f hb175 hp
   refine wp_skip <| ct <| wq <| wr <| om hf rfl rfl fun a hf => oR hf (nC hf rfl) rfl fun a hf => oR hf (rF hf rfl fd_103_2) rfl fun a hf => oR hf (rL hw hf rfl ty_55 0 rfl rfl) rfl fun a hf => oa hf rfl rfl fun a hf => oa hf rfl rfl fun a hf => oN <| ct <| wp_ret ?_
   replace hw : Ok E I2_164 (F) w := hw.sub (sc sr)
   have ho := oI hp
   simp only [Prod.mk.injEq] at ho
   obtain ⟨rfl, rfl⟩ := ho
   exact b_ret2 hf results33 rfl rfl ⟨_, rfl, ⟨I2_164, rvv167, rfl, hle172, hw, hR168⟩⟩

theorem root_item_r1_ok {E : World} {I : IH} {F : List Atom} {w : World} {a0 : Node} {a1 : List ByteArray} {a1v : Value} {a1m : Nat} {a1cs : List Value} {res0 : Item} (hw : Ok E I (.row a1v 9 1 a1m a1cs :: F) w) (hG : Gl I) (ha1 : RowR ekS I a1cs a1) (hp : root_item_r1.f a0 a1 = some res0) :
  Calls P 62 ⟨[Value.agg ⟨Value.int .i64 a0.kind_ :: Value.string a0.path_ :: Value.bool a0.has_ :: Value.string a0.value_ :: arrC .i64 a0.kids_⟩, a1v]⟩ w fun e w' => ∃ v, e = .returned v ∧ ∃ I2 : IH, ∃ rvv225 : Value, v = Value.agg ⟨[Value.int .i64 res0.kind_, Value.string res0.path_, Value.bool res0.has_, Value.string res0.value_, Value.int .i64 res0.mask_, rvv225]⟩ ∧ IH.le I I2 ∧ Ok E I2 (.row a1v 9 1 a1m a1cs :: F) w' ∧ RS ekS I2 rvv225 res0.hashes_ := by
 refine c_enter func62 rfl ntmps62 rfl fun a hf => ?_
 replace hf : Fr 42 [(0, Value.agg ⟨.int .i64 a0.kind_ :: .string a0.path_ :: .bool a0.has_ :: .string a0.value_ :: arrC .i64 a0.kids_⟩), (1, a1v)] a := hf
 unfold root_item_r1.f at hp
 refine wq <| wr ?_
 obtain ⟨b1, w, hrun2, hw⟩ := e_box (P := P) hw hf (e := 106) (x := .tmp 0) rfl (cs := (Value.int .i64 a0.kind_ :: Value.string a0.path_ :: Value.bool a0.has_ :: Value.string a0.value_ :: arrC .i64 a0.kids_)) rfl
 refine o_eff hf (hrun2 ..) rfl fun a hf => ?_
 obtain ⟨b4, w, hrun5, hw⟩ := e_alloc (P := P) (a := a) hw ty_86
 refine o_eff hf (hrun5 ..) rfl fun a hf => oN <| ct <| wq <| wr <| oR hf (rF hf rfl fd_106_0) rfl fun a hf => oR hf (rL hw hf rfl ty_3 1 rfl rfl) rfl fun a hf => oR hf (rF hf rfl fd_106_1) rfl fun a hf => oR hf (rL hw hf rfl ty_9 1 rfl rfl) rfl fun a hf => oR hf (rF hf rfl fd_106_2) rfl fun a hf => oR hf (rL hw hf rfl ty_4 1 rfl rfl) rfl fun a hf => oR hf (rF hf rfl fd_106_3) rfl fun a hf => oR hf (rL hw hf rfl ty_9 1 rfl rfl) rfl fun a hf => oR hf (r_build hf bd_86 (vs := [.int .i64 a0.kind_, .string a0.path_, .bool a0.has_, .string a0.value_]) rfl ⟨rfl, rfl, rfl, rfl, trivial⟩ (by decide) (out := [.int .i64 a0.kind_, .string a0.path_, .bool a0.has_, .string a0.value_, .int .i64 0, .slice none 0 0]) rfl) rfl fun a hf => ?_
 obtain ⟨b7, w, hrun8, hw⟩ := e_alloc (P := P) (a := a) hw ty_86
 refine o_eff hf (hrun8 ..) rfl fun a hf => ?_
 obtain ⟨w, hrun10, hw⟩ := e_store (P := P) hw hf (x := .tmp 5) (y := .tmp 16) rfl rfl ty_86 0 rfl (vs := [.int .i64 a0.kind_, .string a0.path_, .bool a0.has_, .string a0.value_, .int .i64 0, .slice none 0 0]) rfl rfl (oC rfl (oC rfl (oC rfl (oC rfl (oC rfl (oC rfl ones_nil)))))) (by simp [arrC_len]) (cs' := [.int .i64 a0.kind_, .string a0.path_, .bool a0.has_, .string a0.value_, .int .i64 0, .slice none 0 0]) rfl
 dsimp only [List.set] at hw
 refine o_effU (hrun10 ..) <| oN <| ct <| wq <| wq <| wr <| oR hf (rF hf rfl fd_106_4) rfl fun a hf => oR hf (r_loadA hw hf rfl ty_104 2 rfl (vs := (arrC .i64 a0.kids_)) (take_all (by simp [arrC_len])) (by simp [arrC_len])) rfl fun a hf => om hf rfl rfl fun a hf => oN <| ct ?_
 replace hw := hw.nilrow 9 1
 have hRR99 : RowR ekS I [] [] := RowR.nil
 obtain ⟨out315, hp, hq316⟩ := bS hp
 refine c_cutX (fun a w => ∃ y309 : List ByteArray, ∃ y314 : Int, ∃ yv310 : Value, ∃ m311 : Nat, ∃ cs312 : List Value, (y309, y314) = out315 ∧ Ok E I (.row yv310 9 1 m311 cs312 :: .blk b7 (.cells ⟨[.int .i64 a0.kind_, .string a0.path_, .bool a0.has_, .string a0.value_, .int .i64 y314, yv310]⟩ 86 (0, 0)) :: .blk b4 (.cells ⟨[.int .i64 0, .string e0, .bool false, .string e0, .int .i64 0, .slice none 0 0]⟩ 86 (0, 0)) :: .blk b1 (.cells ⟨.int .i64 a0.kind_ :: .string a0.path_ :: .bool a0.has_ :: .string a0.value_ :: arrC .i64 a0.kids_⟩ 106 (0, 0)) :: .row a1v 9 1 a1m a1cs :: F) w ∧ Fr 42 ([(4, .pointer (some ⟨b4, 0, none⟩)), (5, .pointer (some ⟨b7, 0, none⟩))]) a ∧ RowR ekS I cs312 y309) ?_ ?_
 ·refine wp_block <| c_loop <| c_fuel (root_item_r1.l0 a0 a1) out315 (fun (y236, y241, y242) a w => ∃ yv237 : Value, ∃ m238 : Nat, ∃ cs239 : List Value, Ok E I (.row yv237 9 1 m238 cs239 :: .blk b7 (.cells ⟨[.int .i64 a0.kind_, .string a0.path_, .bool a0.has_, .string a0.value_, .int .i64 y241, yv237]⟩ 86 (0, 0)) :: .blk b4 (.cells ⟨[.int .i64 0, .string e0, .bool false, .string e0, .int .i64 0, .slice none 0 0]⟩ 86 (0, 0)) :: .blk b1 (.cells ⟨.int .i64 a0.kind_ :: .string a0.path_ :: .bool a0.has_ :: .string a0.value_ :: arrC .i64 a0.kids_⟩ 106 (0, 0)) :: .row a1v 9 1 a1m a1cs :: F) w ∧ Fr 42 ([(1, a1v), (4, .pointer (some ⟨b4, 0, none⟩)), (5, .pointer (some ⟨b7, 0, none⟩)), (18, Value.agg ⟨arrC .i64 a0.kids_⟩), (19, .int .i64 y242)]) a ∧ RowR ekS I cs239 y236) (fun _ => rfl) ?_ BIG (([] : List ByteArray), 0, 0) _ _ ⟨(.slice none 0 0), 0, [], hw, hf.to ⟨rfl, rfl, rfl, rfl, rfl, trivial⟩, hRR99⟩ hp
  intro k st a w hI hp ih
  obtain ⟨y236, y241, y242⟩ := st
  obtain ⟨yv237, m238, cs239, hw, hf, hRR240⟩ := hI
  rw [root_item_r1.l0] at hp
  refine wq <| wr <| oR hf (iC hf rfl rfl rfl) rfl fun a hf => oN <| ct <| wq <| cC hf rfl (fun hb318 => ?_) (fun hb318 => ?_)
  ·replace hp := cond_t hb318 hp
   refine wp_skip <| ct ?_
   obtain ⟨out363, hp, hq364⟩ := bS hp
   refine c_cut (fun a w => ∃ y357 : List ByteArray, ∃ y362 : Int, ∃ yv358 : Value, ∃ m359 : Nat, ∃ cs360 : List Value, (y357, y362) = out363 ∧ Ok E I (.row yv358 9 1 m359 cs360 :: .blk b7 (.cells ⟨[.int .i64 a0.kind_, .string a0.path_, .bool a0.has_, .string a0.value_, .int .i64 y362, yv358]⟩ 86 (0, 0)) :: .blk b4 (.cells ⟨[.int .i64 0, .string e0, .bool false, .string e0, .int .i64 0, .slice none 0 0]⟩ 86 (0, 0)) :: .blk b1 (.cells ⟨.int .i64 a0.kind_ :: .string a0.path_ :: .bool a0.has_ :: .string a0.value_ :: arrC .i64 a0.kids_⟩ 106 (0, 0)) :: .row a1v 9 1 a1m a1cs :: F) w ∧ Fr 42 ([(1, a1v), (4, .pointer (some ⟨b4, 0, none⟩)), (5, .pointer (some ⟨b7, 0, none⟩)), (18, Value.agg ⟨arrC .i64 a0.kids_⟩), (19, .int .i64 y242)]) a ∧ RowR ekS I cs360 y357) ?_ ?_
   ·refine wp_block <| wq <| wr <| om hf rfl rfl fun a hf => ?_
    obtain ⟨hg365, hp⟩ := gS hp
    refine oR hf (r_indexArr hf el_104 ty_3 rfl rfl hg365) rfl fun a hf => oa hf rfl rfl fun a hf => oa hf rfl rfl fun a hf => oN <| ct <| wq <| wr <| om hf rfl rfl fun a hf => oR hf (iC hf rfl rfl rfl) rfl fun a hf => oN <| ct <| cC hf rfl (fun hb366 => ?_) (fun hb366 => ?_)
    ·replace hp := cond_t hb366 hp
     refine wq <| c_drawn mix [6] (.rd 0 (.rd 1 (.rd 2 (.rd 3 (.rd 4 (.rd 5 (.ef 6 .done))))))) (by kernel_rfl) hw (fun w => Ok E I (.row yv237 9 1 m238 cs239 :: .blk b7 (.cells ⟨[.int .i64 a0.kind_, .string a0.path_, .bool a0.has_, .string a0.value_, .int .i64 y241, yv237]⟩ 86 (0, 0)) :: .blk b4 (.cells ⟨[.int .i64 0, .string e0, .bool false, .string e0, .int .i64 0, .slice none 0 0]⟩ 86 (0, 0)) :: .blk b1 (.cells ⟨.int .i64 a0.kind_ :: .string a0.path_ :: .bool a0.has_ :: .string a0.value_ :: arrC .i64 a0.kids_⟩ 106 (0, 0)) :: .row a1v 9 1 a1m a1cs :: F) w) (fun w hw => ⟨hw.sub (scc (scc (scc (scc (scc sr))))), ?_⟩)
     refine tR rfl hf (fun w hw => rF hf rfl fd_86_4) rfl fun a hf => tR rfl hf (fun w hw => rL hw hf rfl ty_3 1 rfl rfl) rfl fun a hf => tm rfl hf rfl rfl fun a hf => ?_
     obtain ⟨hg368, hp⟩ := gS hp
     refine tR rfl hf (fun w hw => r_shl hf rfl rfl hg368) rfl fun a hf => tR rfl hf (fun w hw => r_or hf rfl rfl) rfl fun a hf => tR rfl hf (fun w hw => rF hf rfl fd_86_4) rfl fun a hf => t_ef rfl ?_
     obtain ⟨w, hrun369, hw⟩ := e_store (P := P) hw hf (x := .tmp 30) (y := .tmp 29) rfl rfl ty_3 1 rfl (vs := [.int .i64 (bor .i64 y241 (shl .i64 1 y242))]) (oE rfl) rfl (oC rfl ones_nil) (by simp [arrC_len]) (cs' := [.int .i64 a0.kind_, .string a0.path_, .bool a0.has_, .string a0.value_, .int .i64 (bor .i64 y241 (shl .i64 1 y242)), yv237]) rfl
     dsimp only [List.set] at hw
     refine t_effU (hrun369 ..) ⟨.inl rfl, ?_⟩
     refine t_done <| ct <| c_drawn mix [9] (.rd 0 (.rd 1 (.rd 2 (.rd 3 (.rd 4 (.rd 5 (.ef 6 (.ef 7 (.rd 8 (.ef 9 .done)))))))))) (by kernel_rfl) hw (fun w => Ok E I (.blk b7 (.cells ⟨[.int .i64 a0.kind_, .string a0.path_, .bool a0.has_, .string a0.value_, .int .i64 (bor .i64 y241 (shl .i64 1 y242)), yv237]⟩ 86 (0, 0)) :: .blk b4 (.cells ⟨[.int .i64 0, .string e0, .bool false, .string e0, .int .i64 0, .slice none 0 0]⟩ 86 (0, 0)) :: .blk b1 (.cells ⟨.int .i64 a0.kind_ :: .string a0.path_ :: .bool a0.has_ :: .string a0.value_ :: arrC .i64 a0.kids_⟩ 106 (0, 0)) :: .row a1v 9 1 a1m a1cs :: F) w) (fun w hw => ⟨hw.sub (sc (scc (scc (scc (scc sr))))), ?_⟩)
     refine tR rfl hf (fun w hw => rF hf rfl fd_86_5) rfl fun a hf => tR rfl hf (fun w hw => rL hw hf rfl ty_28 0 rfl rfl) rfl fun a hf => tm rfl hf rfl rfl fun a hf => tm rfl hf rfl rfl fun a hf => ?_
     obtain ⟨hg371, hp⟩ := gS hp
     refine tR rfl hf (fun w hw => rI (K := ekS) hf el_28 rfl rfl (rR (K := ekS) hw (i := 3) rfl ha1) hg371) rfl fun a hf => tR rfl hf (fun w hw => r_loadH (K := ekS) hf rfl ty_9 (rR (K := ekS) hw (i := 3) rfl ha1) hg371 rfl (fun cs h => ekS_f0 h)) rfl fun a hf => t_ef rfl ?_
     obtain ⟨w, v372, hrun373, hw, hRR374⟩ := e_buildSlice (P := P) (K := ekS) (m := 1) hw hf (parts := [(0, .tmp 36)]) el_28 ty_9 rfl rfl rfl (ccs := [[Value.string (gt a1 (vg a0.kids_ y242))]]) rfl (xs := [gt a1 (vg a0.kids_ y242)]) ⟨rfl, trivial⟩ rfl
     obtain ⟨cs375, hcs⟩ : ∃ cs, cs = ([[Value.string (gt a1 (vg a0.kids_ y242))]] : List (List Value)).flatten := ⟨_, rfl⟩
     rw [← hcs] at hw hRR374; clear hcs
     refine t_eff hf (hrun373 ..) rfl fun a hf => ⟨.inr (hw.back (IH.le_refl _) (sc (sc (scc (scc (scc (scc sr))))))), ?_⟩
     refine t_ef rfl ?_
     obtain ⟨hg377, hp⟩ := gS hp
     obtain ⟨w, v378, m379, cs380, hrun382, hw, hRR381⟩ := e_append (P := P) (K := ekS) (ty := 28) hw hf (s := .tmp 32) (x := .tmp 37) el_28 ty_9 rfl (by decide) 1 rfl rfl rfl hRR240 (ys := [gt a1 (vg a0.kids_ y242)]) (rR (K := ekS) hw (i := 0) rfl hRR374) hg377
     replace hw : Ok E I (.row v372 9 1 1 cs375 :: .row v378 9 1 m379 cs380 :: .blk b7 (.cells ⟨[.int .i64 a0.kind_, .string a0.path_, .bool a0.has_, .string a0.value_, .int .i64 (bor .i64 y241 (shl .i64 1 y242)), yv237]⟩ 86 (0, 0)) :: .blk b4 (.cells ⟨[.int .i64 0, .string e0, .bool false, .string e0, .int .i64 0, .slice none 0 0]⟩ 86 (0, 0)) :: .blk b1 (.cells ⟨.int .i64 a0.kind_ :: .string a0.path_ :: .bool a0.has_ :: .string a0.value_ :: arrC .i64 a0.kids_⟩ 106 (0, 0)) :: .row a1v 9 1 a1m a1cs :: F) w := hw
     refine t_eff hf (hrun382 ..) rfl fun a hf => ⟨.inr (hw.back (IH.le_refl _) (sc (sc (scc (scc (scc (scc sr))))))), ?_⟩
     refine tR rfl hf (fun w hw => rF hf rfl fd_86_5) rfl fun a hf => t_ef rfl ?_
     obtain ⟨w, hrun383, hw⟩ := e_store (P := P) hw hf (x := .tmp 39) (y := .tmp 38) rfl rfl ty_28 2 rfl (vs := [v378]) (oE (row_one hw (i := 1) rfl)) rfl (oC (row_one hw (i := 1) rfl) ones_nil) (by simp [arrC_len]) (cs' := [.int .i64 a0.kind_, .string a0.path_, .bool a0.has_, .string a0.value_, .int .i64 (bor .i64 y241 (shl .i64 1 y242)), v378]) rfl
     dsimp only [List.set] at hw
     refine t_effU (hrun383 ..) ⟨.inl rfl, ?_⟩
     refine t_done <| c_blockN <| ct ?_
     have ho := oI hp
     subst ho
     replace hw : Ok E I (.row v378 9 1 m379 cs380 :: .blk b7 (.cells ⟨[.int .i64 a0.kind_, .string a0.path_, .bool a0.has_, .string a0.value_, .int .i64 (bor .i64 y241 (shl .i64 1 y242)), v378]⟩ 86 (0, 0)) :: .blk b4 (.cells ⟨[.int .i64 0, .string e0, .bool false, .string e0, .int .i64 0, .slice none 0 0]⟩ 86 (0, 0)) :: .blk b1 (.cells ⟨.int .i64 a0.kind_ :: .string a0.path_ :: .bool a0.has_ :: .string a0.value_ :: arrC .i64 a0.kids_⟩ 106 (0, 0)) :: .row a1v 9 1 a1m a1cs :: F) w := hw.sub (sc (scc (scc (scc (scc (scc sr))))))
     exact ⟨(y236 ++ [gt a1 (vg a0.kids_ y242)]), (bor .i64 y241 (shl .i64 1 y242)), v378, m379, cs380, rfl, hw, hf.to ⟨rfl, rfl, rfl, rfl, rfl, trivial⟩, hRR381⟩
    ·replace hp := cond_f hb366 hp
     refine wp_skip <| c_blockN <| ct ?_
     have ho := oI hp
     subst ho
     exact ⟨y236, y241, yv237, m238, cs239, rfl, hw, hf.to ⟨rfl, rfl, rfl, rfl, rfl, trivial⟩, hRR240⟩
   ·intro a w hM
    obtain ⟨y357, y362, yv358, m359, cs360, rfl, hw, hf, hRR361⟩ := hM
    replace hp := hq364
    refine wr <| oR hf (r_add hf rfl rfl) rfl fun a hf => om hf rfl rfl fun a hf => oN <| ct ?_
    exact ih (y357, y362, w64 (y242 + 1)) _ _ ⟨yv358, m359, cs360, hw, hf.to ⟨rfl, rfl, rfl, rfl, rfl, trivial⟩, hRR361⟩ hp
  ·replace hp := cond_f hb318 hp
   refine wp_exit <| c_thenE <| c_thenE <| c_exit <| ct ?_
   have ho := oI hp
   subst ho
   exact ⟨y236, y241, yv237, m238, cs239, rfl, hw, hf.to ⟨rfl, rfl, trivial⟩, hRR240⟩
 ·intro a w hM
  obtain ⟨y309, y314, yv310, m311, cs312, rfl, hw, hf, hRR313⟩ := hM
  replace hp := hq316
  refine ct <| wq <| wr <| oR hf (r_loadA hw hf rfl ty_86 1 rfl (vs := [.int .i64 a0.kind_, .string a0.path_, .bool a0.has_, .string a0.value_, .int .i64 y314, yv310]) rfl rfl) rfl fun a hf => ?_
  obtain ⟨w, hrun385, hw⟩ := e_store (P := P) hw hf (x := .tmp 4) (y := .tmp 41) rfl rfl ty_86 2 rfl (vs := [.int .i64 a0.kind_, .string a0.path_, .bool a0.has_, .string a0.value_, .int .i64 y314, yv310]) rfl rfl (oC rfl (oC rfl (oC rfl (oC rfl (oC rfl (oC (row_one hw (i := 0) rfl) ones_nil)))))) (by simp [arrC_len]) (cs' := [.int .i64 a0.kind_, .string a0.path_, .bool a0.has_, .string a0.value_, .int .i64 y314, yv310]) rfl
  dsimp only [List.set] at hw
  refine o_effU (hrun385 ..) <| oN <| ct <| wp_ret ?_
  have hw : Ok E I (.row yv310 9 1 m311 cs312 :: .blk b7 (.cells ⟨[Value.int .i64 a0.kind_, Value.string a0.path_, Value.bool a0.has_, Value.string a0.value_, Value.int .i64 y314, yv310]⟩ 86 (0, 0)) :: .blk b4 (.cells ⟨[Value.int .i64 a0.kind_, Value.string a0.path_, Value.bool a0.has_, Value.string a0.value_, Value.int .i64 y314, yv310]⟩ 86 (0, 0)) :: .blk b1 (.cells ⟨Value.int .i64 a0.kind_ :: Value.string a0.path_ :: Value.bool a0.has_ :: Value.string a0.value_ :: arrC .i64 a0.kids_⟩ 106 (0, 0)) :: .row a1v 9 1 a1m a1cs :: F) w := hw.front (i := 0) rfl
  obtain ⟨I389, hle390, hw, hR391⟩ := row_freeze (K := ekS) hw hRR313
  replace hG := hG.mono hle390
  replace ha1 := ha1.mono hle390
  replace hw : Ok E I389 (.blk b4 (.cells ⟨[.int .i64 a0.kind_, .string a0.path_, .bool a0.has_, .string a0.value_, .int .i64 y314, yv310]⟩ 86 (0, 0)) :: .row a1v 9 1 a1m a1cs :: F) w := hw.sub (sc (scc (sc (scc sr))))
  have ho := oI hp
  subst ho
  exact b_retC hw hf results62 ty_86 rfl 0 rfl (vs := [.int .i64 a0.kind_, .string a0.path_, .bool a0.has_, .string a0.value_, .int .i64 y314, yv310]) rfl rfl ⟨_, rfl, ⟨I389, yv310, rfl, hle390, hw.tail, hR391⟩⟩

theorem node_Hash_ok {E : World} {I : IH} {F : List Atom} {w : World} {a0 : Item} {a0v401 : Value} {res0 : ByteArray} {res1 : Bool} (hw : Ok E I (F) w) (hG : Gl I) (hR402 : RS ekS I a0v401 a0.hashes_) (hp : node_Hash.f a0 = some (res0, res1)) :
  Calls P 95 ⟨[Value.agg ⟨[Value.int .i64 a0.kind_, Value.string a0.path_, Value.bool a0.has_, Value.string a0.value_, Value.int .i64 a0.mask_, a0v401]⟩]⟩ w fun e w' => ∃ v, e = .returned v ∧ v = Value.tuple ⟨[Value.string res0, Value.bool res1]⟩ ∧ Ok E I (F) w' := by
 refine c_enter func95 rfl ntmps95 rfl fun a hf => ?_
 replace hf : Fr 15 [(0, Value.agg ⟨[.int .i64 a0.kind_, .string a0.path_, .bool a0.has_, .string a0.value_, .int .i64 a0.mask_, a0v401]⟩)] a := hf
 unfold node_Hash.f at hp
 refine wq <| wr ?_
 obtain ⟨b1, w, hrun2, hw⟩ := e_box (P := P) hw hf (e := 86) (x := .tmp 0) rfl (cs := [Value.int .i64 a0.kind_, Value.string a0.path_, Value.bool a0.has_, Value.string a0.value_, Value.int .i64 a0.mask_, a0v401]) rfl
 refine o_eff hf (hrun2 ..) rfl fun a hf => oa hf rfl rfl fun a hf => oa hf rfl rfl fun a hf => oN <| ct <| wq <| wr <| oR hf (r_loadA hw hf rfl ty_86 0 rfl (vs := [.int .i64 a0.kind_, .string a0.path_, .bool a0.has_, .string a0.value_, .int .i64 a0.mask_, a0v401]) rfl rfl) rfl fun a hf => ?_
 obtain ⟨y7, hy6, hp⟩ := bS hp
 obtain ⟨y4, y5⟩ := y7
 have hc8 := node_Encode_ok hw hG hR402 hy6
 refine o_call hf cb_35 rfl rfl hc8 (fun v10 w a hK9 hf => ?_)
 obtain ⟨rfl, hw⟩ := hK9
 refine om hf rfl rfl fun a hf => oR hf (rE hf rfl rfl) rfl fun a hf => oR hf (rE hf rfl rfl) rfl fun a hf => oa hf rfl rfl fun a hf => oa hf rfl rfl fun a hf => oN <| ct <| wq <| wq <| wr <| om hf rfl rfl fun a hf => oR hf (r_not hf rfl) rfl fun a hf => oN <| ct <| cC hf rfl (fun hb11 => ?_) (fun hb11 => ?_)
 ·replace hp := cond_t hb11 hp
  refine wq <| wr <| oa hf rfl rfl fun a hf => oa hf rfl rfl fun a hf => oN <| ct <| wp_ret <| c_thenR ?_
  replace hw : Ok E I (F) w := hw.sub (sc sr)
  have ho := oI hp
  simp only [Prod.mk.injEq] at ho
  obtain ⟨rfl, rfl⟩ := ho
  exact b_ret2 hf results95 rfl rfl ⟨_, rfl, ⟨rfl, hw⟩⟩
 ·replace hp := cond_f hb11 hp
  refine wp_skip <| ct <| wq <| wr <| om hf rfl rfl fun a hf => ?_
  obtain ⟨y12, hy13, hp⟩ := bS hp
  have hc15 := digest_Of_ok hw hG hy13
  refine o_call hf cb_68 rfl rfl hc15 (fun v17 w a hK16 hf => ?_)
  obtain ⟨rfl, hw⟩ := hK16
  refine oa hf rfl rfl fun a hf => oa hf rfl rfl fun a hf => oN <| ct <| wp_ret ?_
  replace hw : Ok E I (F) w := hw.sub (sc sr)
  have ho := oI hp
  simp only [Prod.mk.injEq] at ho
  obtain ⟨rfl, rfl⟩ := ho
  exact b_ret2 hf results95 rfl rfl ⟨_, rfl, ⟨rfl, hw⟩⟩

theorem root_hashes_ok {E : World} {I : IH} {F : List Atom} {w : World} {a0 : List Node} {a0v64 : Value} {res0 : List ByteArray} (hw : Ok E I (F) w) (hG : Gl I) (hR65 : RS ek_Node I a0v64 a0) (hp : root_hashes.f a0 = some res0) :
  Calls P 63 ⟨[a0v64]⟩ w fun e w' => ∃ v, e = .returned v ∧ ∃ I2 : IH, ∃ rvv227 : Value, v = rvv227 ∧ IH.le I I2 ∧ Ok E I2 (F) w' ∧ RS ekS I2 rvv227 res0 := by
 refine c_enter func63 rfl ntmps63 rfl fun a hf => ?_
 replace hf : Fr 29 [(0, a0v64)] a := hf
 unfold root_hashes.f at hp
 refine wq <| wr <| oa hf rfl rfl fun a hf => oN <| ct <| wq <| wr <| om hf rfl rfl fun a hf => oR hf (r_lenL (K := ek_Node) hf el_27 rfl (hR65.rd hw)) rfl fun a hf => ?_
 obtain ⟨hg1, hp⟩ := gS hp
 obtain ⟨w, v2, cs5, hrun3, hw, hRR4⟩ := e_makeSlice (P := P) (K := ekS) hw hf (l := .tmp 6) (c := .tmp 6) el_28 ty_9 rfl (by decide) rfl rfl (x := e0) (fun _ => rfl) hg1
 refine o_eff hf (hrun3 ..) rfl fun a hf => oa hf rfl rfl fun a hf => oN <| ct <| wq <| wq <| wr <| om hf rfl rfl fun a hf => oR hf (r_lenL (K := ek_Node) hf el_27 rfl (hR65.rd hw)) rfl fun a hf => oR hf (r_sub hf rfl rfl) rfl fun a hf => oa hf rfl rfl fun a hf => oN <| ct ?_
 obtain ⟨out93, hp, hq94⟩ := bS hp
 refine c_cutX (fun a w => ∃ y88 : List ByteArray, ∃ I87 : IH, ∃ yv89 : Value, ∃ m90 : Nat, ∃ cs91 : List Value, y88 = out93 ∧ IH.le I I87 ∧ Ok E I87 (.row yv89 9 1 m90 cs91 :: F) w ∧ Fr 29 ([(3, yv89)]) a ∧ RowR ekS I87 cs91 y88) ?_ ?_
 ·refine wp_block <| c_loop <| c_fuel (root_hashes.l0 a0) out93 (fun (y59, y64) a w => ∃ I58 : IH, ∃ yv60 : Value, ∃ m61 : Nat, ∃ cs62 : List Value, IH.le I I58 ∧ Ok E I58 (.row yv60 9 1 m61 cs62 :: F) w ∧ Fr 29 ([(0, a0v64), (3, yv60), (4, .int .i64 y64)]) a ∧ RowR ekS I58 cs62 y59) (fun _ => rfl) ?_ BIG (List.replicate (a0.length : Int).toNat e0, w64 ((a0.length : Int) - 1)) _ _ ⟨I, v2, (((a0.length : Int)).toNat), cs5, (IH.le_refl _), hw, hf.to ⟨rfl, rfl, rfl, trivial⟩, hRR4⟩ hp
  intro k st a w hI hp ih
  obtain ⟨y59, y64⟩ := st
  obtain ⟨I58, yv60, m61, cs62, hle95, hw, hf, hRR63⟩ := hI
  rw [root_hashes.l0] at hp
  replace hG := hG.mono hle95
  replace hR65 := hR65.mono hle95
  refine wq <| wq <| wr <| om hf rfl rfl fun a hf => oR hf (iC hf rfl rfl rfl) rfl fun a hf => oN <| ct <| cC hf rfl (fun hb96 => ?_) (fun hb96 => ?_)
  ·replace hp := cond_t hb96 hp
   refine wp_skip <| ct <| wq <| wp_block <| wr <| om hf rfl rfl fun a hf => om hf rfl rfl fun a hf => om hf rfl rfl fun a hf => om hf rfl rfl fun a hf => ?_
   obtain ⟨hg97, hp⟩ := gS hp
   refine oR hf (rI (K := ek_Node) hf el_27 rfl rfl (hR65.rd hw) hg97) rfl fun a hf => oR hf (r_loadHP (K := ek_Node) hf rfl ty_106 (hR65.rd hw) hg97 rfl (vs := (.int .i64 ((gt a0 y64).kind_) :: .string ((gt a0 y64).path_) :: .bool ((gt a0 y64).has_) :: .string ((gt a0 y64).value_) :: arrC .i64 ((gt a0 y64).kids_))) (fun cs h => Node_all h) (by simp [arrC_len])) rfl fun a hf => om hf rfl rfl fun a hf => ?_
   replace hw : Ok E I58 (.row yv60 9 1 m61 cs62 :: F) w := hw.front (i := 0) rfl
   obtain ⟨y98, hy99, hp⟩ := bS hp
   have hc101 := root_item_r1_ok hw hG hRR63 hy99
   refine o_call hf cb_62 rfl rfl hc101 (fun v105 w a hK102 hf => ?_)
   obtain ⟨I2_102, rvv103, rfl, hle106, hw, hR104⟩ := hK102
   replace hG := hG.mono hle106
   replace hR65 := hR65.mono hle106
   replace hRR63 := hRR63.mono hle106
   obtain ⟨y110, hy109, hp⟩ := bS hp
   obtain ⟨y107, y108⟩ := y110
   have hc111 := node_Hash_ok hw hG hR104 hy109
   refine o_call hf cb_95 rfl rfl hc111 (fun v113 w a hK112 hf => ?_)
   obtain ⟨rfl, hw⟩ := hK112
   refine om hf rfl rfl fun a hf => oR hf (rE hf rfl rfl) rfl fun a hf => oR hf (rE hf rfl rfl) rfl fun a hf => ?_
   obtain ⟨hg114, hp⟩ := gS hp
   refine oR hf (rI (K := ekS) hf el_28 rfl rfl (rR (K := ekS) hw (i := 0) rfl hRR63) hg114) rfl fun a hf => ?_
   obtain ⟨w, cs116, hrun115, hw, hRR117⟩ := e_storeH (P := P) (K := ekS) hw hf (x := .tmp 27) (y := .tmp 25) rfl rfl ty_9 0 rfl hRR63 hg114 rfl (vs := [.string y107]) (oE rfl) rfl (oC rfl ones_nil) (Nat.le_of_eq (by rfl)) (x' := y107) (whole_store rfl)
   replace hw : Ok E I2_102 (.row yv60 9 1 m61 cs116 :: F) w := hw
   refine o_effU (hrun115 ..) <| oN <| c_blockN <| ct <| wr <| om hf rfl rfl fun a hf => oR hf (r_sub hf rfl rfl) rfl fun a hf => oa hf rfl rfl fun a hf => oN <| ct ?_
   exact ih (y59.set y64.toNat y107, w64 (y64 - 1)) _ _ ⟨I2_102, yv60, m61, cs116, (IH.le_trans hle95 hle106), hw, hf.to ⟨rfl, rfl, rfl, trivial⟩, hRR117⟩ hp
  ·replace hp := cond_f hb96 hp
   refine wp_exit <| c_thenE <| c_thenE <| c_exit <| ct ?_
   have ho := oI hp
   subst ho
   exact ⟨y59, I58, yv60, m61, cs62, rfl, hle95, hw, hf.to ⟨rfl, trivial⟩, hRR63⟩
 ·intro a w hM
  obtain ⟨y88, I87, yv89, m90, cs91, rfl, hle118, hw, hf, hRR92⟩ := hM
  replace hp := hq94
  replace hG := hG.mono hle118
  refine ct <| wq <| wr <| om hf rfl rfl fun a hf => oa hf rfl rfl fun a hf => oN <| ct <| wp_ret ?_
  have hw : Ok E I87 (.row yv89 9 1 m90 cs91 :: F) w := hw.front (i := 0) rfl
  obtain ⟨I119, hle120, hw, hR121⟩ := row_freeze (K := ekS) hw hRR92
  replace hG := hG.mono hle120
  have ho := oI hp
  subst ho
  exact b_ret1 hf results63 rfl ⟨_, rfl, ⟨I119, yv89, rfl, (IH.le_trans hle118 hle120), hw, hR121⟩⟩

theorem root_item_ok {E : World} {I : IH} {F : List Atom} {w : World} {a0 : Node} {a1 : List ByteArray} {a1v131 : Value} {res0 : Item} (hw : Ok E I (F) w) (hG : Gl I) (hR132 : RS ekS I a1v131 a1) (hp : root_item.f a0 a1 = some res0) :
  Calls P 62 ⟨[Value.agg ⟨Value.int .i64 a0.kind_ :: Value.string a0.path_ :: Value.bool a0.has_ :: Value.string a0.value_ :: arrC .i64 a0.kids_⟩, a1v131]⟩ w fun e w' => ∃ v, e = .returned v ∧ ∃ I2 : IH, ∃ rvv229 : Value, v = Value.agg ⟨[Value.int .i64 res0.kind_, Value.string res0.path_, Value.bool res0.has_, Value.string res0.value_, Value.int .i64 res0.mask_, rvv229]⟩ ∧ IH.le I I2 ∧ Ok E I2 (F) w' ∧ RS ekS I2 rvv229 res0.hashes_ := by
 refine c_enter func62 rfl ntmps62 rfl fun a hf => ?_
 replace hf : Fr 42 [(0, Value.agg ⟨.int .i64 a0.kind_ :: .string a0.path_ :: .bool a0.has_ :: .string a0.value_ :: arrC .i64 a0.kids_⟩), (1, a1v131)] a := hf
 unfold root_item.f at hp
 refine wq <| wr ?_
 obtain ⟨b1, w, hrun2, hw⟩ := e_box (P := P) hw hf (e := 106) (x := .tmp 0) rfl (cs := (Value.int .i64 a0.kind_ :: Value.string a0.path_ :: Value.bool a0.has_ :: Value.string a0.value_ :: arrC .i64 a0.kids_)) rfl
 refine o_eff hf (hrun2 ..) rfl fun a hf => ?_
 obtain ⟨b4, w, hrun5, hw⟩ := e_alloc (P := P) (a := a) hw ty_86
 refine o_eff hf (hrun5 ..) rfl fun a hf => oN <| ct <| wq <| wr <| oR hf (rF hf rfl fd_106_0) rfl fun a hf => oR hf (rL hw hf rfl ty_3 1 rfl rfl) rfl fun a hf => oR hf (rF hf rfl fd_106_1) rfl fun a hf => oR hf (rL hw hf rfl ty_9 1 rfl rfl) rfl fun a hf => oR hf (rF hf rfl fd_106_2) rfl fun a hf => oR hf (rL hw hf rfl ty_4 1 rfl rfl) rfl fun a hf => oR hf (rF hf rfl fd_106_3) rfl fun a hf => oR hf (rL hw hf rfl ty_9 1 rfl rfl) rfl fun a hf => oR hf (r_build hf bd_86 (vs := [.int .i64 a0.kind_, .string a0.path_, .bool a0.has_, .string a0.value_]) rfl ⟨rfl, rfl, rfl, rfl, trivial⟩ (by decide) (out := [.int .i64 a0.kind_, .string a0.path_, .bool a0.has_, .string a0.value_, .int .i64 0, .slice none 0 0]) rfl) rfl fun a hf => ?_
 obtain ⟨b7, w, hrun8, hw⟩ := e_alloc (P := P) (a := a) hw ty_86
 refine o_eff hf (hrun8 ..) rfl fun a hf => ?_
 obtain ⟨w, hrun10, hw⟩ := e_store (P := P) hw hf (x := .tmp 5) (y := .tmp 16) rfl rfl ty_86 0 rfl (vs := [.int .i64 a0.kind_, .string a0.path_, .bool a0.has_, .string a0.value_, .int .i64 0, .slice none 0 0]) rfl rfl (oC rfl (oC rfl (oC rfl (oC rfl (oC rfl (oC rfl ones_nil)))))) (by simp [arrC_len]) (cs' := [.int .i64 a0.kind_, .string a0.path_, .bool a0.has_, .string a0.value_, .int .i64 0, .slice none 0 0]) rfl
 dsimp only [List.set] at hw
 refine o_effU (hrun10 ..) <| oN <| ct <| wq <| wq <| wr <| oR hf (rF hf rfl fd_106_4) rfl fun a hf => oR hf (r_loadA hw hf rfl ty_104 2 rfl (vs := (arrC .i64 a0.kids_)) (take_all (by simp [arrC_len])) (by simp [arrC_len])) rfl fun a hf => om hf rfl rfl fun a hf => oN <| ct ?_
 replace hw := hw.nilrow 9 1
 have hRR99 : RowR ekS I [] [] := RowR.nil
 obtain ⟨out315, hp, hq316⟩ := bS hp
 refine c_cutX (fun a w => ∃ y309 : List ByteArray, ∃ y314 : Int, ∃ yv310 : Value, ∃ m311 : Nat, ∃ cs312 : List Value, (y309, y314) = out315 ∧ Ok E I (.row yv310 9 1 m311 cs312 :: .blk b7 (.cells ⟨[.int .i64 a0.kind_, .string a0.path_, .bool a0.has_, .string a0.value_, .int .i64 y314, yv310]⟩ 86 (0, 0)) :: .blk b4 (.cells ⟨[.int .i64 0, .string e0, .bool false, .string e0, .int .i64 0, .slice none 0 0]⟩ 86 (0, 0)) :: .blk b1 (.cells ⟨.int .i64 a0.kind_ :: .string a0.path_ :: .bool a0.has_ :: .string a0.value_ :: arrC .i64 a0.kids_⟩ 106 (0, 0)) :: F) w ∧ Fr 42 ([(4, .pointer (some ⟨b4, 0, none⟩)), (5, .pointer (some ⟨b7, 0, none⟩))]) a ∧ RowR ekS I cs312 y309) ?_ ?_
 ·refine wp_block <| c_loop <| c_fuel (root_item.l0 a0 a1) out315 (fun (y236, y241, y242) a w => ∃ yv237 : Value, ∃ m238 : Nat, ∃ cs239 : List Value, Ok E I (.row yv237 9 1 m238 cs239 :: .blk b7 (.cells ⟨[.int .i64 a0.kind_, .string a0.path_, .bool a0.has_, .string a0.value_, .int .i64 y241, yv237]⟩ 86 (0, 0)) :: .blk b4 (.cells ⟨[.int .i64 0, .string e0, .bool false, .string e0, .int .i64 0, .slice none 0 0]⟩ 86 (0, 0)) :: .blk b1 (.cells ⟨.int .i64 a0.kind_ :: .string a0.path_ :: .bool a0.has_ :: .string a0.value_ :: arrC .i64 a0.kids_⟩ 106 (0, 0)) :: F) w ∧ Fr 42 ([(1, a1v131), (4, .pointer (some ⟨b4, 0, none⟩)), (5, .pointer (some ⟨b7, 0, none⟩)), (18, Value.agg ⟨arrC .i64 a0.kids_⟩), (19, .int .i64 y242)]) a ∧ RowR ekS I cs239 y236) (fun _ => rfl) ?_ BIG (([] : List ByteArray), 0, 0) _ _ ⟨(.slice none 0 0), 0, [], hw, hf.to ⟨rfl, rfl, rfl, rfl, rfl, trivial⟩, hRR99⟩ hp
  intro k st a w hI hp ih
  obtain ⟨y236, y241, y242⟩ := st
  obtain ⟨yv237, m238, cs239, hw, hf, hRR240⟩ := hI
  rw [root_item.l0] at hp
  refine wq <| wr <| oR hf (iC hf rfl rfl rfl) rfl fun a hf => oN <| ct <| wq <| cC hf rfl (fun hb318 => ?_) (fun hb318 => ?_)
  ·replace hp := cond_t hb318 hp
   refine wp_skip <| ct ?_
   obtain ⟨out363, hp, hq364⟩ := bS hp
   refine c_cut (fun a w => ∃ y357 : List ByteArray, ∃ y362 : Int, ∃ yv358 : Value, ∃ m359 : Nat, ∃ cs360 : List Value, (y357, y362) = out363 ∧ Ok E I (.row yv358 9 1 m359 cs360 :: .blk b7 (.cells ⟨[.int .i64 a0.kind_, .string a0.path_, .bool a0.has_, .string a0.value_, .int .i64 y362, yv358]⟩ 86 (0, 0)) :: .blk b4 (.cells ⟨[.int .i64 0, .string e0, .bool false, .string e0, .int .i64 0, .slice none 0 0]⟩ 86 (0, 0)) :: .blk b1 (.cells ⟨.int .i64 a0.kind_ :: .string a0.path_ :: .bool a0.has_ :: .string a0.value_ :: arrC .i64 a0.kids_⟩ 106 (0, 0)) :: F) w ∧ Fr 42 ([(1, a1v131), (4, .pointer (some ⟨b4, 0, none⟩)), (5, .pointer (some ⟨b7, 0, none⟩)), (18, Value.agg ⟨arrC .i64 a0.kids_⟩), (19, .int .i64 y242)]) a ∧ RowR ekS I cs360 y357) ?_ ?_
   ·refine wp_block <| wq <| wr <| om hf rfl rfl fun a hf => ?_
    obtain ⟨hg365, hp⟩ := gS hp
    refine oR hf (r_indexArr hf el_104 ty_3 rfl rfl hg365) rfl fun a hf => oa hf rfl rfl fun a hf => oa hf rfl rfl fun a hf => oN <| ct <| wq <| wr <| om hf rfl rfl fun a hf => oR hf (iC hf rfl rfl rfl) rfl fun a hf => oN <| ct <| cC hf rfl (fun hb366 => ?_) (fun hb366 => ?_)
    ·replace hp := cond_t hb366 hp
     refine wq <| c_drawn mix [6] (.rd 0 (.rd 1 (.rd 2 (.rd 3 (.rd 4 (.rd 5 (.ef 6 .done))))))) (by kernel_rfl) hw (fun w => Ok E I (.row yv237 9 1 m238 cs239 :: .blk b7 (.cells ⟨[.int .i64 a0.kind_, .string a0.path_, .bool a0.has_, .string a0.value_, .int .i64 y241, yv237]⟩ 86 (0, 0)) :: .blk b4 (.cells ⟨[.int .i64 0, .string e0, .bool false, .string e0, .int .i64 0, .slice none 0 0]⟩ 86 (0, 0)) :: .blk b1 (.cells ⟨.int .i64 a0.kind_ :: .string a0.path_ :: .bool a0.has_ :: .string a0.value_ :: arrC .i64 a0.kids_⟩ 106 (0, 0)) :: F) w) (fun w hw => ⟨hw.sub (scc (scc (scc (scc sr)))), ?_⟩)
     refine tR rfl hf (fun w hw => rF hf rfl fd_86_4) rfl fun a hf => tR rfl hf (fun w hw => rL hw hf rfl ty_3 1 rfl rfl) rfl fun a hf => tm rfl hf rfl rfl fun a hf => ?_
     obtain ⟨hg368, hp⟩ := gS hp
     refine tR rfl hf (fun w hw => r_shl hf rfl rfl hg368) rfl fun a hf => tR rfl hf (fun w hw => r_or hf rfl rfl) rfl fun a hf => tR rfl hf (fun w hw => rF hf rfl fd_86_4) rfl fun a hf => t_ef rfl ?_
     obtain ⟨w, hrun369, hw⟩ := e_store (P := P) hw hf (x := .tmp 30) (y := .tmp 29) rfl rfl ty_3 1 rfl (vs := [.int .i64 (bor .i64 y241 (shl .i64 1 y242))]) (oE rfl) rfl (oC rfl ones_nil) (by simp [arrC_len]) (cs' := [.int .i64 a0.kind_, .string a0.path_, .bool a0.has_, .string a0.value_, .int .i64 (bor .i64 y241 (shl .i64 1 y242)), yv237]) rfl
     dsimp only [List.set] at hw
     refine t_effU (hrun369 ..) ⟨.inl rfl, ?_⟩
     refine t_done <| ct <| c_drawn mix [9] (.rd 0 (.rd 1 (.rd 2 (.rd 3 (.rd 4 (.rd 5 (.ef 6 (.ef 7 (.rd 8 (.ef 9 .done)))))))))) (by kernel_rfl) hw (fun w => Ok E I (.blk b7 (.cells ⟨[.int .i64 a0.kind_, .string a0.path_, .bool a0.has_, .string a0.value_, .int .i64 (bor .i64 y241 (shl .i64 1 y242)), yv237]⟩ 86 (0, 0)) :: .blk b4 (.cells ⟨[.int .i64 0, .string e0, .bool false, .string e0, .int .i64 0, .slice none 0 0]⟩ 86 (0, 0)) :: .blk b1 (.cells ⟨.int .i64 a0.kind_ :: .string a0.path_ :: .bool a0.has_ :: .string a0.value_ :: arrC .i64 a0.kids_⟩ 106 (0, 0)) :: F) w) (fun w hw => ⟨hw.sub (sc (scc (scc (scc sr)))), ?_⟩)
     refine tR rfl hf (fun w hw => rF hf rfl fd_86_5) rfl fun a hf => tR rfl hf (fun w hw => rL hw hf rfl ty_28 0 rfl rfl) rfl fun a hf => tm rfl hf rfl rfl fun a hf => tm rfl hf rfl rfl fun a hf => ?_
     obtain ⟨hg371, hp⟩ := gS hp
     refine tR rfl hf (fun w hw => rI (K := ekS) hf el_28 rfl rfl (hR132.rd hw) hg371) rfl fun a hf => tR rfl hf (fun w hw => r_loadH (K := ekS) hf rfl ty_9 (hR132.rd hw) hg371 rfl (fun cs h => ekS_f0 h)) rfl fun a hf => t_ef rfl ?_
     obtain ⟨w, v372, hrun373, hw, hRR374⟩ := e_buildSlice (P := P) (K := ekS) (m := 1) hw hf (parts := [(0, .tmp 36)]) el_28 ty_9 rfl rfl rfl (ccs := [[Value.string (gt a1 (vg a0.kids_ y242))]]) rfl (xs := [gt a1 (vg a0.kids_ y242)]) ⟨rfl, trivial⟩ rfl
     obtain ⟨cs375, hcs⟩ : ∃ cs, cs = ([[Value.string (gt a1 (vg a0.kids_ y242))]] : List (List Value)).flatten := ⟨_, rfl⟩
     rw [← hcs] at hw hRR374; clear hcs
     refine t_eff hf (hrun373 ..) rfl fun a hf => ⟨.inr (hw.back (IH.le_refl _) (sc (sc (scc (scc (scc sr)))))), ?_⟩
     refine t_ef rfl ?_
     obtain ⟨hg377, hp⟩ := gS hp
     obtain ⟨w, v378, m379, cs380, hrun382, hw, hRR381⟩ := e_append (P := P) (K := ekS) (ty := 28) hw hf (s := .tmp 32) (x := .tmp 37) el_28 ty_9 rfl (by decide) 1 rfl rfl rfl hRR240 (ys := [gt a1 (vg a0.kids_ y242)]) (rR (K := ekS) hw (i := 0) rfl hRR374) hg377
     replace hw : Ok E I (.row v372 9 1 1 cs375 :: .row v378 9 1 m379 cs380 :: .blk b7 (.cells ⟨[.int .i64 a0.kind_, .string a0.path_, .bool a0.has_, .string a0.value_, .int .i64 (bor .i64 y241 (shl .i64 1 y242)), yv237]⟩ 86 (0, 0)) :: .blk b4 (.cells ⟨[.int .i64 0, .string e0, .bool false, .string e0, .int .i64 0, .slice none 0 0]⟩ 86 (0, 0)) :: .blk b1 (.cells ⟨.int .i64 a0.kind_ :: .string a0.path_ :: .bool a0.has_ :: .string a0.value_ :: arrC .i64 a0.kids_⟩ 106 (0, 0)) :: F) w := hw
     refine t_eff hf (hrun382 ..) rfl fun a hf => ⟨.inr (hw.back (IH.le_refl _) (sc (sc (scc (scc (scc sr)))))), ?_⟩
     refine tR rfl hf (fun w hw => rF hf rfl fd_86_5) rfl fun a hf => t_ef rfl ?_
     obtain ⟨w, hrun383, hw⟩ := e_store (P := P) hw hf (x := .tmp 39) (y := .tmp 38) rfl rfl ty_28 2 rfl (vs := [v378]) (oE (row_one hw (i := 1) rfl)) rfl (oC (row_one hw (i := 1) rfl) ones_nil) (by simp [arrC_len]) (cs' := [.int .i64 a0.kind_, .string a0.path_, .bool a0.has_, .string a0.value_, .int .i64 (bor .i64 y241 (shl .i64 1 y242)), v378]) rfl
     dsimp only [List.set] at hw
     refine t_effU (hrun383 ..) ⟨.inl rfl, ?_⟩
     refine t_done <| c_blockN <| ct ?_
     have ho := oI hp
     subst ho
     replace hw : Ok E I (.row v378 9 1 m379 cs380 :: .blk b7 (.cells ⟨[.int .i64 a0.kind_, .string a0.path_, .bool a0.has_, .string a0.value_, .int .i64 (bor .i64 y241 (shl .i64 1 y242)), v378]⟩ 86 (0, 0)) :: .blk b4 (.cells ⟨[.int .i64 0, .string e0, .bool false, .string e0, .int .i64 0, .slice none 0 0]⟩ 86 (0, 0)) :: .blk b1 (.cells ⟨.int .i64 a0.kind_ :: .string a0.path_ :: .bool a0.has_ :: .string a0.value_ :: arrC .i64 a0.kids_⟩ 106 (0, 0)) :: F) w := hw.sub (sc (scc (scc (scc (scc sr)))))
     exact ⟨(y236 ++ [gt a1 (vg a0.kids_ y242)]), (bor .i64 y241 (shl .i64 1 y242)), v378, m379, cs380, rfl, hw, hf.to ⟨rfl, rfl, rfl, rfl, rfl, trivial⟩, hRR381⟩
    ·replace hp := cond_f hb366 hp
     refine wp_skip <| c_blockN <| ct ?_
     have ho := oI hp
     subst ho
     exact ⟨y236, y241, yv237, m238, cs239, rfl, hw, hf.to ⟨rfl, rfl, rfl, rfl, rfl, trivial⟩, hRR240⟩
   ·intro a w hM
    obtain ⟨y357, y362, yv358, m359, cs360, rfl, hw, hf, hRR361⟩ := hM
    replace hp := hq364
    refine wr <| oR hf (r_add hf rfl rfl) rfl fun a hf => om hf rfl rfl fun a hf => oN <| ct ?_
    exact ih (y357, y362, w64 (y242 + 1)) _ _ ⟨yv358, m359, cs360, hw, hf.to ⟨rfl, rfl, rfl, rfl, rfl, trivial⟩, hRR361⟩ hp
  ·replace hp := cond_f hb318 hp
   refine wp_exit <| c_thenE <| c_thenE <| c_exit <| ct ?_
   have ho := oI hp
   subst ho
   exact ⟨y236, y241, yv237, m238, cs239, rfl, hw, hf.to ⟨rfl, rfl, trivial⟩, hRR240⟩
 ·intro a w hM
  obtain ⟨y309, y314, yv310, m311, cs312, rfl, hw, hf, hRR313⟩ := hM
  replace hp := hq316
  refine ct <| wq <| wr <| oR hf (r_loadA hw hf rfl ty_86 1 rfl (vs := [.int .i64 a0.kind_, .string a0.path_, .bool a0.has_, .string a0.value_, .int .i64 y314, yv310]) rfl rfl) rfl fun a hf => ?_
  obtain ⟨w, hrun385, hw⟩ := e_store (P := P) hw hf (x := .tmp 4) (y := .tmp 41) rfl rfl ty_86 2 rfl (vs := [.int .i64 a0.kind_, .string a0.path_, .bool a0.has_, .string a0.value_, .int .i64 y314, yv310]) rfl rfl (oC rfl (oC rfl (oC rfl (oC rfl (oC rfl (oC (row_one hw (i := 0) rfl) ones_nil)))))) (by simp [arrC_len]) (cs' := [.int .i64 a0.kind_, .string a0.path_, .bool a0.has_, .string a0.value_, .int .i64 y314, yv310]) rfl
  dsimp only [List.set] at hw
  refine o_effU (hrun385 ..) <| oN <| ct <| wp_ret ?_
  have hw : Ok E I (.row yv310 9 1 m311 cs312 :: .blk b7 (.cells ⟨[Value.int .i64 a0.kind_, Value.string a0.path_, Value.bool a0.has_, Value.string a0.value_, Value.int .i64 y314, yv310]⟩ 86 (0, 0)) :: .blk b4 (.cells ⟨[Value.int .i64 a0.kind_, Value.string a0.path_, Value.bool a0.has_, Value.string a0.value_, Value.int .i64 y314, yv310]⟩ 86 (0, 0)) :: .blk b1 (.cells ⟨Value.int .i64 a0.kind_ :: Value.string a0.path_ :: Value.bool a0.has_ :: Value.string a0.value_ :: arrC .i64 a0.kids_⟩ 106 (0, 0)) :: F) w := hw.front (i := 0) rfl
  obtain ⟨I389, hle390, hw, hR391⟩ := row_freeze (K := ekS) hw hRR313
  replace hG := hG.mono hle390
  replace hw : Ok E I389 (.blk b4 (.cells ⟨[.int .i64 a0.kind_, .string a0.path_, .bool a0.has_, .string a0.value_, .int .i64 y314, yv310]⟩ 86 (0, 0)) :: F) w := hw.sub (sc (scc (sc sr)))
  have ho := oI hp
  subst ho
  exact b_retC hw hf results62 ty_86 rfl 0 rfl (vs := [.int .i64 a0.kind_, .string a0.path_, .bool a0.has_, .string a0.value_, .int .i64 y314, yv310]) rfl rfl ⟨_, rfl, ⟨I389, yv310, rfl, hle390, hw.tail, hR391⟩⟩

theorem root_Item_ok {E : World} {I : IH} {F : List Atom} {w : World} {a0 : List Node} {a0v189 : Value} {a1 : Int} {res0 : Item} {res1 : Bool} (hw : Ok E I (F) w) (hG : Gl I) (hR190 : RS ek_Node I a0v189 a0) (hp : root_Item.f a0 a1 = some (res0, res1)) :
  Calls P 34 ⟨[a0v189, Value.int .i64 a1]⟩ w fun e w' => ∃ v, e = .returned v ∧ ∃ I2 : IH, ∃ rvv231 : Value, v = Value.tuple ⟨[Value.agg ⟨[Value.int .i64 res0.kind_, Value.string res0.path_, Value.bool res0.has_, Value.string res0.value_, Value.int .i64 res0.mask_, rvv231]⟩, Value.bool res1]⟩ ∧ IH.le I I2 ∧ Ok E I2 (F) w' ∧ RS ekS I2 rvv231 res0.hashes_ := by
 refine c_enter func34 rfl ntmps34 rfl fun a hf => ?_
 replace hf : Fr 27 [(0, a0v189), (1, .int .i64 a1)] a := hf
 unfold root_Item.f at hp
 refine wq <| wr ?_
 obtain ⟨b1, w, hrun2, hw⟩ := e_alloc (P := P) (a := a) hw ty_86
 refine o_eff hf (hrun2 ..) rfl fun a hf => oa hf rfl rfl fun a hf => oN <| ct <| wq ?_
 obtain ⟨out50, hp, hq51⟩ := bS hp
 refine c_cut (fun a w => ∃ y49 : Bool, y49 = out50 ∧ Ok E I (.blk b1 (.cells ⟨[.int .i64 0, .string e0, .bool false, .string e0, .int .i64 0, .slice none 0 0]⟩ 86 (0, 0)) :: F) w ∧ Fr 27 ([(0, a0v189), (1, .int .i64 a1), (4, .pointer (some ⟨b1, 0, none⟩)), (18, .bool y49)]) a) ?_ ?_
 ·refine wr <| om hf rfl rfl fun a hf => oR hf (iC hf rfl rfl rfl) rfl fun a hf => om hf rfl rfl fun a hf => g_split hf (g := 8) rfl (fun hb52 hf => ?_) (fun hb52 hf => ?_)
  ·replace hp := cond_t hb52 hp
   refine oQ hf (g := 8) rfl fun a hf => oQ hf (g := 8) rfl fun a hf => oQ hf (g := 8) rfl fun a hf => oQ hf (g := 8) rfl fun a hf => oR hf (pT hf rfl rfl) rfl fun a hf => om hf rfl rfl fun a hf => oQ hf (g := 14) rfl fun a hf => oQ hf (g := 14) rfl fun a hf => oQ hf (g := 14) rfl fun a hf => oR hf (pT hf rfl rfl) rfl fun a hf => oN <| ct ?_
   have ho := oI hp
   subst ho
   exact ⟨true, rfl, hw, hf.to ⟨rfl, rfl, rfl, rfl, trivial⟩⟩
  ·replace hp := cond_f hb52 hp
   refine oW hf (g := 8) rfl rfl <| om hf rfl rfl fun a hf => oW hf (g := 8) rfl rfl <| om hf rfl rfl fun a hf => oW hf (g := 8) rfl rfl <| oR hf (r_lenL (K := ek_Node) hf el_27 rfl (hR190.rd hw)) rfl fun a hf => oW hf (g := 8) rfl rfl <| oR hf (iC hf rfl rfl rfl) rfl fun a hf => oR hf (pF hf rfl rfl) rfl fun a hf => om hf rfl rfl fun a hf => g_split hf (g := 14) rfl (fun hb53 hf => ?_) (fun hb53 hf => ?_)
   ·replace hp := cond_t hb53 hp
    refine oQ hf (g := 14) rfl fun a hf => oQ hf (g := 14) rfl fun a hf => oQ hf (g := 14) rfl fun a hf => oR hf (pT hf rfl rfl) rfl fun a hf => oN <| ct ?_
    have ho := oI hp
    subst ho
    exact ⟨true, rfl, hw, hf.to ⟨rfl, rfl, rfl, rfl, trivial⟩⟩
   ·replace hp := cond_f hb53 hp
    refine oW hf (g := 14) rfl rfl <| om hf rfl rfl fun a hf => oW hf (g := 14) rfl rfl ?_
    obtain ⟨y54, hy55, hp⟩ := bS hp
    have hc57 := trie_Good_ok hw hG hR190 hy55
    refine o_call hf cb_48 rfl rfl hc57 (fun v59 w a hK58 hf => ?_)
    obtain ⟨rfl, hw⟩ := hK58
    refine oW hf (g := 14) rfl rfl <| oR hf (r_not hf rfl) rfl fun a hf => oR hf (pF hf rfl rfl) rfl fun a hf => oN <| ct ?_
    have ho := oI hp
    subst ho
    exact ⟨(!y54), rfl, hw, hf.to ⟨rfl, rfl, rfl, rfl, trivial⟩⟩
 ·intro a w hM
  obtain ⟨y49, rfl, hw, hf⟩ := hM
  replace hp := hq51
  refine cC hf rfl (fun hb60 => ?_) (fun hb60 => ?_)
  ·replace hp := cond_t hb60 hp
   refine wq <| wr <| oR hf (r_build hf bd_86 (vs := []) rfl trivial (by decide) (out := [.int .i64 0, .string e0, .bool false, .string e0, .int .i64 0, .slice none 0 0]) rfl) rfl fun a hf => ?_
   obtain ⟨w, hrun61, hw⟩ := e_store (P := P) hw hf (x := .tmp 4) (y := .tmp 19) rfl rfl ty_86 0 rfl (vs := [.int .i64 0, .string e0, .bool false, .string e0, .int .i64 0, .slice none 0 0]) rfl rfl (oC rfl (oC rfl (oC rfl (oC rfl (oC rfl (oC rfl ones_nil)))))) (by simp [arrC_len]) (cs' := [.int .i64 0, .string e0, .bool false, .string e0, .int .i64 0, .slice none 0 0]) rfl
   dsimp only [List.set] at hw
   refine o_effU (hrun61 ..) <| oa hf rfl rfl fun a hf => oN <| ct <| wp_ret <| c_thenR ?_
   have ho := oI hp
   simp only [Prod.mk.injEq] at ho
   obtain ⟨rfl, rfl⟩ := ho
   exact b_retC2 hw hf results34 ty_86 rfl 0 rfl (vs := [.int .i64 0, .string e0, .bool false, .string e0, .int .i64 0, .slice none 0 0]) rfl rfl rfl ⟨_, rfl, ⟨I, (Value.slice none 0 0), rfl, (IH.le_refl _), hw.tail, RS.nil⟩⟩
  ·replace hp := cond_f hb60 hp
   refine wp_skip <| ct <| wq <| c_drawn mix [7, 8] (.rd 0 (.rd 1 (.rd 2 (.rd 3 (.rd 4 (.ef 5 (.ef 6 (.ef 7 (.ef 8 .done))))))))) (by kernel_rfl) hw (fun w => Ok E I (.blk b1 (.cells ⟨[.int .i64 0, .string e0, .bool false, .string e0, .int .i64 0, .slice none 0 0]⟩ 86 (0, 0)) :: F) w) (fun w hw => ⟨hw.sub (scc sr), ?_⟩)
   refine tm rfl hf rfl rfl fun a hf => tm rfl hf rfl rfl fun a hf => ?_
   obtain ⟨hg63, hp⟩ := gS hp
   refine tR rfl hf (fun w hw => rI (K := ek_Node) hf el_27 rfl rfl (hR190.rd hw) hg63) rfl fun a hf => tR rfl hf (fun w hw => r_loadHP (K := ek_Node) hf rfl ty_106 (hR190.rd hw) hg63 rfl (vs := (.int .i64 ((gt a0 a1).kind_) :: .string ((gt a0 a1).path_) :: .bool ((gt a0 a1).has_) :: .string ((gt a0 a1).value_) :: arrC .i64 ((gt a0 a1).kids_))) (fun cs h => Node_all h) (by simp [arrC_len])) rfl fun a hf => tm rfl hf rfl rfl fun a hf => t_ef rfl ?_
   obtain ⟨y122, hy123, hp⟩ := bS hp
   have hc125 := root_hashes_ok hw hG hR190 hy123
   refine t_call hf cb_63 rfl rfl hc125 (fun v129 w a hK126 hf => ?_)
   obtain ⟨I2_126, rvv127, hv0, hle130, hw, hR128⟩ := hK126
   subst v129
   replace hG := hG.mono hle130
   replace hR190 := hR190.mono hle130
   refine ⟨.inr (hw.back hle130 (scc sr)), ?_⟩
   refine t_ef rfl ?_
   obtain ⟨y392, hy393, hp⟩ := bS hp
   have hc395 := root_item_ok hw hG hR128 hy393
   refine t_call hf cb_62 rfl rfl hc395 (fun v399 w a hK396 hf => ?_)
   obtain ⟨I2_396, rvv397, rfl, hle400, hw, hR398⟩ := hK396
   replace hG := hG.mono hle400
   replace hR190 := hR190.mono hle400
   replace hR128 := hR128.mono hle400
   refine ⟨.inr (hw.back (IH.le_trans hle130 hle400) (scc sr)), ?_⟩
   refine t_ef rfl ?_
   obtain ⟨w, hrun401, hw⟩ := e_store (P := P) hw hf (x := .tmp 4) (y := .tmp 26) rfl rfl ty_86 0 rfl (vs := [.int .i64 y392.kind_, .string y392.path_, .bool y392.has_, .string y392.value_, .int .i64 y392.mask_, rvv397]) rfl rfl (oC rfl (oC rfl (oC rfl (oC rfl (oC rfl (oC hR398.one ones_nil)))))) (by simp [arrC_len]) (cs' := [.int .i64 y392.kind_, .string y392.path_, .bool y392.has_, .string y392.value_, .int .i64 y392.mask_, rvv397]) rfl
   replace hw : Ok E I2_396 (.blk b1 (.cells ⟨[.int .i64 y392.kind_, .string y392.path_, .bool y392.has_, .string y392.value_, .int .i64 y392.mask_, rvv397]⟩ 86 (0, 0)) :: F) w := hw
   refine t_effU (hrun401 ..) ⟨.inl rfl, ?_⟩
   refine t_ef rfl <| t_eff hf (r_assign hf rfl) rfl fun a hf => ⟨.inl rfl, ?_⟩
   refine t_done <| ct <| wp_ret ?_
   have ho := oI hp
   simp only [Prod.mk.injEq] at ho
   obtain ⟨rfl, rfl⟩ := ho
   exact b_retC2 hw hf results34 ty_86 rfl 0 rfl (vs := [.int .i64 y392.kind_, .string y392.path_, .bool y392.has_, .string y392.value_, .int .i64 y392.mask_, rvv397]) rfl rfl rfl ⟨_, rfl, ⟨I2_396, rvv397, rfl, (IH.le_trans hle130 hle400), hw.tail, hR398⟩⟩
end Go.Lf
