/- The Go functions compute the plain Lean functions (printed by our lift.py). -/
import Derived.Test.YtckhmgglgbnaaaaDoorZD
import Derived.Test.YtckhmgglgbnaaaaDoorZF
import Derived.Test.YtckhmgglgbnaaaaDoorJ
import Derived.Test.YtckhmgglgbnaaaaDoorZK1
import Derived.Test.YtckhmgglgbnaaaaDoorZK5
import Derived.Test.YtckhmgglgbnaaaaDoorZK6
import Derived.Test.YtckhmgglgbnaaaaDoorZK8
import Derived.Test.YtckhmgglgbnaaaaDoorZK9
set_option linter.unusedVariables false
set_option linter.unusedSimpArgs false
set_option maxHeartbeats 1000000
set_option maxRecDepth 20000
namespace Go.Lf
open Go
theorem root_item_ok {E : World} {I : IH} {F : List Atom} {w : World} {a0 : Node} {a1 : List ByteArray} {a1v717 : Value} {res0 : Item} (hw : Ok E I (F) w) (hG : Gl I) (hR718 : RS ekS I a1v717 a1) (hp : root_item.f a0 a1 = some res0) :
  Calls P 42 ⟨[Value.agg ⟨Value.int .i64 a0.kind_ :: Value.string a0.path_ :: Value.bool a0.has_ :: Value.string a0.value_ :: arrC .i64 a0.kids_⟩, a1v717]⟩ w fun e w' => ∃ v, e = .returned v ∧ ∃ I2 : IH, ∃ rvv141 : Value, v = Value.agg ⟨[Value.int .i64 res0.kind_, Value.string res0.path_, Value.bool res0.has_, Value.string res0.value_, Value.int .i64 res0.mask_, rvv141]⟩ ∧ IH.le I I2 ∧ Ok E I2 (F) w' ∧ RS ekS I2 rvv141 res0.hashes_ := by
 refine c_enter Go.Proofs.Tryd.func42 rfl Go.Proofs.Tryd.ntmps42 rfl fun a hf => ?_
 replace hf : Fr 42 [(0, Value.agg ⟨.int .i64 a0.kind_ :: .string a0.path_ :: .bool a0.has_ :: .string a0.value_ :: arrC .i64 a0.kids_⟩), (1, a1v717)] a := hf
 unfold root_item.f at hp
 refine wq <| wr ?_
 obtain ⟨b1, w, hrun2, hw⟩ := e_box (P := P) hw hf (e := 55) (x := .tmp 0) rfl (cs := (Value.int .i64 a0.kind_ :: Value.string a0.path_ :: Value.bool a0.has_ :: Value.string a0.value_ :: arrC .i64 a0.kids_)) rfl
 refine o_eff hf (hrun2 ..) rfl fun a hf => ?_
 obtain ⟨b4, w, hrun5, hw⟩ := e_alloc (P := P) (a := a) hw ty_32
 replace hw : Ok E I (.blk b4 (.cells ⟨[.int .i64 0, .string (⟨#[]⟩ : ByteArray), .bool false, .string (⟨#[]⟩ : ByteArray), .int .i64 0, .slice none 0 0]⟩ 32 (0, 0)) :: .blk b1 (.cells ⟨.int .i64 a0.kind_ :: .string a0.path_ :: .bool a0.has_ :: .string a0.value_ :: arrC .i64 a0.kids_⟩ 55 (0, 0)) :: F) w := hw
 refine o_eff hf (hrun5 ..) rfl fun a hf => oN <| ct <| wq <| wr <| oR hf (rF hf rfl fd_55_0) rfl fun a hf => oR hf (rL hw hf rfl ty_3 1 rfl rfl) rfl fun a hf => oR hf (rF hf rfl fd_55_1) rfl fun a hf => oR hf (rL hw hf rfl ty_9 1 rfl rfl) rfl fun a hf => oR hf (rF hf rfl fd_55_2) rfl fun a hf => oR hf (rL hw hf rfl ty_4 1 rfl rfl) rfl fun a hf => oR hf (rF hf rfl fd_55_3) rfl fun a hf => oR hf (rL hw hf rfl ty_9 1 rfl rfl) rfl fun a hf => oR hf (r_build hf bd_32 (vs := [Value.int .i64 a0.kind_, Value.string a0.path_, Value.bool a0.has_, Value.string a0.value_]) rfl ⟨rfl, rfl, rfl, rfl, trivial⟩ (by decide) (out := [Value.int .i64 a0.kind_, Value.string a0.path_, Value.bool a0.has_, Value.string a0.value_, Value.int .i64 0, Value.slice none 0 0]) rfl) rfl fun a hf => ?_
 obtain ⟨b7, w, hrun8, hw⟩ := e_alloc (P := P) (a := a) hw ty_32
 replace hw : Ok E I (.blk b7 (.cells ⟨[.int .i64 0, .string (⟨#[]⟩ : ByteArray), .bool false, .string (⟨#[]⟩ : ByteArray), .int .i64 0, .slice none 0 0]⟩ 32 (0, 0)) :: .blk b4 (.cells ⟨[.int .i64 0, .string (⟨#[]⟩ : ByteArray), .bool false, .string (⟨#[]⟩ : ByteArray), .int .i64 0, .slice none 0 0]⟩ 32 (0, 0)) :: .blk b1 (.cells ⟨.int .i64 a0.kind_ :: .string a0.path_ :: .bool a0.has_ :: .string a0.value_ :: arrC .i64 a0.kids_⟩ 55 (0, 0)) :: F) w := hw
 refine o_eff hf (hrun8 ..) rfl fun a hf => ?_
 obtain ⟨w, hrun10, hw⟩ := e_store (P := P) hw hf (x := .tmp 5) (y := .tmp 16) rfl rfl ty_32 0 rfl (vs := [Value.int .i64 a0.kind_, Value.string a0.path_, Value.bool a0.has_, Value.string a0.value_, Value.int .i64 0, Value.slice none 0 0]) rfl rfl (oC rfl (oC rfl (oC rfl (oC rfl (oC rfl (oC rfl ones_nil)))))) (by simp [arrC_len]) (cs' := [Value.int .i64 a0.kind_, Value.string a0.path_, Value.bool a0.has_, Value.string a0.value_, Value.int .i64 0, Value.slice none 0 0]) rfl
 replace hw : Ok E I (.blk b7 (.cells ⟨[.int .i64 a0.kind_, .string a0.path_, .bool a0.has_, .string a0.value_, .int .i64 0, .slice none 0 0]⟩ 32 (0, 0)) :: .blk b4 (.cells ⟨[.int .i64 0, .string (⟨#[]⟩ : ByteArray), .bool false, .string (⟨#[]⟩ : ByteArray), .int .i64 0, .slice none 0 0]⟩ 32 (0, 0)) :: .blk b1 (.cells ⟨.int .i64 a0.kind_ :: .string a0.path_ :: .bool a0.has_ :: .string a0.value_ :: arrC .i64 a0.kids_⟩ 55 (0, 0)) :: F) w := hw
 refine o_effU (hrun10 ..) <| oN <| ct <| wq <| wq <| wr <| oR hf (rF hf rfl fd_55_4) rfl fun a hf => oR hf (r_loadA hw hf rfl ty_53 2 rfl (vs := (arrC .i64 a0.kids_)) (take_all (by simp [arrC_len])) (by simp [arrC_len])) rfl fun a hf => om hf rfl rfl fun a hf => oN <| ct ?_
 replace hw := hw.nilrow 9 1
 have hRR99 : RowR ekS I [] [] := RowR.nil
 obtain ⟨out315, hp, hq316⟩ := bS hp
 refine c_cutX (fun a w => ∃ y309 : List ByteArray, ∃ y314 : Int, ∃ yv310 : Value, ∃ m311 : Nat, ∃ cs312 : List Value, (y309, y314) = out315 ∧ Ok E I (.row yv310 9 1 m311 cs312 :: .blk b7 (.cells ⟨[.int .i64 a0.kind_, .string a0.path_, .bool a0.has_, .string a0.value_, .int .i64 y314, yv310]⟩ 32 (0, 0)) :: .blk b4 (.cells ⟨[.int .i64 0, .string (⟨#[]⟩ : ByteArray), .bool false, .string (⟨#[]⟩ : ByteArray), .int .i64 0, .slice none 0 0]⟩ 32 (0, 0)) :: .blk b1 (.cells ⟨.int .i64 a0.kind_ :: .string a0.path_ :: .bool a0.has_ :: .string a0.value_ :: arrC .i64 a0.kids_⟩ 55 (0, 0)) :: F) w ∧ Fr 42 ([(4, .pointer (some ⟨b4, 0, none⟩)), (5, .pointer (some ⟨b7, 0, none⟩))]) a ∧ RowR ekS I cs312 y309) ?_ ?_
 ·refine wp_block <| c_loop <| c_fuel (root_item.l0 a0 a1) out315 (fun (y236, y241, y242) a w => ∃ yv237 : Value, ∃ m238 : Nat, ∃ cs239 : List Value, Ok E I (.row yv237 9 1 m238 cs239 :: .blk b7 (.cells ⟨[.int .i64 a0.kind_, .string a0.path_, .bool a0.has_, .string a0.value_, .int .i64 y241, yv237]⟩ 32 (0, 0)) :: .blk b4 (.cells ⟨[.int .i64 0, .string (⟨#[]⟩ : ByteArray), .bool false, .string (⟨#[]⟩ : ByteArray), .int .i64 0, .slice none 0 0]⟩ 32 (0, 0)) :: .blk b1 (.cells ⟨.int .i64 a0.kind_ :: .string a0.path_ :: .bool a0.has_ :: .string a0.value_ :: arrC .i64 a0.kids_⟩ 55 (0, 0)) :: F) w ∧ Fr 42 ([(1, a1v717), (4, .pointer (some ⟨b4, 0, none⟩)), (5, .pointer (some ⟨b7, 0, none⟩)), (18, Value.agg ⟨arrC .i64 a0.kids_⟩), (19, .int .i64 y242)]) a ∧ RowR ekS I cs239 y236) (fun _ => rfl) ?_ BIG (([] : List ByteArray), 0, 0) _ _ ⟨(.slice none 0 0), 0, [], hw, hf.to ⟨rfl, rfl, rfl, rfl, rfl, trivial⟩, hRR99⟩ hp
  intro k st a w hI hp ih
  obtain ⟨y236, y241, y242⟩ := st
  obtain ⟨yv237, m238, cs239, hw, hf, hRR240⟩ := hI
  rw [root_item.l0] at hp
  refine wq <| wr <| oR hf (iC hf rfl rfl rfl) rfl fun a hf => oN <| ct <| wq <| cC hf rfl (fun hb318 => ?_) (fun hb318 => ?_)
  ·replace hp := cond_t hb318 hp
   refine wp_skip <| ct ?_
   obtain ⟨out363, hp, hq364⟩ := bS hp
   refine c_cut (fun a w => ∃ y357 : List ByteArray, ∃ y362 : Int, ∃ yv358 : Value, ∃ m359 : Nat, ∃ cs360 : List Value, (y357, y362) = out363 ∧ Ok E I (.row yv358 9 1 m359 cs360 :: .blk b7 (.cells ⟨[.int .i64 a0.kind_, .string a0.path_, .bool a0.has_, .string a0.value_, .int .i64 y362, yv358]⟩ 32 (0, 0)) :: .blk b4 (.cells ⟨[.int .i64 0, .string (⟨#[]⟩ : ByteArray), .bool false, .string (⟨#[]⟩ : ByteArray), .int .i64 0, .slice none 0 0]⟩ 32 (0, 0)) :: .blk b1 (.cells ⟨.int .i64 a0.kind_ :: .string a0.path_ :: .bool a0.has_ :: .string a0.value_ :: arrC .i64 a0.kids_⟩ 55 (0, 0)) :: F) w ∧ Fr 42 ([(1, a1v717), (4, .pointer (some ⟨b4, 0, none⟩)), (5, .pointer (some ⟨b7, 0, none⟩)), (18, Value.agg ⟨arrC .i64 a0.kids_⟩), (19, .int .i64 y242)]) a ∧ RowR ekS I cs360 y357) ?_ ?_
   ·refine wp_block <| wq <| wr <| om hf rfl rfl fun a hf => ?_
    obtain ⟨hg365, hp⟩ := gS hp
    refine oR hf (r_indexArr hf el_53 ty_3 rfl rfl hg365) rfl fun a hf => oa hf rfl rfl fun a hf => oa hf rfl rfl fun a hf => oN <| ct <| wq <| wr <| om hf rfl rfl fun a hf => oR hf (iC hf rfl rfl rfl) rfl fun a hf => oN <| ct <| cC hf rfl (fun hb366 => ?_) (fun hb366 => ?_)
    ·replace hp := cond_t hb366 hp
     refine wq <| c_drawn mix [6] (.rd 0 (.rd 1 (.rd 2 (.rd 3 (.rd 4 (.rd 5 (.ef 6 .done))))))) (by kernel_rfl) hw (fun w => Ok E I (.row yv237 9 1 m238 cs239 :: .blk b7 (.cells ⟨[.int .i64 a0.kind_, .string a0.path_, .bool a0.has_, .string a0.value_, .int .i64 y241, yv237]⟩ 32 (0, 0)) :: .blk b4 (.cells ⟨[.int .i64 0, .string (⟨#[]⟩ : ByteArray), .bool false, .string (⟨#[]⟩ : ByteArray), .int .i64 0, .slice none 0 0]⟩ 32 (0, 0)) :: .blk b1 (.cells ⟨.int .i64 a0.kind_ :: .string a0.path_ :: .bool a0.has_ :: .string a0.value_ :: arrC .i64 a0.kids_⟩ 55 (0, 0)) :: F) w) (fun w hw => ⟨hw.sub (scc (scc (scc (scc sr)))), ?_⟩)
     refine tR rfl hf (fun w hw => rF hf rfl fd_32_4) rfl fun a hf => tR rfl hf (fun w hw => rL hw hf rfl ty_3 1 rfl rfl) rfl fun a hf => tm rfl hf rfl rfl fun a hf => ?_
     obtain ⟨hg368, hp⟩ := gS hp
     refine tR rfl hf (fun w hw => r_shl hf rfl rfl hg368) rfl fun a hf => tR rfl hf (fun w hw => r_or hf rfl rfl) rfl fun a hf => tR rfl hf (fun w hw => rF hf rfl fd_32_4) rfl fun a hf => t_ef rfl ?_
     obtain ⟨w, hrun369, hw⟩ := e_store (P := P) hw hf (x := .tmp 30) (y := .tmp 29) rfl rfl ty_3 1 rfl (vs := [Value.int .i64 (bor .i64 y241 (shl .i64 1 y242))]) (oE rfl) rfl (oC rfl ones_nil) (by simp [arrC_len]) (cs' := [Value.int .i64 a0.kind_, Value.string a0.path_, Value.bool a0.has_, Value.string a0.value_, Value.int .i64 (bor .i64 y241 (shl .i64 1 y242)), yv237]) rfl
     replace hw : Ok E I (.row yv237 9 1 m238 cs239 :: .blk b7 (.cells ⟨[.int .i64 a0.kind_, .string a0.path_, .bool a0.has_, .string a0.value_, .int .i64 (bor .i64 y241 (shl .i64 1 y242)), yv237]⟩ 32 (0, 0)) :: .blk b4 (.cells ⟨[.int .i64 0, .string (⟨#[]⟩ : ByteArray), .bool false, .string (⟨#[]⟩ : ByteArray), .int .i64 0, .slice none 0 0]⟩ 32 (0, 0)) :: .blk b1 (.cells ⟨.int .i64 a0.kind_ :: .string a0.path_ :: .bool a0.has_ :: .string a0.value_ :: arrC .i64 a0.kids_⟩ 55 (0, 0)) :: F) w := hw
     refine t_effU (hrun369 ..) ⟨.inl rfl, ?_⟩
     refine t_done <| ct <| c_drawn mix [9] (.rd 0 (.rd 1 (.rd 2 (.rd 3 (.rd 4 (.rd 5 (.ef 6 (.ef 7 (.rd 8 (.ef 9 .done)))))))))) (by kernel_rfl) hw (fun w => Ok E I (.blk b7 (.cells ⟨[.int .i64 a0.kind_, .string a0.path_, .bool a0.has_, .string a0.value_, .int .i64 (bor .i64 y241 (shl .i64 1 y242)), yv237]⟩ 32 (0, 0)) :: .blk b4 (.cells ⟨[.int .i64 0, .string (⟨#[]⟩ : ByteArray), .bool false, .string (⟨#[]⟩ : ByteArray), .int .i64 0, .slice none 0 0]⟩ 32 (0, 0)) :: .blk b1 (.cells ⟨.int .i64 a0.kind_ :: .string a0.path_ :: .bool a0.has_ :: .string a0.value_ :: arrC .i64 a0.kids_⟩ 55 (0, 0)) :: F) w) (fun w hw => ⟨hw.sub (sc (scc (scc (scc sr)))), ?_⟩)
     refine tR rfl hf (fun w hw => rF hf rfl fd_32_5) rfl fun a hf => tR rfl hf (fun w hw => rL hw hf rfl ty_28 0 rfl rfl) rfl fun a hf => tm rfl hf rfl rfl fun a hf => tm rfl hf rfl rfl fun a hf => ?_
     obtain ⟨hg371, hp⟩ := gS hp
     refine tR rfl hf (fun w hw => rI (K := ekS) hf el_28 rfl rfl (hR718.rd hw) hg371) rfl fun a hf => tR rfl hf (fun w hw => r_loadH (K := ekS) hf rfl ty_9 (hR718.rd hw) hg371 rfl (fun cs h => ekS_f0 h)) rfl fun a hf => t_ef rfl ?_
     obtain ⟨w, v372, hrun373, hw, hRR374⟩ := e_buildSlice (P := P) (K := ekS) (m := 1) hw hf (parts := [(0, .tmp 36)]) el_28 ty_9 rfl rfl rfl (ccs := [[Value.string (gt a1 (vg a0.kids_ y242))]]) rfl (xs := [gt a1 (vg a0.kids_ y242)]) ⟨rfl, trivial⟩ rfl
     obtain ⟨cs375, hcs⟩ : ∃ cs, cs = ([[Value.string (gt a1 (vg a0.kids_ y242))]] : List (List Value)).flatten := ⟨_, rfl⟩
     rw [← hcs] at hw hRR374; clear hcs
     refine t_eff hf (hrun373 ..) rfl fun a hf => ⟨.inr (hw.back (IH.le_refl _) (sc (sc (scc (scc (scc sr)))))), ?_⟩
     refine t_ef rfl ?_
     obtain ⟨hg377, hp⟩ := gS hp
     obtain ⟨w, v378, m379, cs380, hrun382, hw, hRR381⟩ := e_append (P := P) (K := ekS) (ty := 28) hw hf (s := .tmp 32) (x := .tmp 37) el_28 ty_9 rfl (by decide) 1 rfl rfl rfl hRR240 (ys := [gt a1 (vg a0.kids_ y242)]) (rR (K := ekS) hw (i := 0) rfl hRR374) hg377
     replace hw : Ok E I (.row v372 9 1 1 cs375 :: .row v378 9 1 m379 cs380 :: .blk b7 (.cells ⟨[.int .i64 a0.kind_, .string a0.path_, .bool a0.has_, .string a0.value_, .int .i64 (bor .i64 y241 (shl .i64 1 y242)), yv237]⟩ 32 (0, 0)) :: .blk b4 (.cells ⟨[.int .i64 0, .string (⟨#[]⟩ : ByteArray), .bool false, .string (⟨#[]⟩ : ByteArray), .int .i64 0, .slice none 0 0]⟩ 32 (0, 0)) :: .blk b1 (.cells ⟨.int .i64 a0.kind_ :: .string a0.path_ :: .bool a0.has_ :: .string a0.value_ :: arrC .i64 a0.kids_⟩ 55 (0, 0)) :: F) w := hw
     refine t_eff hf (hrun382 ..) rfl fun a hf => ⟨.inr (hw.back (IH.le_refl _) (sc (sc (scc (scc (scc sr)))))), ?_⟩
     refine tR rfl hf (fun w hw => rF hf rfl fd_32_5) rfl fun a hf => t_ef rfl ?_
     obtain ⟨w, hrun383, hw⟩ := e_store (P := P) hw hf (x := .tmp 39) (y := .tmp 38) rfl rfl ty_28 2 rfl (vs := [v378]) (oE (row_one hw (i := 1) rfl)) rfl (oC (row_one hw (i := 1) rfl) ones_nil) (by simp [arrC_len]) (cs' := [Value.int .i64 a0.kind_, Value.string a0.path_, Value.bool a0.has_, Value.string a0.value_, Value.int .i64 (bor .i64 y241 (shl .i64 1 y242)), v378]) rfl
     replace hw : Ok E I (.row v372 9 1 1 cs375 :: .row v378 9 1 m379 cs380 :: .blk b7 (.cells ⟨[.int .i64 a0.kind_, .string a0.path_, .bool a0.has_, .string a0.value_, .int .i64 (bor .i64 y241 (shl .i64 1 y242)), v378]⟩ 32 (0, 0)) :: .blk b4 (.cells ⟨[.int .i64 0, .string (⟨#[]⟩ : ByteArray), .bool false, .string (⟨#[]⟩ : ByteArray), .int .i64 0, .slice none 0 0]⟩ 32 (0, 0)) :: .blk b1 (.cells ⟨.int .i64 a0.kind_ :: .string a0.path_ :: .bool a0.has_ :: .string a0.value_ :: arrC .i64 a0.kids_⟩ 55 (0, 0)) :: F) w := hw
     refine t_effU (hrun383 ..) ⟨.inl rfl, ?_⟩
     refine t_done <| c_blockN <| ct ?_
     have ho := oI hp
     subst ho
     replace hw : Ok E I (.row v378 9 1 m379 cs380 :: .blk b7 (.cells ⟨[.int .i64 a0.kind_, .string a0.path_, .bool a0.has_, .string a0.value_, .int .i64 (bor .i64 y241 (shl .i64 1 y242)), v378]⟩ 32 (0, 0)) :: .blk b4 (.cells ⟨[.int .i64 0, .string (⟨#[]⟩ : ByteArray), .bool false, .string (⟨#[]⟩ : ByteArray), .int .i64 0, .slice none 0 0]⟩ 32 (0, 0)) :: .blk b1 (.cells ⟨.int .i64 a0.kind_ :: .string a0.path_ :: .bool a0.has_ :: .string a0.value_ :: arrC .i64 a0.kids_⟩ 55 (0, 0)) :: F) w := hw.sub (sc (scc (scc (scc (scc sr)))))
     exact ⟨(y236 ++ [gt a1 (vg a0.kids_ y242)]), (bor .i64 y241 (shl .i64 1 y242)), v378, m379, cs380, rfl, hw, hf.to ⟨rfl, rfl, rfl, rfl, rfl, trivial⟩, hRR381⟩
    ·replace hp := cond_f hb366 hp
     refine wp_skip <| c_blockN <| ct ?_
     have ho := oI hp
     subst ho
     exact ⟨y236, y241, yv237, m238, cs239, rfl, hw, hf.to ⟨rfl, rfl, rfl, rfl, rfl, trivial⟩, hRR240⟩
   ·intro a w hM
    obtain ⟨y357, y362, yv358, m359, cs360, rfl, hw, hf, hRR361⟩ := hM
    replace hp := hq364
    refine wr <| oR hf (r_add hf rfl rfl) rfl fun a hf => om hf rfl rfl fun a hf => oN <| ct ?_
    exact ih (y357, y362, w64 (y242 + 1)) _ _ ⟨yv358, m359, cs360, hw, hf.to ⟨rfl, rfl, rfl, rfl, rfl, trivial⟩, hRR361⟩ hp
  ·replace hp := cond_f hb318 hp
   refine wp_exit <| c_thenE <| c_thenE <| c_exit <| ct ?_
   have ho := oI hp
   subst ho
   exact ⟨y236, y241, yv237, m238, cs239, rfl, hw, hf.to ⟨rfl, rfl, trivial⟩, hRR240⟩
 ·intro a w hM
  obtain ⟨y309, y314, yv310, m311, cs312, rfl, hw, hf, hRR313⟩ := hM
  replace hp := hq316
  refine ct <| wq <| wr <| oR hf (r_loadA hw hf rfl ty_32 1 rfl (vs := [Value.int .i64 a0.kind_, Value.string a0.path_, Value.bool a0.has_, Value.string a0.value_, Value.int .i64 y314, yv310]) rfl rfl) rfl fun a hf => ?_
  obtain ⟨w, hrun385, hw⟩ := e_store (P := P) hw hf (x := .tmp 4) (y := .tmp 41) rfl rfl ty_32 2 rfl (vs := [Value.int .i64 a0.kind_, Value.string a0.path_, Value.bool a0.has_, Value.string a0.value_, Value.int .i64 y314, yv310]) rfl rfl (oC rfl (oC rfl (oC rfl (oC rfl (oC rfl (oC (row_one hw (i := 0) rfl) ones_nil)))))) (by simp [arrC_len]) (cs' := [Value.int .i64 a0.kind_, Value.string a0.path_, Value.bool a0.has_, Value.string a0.value_, Value.int .i64 y314, yv310]) rfl
  replace hw : Ok E I (.row yv310 9 1 m311 cs312 :: .blk b7 (.cells ⟨[.int .i64 a0.kind_, .string a0.path_, .bool a0.has_, .string a0.value_, .int .i64 y314, yv310]⟩ 32 (0, 0)) :: .blk b4 (.cells ⟨[.int .i64 a0.kind_, .string a0.path_, .bool a0.has_, .string a0.value_, .int .i64 y314, yv310]⟩ 32 (0, 0)) :: .blk b1 (.cells ⟨.int .i64 a0.kind_ :: .string a0.path_ :: .bool a0.has_ :: .string a0.value_ :: arrC .i64 a0.kids_⟩ 55 (0, 0)) :: F) w := hw
  refine o_effU (hrun385 ..) <| oN <| ct <| wp_ret ?_
  have hw : Ok E I (.row yv310 9 1 m311 cs312 :: .blk b7 (.cells ⟨[Value.int .i64 a0.kind_, Value.string a0.path_, Value.bool a0.has_, Value.string a0.value_, Value.int .i64 y314, yv310]⟩ 32 (0, 0)) :: .blk b4 (.cells ⟨[Value.int .i64 a0.kind_, Value.string a0.path_, Value.bool a0.has_, Value.string a0.value_, Value.int .i64 y314, yv310]⟩ 32 (0, 0)) :: .blk b1 (.cells ⟨Value.int .i64 a0.kind_ :: Value.string a0.path_ :: Value.bool a0.has_ :: Value.string a0.value_ :: arrC .i64 a0.kids_⟩ 55 (0, 0)) :: F) w := hw.front (i := 0) rfl
  obtain ⟨I389, hle390, hw, hR391⟩ := row_freeze (K := ekS) hw hRR313
  replace hG := hG.mono hle390
  replace hw : Ok E I389 (.blk b4 (.cells ⟨[.int .i64 a0.kind_, .string a0.path_, .bool a0.has_, .string a0.value_, .int .i64 y314, yv310]⟩ 32 (0, 0)) :: F) w := hw.sub (sc (scc (sc sr)))
  have ho := oI hp
  subst ho
  exact b_retC hw hf Go.Proofs.Tryd.results42 ty_32 rfl 0 rfl (vs := [Value.int .i64 a0.kind_, Value.string a0.path_, Value.bool a0.has_, Value.string a0.value_, Value.int .i64 y314, yv310]) rfl rfl ⟨_, rfl, ⟨I389, yv310, rfl, hle390, hw.tail, hR391⟩⟩

theorem root_Item_ok {E : World} {I : IH} {F : List Atom} {w : World} {a0 : List Node} {a0v189 : Value} {a1 : Int} {res0 : Item} {res1 : Bool} (hw : Ok E I (F) w) (hG : Gl I) (hR190 : RS ek_Node I a0v189 a0) (hp : root_Item.f a0 a1 = some (res0, res1)) :
  Calls P 16 ⟨[a0v189, Value.int .i64 a1]⟩ w fun e w' => ∃ v, e = .returned v ∧ ∃ I2 : IH, ∃ rvv143 : Value, v = Value.tuple ⟨[Value.agg ⟨[Value.int .i64 res0.kind_, Value.string res0.path_, Value.bool res0.has_, Value.string res0.value_, Value.int .i64 res0.mask_, rvv143]⟩, Value.bool res1]⟩ ∧ IH.le I I2 ∧ Ok E I2 (F) w' ∧ RS ekS I2 rvv143 res0.hashes_ := by
 refine c_enter Go.Proofs.Tryd.func16 rfl Go.Proofs.Tryd.ntmps16 rfl fun a hf => ?_
 replace hf : Fr 27 [(0, a0v189), (1, .int .i64 a1)] a := hf
 unfold root_Item.f at hp
 refine wq <| wr ?_
 obtain ⟨b1, w, hrun2, hw⟩ := e_alloc (P := P) (a := a) hw ty_32
 replace hw : Ok E I (.blk b1 (.cells ⟨[.int .i64 0, .string (⟨#[]⟩ : ByteArray), .bool false, .string (⟨#[]⟩ : ByteArray), .int .i64 0, .slice none 0 0]⟩ 32 (0, 0)) :: F) w := hw
 refine o_eff hf (hrun2 ..) rfl fun a hf => oa hf rfl rfl fun a hf => oN <| ct <| wq ?_
 obtain ⟨out50, hp, hq51⟩ := bS hp
 refine c_cut (fun a w => ∃ y49 : Bool, y49 = out50 ∧ Ok E I (.blk b1 (.cells ⟨[.int .i64 0, .string (⟨#[]⟩ : ByteArray), .bool false, .string (⟨#[]⟩ : ByteArray), .int .i64 0, .slice none 0 0]⟩ 32 (0, 0)) :: F) w ∧ Fr 27 ([(0, a0v189), (1, .int .i64 a1), (4, .pointer (some ⟨b1, 0, none⟩)), (18, .bool y49)]) a) ?_ ?_
 ·refine wr <| om hf rfl rfl fun a hf => oR hf (iC hf rfl rfl rfl) rfl fun a hf => om hf rfl rfl fun a hf => g_split hf (g := 8) rfl (fun hb52 hf => ?_) (fun hb52 hf => ?_)
  ·replace hp := cond_t hb52 hp
   refine oS hf (g := 8) rfl rfl rfl rfl rfl rfl fun a hf => oS hf (g := 8) rfl rfl rfl rfl rfl rfl fun a hf => oS hf (g := 8) rfl rfl rfl rfl rfl rfl fun a hf => oS hf (g := 8) rfl rfl rfl rfl rfl rfl fun a hf => oR hf (pT hf rfl rfl) rfl fun a hf => om hf rfl rfl fun a hf => oS hf (g := 14) rfl rfl rfl rfl rfl rfl fun a hf => oS hf (g := 14) rfl rfl rfl rfl rfl rfl fun a hf => oS hf (g := 14) rfl rfl rfl rfl rfl rfl fun a hf => oR hf (pT hf rfl rfl) rfl fun a hf => oN <| ct ?_
   have ho := oI hp
   subst ho
   exact ⟨true, rfl, hw, hf.to ⟨rfl, rfl, rfl, rfl, trivial⟩⟩
  ·replace hp := cond_f hb52 hp
   refine oW hf (g := 8) rfl rfl <| om hf rfl rfl fun a hf => oW hf (g := 8) rfl rfl <| om hf rfl rfl fun a hf => oW hf (g := 8) rfl rfl <| oR hf (r_lenL (K := ek_Node) hf el_23 rfl (hR190.rd hw)) rfl fun a hf => oW hf (g := 8) rfl rfl <| oR hf (iC hf rfl rfl rfl) rfl fun a hf => oR hf (pF hf rfl rfl) rfl fun a hf => om hf rfl rfl fun a hf => g_split hf (g := 14) rfl (fun hb53 hf => ?_) (fun hb53 hf => ?_)
   ·replace hp := cond_t hb53 hp
    refine oS hf (g := 14) rfl rfl rfl rfl rfl rfl fun a hf => oS hf (g := 14) rfl rfl rfl rfl rfl rfl fun a hf => oS hf (g := 14) rfl rfl rfl rfl rfl rfl fun a hf => oR hf (pT hf rfl rfl) rfl fun a hf => oN <| ct ?_
    have ho := oI hp
    subst ho
    exact ⟨true, rfl, hw, hf.to ⟨rfl, rfl, rfl, rfl, trivial⟩⟩
   ·replace hp := cond_f hb53 hp
    refine oW hf (g := 14) rfl rfl <| om hf rfl rfl fun a hf => oW hf (g := 14) rfl rfl ?_
    obtain ⟨y54, hy55, hp⟩ := bS hp
    have hc57 := trie_Good_ok hw hG hR190 hy55
    refine o_call hf cb_40 rfl rfl hc57 (fun v59 w a hK58 hf => ?_)
    obtain ⟨rfl, hw⟩ := hK58
    refine oW hf (g := 14) rfl rfl <| oR hf (r_not hf rfl) rfl fun a hf => oR hf (pF hf rfl rfl) rfl fun a hf => oN <| ct ?_
    have ho := oI hp
    subst ho
    exact ⟨(!y54), rfl, hw, hf.to ⟨rfl, rfl, rfl, rfl, trivial⟩⟩
 ·intro a w hM
  obtain ⟨y49, rfl, hw, hf⟩ := hM
  replace hp := hq51
  refine cC hf rfl (fun hb60 => ?_) (fun hb60 => ?_)
  ·replace hp := cond_t hb60 hp
   refine wq <| wr <| oR hf (r_build hf bd_32 (vs := []) rfl trivial (by decide) (out := [Value.int .i64 0, Value.string (⟨#[]⟩ : ByteArray), Value.bool false, Value.string (⟨#[]⟩ : ByteArray), Value.int .i64 0, Value.slice none 0 0]) rfl) rfl fun a hf => ?_
   obtain ⟨w, hrun61, hw⟩ := e_store (P := P) hw hf (x := .tmp 4) (y := .tmp 19) rfl rfl ty_32 0 rfl (vs := [Value.int .i64 0, Value.string (⟨#[]⟩ : ByteArray), Value.bool false, Value.string (⟨#[]⟩ : ByteArray), Value.int .i64 0, Value.slice none 0 0]) rfl rfl (oC rfl (oC rfl (oC rfl (oC rfl (oC rfl (oC rfl ones_nil)))))) (by simp [arrC_len]) (cs' := [Value.int .i64 0, Value.string (⟨#[]⟩ : ByteArray), Value.bool false, Value.string (⟨#[]⟩ : ByteArray), Value.int .i64 0, Value.slice none 0 0]) rfl
   replace hw : Ok E I (.blk b1 (.cells ⟨[.int .i64 0, .string (⟨#[]⟩ : ByteArray), .bool false, .string (⟨#[]⟩ : ByteArray), .int .i64 0, .slice none 0 0]⟩ 32 (0, 0)) :: F) w := hw
   refine o_effU (hrun61 ..) <| oa hf rfl rfl fun a hf => oN <| ct <| wp_ret <| c_thenR ?_
   have ho := oI hp
   simp only [Prod.mk.injEq] at ho
   obtain ⟨rfl, rfl⟩ := ho
   exact b_retC2 hw hf Go.Proofs.Tryd.results16 ty_32 rfl 0 rfl (vs := [Value.int .i64 0, Value.string (⟨#[]⟩ : ByteArray), Value.bool false, Value.string (⟨#[]⟩ : ByteArray), Value.int .i64 0, Value.slice none 0 0]) rfl rfl rfl ⟨_, rfl, ⟨I, (Value.slice none 0 0), rfl, (IH.le_refl _), hw.tail, RS.nil⟩⟩
  ·replace hp := cond_f hb60 hp
   refine wp_skip <| ct <| wq <| c_drawn mix [7, 8] (.rd 0 (.rd 1 (.rd 2 (.rd 3 (.rd 4 (.ef 5 (.ef 6 (.ef 7 (.ef 8 .done))))))))) (by kernel_rfl) hw (fun w => Ok E I (.blk b1 (.cells ⟨[.int .i64 0, .string (⟨#[]⟩ : ByteArray), .bool false, .string (⟨#[]⟩ : ByteArray), .int .i64 0, .slice none 0 0]⟩ 32 (0, 0)) :: F) w) (fun w hw => ⟨hw.sub (scc sr), ?_⟩)
   refine tm rfl hf rfl rfl fun a hf => tm rfl hf rfl rfl fun a hf => ?_
   obtain ⟨hg63, hp⟩ := gS hp
   refine tR rfl hf (fun w hw => rI (K := ek_Node) hf el_23 rfl rfl (hR190.rd hw) hg63) rfl fun a hf => tR rfl hf (fun w hw => r_loadHP (K := ek_Node) hf rfl ty_55 (hR190.rd hw) hg63 rfl (vs := (Value.int .i64 ((gt a0 a1).kind_) :: Value.string ((gt a0 a1).path_) :: Value.bool ((gt a0 a1).has_) :: Value.string ((gt a0 a1).value_) :: arrC .i64 ((gt a0 a1).kids_))) (fun cs h => Node_all h) (by simp [arrC_len])) rfl fun a hf => tm rfl hf rfl rfl fun a hf => t_ef rfl ?_
   obtain ⟨y708, hy709, hp⟩ := bS hp
   have hc711 := root_hashes_ok hw hG hR190 hy709
   refine t_call hf cb_41 rfl rfl hc711 (fun v715 w a hK712 hf => ?_)
   obtain ⟨I2_712, rvv713, hv0, hle716, hw, hR714⟩ := hK712
   subst v715
   replace hG := hG.mono hle716
   replace hR190 := hR190.mono hle716
   refine ⟨.inr (hw.back hle716 (scc sr)), ?_⟩
   refine t_ef rfl ?_
   obtain ⟨y392, hy393, hp⟩ := bS hp
   have hc395 := root_item_ok hw hG hR714 hy393
   refine t_call hf cb_42 rfl rfl hc395 (fun v399 w a hK396 hf => ?_)
   obtain ⟨I2_396, rvv397, rfl, hle400, hw, hR398⟩ := hK396
   replace hG := hG.mono hle400
   replace hR190 := hR190.mono hle400
   replace hR714 := hR714.mono hle400
   refine ⟨.inr (hw.back (IH.le_trans hle716 hle400) (scc sr)), ?_⟩
   refine t_ef rfl ?_
   obtain ⟨w, hrun401, hw⟩ := e_store (P := P) hw hf (x := .tmp 4) (y := .tmp 26) rfl rfl ty_32 0 rfl (vs := [Value.int .i64 y392.kind_, Value.string y392.path_, Value.bool y392.has_, Value.string y392.value_, Value.int .i64 y392.mask_, rvv397]) rfl rfl (oC rfl (oC rfl (oC rfl (oC rfl (oC rfl (oC hR398.one ones_nil)))))) (by simp [arrC_len]) (cs' := [Value.int .i64 y392.kind_, Value.string y392.path_, Value.bool y392.has_, Value.string y392.value_, Value.int .i64 y392.mask_, rvv397]) rfl
   replace hw : Ok E I2_396 (.blk b1 (.cells ⟨[.int .i64 y392.kind_, .string y392.path_, .bool y392.has_, .string y392.value_, .int .i64 y392.mask_, rvv397]⟩ 32 (0, 0)) :: F) w := hw
   refine t_effU (hrun401 ..) ⟨.inl rfl, ?_⟩
   refine t_ef rfl <| t_eff hf (r_assign hf rfl) rfl fun a hf => ⟨.inl rfl, ?_⟩
   refine t_done <| ct <| wp_ret ?_
   have ho := oI hp
   simp only [Prod.mk.injEq] at ho
   obtain ⟨rfl, rfl⟩ := ho
   exact b_retC2 hw hf Go.Proofs.Tryd.results16 ty_32 rfl 0 rfl (vs := [Value.int .i64 y392.kind_, Value.string y392.path_, Value.bool y392.has_, Value.string y392.value_, Value.int .i64 y392.mask_, rvv397]) rfl rfl rfl ⟨_, rfl, ⟨I2_396, rvv397, rfl, (IH.le_trans hle716 hle400), hw.tail, hR398⟩⟩

theorem prove_Of_ok {E : World} {I : IH} {F : List Atom} {w : World} {a0 : List Node} {a0v1117 : Value} {a1 : ByteArray} {res0 : List ByteArray} {res1 : Int} (hw : Ok E I (F) w) (hG : Gl I) (hR1118 : RS ek_Node I a0v1117 a0) (hp : prove_Of.f a0 a1 = some (res0, res1)) :
  Calls P 33 ⟨[a0v1117, Value.string a1]⟩ w fun e w' => ∃ v, e = .returned v ∧ ∃ I2 : IH, ∃ rvv145 : Value, v = Value.tuple ⟨[rvv145, Value.int .i64 res1]⟩ ∧ IH.le I I2 ∧ Ok E I2 (F) w' ∧ RS ekS I2 rvv145 res0 := by
 refine c_enter Go.Proofs.Tryd.func33 rfl Go.Proofs.Tryd.ntmps33 rfl fun a hf => ?_
 replace hf : Fr 47 [(0, a0v1117), (1, .string a1)] a := hf
 unfold prove_Of.f at hp
 refine wq <| wr <| oa hf rfl rfl fun a hf => oa hf rfl rfl fun a hf => oN <| ct <| wq <| wr <| om hf rfl rfl fun a hf => om hf rfl rfl fun a hf => ?_
 obtain ⟨y179, hy178, hp⟩ := bS hp
 obtain ⟨y176, y177⟩ := y179
 have hc180 := get_Walk_ok hw hG hR1118 hy178
 refine o_call hf cb_58 rfl rfl hc180 (fun v184 w a hK181 hf => ?_)
 obtain ⟨I2_181, rvv182, rfl, hle185, hw, hR183⟩ := hK181
 replace hG := hG.mono hle185
 replace hR1118 := hR1118.mono hle185
 refine om hf rfl rfl fun a hf => oR hf (rE hf rfl rfl) rfl fun a hf => oR hf (rE hf rfl rfl) rfl fun a hf => oa hf rfl rfl fun a hf => oa hf rfl rfl fun a hf => oN <| ct <| wq <| wq <| wr <| om hf rfl rfl fun a hf => oR hf (iC hf rfl rfl rfl) rfl fun a hf => oN <| ct <| cC hf rfl (fun hb186 => ?_) (fun hb186 => ?_)
 ·replace hp := cond_t hb186 hp
  refine wq <| wr <| om hf rfl rfl fun a hf => oa hf rfl rfl fun a hf => oa hf rfl rfl fun a hf => oN <| ct <| wp_ret <| c_thenR ?_
  have ho := oI hp
  simp only [Prod.mk.injEq] at ho
  obtain ⟨rfl, rfl⟩ := ho
  exact b_ret2 hf Go.Proofs.Tryd.results33 rfl rfl ⟨_, rfl, ⟨I2_181, (Value.slice none 0 0), rfl, hle185, hw, RS.nil⟩⟩
 ·replace hp := cond_f hb186 hp
  refine wp_skip <| ct <| wq <| wr <| oa hf rfl rfl fun a hf => oN <| ct <| wq <| wq <| wr <| om hf rfl rfl fun a hf => oR hf (r_lenL (K := (ekI .i64)) hf el_70 rfl (hR183.rd hw)) rfl fun a hf => om hf rfl rfl fun a hf => oN <| ct ?_
  replace hw := hw.nilrow 9 1
  have hRR437 : RowR ekS I2_181 [] [] := RowR.nil
  obtain ⟨out560, hp, hq561⟩ := bS hp
  refine c_cutX (fun a w => ∃ y555 : List ByteArray, ∃ I554 : IH, ∃ yv556 : Value, ∃ m557 : Nat, ∃ cs558 : List Value, y555 = out560 ∧ IH.le I2_181 I554 ∧ Ok E I554 (.row yv556 9 1 m557 cs558 :: F) w ∧ Fr 47 ([(8, yv556)]) a ∧ RowR ekS I554 cs558 y555) ?_ ?_
  ·refine wp_block <| c_loop <| c_fuel (prove_Of.l0 a0 y176) out560 (fun (y514, y519) a w => ∃ I513 : IH, ∃ yv515 : Value, ∃ m516 : Nat, ∃ cs517 : List Value, IH.le I2_181 I513 ∧ Ok E I513 (.row yv515 9 1 m516 cs517 :: F) w ∧ Fr 47 ([(0, a0v1117), (8, yv515), (24, rvv182), (25, .int .i64 (y176.length : Int)), (26, .int .i64 y519)]) a ∧ RowR ekS I513 cs517 y514) (fun _ => rfl) ?_ BIG (([] : List ByteArray), 0) _ _ ⟨I2_181, (.slice none 0 0), 0, [], (IH.le_refl _), hw, hf.to ⟨rfl, rfl, rfl, rfl, rfl, trivial⟩, hRR437⟩ hp
   intro k st a w hI hp ih
   obtain ⟨y514, y519⟩ := st
   obtain ⟨I513, yv515, m516, cs517, hle562, hw, hf, hRR518⟩ := hI
   rw [prove_Of.l0] at hp
   replace hG := hG.mono hle562
   replace hR1118 := hR1118.mono hle562
   replace hR183 := hR183.mono hle562
   refine wq <| wr <| oR hf (iC hf rfl rfl rfl) rfl fun a hf => oN <| ct <| wq <| cC hf rfl (fun hb563 => ?_) (fun hb563 => ?_)
   ·replace hp := cond_t hb563 hp
    refine wp_skip <| ct <| wq <| wp_block <| wq <| wr ?_
    obtain ⟨hg564, hp⟩ := gS hp
    refine oR hf (rI (K := (ekI .i64)) hf el_70 rfl rfl (hR183.rd hw) hg564) rfl fun a hf => oR hf (r_loadH (K := (ekI .i64)) hf rfl ty_3 (hR183.rd hw) hg564 rfl (fun cs h => ekI_f0 h)) rfl fun a hf => oa hf rfl rfl fun a hf => oN <| ct <| wq <| wr <| om hf rfl rfl fun a hf => om hf rfl rfl fun a hf => ?_
    obtain ⟨y568, hy567, hp⟩ := bS hp
    obtain ⟨y565, y566⟩ := y568
    have hc569 := root_Item_ok hw hG hR1118 hy567
    refine o_call hf cb_16 rfl rfl hc569 (fun v573 w a hK570 hf => ?_)
    obtain ⟨I2_570, rvv571, rfl, hle574, hw, hR572⟩ := hK570
    replace hG := hG.mono hle574
    replace hR1118 := hR1118.mono hle574
    replace hR183 := hR183.mono hle574
    replace hRR518 := hRR518.mono hle574
    refine om hf rfl rfl fun a hf => oR hf (rE hf rfl rfl) rfl fun a hf => oR hf (rE hf rfl rfl) rfl fun a hf => ?_
    obtain ⟨b575, w, hrun576, hw⟩ := e_alloc (P := P) (a := a) hw ty_32
    replace hw : Ok E I2_570 (.blk b575 (.cells ⟨[.int .i64 0, .string (⟨#[]⟩ : ByteArray), .bool false, .string (⟨#[]⟩ : ByteArray), .int .i64 0, .slice none 0 0]⟩ 32 (0, 0)) :: .row yv515 9 1 m516 cs517 :: F) w := hw
    refine o_eff hf (hrun576 ..) rfl fun a hf => ?_
    obtain ⟨w, hrun578, hw⟩ := e_store (P := P) hw hf (x := .tmp 11) (y := .tmp 34) rfl rfl ty_32 0 rfl (vs := [Value.int .i64 y565.kind_, Value.string y565.path_, Value.bool y565.has_, Value.string y565.value_, Value.int .i64 y565.mask_, rvv571]) rfl rfl (oC rfl (oC rfl (oC rfl (oC rfl (oC rfl (oC hR572.one ones_nil)))))) (by simp [arrC_len]) (cs' := [Value.int .i64 y565.kind_, Value.string y565.path_, Value.bool y565.has_, Value.string y565.value_, Value.int .i64 y565.mask_, rvv571]) rfl
    replace hw : Ok E I2_570 (.blk b575 (.cells ⟨[.int .i64 y565.kind_, .string y565.path_, .bool y565.has_, .string y565.value_, .int .i64 y565.mask_, rvv571]⟩ 32 (0, 0)) :: .row yv515 9 1 m516 cs517 :: F) w := hw
    refine o_effU (hrun578 ..) <| oa hf rfl rfl fun a hf => oN <| ct <| wq <| wr <| oR hf (r_loadA hw hf rfl ty_32 0 rfl (vs := [Value.int .i64 y565.kind_, Value.string y565.path_, Value.bool y565.has_, Value.string y565.value_, Value.int .i64 y565.mask_, rvv571]) rfl rfl) rfl fun a hf => ?_
    obtain ⟨y582, hy581, hp⟩ := bS hp
    obtain ⟨y579, y580⟩ := y582
    have hc583 := node_Encode_ok hw hG hR572 hy581
    refine o_call hf cb_28 rfl rfl hc583 (fun v585 w a hK584 hf => ?_)
    obtain ⟨rfl, hw⟩ := hK584
    refine om hf rfl rfl fun a hf => oR hf (rE hf rfl rfl) rfl fun a hf => oR hf (rE hf rfl rfl) rfl fun a hf => oa hf rfl rfl fun a hf => oa hf rfl rfl fun a hf => oN <| ct <| wr <| om hf rfl rfl fun a hf => om hf rfl rfl fun a hf => ?_
    obtain ⟨w, v586, hrun587, hw, hRR588⟩ := e_buildSlice (P := P) (K := ekS) (m := 1) hw hf (parts := [(0, .tmp 42)]) el_28 ty_9 rfl rfl rfl (ccs := [[Value.string y579]]) rfl (xs := [y579]) ⟨rfl, trivial⟩ rfl
    obtain ⟨cs589, hcs⟩ : ∃ cs, cs = ([[Value.string y579]] : List (List Value)).flatten := ⟨_, rfl⟩
    rw [← hcs] at hw hRR588; clear hcs
    refine o_eff hf (hrun587 ..) rfl fun a hf => ?_
    obtain ⟨hg591, hp⟩ := gS hp
    obtain ⟨w, v592, m593, cs594, hrun596, hw, hRR595⟩ := e_append (P := P) (K := ekS) (ty := 28) hw hf (s := .tmp 41) (x := .tmp 43) el_28 ty_9 rfl (by decide) 2 rfl rfl rfl hRR518 (ys := [y579]) (rR (K := ekS) hw (i := 0) rfl hRR588) hg591
    replace hw : Ok E I2_570 (.row v586 9 1 1 cs589 :: .blk b575 (.cells ⟨[.int .i64 y565.kind_, .string y565.path_, .bool y565.has_, .string y565.value_, .int .i64 y565.mask_, rvv571]⟩ 32 (0, 0)) :: .row v592 9 1 m593 cs594 :: F) w := hw
    refine o_eff hf (hrun596 ..) rfl fun a hf => oa hf rfl rfl fun a hf => oN <| c_blockN <| ct <| wr <| oR hf (r_add hf rfl rfl) rfl fun a hf => om hf rfl rfl fun a hf => oN <| ct ?_
    replace hw : Ok E I2_570 (.row v592 9 1 m593 cs594 :: F) w := hw.sub (sc (sc (scc sr)))
    exact ih (y514 ++ [y579], w64 (y519 + 1)) _ _ ⟨I2_570, v592, m593, cs594, (IH.le_trans hle562 hle574), hw, hf.to ⟨rfl, rfl, rfl, rfl, rfl, trivial⟩, hRR595⟩ hp
   ·replace hp := cond_f hb563 hp
    refine wp_exit <| c_thenE <| c_thenE <| c_exit <| ct ?_
    have ho := oI hp
    subst ho
    exact ⟨y514, I513, yv515, m516, cs517, rfl, hle562, hw, hf.to ⟨rfl, trivial⟩, hRR518⟩
  ·intro a w hM
   obtain ⟨y555, I554, yv556, m557, cs558, rfl, hle597, hw, hf, hRR559⟩ := hM
   replace hp := hq561
   replace hG := hG.mono hle597
   refine ct <| wq <| wr <| om hf rfl rfl fun a hf => oa hf rfl rfl fun a hf => oa hf rfl rfl fun a hf => oN <| ct <| wp_ret ?_
   have hw : Ok E I554 (.row yv556 9 1 m557 cs558 :: F) w := hw.front (i := 0) rfl
   obtain ⟨I598, hle599, hw, hR600⟩ := row_freeze (K := ekS) hw hRR559
   replace hG := hG.mono hle599
   have ho := oI hp
   simp only [Prod.mk.injEq] at ho
   obtain ⟨rfl, rfl⟩ := ho
   exact b_ret2 hf Go.Proofs.Tryd.results33 rfl rfl ⟨_, rfl, ⟨I598, yv556, rfl, (IH.le_trans (IH.le_trans hle185 hle597) hle599), hw, hR600⟩⟩

theorem law16_wakes_ok {E : World} {I : IH} {F : List Atom} {w : World} {res0 : Bool} (hw : Ok E I (F) w) (hG : Gl I) (hp : law16_wakes.f = some res0) :
  Calls P 32 ⟨[]⟩ w fun e w' => ∃ v, e = .returned v ∧ v = Value.bool res0 ∧ Ok E I (F) w' := by
 refine c_enter Go.Proofs.Tryd.func32 rfl Go.Proofs.Tryd.ntmps32 rfl fun a hf => ?_
 replace hf : Fr 53 [] a := hf
 unfold law16_wakes.f at hp
 refine wq <| wr <| oa hf rfl rfl fun a hf => oN <| ct <| wq <| wr <| oR hf (r_build hf bd_58 (vs := [Value.string (⟨#[97]⟩ : ByteArray), Value.string (⟨#[49]⟩ : ByteArray)]) rfl ⟨rfl, rfl, trivial⟩ (by decide) (out := [Value.string (⟨#[97]⟩ : ByteArray), Value.string (⟨#[49]⟩ : ByteArray)]) rfl) rfl fun a hf => oR hf (r_build hf bd_58 (vs := [Value.string (⟨#[98]⟩ : ByteArray)]) rfl ⟨rfl, trivial⟩ (by decide) (out := [Value.string (⟨#[98]⟩ : ByteArray), Value.string (⟨#[]⟩ : ByteArray)]) rfl) rfl fun a hf => ?_
 obtain ⟨w, v1, hrun2, hw, hRR3⟩ := e_buildSlice (P := P) (K := ek_Pair) (m := 2) hw hf (parts := [(0, .tmp 8), (1, .tmp 9)]) el_45 ty_58 rfl rfl rfl (ccs := [[Value.string (⟨#[97]⟩ : ByteArray), Value.string (⟨#[49]⟩ : ByteArray)], [Value.string (⟨#[98]⟩ : ByteArray), Value.string (⟨#[]⟩ : ByteArray)]]) rfl (xs := [(⟨(⟨#[97]⟩ : ByteArray), (⟨#[49]⟩ : ByteArray)⟩ : Pair), (⟨(⟨#[98]⟩ : ByteArray), (⟨#[]⟩ : ByteArray)⟩ : Pair)]) ⟨rfl, rfl, trivial⟩ rfl
 obtain ⟨cs4, hcs⟩ : ∃ cs, cs = ([[Value.string (⟨#[97]⟩ : ByteArray), Value.string (⟨#[49]⟩ : ByteArray)], [Value.string (⟨#[98]⟩ : ByteArray), Value.string (⟨#[]⟩ : ByteArray)]] : List (List Value)).flatten := ⟨_, rfl⟩
 rw [← hcs] at hw hRR3; clear hcs
 refine o_eff hf (hrun2 ..) rfl fun a hf => ?_
 have hw : Ok E I (.row v1 58 2 2 cs4 :: F) w := hw.front (i := 0) rfl
 obtain ⟨I1103, hle1104, hw, hR1105⟩ := row_freeze (K := ek_Pair) hw hRR3
 replace hG := hG.mono hle1104
 obtain ⟨y1106, hy1107, hp⟩ := bS hp
 have hc1109 := ref10_Build_ok hw hG hR1105 hy1107
 refine o_call hf cb_26 rfl rfl hc1109 (fun v1115 w a hK1110 hf => ?_)
 obtain ⟨I2_1110, rvv1111, rvv1113, rfl, hle1116, hw, hR1112, hR1114⟩ := hK1110
 replace hG := hG.mono hle1116
 replace hR1105 := hR1105.mono hle1116
 refine oR hf (r_field hf rfl fd_48_0 ty_23 rfl) rfl fun a hf => oa hf rfl rfl fun a hf => oN <| ct <| wq <| wr <| om hf rfl rfl fun a hf => ?_
 obtain ⟨y604, hy603, hp⟩ := bS hp
 obtain ⟨y601, y602⟩ := y604
 have hc605 := prove_Of_ok hw hG hR1112 hy603
 refine o_call hf cb_33 rfl rfl hc605 (fun v609 w a hK606 hf => ?_)
 obtain ⟨I2_606, rvv607, rfl, hle610, hw, hR608⟩ := hK606
 replace hG := hG.mono hle610
 replace hR1105 := hR1105.mono hle610
 replace hR1112 := hR1112.mono hle610
 replace hR1114 := hR1114.mono hle610
 refine om hf rfl rfl fun a hf => oR hf (rE hf rfl rfl) rfl fun a hf => oR hf (rE hf rfl rfl) rfl fun a hf => oa hf rfl rfl fun a hf => oa hf rfl rfl fun a hf => oN <| ct <| wq <| wr ?_
 obtain ⟨y614, hy613, hp⟩ := bS hp
 obtain ⟨y611, y612⟩ := y614
 have hc615 := prove_Of_ok hw hG (RS.nil (K := ek_Node)) hy613
 refine o_call hf cb_33 rfl rfl hc615 (fun v619 w a hK616 hf => ?_)
 obtain ⟨I2_616, rvv617, rfl, hle620, hw, hR618⟩ := hK616
 replace hG := hG.mono hle620
 replace hR1105 := hR1105.mono hle620
 replace hR1112 := hR1112.mono hle620
 replace hR1114 := hR1114.mono hle620
 replace hR608 := hR608.mono hle620
 refine om hf rfl rfl fun a hf => oR hf (rE hf rfl rfl) rfl fun a hf => oR hf (rE hf rfl rfl) rfl fun a hf => oa hf rfl rfl fun a hf => oa hf rfl rfl fun a hf => oN <| ct <| wq <| wr <| om hf rfl rfl fun a hf => ?_
 obtain ⟨y624, hy623, hp⟩ := bS hp
 obtain ⟨y621, y622⟩ := y624
 have hc625 := prove_Of_ok hw hG hR1112 hy623
 refine o_call hf cb_33 rfl rfl hc625 (fun v629 w a hK626 hf => ?_)
 obtain ⟨I2_626, rvv627, rfl, hle630, hw, hR628⟩ := hK626
 replace hG := hG.mono hle630
 replace hR1105 := hR1105.mono hle630
 replace hR1112 := hR1112.mono hle630
 replace hR1114 := hR1114.mono hle630
 replace hR608 := hR608.mono hle630
 replace hR618 := hR618.mono hle630
 refine om hf rfl rfl fun a hf => oR hf (rE hf rfl rfl) rfl fun a hf => oR hf (rE hf rfl rfl) rfl fun a hf => oa hf rfl rfl fun a hf => oa hf rfl rfl fun a hf => oN <| ct ?_
 obtain ⟨out644, hp, hq645⟩ := bS hp
 refine c_cut (fun a w => ∃ y643 : Bool, y643 = out644 ∧ Ok E I2_626 (F) w ∧ Fr 53 ([(0, .bool y643)]) a) ?_ ?_
 ·refine wr <| om hf rfl rfl fun a hf => oR hf (iC hf rfl rfl rfl) rfl fun a hf => om hf rfl rfl fun a hf => g_split hf (g := 29) rfl (fun hb646 hf => ?_) (fun hb646 hf => ?_)
  ·replace hp := cond_t hb646 hp
   refine oW hf (g := 29) rfl rfl <| om hf rfl rfl fun a hf => oW hf (g := 29) rfl rfl <| oR hf (r_lenL (K := ekS) hf el_28 rfl (hR608.rd hw)) rfl fun a hf => oW hf (g := 29) rfl rfl <| oR hf (iC hf rfl rfl rfl) rfl fun a hf => oR hf (pT hf rfl rfl) rfl fun a hf => om hf rfl rfl fun a hf => g_split hf (g := 34) rfl (fun hb647 hf => ?_) (fun hb647 hf => ?_)
   ·replace hp := cond_t hb647 hp
    refine oW hf (g := 34) rfl rfl <| om hf rfl rfl fun a hf => ?_
    obtain ⟨hg648, hp⟩ := gS hp
    refine oW hf (g := 34) rfl rfl <| oR hf (rI (K := ekS) hf el_28 rfl rfl (hR608.rd hw) hg648) rfl fun a hf => oW hf (g := 34) rfl rfl <| oR hf (r_loadH (K := ekS) hf rfl ty_9 (hR608.rd hw) hg648 rfl (fun cs h => ekS_f0 h)) rfl fun a hf => oW hf (g := 34) rfl rfl <| oR hf (r_scmp hf rfl rfl rfl) rfl fun a hf => oR hf (pT hf rfl rfl) rfl fun a hf => om hf rfl rfl fun a hf => g_split hf (g := 40) rfl (fun hb649 hf => ?_) (fun hb649 hf => ?_)
    ·replace hp := cond_t hb649 hp
     refine oW hf (g := 40) rfl rfl <| om hf rfl rfl fun a hf => oW hf (g := 40) rfl rfl <| oR hf (iC hf rfl rfl rfl) rfl fun a hf => oR hf (pT hf rfl rfl) rfl fun a hf => om hf rfl rfl fun a hf => g_split hf (g := 44) rfl (fun hb650 hf => ?_) (fun hb650 hf => ?_)
     ·replace hp := cond_t hb650 hp
      refine oW hf (g := 44) rfl rfl <| om hf rfl rfl fun a hf => oW hf (g := 44) rfl rfl <| oR hf (r_lenL (K := ekS) hf el_28 rfl (hR618.rd hw)) rfl fun a hf => oW hf (g := 44) rfl rfl <| oR hf (iC hf rfl rfl rfl) rfl fun a hf => oR hf (pT hf rfl rfl) rfl fun a hf => om hf rfl rfl fun a hf => g_split hf (g := 49) rfl (fun hb651 hf => ?_) (fun hb651 hf => ?_)
      ·replace hp := cond_t hb651 hp
       refine oW hf (g := 49) rfl rfl <| om hf rfl rfl fun a hf => oW hf (g := 49) rfl rfl <| oR hf (iC hf rfl rfl rfl) rfl fun a hf => oR hf (pT hf rfl rfl) rfl fun a hf => oa hf rfl rfl fun a hf => oN <| ct ?_
       have ho := oI hp
       subst ho
       exact ⟨(y622 == 9), rfl, hw, hf.to ⟨rfl, trivial⟩⟩
      ·replace hp := cond_f hb651 hp
       refine oS hf (g := 49) rfl rfl rfl rfl rfl rfl fun a hf => oS hf (g := 49) rfl rfl rfl rfl rfl rfl fun a hf => oR hf (pF hf rfl rfl) rfl fun a hf => oa hf rfl rfl fun a hf => oN <| ct ?_
       have ho := oI hp
       subst ho
       exact ⟨false, rfl, hw, hf.to ⟨rfl, trivial⟩⟩
     ·replace hp := cond_f hb650 hp
      refine oS hf (g := 44) rfl rfl rfl rfl rfl rfl fun a hf => oS hf (g := 44) rfl rfl rfl rfl rfl rfl fun a hf => oS hf (g := 44) rfl rfl rfl rfl rfl rfl fun a hf => oR hf (pF hf rfl rfl) rfl fun a hf => om hf rfl rfl fun a hf => oS hf (g := 49) rfl rfl rfl rfl rfl rfl fun a hf => oS hf (g := 49) rfl rfl rfl rfl rfl rfl fun a hf => oR hf (pF hf rfl rfl) rfl fun a hf => oa hf rfl rfl fun a hf => oN <| ct ?_
      have ho := oI hp
      subst ho
      exact ⟨false, rfl, hw, hf.to ⟨rfl, trivial⟩⟩
    ·replace hp := cond_f hb649 hp
     refine oS hf (g := 40) rfl rfl rfl rfl rfl rfl fun a hf => oS hf (g := 40) rfl rfl rfl rfl rfl rfl fun a hf => oR hf (pF hf rfl rfl) rfl fun a hf => om hf rfl rfl fun a hf => oS hf (g := 44) rfl rfl rfl rfl rfl rfl fun a hf => oS hf (g := 44) rfl rfl rfl rfl rfl rfl fun a hf => oS hf (g := 44) rfl rfl rfl rfl rfl rfl fun a hf => oR hf (pF hf rfl rfl) rfl fun a hf => om hf rfl rfl fun a hf => oS hf (g := 49) rfl rfl rfl rfl rfl rfl fun a hf => oS hf (g := 49) rfl rfl rfl rfl rfl rfl fun a hf => oR hf (pF hf rfl rfl) rfl fun a hf => oa hf rfl rfl fun a hf => oN <| ct ?_
     have ho := oI hp
     subst ho
     exact ⟨false, rfl, hw, hf.to ⟨rfl, trivial⟩⟩
   ·replace hp := cond_f hb647 hp
    refine oS hf (g := 34) rfl rfl rfl rfl rfl rfl fun a hf => oS hf (g := 34) rfl rfl rfl rfl rfl rfl fun a hf => oS hf (g := 34) rfl rfl rfl rfl rfl rfl fun a hf => oS hf (g := 34) rfl rfl rfl rfl rfl rfl fun a hf => oR hf (pF hf rfl rfl) rfl fun a hf => om hf rfl rfl fun a hf => oS hf (g := 40) rfl rfl rfl rfl rfl rfl fun a hf => oS hf (g := 40) rfl rfl rfl rfl rfl rfl fun a hf => oR hf (pF hf rfl rfl) rfl fun a hf => om hf rfl rfl fun a hf => oS hf (g := 44) rfl rfl rfl rfl rfl rfl fun a hf => oS hf (g := 44) rfl rfl rfl rfl rfl rfl fun a hf => oS hf (g := 44) rfl rfl rfl rfl rfl rfl fun a hf => oR hf (pF hf rfl rfl) rfl fun a hf => om hf rfl rfl fun a hf => oS hf (g := 49) rfl rfl rfl rfl rfl rfl fun a hf => ?_
    refine oS hf (g := 49) rfl rfl rfl rfl rfl rfl fun a hf => oR hf (pF hf rfl rfl) rfl fun a hf => oa hf rfl rfl fun a hf => oN <| ct ?_
    have ho := oI hp
    subst ho
    exact ⟨false, rfl, hw, hf.to ⟨rfl, trivial⟩⟩
  ·replace hp := cond_f hb646 hp
   refine oS hf (g := 29) rfl rfl rfl rfl rfl rfl fun a hf => oS hf (g := 29) rfl rfl rfl rfl rfl rfl fun a hf => oS hf (g := 29) rfl rfl rfl rfl rfl rfl fun a hf => oR hf (pF hf rfl rfl) rfl fun a hf => om hf rfl rfl fun a hf => oS hf (g := 34) rfl rfl rfl rfl rfl rfl fun a hf => oS hf (g := 34) rfl rfl rfl rfl rfl rfl fun a hf => oS hf (g := 34) rfl rfl rfl rfl rfl rfl fun a hf => oS hf (g := 34) rfl rfl rfl rfl rfl rfl fun a hf => oR hf (pF hf rfl rfl) rfl fun a hf => om hf rfl rfl fun a hf => oS hf (g := 40) rfl rfl rfl rfl rfl rfl fun a hf => oS hf (g := 40) rfl rfl rfl rfl rfl rfl fun a hf => oR hf (pF hf rfl rfl) rfl fun a hf => om hf rfl rfl fun a hf => oS hf (g := 44) rfl rfl rfl rfl rfl rfl fun a hf => ?_
   refine oS hf (g := 44) rfl rfl rfl rfl rfl rfl fun a hf => oS hf (g := 44) rfl rfl rfl rfl rfl rfl fun a hf => oR hf (pF hf rfl rfl) rfl fun a hf => om hf rfl rfl fun a hf => oS hf (g := 49) rfl rfl rfl rfl rfl rfl fun a hf => oS hf (g := 49) rfl rfl rfl rfl rfl rfl fun a hf => oR hf (pF hf rfl rfl) rfl fun a hf => oa hf rfl rfl fun a hf => oN <| ct ?_
   have ho := oI hp
   subst ho
   exact ⟨false, rfl, hw, hf.to ⟨rfl, trivial⟩⟩
 ·intro a w hM
  obtain ⟨y643, rfl, hw, hf⟩ := hM
  replace hp := hq645
  refine wp_ret ?_
  have ho := oI hp
  subst ho
  exact b_ret1 hf Go.Proofs.Tryd.results32 rfl ⟨_, rfl, ⟨rfl, (hw.back (IH.le_trans (IH.le_trans (IH.le_trans (IH.le_trans hle1104 hle1116) hle610) hle620) hle630) sr)⟩⟩
end Go.Lf
