import Derived.Test.YtckhmgglgbnaaaaGreatDoorZD
import Derived.Test.YtckhmgglgbnaaaaGreatDoorZF
import Derived.Test.YtckhmgglgbnaaaaGreatDoorJ
import Derived.Test.YtckhmgglgbnaaaaGreatDoorUB
import Derived.Test.YtckhmgglgbnaaaaGreatDoorZK10
import Derived.Test.YtckhmgglgbnaaaaGreatDoorZK11
import Derived.Test.YtckhmgglgbnaaaaGreatDoorZK12
import Derived.Test.YtckhmgglgbnaaaaGreatDoorZK15
set_option linter.unusedVariables false
set_option linter.unusedSimpArgs false
set_option maxHeartbeats 1000000
set_option maxRecDepth 20000
namespace Go.Lf
open Go Go.Proofs.Tryz
theorem verify_steps_ok {E : World} {I : IH} {F : List Atom} {w : World} {a0 : ByteArray} {a1 : ByteArray} {a2 : List ByteArray} {a2v611 : Value} {res0 : Int} {res1 : verify_state_T} (hw : Ok E I (F) w) (hG : Gl I) (hR612 : RS ekS I a2v611 a2) (hp : verify_steps.f a0 a1 a2 = some (res0, res1)) :
  Calls P 38 ⟨[Value.string a0, Value.string a1, a2v611]⟩ w fun e w' => ∃ v, e = .returned v ∧ v = Value.tuple ⟨[Value.int .i64 res0, Value.agg ⟨[Value.string res1.p_left_, Value.string res1.p_hash_, Value.bool res1.p_over_, Value.bool res1.p_answer_.has_, Value.string res1.p_answer_.value_]⟩]⟩ ∧ Ok E I (F) w' := by
 refine c_enter func38 rfl ntmps38 rfl fun a hf => ?_
 replace hf : Fr 51 [(0, .string a0), (1, .string a1), (2, a2v611)] a := hf
 unfold verify_steps.f at hp
 refine wq <| wr <| oa hf rfl rfl fun a hf => ?_
 obtain ⟨b1, w, hrun2, hw⟩ := e_alloc (P := P) (a := a) hw ty_92
 refine o_eff hf (hrun2 ..) rfl fun a hf => oN <| ct <| wq <| wr <| om hf rfl rfl fun a hf => ?_
 obtain ⟨y88, hy89, hp⟩ := bS hp
 have hc91 := nibble_Of_ok hw hG hy89
 refine o_call hf cb_69 rfl rfl hc91 (fun v93 w a hK92 hf => ?_)
 obtain ⟨rfl, hw⟩ := hK92
 refine om hf rfl rfl fun a hf => oR hf (r_build hf bd_92 (vs := [.string y88, .string a0]) rfl ⟨rfl, rfl, trivial⟩ (by decide) (out := [.string y88, .string a0, .bool false, .bool false, .string e0]) rfl) rfl fun a hf => ?_
 obtain ⟨b94, w, hrun95, hw⟩ := e_alloc (P := P) (a := a) hw ty_92
 refine o_eff hf (hrun95 ..) rfl fun a hf => ?_
 obtain ⟨w, hrun97, hw⟩ := e_store (P := P) hw hf (x := .tmp 8) (y := .tmp 16) rfl rfl ty_92 0 rfl (vs := [.string y88, .string a0, .bool false, .bool false, .string e0]) rfl rfl (oC rfl (oC rfl (oC rfl (oC rfl (oC rfl ones_nil))))) (by simp [arrC_len]) (cs' := [.string y88, .string a0, .bool false, .bool false, .string e0]) rfl
 dsimp only [List.set] at hw
 refine o_effU (hrun97 ..) <| oN <| ct <| wq <| wq <| wr <| om hf rfl rfl fun a hf => oR hf (r_lenL (K := ekS) hf el_28 rfl (hR612.rd hw)) rfl fun a hf => om hf rfl rfl fun a hf => oN <| ct ?_
 obtain ⟨out499, hp, hq500⟩ := bS hp
 refine c_cutX (fun a w => ∃ y494 : ByteArray, ∃ y495 : ByteArray, ∃ y496 : Bool, ∃ y497 : Bool, ∃ y498 : ByteArray, ∃ I493 : IH, (.inl (y494, y495, y496, y497, y498)) = out499 ∧ IH.le I I493 ∧ Ok E I493 (.blk b94 (.cells ⟨[.string y494, .string y495, .bool y496, .bool y497, .string y498]⟩ 92 (0, 0)) :: .blk b1 (.cells ⟨[.string e0, .string e0, .bool false, .bool false, .string e0]⟩ 92 (0, 0)) :: F) w ∧ Fr 51 ([(2, a2v611), (7, .pointer (some ⟨b1, 0, none⟩)), (8, .pointer (some ⟨b94, 0, none⟩))]) a) ?_ ?_
 ·refine wp_block <| c_loop <| c_fuel (verify_steps.l0 a2) out499 (fun (y310, y311, y312, y313, y314, y315) a w => ∃ I309 : IH, IH.le I I309 ∧ Ok E I309 (.blk b94 (.cells ⟨[.string y310, .string y311, .bool y312, .bool y313, .string y314]⟩ 92 (0, 0)) :: .blk b1 (.cells ⟨[.string e0, .string e0, .bool false, .bool false, .string e0]⟩ 92 (0, 0)) :: F) w ∧ Fr 51 ([(2, a2v611), (7, .pointer (some ⟨b1, 0, none⟩)), (8, .pointer (some ⟨b94, 0, none⟩)), (17, a2v611), (18, .int .i64 (a2.length : Int)), (19, .int .i64 y315)]) a) (fun _ => rfl) ?_ BIG (y88, a0, false, false, e0, 0) _ _ ⟨I, (IH.le_refl _), hw, hf.to ⟨rfl, rfl, rfl, rfl, rfl, rfl, trivial⟩⟩ hp
  intro k st a w hI hp ih
  obtain ⟨y310, y311, y312, y313, y314, y315⟩ := st
  obtain ⟨I309, hle501, hw, hf⟩ := hI
  rw [verify_steps.l0] at hp
  replace hG := hG.mono hle501
  replace hR612 := hR612.mono hle501
  refine wq <| wr <| oR hf (iC hf rfl rfl rfl) rfl fun a hf => oN <| ct <| wq <| cC hf rfl (fun hb502 => ?_) (fun hb502 => ?_)
  ·replace hp := cond_t hb502 hp
   refine wp_skip <| ct <| wq <| wp_block <| wq <| wr <| om hf rfl rfl fun a hf => ?_
   obtain ⟨hg591, hp⟩ := gS hp
   refine oR hf (rI (K := ekS) hf el_28 rfl rfl (hR612.rd hw) hg591) rfl fun a hf => oR hf (r_loadH (K := ekS) hf rfl ty_9 (hR612.rd hw) hg591 rfl (fun cs h => ekS_f0 h)) rfl fun a hf => oa hf rfl rfl fun a hf => oa hf rfl rfl fun a hf => oN <| ct <| wq <| wr <| om hf rfl rfl fun a hf => ?_
   obtain ⟨y595, hy594, hp⟩ := bS hp
   obtain ⟨y592, y593⟩ := y595
   have hc596 := node_Decode_ok hw hG hy594
   refine o_call hf cb_70 rfl rfl hc596 (fun v600 w a hK597 hf => ?_)
   obtain ⟨I2_597, rvv598, rfl, hle601, hw, hR599⟩ := hK597
   replace hG := hG.mono hle601
   replace hR612 := hR612.mono hle601
   refine om hf rfl rfl fun a hf => oR hf (rE hf rfl rfl) rfl fun a hf => oR hf (rE hf rfl rfl) rfl fun a hf => ?_
   obtain ⟨b602, w, hrun603, hw⟩ := e_alloc (P := P) (a := a) hw ty_86
   replace hw : Ok E I2_597 (.blk b602 (.cells ⟨[.int .i64 0, .string e0, .bool false, .string e0, .int .i64 0, .slice none 0 0]⟩ 86 (0, 0)) :: .blk b94 (.cells ⟨[.string y310, .string y311, .bool y312, .bool y313, .string y314]⟩ 92 (0, 0)) :: .blk b1 (.cells ⟨[.string e0, .string e0, .bool false, .bool false, .string e0]⟩ 92 (0, 0)) :: F) w := hw
   refine o_eff hf (hrun603 ..) rfl fun a hf => ?_
   obtain ⟨w, hrun605, hw⟩ := e_store (P := P) hw hf (x := .tmp 11) (y := .tmp 27) rfl rfl ty_86 0 rfl (vs := [.int .i64 y592.kind_, .string y592.path_, .bool y592.has_, .string y592.value_, .int .i64 y592.mask_, rvv598]) rfl rfl (oC rfl (oC rfl (oC rfl (oC rfl (oC rfl (oC hR599.one ones_nil)))))) (by simp [arrC_len]) (cs' := [.int .i64 y592.kind_, .string y592.path_, .bool y592.has_, .string y592.value_, .int .i64 y592.mask_, rvv598]) rfl
   replace hw : Ok E I2_597 (.blk b602 (.cells ⟨[.int .i64 y592.kind_, .string y592.path_, .bool y592.has_, .string y592.value_, .int .i64 y592.mask_, rvv598]⟩ 86 (0, 0)) :: .blk b94 (.cells ⟨[.string y310, .string y311, .bool y312, .bool y313, .string y314]⟩ 92 (0, 0)) :: .blk b1 (.cells ⟨[.string e0, .string e0, .bool false, .bool false, .string e0]⟩ 92 (0, 0)) :: F) w := hw
   refine o_effU (hrun605 ..) <| oa hf rfl rfl fun a hf => oN <| ct <| wq ?_
   obtain ⟨out658, hp, hq659⟩ := bS hp
   refine c_cut (fun a w => ∃ y657 : Bool, y657 = out658 ∧ Ok E I2_597 (.blk b602 (.cells ⟨[.int .i64 y592.kind_, .string y592.path_, .bool y592.has_, .string y592.value_, .int .i64 y592.mask_, rvv598]⟩ 86 (0, 0)) :: .blk b94 (.cells ⟨[.string y310, .string y311, .bool y312, .bool y313, .string y314]⟩ 92 (0, 0)) :: .blk b1 (.cells ⟨[.string e0, .string e0, .bool false, .bool false, .string e0]⟩ 92 (0, 0)) :: F) w ∧ Fr 51 ([(2, a2v611), (7, .pointer (some ⟨b1, 0, none⟩)), (8, .pointer (some ⟨b94, 0, none⟩)), (9, .int .i64 y315), (11, .pointer (some ⟨b602, 0, none⟩)), (17, a2v611), (18, .int .i64 (a2.length : Int)), (19, .int .i64 y315), (41, .bool y657)]) a) ?_ ?_
   ·refine c_drawn mix [] (.rd 0 (.rd 1 (.rd 2 (.rd 3 (.rd 4 (.rd 5 (.rd 6 (.rd 7 (.rd 9 (.rd 10 (.ef 8 (.rd 11 (.rd 12 .done))))))))))))) (by kernel_rfl) hw (fun w => Ok E I2_597 (.blk b602 (.cells ⟨[.int .i64 y592.kind_, .string y592.path_, .bool y592.has_, .string y592.value_, .int .i64 y592.mask_, rvv598]⟩ 86 (0, 0)) :: .blk b94 (.cells ⟨[.string y310, .string y311, .bool y312, .bool y313, .string y314]⟩ 92 (0, 0)) :: .blk b1 (.cells ⟨[.string e0, .string e0, .bool false, .bool false, .string e0]⟩ 92 (0, 0)) :: F) w) (fun w hw => ⟨hw.sub (scc (scc (scc sr))), ?_⟩)
    refine tR rfl hf (fun w hw => rF hf rfl fd_92_2) rfl fun a hf => tR rfl hf (fun w hw => rL hw hf rfl ty_4 1 rfl rfl) rfl fun a hf => tm rfl hf rfl rfl fun a hf => g_split hf (g := 31) rfl (fun hb661 hf => ?_) (fun hb661 hf => ?_)
    ·replace hp := cond_t hb661 hp
     refine tS rfl rfl hf rfl rfl rfl fun a hf => tS rfl rfl hf rfl rfl rfl fun a hf => tR rfl hf (fun w hw => pT hf rfl rfl) rfl fun a hf => tm rfl hf rfl rfl fun a hf => tS rfl rfl hf rfl rfl rfl fun a hf => tS rfl rfl hf rfl rfl rfl fun a hf => tS rfl rfl hf rfl rfl rfl fun a hf => t_ef rfl <| t_skipE rfl hf rfl rfl rfl fun a hf => ⟨.inr (hw.back (IH.le_refl _) (scc (scc (scc sr)))), ?_⟩
     refine tS rfl rfl hf rfl rfl rfl fun a hf => tR rfl hf (fun w hw => pT hf rfl rfl) rfl fun a hf => t_done <| ct ?_
     have ho := oI hp
     subst ho
     exact ⟨true, rfl, hw, hf.to ⟨rfl, rfl, rfl, rfl, rfl, rfl, rfl, rfl, rfl, trivial⟩⟩
    ·replace hp := cond_f hb661 hp
     refine tG rfl rfl hf rfl (fun w hw => r_move hf rfl) rfl fun a hf => tG rfl rfl hf rfl (fun w hw => r_not hf rfl) rfl fun a hf => tR rfl hf (fun w hw => pF hf rfl rfl) rfl fun a hf => tm rfl hf rfl rfl fun a hf => g_split hf (g := 35) rfl (fun hb662 hf => ?_) (fun hb662 hf => ?_)
     ·replace hp := cond_t hb662 hp
      refine tS rfl rfl hf rfl rfl rfl fun a hf => tS rfl rfl hf rfl rfl rfl fun a hf => tS rfl rfl hf rfl rfl rfl fun a hf => t_ef rfl <| t_skipE rfl hf rfl rfl rfl fun a hf => ⟨.inr (hw.back (IH.le_refl _) (scc (scc (scc sr)))), ?_⟩
      refine tS rfl rfl hf rfl rfl rfl fun a hf => tR rfl hf (fun w hw => pT hf rfl rfl) rfl fun a hf => t_done <| ct ?_
      have ho := oI hp
      subst ho
      exact ⟨true, rfl, hw, hf.to ⟨rfl, rfl, rfl, rfl, rfl, rfl, rfl, rfl, rfl, trivial⟩⟩
     ·replace hp := cond_f hb662 hp
      refine tG rfl rfl hf rfl (fun w hw => r_move hf rfl) rfl fun a hf => tG rfl rfl hf rfl (fun w hw => rF hf rfl fd_92_1) rfl fun a hf => tG rfl rfl hf rfl (fun w hw => rL hw hf rfl ty_9 1 rfl rfl) rfl fun a hf => t_ef rfl ?_
      obtain ⟨y663, hy664, hp⟩ := bS hp
      have hc666 := digest_Of_ok hw hG hy664
      refine t_callG rfl hf rfl cb_68 rfl rfl hc666 (fun v668 w a hK667 hf => ?_)
      obtain ⟨rfl, hw⟩ := hK667
      refine ⟨.inr (hw.back (IH.le_refl _) (scc (scc (scc sr)))), ?_⟩
      refine tG rfl rfl hf rfl (fun w hw => r_scmp hf rfl rfl rfl) rfl fun a hf => tR rfl hf (fun w hw => pF hf rfl rfl) rfl fun a hf => t_done <| ct ?_
      have ho := oI hp
      subst ho
      exact ⟨(!(seq_ y663 y311)), rfl, hw, hf.to ⟨rfl, rfl, rfl, rfl, rfl, rfl, rfl, rfl, rfl, trivial⟩⟩
   ·intro a w hM
    obtain ⟨y657, rfl, hw, hf⟩ := hM
    replace hp := hq659
    refine cC hf rfl (fun hb669 => ?_) (fun hb669 => ?_)
    ·replace hp := cond_t hb669 hp
     refine wq <| c_drawn mix [3] (.rd 0 (.rd 1 (.rd 2 (.ef 3 .done)))) (by kernel_rfl) hw (fun w => Ok E I2_597 (.blk b602 (.cells ⟨[.int .i64 y592.kind_, .string y592.path_, .bool y592.has_, .string y592.value_, .int .i64 y592.mask_, rvv598]⟩ 86 (0, 0)) :: .blk b94 (.cells ⟨[.string y310, .string y311, .bool y312, .bool y313, .string y314]⟩ 92 (0, 0)) :: .blk b1 (.cells ⟨[.string e0, .string e0, .bool false, .bool false, .string e0]⟩ 92 (0, 0)) :: F) w) (fun w hw => ⟨hw.sub (scc (scc (scc sr))), ?_⟩)
     refine tm rfl hf rfl rfl fun a hf => tR rfl hf (fun w hw => r_loadA hw hf rfl ty_92 1 rfl (vs := [.string y310, .string y311, .bool y312, .bool y313, .string y314]) rfl rfl) rfl fun a hf => tR rfl hf (fun w hw => r_assign hf rfl) rfl fun a hf => t_ef rfl ?_
     obtain ⟨w, hrun671, hw⟩ := e_store (P := P) hw hf (x := .tmp 7) (y := .tmp 43) rfl rfl ty_92 2 rfl (vs := [.string y310, .string y311, .bool y312, .bool y313, .string y314]) rfl rfl (oC rfl (oC rfl (oC rfl (oC rfl (oC rfl ones_nil))))) (by simp [arrC_len]) (cs' := [.string y310, .string y311, .bool y312, .bool y313, .string y314]) rfl
     replace hw : Ok E I2_597 (.blk b602 (.cells ⟨[.int .i64 y592.kind_, .string y592.path_, .bool y592.has_, .string y592.value_, .int .i64 y592.mask_, rvv598]⟩ 86 (0, 0)) :: .blk b94 (.cells ⟨[.string y310, .string y311, .bool y312, .bool y313, .string y314]⟩ 92 (0, 0)) :: .blk b1 (.cells ⟨[.string y310, .string y311, .bool y312, .bool y313, .string y314]⟩ 92 (0, 0)) :: F) w := hw
     refine t_effU (hrun671 ..) ⟨.inl rfl, ?_⟩
     refine t_done <| ct <| wp_ret <| c_thenR <| c_blockR <| c_thenR <| c_thenR <| c_blockR <| c_thenR ?_
     have ho := oI hp
     subst ho
     replace hp := hq500
     refine c_thenR ?_
     replace hw : Ok E I2_597 (.blk b1 (.cells ⟨[.string y310, .string y311, .bool y312, .bool y313, .string y314]⟩ 92 (0, 0)) :: F) w := hw.sub (sc (sc (scc sr)))
     have ho := oI hp
     simp only [Prod.mk.injEq] at ho
     obtain ⟨rfl, rfl⟩ := ho
     exact b_retT hw hf results38 ty_92 rfl 0 rfl (vs := [.string y310, .string y311, .bool y312, .bool y313, .string y314]) rfl rfl rfl ⟨_, rfl, ⟨rfl, (hw.tail.back (IH.le_trans hle501 hle601) sr)⟩⟩
    ·replace hp := cond_f hb669 hp
     refine wp_skip <| ct <| wr <| oR hf (r_loadA hw hf rfl ty_92 1 rfl (vs := [.string y310, .string y311, .bool y312, .bool y313, .string y314]) rfl rfl) rfl fun a hf => oR hf (r_loadA hw hf rfl ty_86 0 rfl (vs := [.int .i64 y592.kind_, .string y592.path_, .bool y592.has_, .string y592.value_, .int .i64 y592.mask_, rvv598]) rfl rfl) rfl fun a hf => ?_
     obtain ⟨y672, hy673, hp⟩ := bS hp
     have hc675 := verify_state_by_ok hw hG hR599 hy673
     refine o_call hf cb_71 rfl rfl hc675 (fun v677 w a hK676 hf => ?_)
     obtain ⟨rfl, hw⟩ := hK676
     obtain ⟨w, hrun678, hw⟩ := e_store (P := P) hw hf (x := .tmp 8) (y := .tmp 46) rfl rfl ty_92 1 rfl (vs := [.string y672.p_left_, .string y672.p_hash_, .bool y672.p_over_, .bool y672.p_answer_.has_, .string y672.p_answer_.value_]) rfl rfl (oC rfl (oC rfl (oC rfl (oC rfl (oC rfl ones_nil))))) (by simp [arrC_len]) (cs' := [.string y672.p_left_, .string y672.p_hash_, .bool y672.p_over_, .bool y672.p_answer_.has_, .string y672.p_answer_.value_]) rfl
     replace hw : Ok E I2_597 (.blk b602 (.cells ⟨[.int .i64 y592.kind_, .string y592.path_, .bool y592.has_, .string y592.value_, .int .i64 y592.mask_, rvv598]⟩ 86 (0, 0)) :: .blk b94 (.cells ⟨[.string y672.p_left_, .string y672.p_hash_, .bool y672.p_over_, .bool y672.p_answer_.has_, .string y672.p_answer_.value_]⟩ 92 (0, 0)) :: .blk b1 (.cells ⟨[.string e0, .string e0, .bool false, .bool false, .string e0]⟩ 92 (0, 0)) :: F) w := hw
     refine o_effU (hrun678 ..) <| oN <| c_blockN <| ct <| wr <| oR hf (r_add hf rfl rfl) rfl fun a hf => om hf rfl rfl fun a hf => oN <| ct ?_
     replace hw : Ok E I2_597 (.blk b94 (.cells ⟨[.string y672.p_left_, .string y672.p_hash_, .bool y672.p_over_, .bool y672.p_answer_.has_, .string y672.p_answer_.value_]⟩ 92 (0, 0)) :: .blk b1 (.cells ⟨[.string e0, .string e0, .bool false, .bool false, .string e0]⟩ 92 (0, 0)) :: F) w := hw.sub (sc (scc (scc sr)))
     exact ih (y672.p_left_, y672.p_hash_, y672.p_over_, y672.p_answer_.has_, y672.p_answer_.value_, w64 (y315 + 1)) _ _ ⟨I2_597, (IH.le_trans hle501 hle601), hw, hf.to ⟨rfl, rfl, rfl, rfl, rfl, rfl, trivial⟩⟩ hp
  ·replace hp := cond_f hb502 hp
   refine wp_exit <| c_thenE <| c_thenE <| c_exit <| ct ?_
   have ho := oI hp
   subst ho
   exact ⟨y310, y311, y312, y313, y314, I309, rfl, hle501, hw, hf.to ⟨rfl, rfl, rfl, trivial⟩⟩
 ·intro a w hM
  obtain ⟨y494, y495, y496, y497, y498, I493, rfl, hle679, hw, hf⟩ := hM
  replace hp := hq500
  replace hG := hG.mono hle679
  replace hR612 := hR612.mono hle679
  refine ct <| wq <| c_drawn mix [4] (.rd 0 (.rd 1 (.rd 2 (.rd 3 (.ef 4 .done))))) (by kernel_rfl) hw (fun w => Ok E I493 (.blk b94 (.cells ⟨[.string y494, .string y495, .bool y496, .bool y497, .string y498]⟩ 92 (0, 0)) :: .blk b1 (.cells ⟨[.string e0, .string e0, .bool false, .bool false, .string e0]⟩ 92 (0, 0)) :: F) w) (fun w hw => ⟨hw.sub (scc (scc sr)), ?_⟩)
  refine tm rfl hf rfl rfl fun a hf => tR rfl hf (fun w hw => r_lenL (K := ekS) hf el_28 rfl (hR612.rd hw)) rfl fun a hf => tR rfl hf (fun w hw => r_loadA hw hf rfl ty_92 0 rfl (vs := [.string y494, .string y495, .bool y496, .bool y497, .string y498]) rfl rfl) rfl fun a hf => tR rfl hf (fun w hw => r_assign hf rfl) rfl fun a hf => t_ef rfl ?_
  obtain ⟨w, hrun681, hw⟩ := e_store (P := P) hw hf (x := .tmp 7) (y := .tmp 50) rfl rfl ty_92 1 rfl (vs := [.string y494, .string y495, .bool y496, .bool y497, .string y498]) rfl rfl (oC rfl (oC rfl (oC rfl (oC rfl (oC rfl ones_nil))))) (by simp [arrC_len]) (cs' := [.string y494, .string y495, .bool y496, .bool y497, .string y498]) rfl
  replace hw : Ok E I493 (.blk b94 (.cells ⟨[.string y494, .string y495, .bool y496, .bool y497, .string y498]⟩ 92 (0, 0)) :: .blk b1 (.cells ⟨[.string y494, .string y495, .bool y496, .bool y497, .string y498]⟩ 92 (0, 0)) :: F) w := hw
  refine t_effU (hrun681 ..) ⟨.inl rfl, ?_⟩
  refine t_done <| ct <| wp_ret ?_
  replace hw : Ok E I493 (.blk b1 (.cells ⟨[.string y494, .string y495, .bool y496, .bool y497, .string y498]⟩ 92 (0, 0)) :: F) w := hw.sub (sc (scc sr))
  have ho := oI hp
  simp only [Prod.mk.injEq] at ho
  obtain ⟨rfl, rfl⟩ := ho
  exact b_retT hw hf results38 ty_92 rfl 0 rfl (vs := [.string y494, .string y495, .bool y496, .bool y497, .string y498]) rfl rfl rfl ⟨_, rfl, ⟨rfl, (hw.tail.back hle679 sr)⟩⟩

theorem verify_Of_ok {E : World} {I : IH} {F : List Atom} {w : World} {a0 : ByteArray} {a1 : ByteArray} {a2 : List ByteArray} {a2v960 : Value} {res0 : Answer} {res1 : Bool} (hw : Ok E I (F) w) (hG : Gl I) (hR961 : RS ekS I a2v960 a2) (hp : verify_Of.f a0 a1 a2 = some (res0, res1)) :
  Calls P 13 ⟨[Value.string a0, Value.string a1, a2v960]⟩ w fun e w' => ∃ v, e = .returned v ∧ v = Value.tuple ⟨[Value.agg ⟨[Value.bool res0.has_, Value.string res0.value_]⟩, Value.bool res1]⟩ ∧ Ok E I (F) w' := by
 refine c_enter func13 rfl ntmps13 rfl fun a hf => ?_
 replace hf : Fr 46 [(0, .string a0), (1, .string a1), (2, a2v960)] a := hf
 unfold verify_Of.f at hp
 refine wq <| wr ?_
 obtain ⟨b1, w, hrun2, hw⟩ := e_alloc (P := P) (a := a) hw ty_36
 refine o_eff hf (hrun2 ..) rfl fun a hf => oa hf rfl rfl fun a hf => oN <| ct <| wq <| wq <| wr <| om hf rfl rfl fun a hf => ?_
 obtain ⟨y7, hy8, hp⟩ := bS hp
 have hc10 := verify_may_ok hw hG hy8
 refine o_call hf cb_36 rfl rfl hc10 (fun v12 w a hK11 hf => ?_)
 obtain ⟨rfl, hw⟩ := hK11
 refine oR hf (r_not hf rfl) rfl fun a hf => oN <| ct <| cC hf rfl (fun hb13 => ?_) (fun hb13 => ?_)
 ·replace hp := cond_t hb13 hp
  refine wq <| wr <| oR hf (r_build hf bd_36 (vs := []) rfl trivial (by decide) (out := [.bool false, .string e0]) rfl) rfl fun a hf => ?_
  obtain ⟨w, hrun14, hw⟩ := e_store (P := P) hw hf (x := .tmp 6) (y := .tmp 13) rfl rfl ty_36 0 rfl (vs := [.bool false, .string e0]) rfl rfl (oC rfl (oC rfl ones_nil)) (by simp [arrC_len]) (cs' := [.bool false, .string e0]) rfl
  dsimp only [List.set] at hw
  refine o_effU (hrun14 ..) <| oa hf rfl rfl fun a hf => oN <| ct <| wp_ret <| c_thenR ?_
  have ho := oI hp
  simp only [Prod.mk.injEq] at ho
  obtain ⟨rfl, rfl⟩ := ho
  exact b_retC2 hw hf results13 ty_36 rfl 0 rfl (vs := [.bool false, .string e0]) rfl rfl rfl ⟨_, rfl, ⟨rfl, hw.tail⟩⟩
 ·replace hp := cond_f hb13 hp
  refine wp_skip <| ct <| wq <| wq <| wr <| om hf rfl rfl fun a hf => oR hf (r_lenL (K := ekS) hf el_28 rfl (hR961.rd hw)) rfl fun a hf => oR hf (iC hf rfl rfl rfl) rfl fun a hf => oN <| ct <| cC hf rfl (fun hb15 => ?_) (fun hb15 => ?_)
  ·replace hp := cond_t hb15 hp
   refine wq <| wr <| oR hf (r_build hf bd_36 (vs := []) rfl trivial (by decide) (out := [.bool false, .string e0]) rfl) rfl fun a hf => om hf rfl rfl fun a hf => ?_
   obtain ⟨y604, hy605, hp⟩ := bS hp
   have hc607 := root_Empty_ok hw hG hy605
   refine o_call hf cb_37 rfl rfl hc607 (fun v609 w a hK608 hf => ?_)
   obtain ⟨rfl, hw⟩ := hK608
   refine oR hf (r_scmp hf rfl rfl rfl) rfl fun a hf => ?_
   obtain ⟨w, hrun610, hw⟩ := e_store (P := P) hw hf (x := .tmp 6) (y := .tmp 17) rfl rfl ty_36 0 rfl (vs := [.bool false, .string e0]) rfl rfl (oC rfl (oC rfl ones_nil)) (by simp [arrC_len]) (cs' := [.bool false, .string e0]) rfl
   dsimp only [List.set] at hw
   refine o_effU (hrun610 ..) <| oa hf rfl rfl fun a hf => oN <| ct <| wp_ret <| c_thenR ?_
   have ho := oI hp
   simp only [Prod.mk.injEq] at ho
   obtain ⟨rfl, rfl⟩ := ho
   exact b_retC2 hw hf results13 ty_36 rfl 0 rfl (vs := [.bool false, .string e0]) rfl rfl rfl ⟨_, rfl, ⟨rfl, hw.tail⟩⟩
  ·replace hp := cond_f hb15 hp
   refine wp_skip <| ct <| wq <| wr <| om hf rfl rfl fun a hf => om hf rfl rfl fun a hf => om hf rfl rfl fun a hf => ?_
   obtain ⟨y686, hy685, hp⟩ := bS hp
   obtain ⟨y683, y684⟩ := y686
   have hc687 := verify_steps_ok hw hG hR961 hy685
   refine o_call hf cb_38 rfl rfl hc687 (fun v689 w a hK688 hf => ?_)
   obtain ⟨rfl, hw⟩ := hK688
   refine om hf rfl rfl fun a hf => oR hf (rE hf rfl rfl) rfl fun a hf => oR hf (rE hf rfl rfl) rfl fun a hf => ?_
   obtain ⟨b690, w, hrun691, hw⟩ := e_alloc (P := P) (a := a) hw ty_92
   refine o_eff hf (hrun691 ..) rfl fun a hf => oa hf rfl rfl fun a hf => ?_
   obtain ⟨w, hrun693, hw⟩ := e_store (P := P) hw hf (x := .tmp 9) (y := .tmp 27) rfl rfl ty_92 0 rfl (vs := [.string y684.p_left_, .string y684.p_hash_, .bool y684.p_over_, .bool y684.p_answer_.has_, .string y684.p_answer_.value_]) rfl rfl (oC rfl (oC rfl (oC rfl (oC rfl (oC rfl ones_nil))))) (by simp [arrC_len]) (cs' := [.string y684.p_left_, .string y684.p_hash_, .bool y684.p_over_, .bool y684.p_answer_.has_, .string y684.p_answer_.value_]) rfl
   dsimp only [List.set] at hw
   refine o_effU (hrun693 ..) <| oN <| ct <| wq ?_
   obtain ⟨out710, hp, hq711⟩ := bS hp
   refine c_cut (fun a w => ∃ y709 : Bool, y709 = out710 ∧ Ok E I (.blk b690 (.cells ⟨[.string y684.p_left_, .string y684.p_hash_, .bool y684.p_over_, .bool y684.p_answer_.has_, .string y684.p_answer_.value_]⟩ 92 (0, 0)) :: .blk b1 (.cells ⟨[.bool false, .string e0]⟩ 36 (0, 0)) :: F) w ∧ Fr 46 ([(6, .pointer (some ⟨b1, 0, none⟩)), (9, .pointer (some ⟨b690, 0, none⟩)), (42, .bool y709)]) a) ?_ ?_
   ·refine wr <| oR hf (rF hf rfl fd_92_3) rfl fun a hf => oR hf (r_loadA hw hf rfl ty_36 0 rfl (vs := [.bool y684.p_answer_.has_, .string y684.p_answer_.value_]) rfl rfl) rfl fun a hf => oR hf (r_build hf bd_36 (vs := []) rfl trivial (by decide) (out := [.bool false, .string e0]) rfl) rfl fun a hf => oR hf (r_eql_Answer hf (x := y684.p_answer_) (y := (⟨false, e0⟩ : Answer)) rfl rfl) rfl fun a hf => om hf rfl rfl fun a hf => g_split hf (g := 32) rfl (fun hb712 hf => ?_) (fun hb712 hf => ?_)
    ·replace hp := cond_t hb712 hp
     refine oW hf (g := 32) rfl rfl <| oR hf (rF hf rfl fd_92_2) rfl fun a hf => oW hf (g := 32) rfl rfl <| oR hf (rL hw hf rfl ty_4 0 rfl rfl) rfl fun a hf => oW hf (g := 32) rfl rfl <| oR hf (r_not hf rfl) rfl fun a hf => oR hf (pT hf rfl rfl) rfl fun a hf => om hf rfl rfl fun a hf => g_split hf (g := 37) rfl (fun hb713 hf => ?_) (fun hb713 hf => ?_)
     ·replace hp := cond_t hb713 hp
      refine oQ hf (g := 37) rfl fun a hf => oQ hf (g := 37) rfl fun a hf => oQ hf (g := 37) rfl fun a hf => oQ hf (g := 37) rfl fun a hf => oR hf (pT hf rfl rfl) rfl fun a hf => oN <| ct ?_
      have ho := oI hp
      subst ho
      exact ⟨true, rfl, hw, hf.to ⟨rfl, rfl, rfl, trivial⟩⟩
     ·replace hp := cond_f hb713 hp
      refine oW hf (g := 37) rfl rfl <| om hf rfl rfl fun a hf => oW hf (g := 37) rfl rfl <| om hf rfl rfl fun a hf => oW hf (g := 37) rfl rfl <| oR hf (r_lenL (K := ekS) hf el_28 rfl (hR961.rd hw)) rfl fun a hf => oW hf (g := 37) rfl rfl <| oR hf (iC hf rfl rfl rfl) rfl fun a hf => oR hf (pF hf rfl rfl) rfl fun a hf => oN <| ct ?_
      have ho := oI hp
      subst ho
      exact ⟨(decide (y683 < (a2.length : Int))), rfl, hw, hf.to ⟨rfl, rfl, rfl, trivial⟩⟩
    ·replace hp := cond_f hb712 hp
     refine oQ hf (g := 32) rfl fun a hf => oQ hf (g := 32) rfl fun a hf => oQ hf (g := 32) rfl fun a hf => oR hf (pF hf rfl rfl) rfl fun a hf => om hf rfl rfl fun a hf => oW hf (g := 37) rfl rfl <| om hf rfl rfl fun a hf => oW hf (g := 37) rfl rfl <| om hf rfl rfl fun a hf => oW hf (g := 37) rfl rfl <| oR hf (r_lenL (K := ekS) hf el_28 rfl (hR961.rd hw)) rfl fun a hf => oW hf (g := 37) rfl rfl <| oR hf (iC hf rfl rfl rfl) rfl fun a hf => oR hf (pF hf rfl rfl) rfl fun a hf => oN <| ct ?_
     have ho := oI hp
     subst ho
     exact ⟨(decide (y683 < (a2.length : Int))), rfl, hw, hf.to ⟨rfl, rfl, rfl, trivial⟩⟩
   ·intro a w hM
    obtain ⟨y709, rfl, hw, hf⟩ := hM
    replace hp := hq711
    refine cC hf rfl (fun hb714 => ?_) (fun hb714 => ?_)
    ·replace hp := cond_t hb714 hp
     refine wq <| wr <| oR hf (r_build hf bd_36 (vs := []) rfl trivial (by decide) (out := [.bool false, .string e0]) rfl) rfl fun a hf => ?_
     obtain ⟨w, hrun715, hw⟩ := e_store (P := P) hw hf (x := .tmp 6) (y := .tmp 43) rfl rfl ty_36 1 rfl (vs := [.bool false, .string e0]) rfl rfl (oC rfl (oC rfl ones_nil)) (by simp [arrC_len]) (cs' := [.bool false, .string e0]) rfl
     dsimp only [List.set] at hw
     refine o_effU (hrun715 ..) <| oa hf rfl rfl fun a hf => oN <| ct <| wp_ret <| c_thenR ?_
     replace hw : Ok E I (.blk b1 (.cells ⟨[.bool false, .string e0]⟩ 36 (0, 0)) :: F) w := hw.sub (sc (scc sr))
     have ho := oI hp
     simp only [Prod.mk.injEq] at ho
     obtain ⟨rfl, rfl⟩ := ho
     exact b_retC2 hw hf results13 ty_36 rfl 0 rfl (vs := [.bool false, .string e0]) rfl rfl rfl ⟨_, rfl, ⟨rfl, hw.tail⟩⟩
    ·replace hp := cond_f hb714 hp
     refine wp_skip <| ct <| wq <| wr <| oR hf (rF hf rfl fd_92_3) rfl fun a hf => oR hf (r_loadA hw hf rfl ty_36 0 rfl (vs := [.bool y684.p_answer_.has_, .string y684.p_answer_.value_]) rfl rfl) rfl fun a hf => ?_
     obtain ⟨w, hrun716, hw⟩ := e_store (P := P) hw hf (x := .tmp 6) (y := .tmp 45) rfl rfl ty_36 1 rfl (vs := [.bool y684.p_answer_.has_, .string y684.p_answer_.value_]) rfl rfl (oC rfl (oC rfl ones_nil)) (by simp [arrC_len]) (cs' := [.bool y684.p_answer_.has_, .string y684.p_answer_.value_]) rfl
     dsimp only [List.set] at hw
     refine o_effU (hrun716 ..) <| oa hf rfl rfl fun a hf => oN <| ct <| wp_ret ?_
     replace hw : Ok E I (.blk b1 (.cells ⟨[.bool y684.p_answer_.has_, .string y684.p_answer_.value_]⟩ 36 (0, 0)) :: F) w := hw.sub (sc (scc sr))
     have ho := oI hp
     simp only [Prod.mk.injEq] at ho
     obtain ⟨rfl, rfl⟩ := ho
     exact b_retC2 hw hf results13 ty_36 rfl 0 rfl (vs := [.bool y684.p_answer_.has_, .string y684.p_answer_.value_]) rfl rfl rfl ⟨_, rfl, ⟨rfl, hw.tail⟩⟩

theorem verify_Steps_ok {E : World} {I : IH} {F : List Atom} {w : World} {a0 : ByteArray} {a1 : ByteArray} {a2 : List ByteArray} {a2v823 : Value} {res0 : Int} (hw : Ok E I (F) w) (hG : Gl I) (hR824 : RS ekS I a2v823 a2) (hp : verify_Steps.f a0 a1 a2 = some res0) :
  Calls P 16 ⟨[Value.string a0, Value.string a1, a2v823]⟩ w fun e w' => ∃ v, e = .returned v ∧ v = Value.int .i64 res0 ∧ Ok E I (F) w' := by
 refine c_enter func16 rfl ntmps16 rfl fun a hf => ?_
 replace hf : Fr 20 [(0, .string a0), (1, .string a1), (2, a2v823)] a := hf
 unfold verify_Steps.f at hp
 refine wq <| wr <| oa hf rfl rfl fun a hf => oN <| ct <| wq <| wq <| wr <| om hf rfl rfl fun a hf => ?_
 obtain ⟨y1, hy2, hp⟩ := bS hp
 have hc4 := verify_may_ok hw hG hy2
 refine o_call hf cb_36 rfl rfl hc4 (fun v6 w a hK5 hf => ?_)
 obtain ⟨rfl, hw⟩ := hK5
 refine oR hf (r_not hf rfl) rfl fun a hf => oN <| ct <| cC hf rfl (fun hb7 => ?_) (fun hb7 => ?_)
 ·replace hp := cond_t hb7 hp
  refine wq <| wr <| oa hf rfl rfl fun a hf => oN <| ct <| wp_ret <| c_thenR ?_
  have ho := oI hp
  subst ho
  exact b_ret1 hf results16 rfl ⟨_, rfl, ⟨rfl, hw⟩⟩
 ·replace hp := cond_f hb7 hp
  refine wp_skip <| ct <| wq <| wr <| om hf rfl rfl fun a hf => om hf rfl rfl fun a hf => om hf rfl rfl fun a hf => ?_
  obtain ⟨y11, hy10, hp⟩ := bS hp
  obtain ⟨y8, y9⟩ := y11
  have hc12 := verify_steps_ok hw hG hR824 hy10
  refine o_call hf cb_38 rfl rfl hc12 (fun v14 w a hK13 hf => ?_)
  obtain ⟨rfl, hw⟩ := hK13
  refine om hf rfl rfl fun a hf => oR hf (rE hf rfl rfl) rfl fun a hf => oR hf (rE hf rfl rfl) rfl fun a hf => ?_
  obtain ⟨b15, w, hrun16, hw⟩ := e_alloc (P := P) (a := a) hw ty_92
  refine o_eff hf (hrun16 ..) rfl fun a hf => oa hf rfl rfl fun a hf => ?_
  obtain ⟨w, hrun18, hw⟩ := e_store (P := P) hw hf (x := .tmp 8) (y := .tmp 18) rfl rfl ty_92 0 rfl (vs := [.string y9.p_left_, .string y9.p_hash_, .bool y9.p_over_, .bool y9.p_answer_.has_, .string y9.p_answer_.value_]) rfl rfl (oC rfl (oC rfl (oC rfl (oC rfl (oC rfl ones_nil))))) (by simp [arrC_len]) (cs' := [.string y9.p_left_, .string y9.p_hash_, .bool y9.p_over_, .bool y9.p_answer_.has_, .string y9.p_answer_.value_]) rfl
  dsimp only [List.set] at hw
  refine o_effU (hrun18 ..) <| oN <| ct <| wq <| wr <| om hf rfl rfl fun a hf => oa hf rfl rfl fun a hf => oN <| ct <| wp_ret ?_
  replace hw : Ok E I (F) w := hw.sub (sc sr)
  have ho := oI hp
  subst ho
  exact b_ret1 hf results16 rfl ⟨_, rfl, ⟨rfl, hw⟩⟩
end Go.Lf
