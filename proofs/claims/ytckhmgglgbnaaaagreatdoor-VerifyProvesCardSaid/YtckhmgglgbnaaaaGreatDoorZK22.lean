import Derived.Test.YtckhmgglgbnaaaaGreatDoorZD
import Derived.Test.YtckhmgglgbnaaaaGreatDoorZF
import Derived.Test.YtckhmgglgbnaaaaGreatDoorJ
import Derived.Test.YtckhmgglgbnaaaaGreatDoorUB
import Derived.Test.YtckhmgglgbnaaaaGreatDoorZK0
import Derived.Test.YtckhmgglgbnaaaaGreatDoorZK1
import Derived.Test.YtckhmgglgbnaaaaGreatDoorZK9
import Derived.Test.YtckhmgglgbnaaaaGreatDoorZK15
import Derived.Test.YtckhmgglgbnaaaaGreatDoorZK16
import Derived.Test.YtckhmgglgbnaaaaGreatDoorZK17
import Derived.Test.YtckhmgglgbnaaaaGreatDoorZK20
import Derived.Test.YtckhmgglgbnaaaaGreatDoorZK21
set_option linter.unusedVariables false
set_option linter.unusedSimpArgs false
set_option maxHeartbeats 1000000
set_option maxRecDepth 20000
namespace Go.Lf
open Go Go.Proofs.Tryz
theorem prove_Of_ok {E : World} {I : IH} {F : List Atom} {w : World} {a0 : List Node} {a0v169 : Value} {a1 : ByteArray} {res0 : List ByteArray} {res1 : Int} (hw : Ok E I (F) w) (hG : Gl I) (hR170 : RS ek_Node I a0v169 a0) (hp : prove_Of.f a0 a1 = some (res0, res1)) :
  Calls P 12 ⟨[a0v169, Value.string a1]⟩ w fun e w' => ∃ v, e = .returned v ∧ ∃ I2 : IH, ∃ rvv233 : Value, v = Value.tuple ⟨[rvv233, Value.int .i64 res1]⟩ ∧ IH.le I I2 ∧ Ok E I2 (F) w' ∧ RS ekS I2 rvv233 res0 := by
 refine c_enter func12 rfl ntmps12 rfl fun a hf => ?_
 replace hf : Fr 47 [(0, a0v169), (1, .string a1)] a := hf
 unfold prove_Of.f at hp
 refine wq <| wr <| oa hf rfl rfl fun a hf => oa hf rfl rfl fun a hf => oN <| ct <| wq <| wr <| om hf rfl rfl fun a hf => om hf rfl rfl fun a hf => ?_
 obtain ⟨y179, hy178, hp⟩ := bS hp
 obtain ⟨y176, y177⟩ := y179
 have hc180 := get_Walk_ok hw hG hR170 hy178
 refine o_call hf cb_33 rfl rfl hc180 (fun v184 w a hK181 hf => ?_)
 obtain ⟨I2_181, rvv182, rfl, hle185, hw, hR183⟩ := hK181
 replace hG := hG.mono hle185
 replace hR170 := hR170.mono hle185
 refine om hf rfl rfl fun a hf => oR hf (rE hf rfl rfl) rfl fun a hf => oR hf (rE hf rfl rfl) rfl fun a hf => oa hf rfl rfl fun a hf => oa hf rfl rfl fun a hf => oN <| ct <| wq <| wq <| wr <| om hf rfl rfl fun a hf => oR hf (iC hf rfl rfl rfl) rfl fun a hf => oN <| ct <| cC hf rfl (fun hb186 => ?_) (fun hb186 => ?_)
 ·replace hp := cond_t hb186 hp
  refine wq <| wr <| om hf rfl rfl fun a hf => oa hf rfl rfl fun a hf => oa hf rfl rfl fun a hf => oN <| ct <| wp_ret <| c_thenR ?_
  have ho := oI hp
  simp only [Prod.mk.injEq] at ho
  obtain ⟨rfl, rfl⟩ := ho
  exact b_ret2 hf results12 rfl rfl ⟨_, rfl, ⟨I2_181, (Value.slice none 0 0), rfl, hle185, hw, RS.nil⟩⟩
 ·replace hp := cond_f hb186 hp
  refine wp_skip <| ct <| wq <| wr <| oa hf rfl rfl fun a hf => oN <| ct <| wq <| wq <| wr <| om hf rfl rfl fun a hf => oR hf (r_lenL (K := (ekI .i64)) hf el_55 rfl (hR183.rd hw)) rfl fun a hf => om hf rfl rfl fun a hf => oN <| ct ?_
  replace hw := hw.nilrow 9 1
  have hRR437 : RowR ekS I2_181 [] [] := RowR.nil
  obtain ⟨out560, hp, hq561⟩ := bS hp
  refine c_cutX (fun a w => ∃ y555 : List ByteArray, ∃ I554 : IH, ∃ yv556 : Value, ∃ m557 : Nat, ∃ cs558 : List Value, y555 = out560 ∧ IH.le I2_181 I554 ∧ Ok E I554 (.row yv556 9 1 m557 cs558 :: F) w ∧ Fr 47 ([(8, yv556)]) a ∧ RowR ekS I554 cs558 y555) ?_ ?_
  ·refine wp_block <| c_loop <| c_fuel (prove_Of.l0 a0 y176) out560 (fun (y514, y519) a w => ∃ I513 : IH, ∃ yv515 : Value, ∃ m516 : Nat, ∃ cs517 : List Value, IH.le I2_181 I513 ∧ Ok E I513 (.row yv515 9 1 m516 cs517 :: F) w ∧ Fr 47 ([(0, a0v169), (8, yv515), (24, rvv182), (25, .int .i64 (y176.length : Int)), (26, .int .i64 y519)]) a ∧ RowR ekS I513 cs517 y514) (fun _ => rfl) ?_ BIG (([] : List ByteArray), 0) _ _ ⟨I2_181, (.slice none 0 0), 0, [], (IH.le_refl _), hw, hf.to ⟨rfl, rfl, rfl, rfl, rfl, trivial⟩, hRR437⟩ hp
   intro k st a w hI hp ih
   obtain ⟨y514, y519⟩ := st
   obtain ⟨I513, yv515, m516, cs517, hle562, hw, hf, hRR518⟩ := hI
   rw [prove_Of.l0] at hp
   replace hG := hG.mono hle562
   replace hR170 := hR170.mono hle562
   replace hR183 := hR183.mono hle562
   refine wq <| wr <| oR hf (iC hf rfl rfl rfl) rfl fun a hf => oN <| ct <| wq <| cC hf rfl (fun hb563 => ?_) (fun hb563 => ?_)
   ·replace hp := cond_t hb563 hp
    refine wp_skip <| ct <| wq <| wp_block <| wq <| wr ?_
    obtain ⟨hg564, hp⟩ := gS hp
    refine oR hf (rI (K := (ekI .i64)) hf el_55 rfl rfl (hR183.rd hw) hg564) rfl fun a hf => oR hf (r_loadH (K := (ekI .i64)) hf rfl ty_3 (hR183.rd hw) hg564 rfl (fun cs h => ekI_f0 h)) rfl fun a hf => oa hf rfl rfl fun a hf => oN <| ct <| wq <| wr <| om hf rfl rfl fun a hf => om hf rfl rfl fun a hf => ?_
    obtain ⟨y568, hy567, hp⟩ := bS hp
    obtain ⟨y565, y566⟩ := y568
    have hc569 := root_Item_ok hw hG hR170 hy567
    refine o_call hf cb_34 rfl rfl hc569 (fun v573 w a hK570 hf => ?_)
    obtain ⟨I2_570, rvv571, rfl, hle574, hw, hR572⟩ := hK570
    replace hG := hG.mono hle574
    replace hR170 := hR170.mono hle574
    replace hR183 := hR183.mono hle574
    replace hRR518 := hRR518.mono hle574
    refine om hf rfl rfl fun a hf => oR hf (rE hf rfl rfl) rfl fun a hf => oR hf (rE hf rfl rfl) rfl fun a hf => ?_
    obtain ⟨b575, w, hrun576, hw⟩ := e_alloc (P := P) (a := a) hw ty_86
    replace hw : Ok E I2_570 (.blk b575 (.cells ⟨[.int .i64 0, .string e0, .bool false, .string e0, .int .i64 0, .slice none 0 0]⟩ 86 (0, 0)) :: .row yv515 9 1 m516 cs517 :: F) w := hw
    refine o_eff hf (hrun576 ..) rfl fun a hf => ?_
    obtain ⟨w, hrun578, hw⟩ := e_store (P := P) hw hf (x := .tmp 11) (y := .tmp 34) rfl rfl ty_86 0 rfl (vs := [.int .i64 y565.kind_, .string y565.path_, .bool y565.has_, .string y565.value_, .int .i64 y565.mask_, rvv571]) rfl rfl (oC rfl (oC rfl (oC rfl (oC rfl (oC rfl (oC hR572.one ones_nil)))))) (by simp [arrC_len]) (cs' := [.int .i64 y565.kind_, .string y565.path_, .bool y565.has_, .string y565.value_, .int .i64 y565.mask_, rvv571]) rfl
    replace hw : Ok E I2_570 (.blk b575 (.cells ⟨[.int .i64 y565.kind_, .string y565.path_, .bool y565.has_, .string y565.value_, .int .i64 y565.mask_, rvv571]⟩ 86 (0, 0)) :: .row yv515 9 1 m516 cs517 :: F) w := hw
    refine o_effU (hrun578 ..) <| oa hf rfl rfl fun a hf => oN <| ct <| wq <| wr <| oR hf (r_loadA hw hf rfl ty_86 0 rfl (vs := [.int .i64 y565.kind_, .string y565.path_, .bool y565.has_, .string y565.value_, .int .i64 y565.mask_, rvv571]) rfl rfl) rfl fun a hf => ?_
    obtain ⟨y582, hy581, hp⟩ := bS hp
    obtain ⟨y579, y580⟩ := y582
    have hc583 := node_Encode_ok hw hG hR572 hy581
    refine o_call hf cb_35 rfl rfl hc583 (fun v585 w a hK584 hf => ?_)
    obtain ⟨rfl, hw⟩ := hK584
    refine om hf rfl rfl fun a hf => oR hf (rE hf rfl rfl) rfl fun a hf => oR hf (rE hf rfl rfl) rfl fun a hf => oa hf rfl rfl fun a hf => oa hf rfl rfl fun a hf => oN <| ct <| wr <| om hf rfl rfl fun a hf => om hf rfl rfl fun a hf => ?_
    obtain ⟨w, v586, hrun587, hw, hRR588⟩ := e_buildSlice (P := P) (K := ekS) (m := 1) hw hf (parts := [(0, .tmp 42)]) el_28 ty_9 rfl rfl rfl (ccs := [[Value.string y579]]) rfl (xs := [y579]) ⟨rfl, trivial⟩ rfl
    obtain ⟨cs589, hcs⟩ : ∃ cs, cs = ([[Value.string y579]] : List (List Value)).flatten := ⟨_, rfl⟩
    rw [← hcs] at hw hRR588; clear hcs
    refine o_eff hf (hrun587 ..) rfl fun a hf => ?_
    obtain ⟨hg591, hp⟩ := gS hp
    obtain ⟨w, v592, m593, cs594, hrun596, hw, hRR595⟩ := e_append (P := P) (K := ekS) (ty := 28) hw hf (s := .tmp 41) (x := .tmp 43) el_28 ty_9 rfl (by decide) 2 rfl rfl rfl hRR518 (ys := [y579]) (rR (K := ekS) hw (i := 0) rfl hRR588) hg591
    replace hw : Ok E I2_570 (.row v586 9 1 1 cs589 :: .blk b575 (.cells ⟨[.int .i64 y565.kind_, .string y565.path_, .bool y565.has_, .string y565.value_, .int .i64 y565.mask_, rvv571]⟩ 86 (0, 0)) :: .row v592 9 1 m593 cs594 :: F) w := hw
    refine o_eff hf (hrun596 ..) rfl fun a hf => oa hf rfl rfl fun a hf => oN <| c_blockN <| ct <| wr <| oR hf (r_add hf rfl rfl) rfl fun a hf => om hf rfl rfl fun a hf => oN <| ct ?_
    replace hw : Ok E I2_570 (.row v592 9 1 m593 cs594 :: F) w := hw.sub (sc (sc (scc sr)))
    exact ih (y514 ++ [y579], w64 (y519 + 1)) _ _ ⟨I2_570, v592, m593, cs594, (IH.le_trans hle562 hle574), hw, hf.to ⟨rfl, rfl, rfl, rfl, rfl, trivial⟩, hRR595⟩ hp
   ·replace hp := cond_f hb563 hp
    refine wp_exit <| c_thenE <| c_thenE <| c_exit <| ct ?_
    have ho := oI hp
    subst ho
    exact ⟨y514, I513, yv515, m516, cs517, rfl, hle562, hw, hf.to ⟨rfl, trivial⟩, hRR518⟩
  ·intro a w hM
   obtain ⟨y555, I554, yv556, m557, cs558, rfl, hle597, hw, hf, hRR559⟩ := hM
   replace hp := hq561
   replace hG := hG.mono hle597
   refine ct <| wq <| wr <| om hf rfl rfl fun a hf => oa hf rfl rfl fun a hf => oa hf rfl rfl fun a hf => oN <| ct <| wp_ret ?_
   have hw : Ok E I554 (.row yv556 9 1 m557 cs558 :: F) w := hw.front (i := 0) rfl
   obtain ⟨I598, hle599, hw, hR600⟩ := row_freeze (K := ekS) hw hRR559
   replace hG := hG.mono hle599
   have ho := oI hp
   simp only [Prod.mk.injEq] at ho
   obtain ⟨rfl, rfl⟩ := ho
   exact b_ret2 hf results12 rfl rfl ⟨_, rfl, ⟨I598, yv556, rfl, (IH.le_trans (IH.le_trans hle185 hle597) hle599), hw, hR600⟩⟩

theorem get_Of_ok {E : World} {I : IH} {F : List Atom} {w : World} {a0 : List Node} {a0v628 : Value} {a1 : ByteArray} {res0 : Answer} {res1 : Int} (hw : Ok E I (F) w) (hG : Gl I) (hR629 : RS ek_Node I a0v628 a0) (hp : get_Of.f a0 a1 = some (res0, res1)) :
  Calls P 15 ⟨[a0v628, Value.string a1]⟩ w fun e w' => ∃ v, e = .returned v ∧ v = Value.tuple ⟨[Value.agg ⟨[Value.bool res0.has_, Value.string res0.value_]⟩, Value.int .i64 res1]⟩ ∧ Ok E I (F) w' := by
 refine c_enter func15 rfl ntmps15 rfl fun a hf => ?_
 replace hf : Fr 58 [(0, a0v628), (1, .string a1)] a := hf
 unfold get_Of.f at hp
 refine wq <| wr ?_
 obtain ⟨b1, w, hrun2, hw⟩ := e_alloc (P := P) (a := a) hw ty_36
 refine o_eff hf (hrun2 ..) rfl fun a hf => oa hf rfl rfl fun a hf => oN <| ct <| wq <| wr <| om hf rfl rfl fun a hf => om hf rfl rfl fun a hf => ?_
 obtain ⟨y7, hy6, hp⟩ := bS hp
 obtain ⟨y4, y5⟩ := y7
 have hc8 := get_gone_ok hw hG hR629 hy6
 refine o_call hf cb_40 rfl rfl hc8 (fun v16 w a hK9 hf => ?_)
 rcases hK9 with ⟨rfl, rfl, hw⟩ | ⟨ox_9, rfl, I2_9, rb14, rvv10, rvv12, rfl, hle17, hw, hR11, hR13⟩
 ·dsimp only at hp
  refine om hf rfl rfl fun a hf => oR hf (rE hf rfl rfl) rfl fun a hf => oR hf (rE hf rfl rfl) rfl fun a hf => oa hf rfl rfl fun a hf => oa hf rfl rfl fun a hf => oN <| ct <| wq <| wq <| wr <| om hf rfl rfl fun a hf => oR hf (iC hf rfl rfl rfl) rfl fun a hf => om hf rfl rfl fun a hf => g_split hf (g := 17) rfl (fun hb25 hf => ?_) (fun hb25 hf => ?_)
  ·replace hp := cond_t hb25 hp
   refine oQ hf (g := 17) rfl fun a hf => oQ hf (g := 17) rfl fun a hf => oQ hf (g := 17) rfl fun a hf => oQ hf (g := 17) rfl fun a hf => oQ hf (g := 17) rfl fun a hf => oQ hf (g := 17) rfl fun a hf => oR hf (pT hf rfl rfl) rfl fun a hf => oN <| ct <| wp_cond_true (hf.ev rfl) <| wq <| wr <| oR hf (r_build hf bd_36 (vs := []) rfl trivial (by decide) (out := [.bool false, .string e0]) rfl) rfl fun a hf => om hf rfl rfl fun a hf => ?_
   obtain ⟨w, hrun26, hw⟩ := e_store (P := P) hw hf (x := .tmp 4) (y := .tmp 25) rfl rfl ty_36 0 rfl (vs := [.bool false, .string e0]) rfl rfl (oC rfl (oC rfl ones_nil)) (by simp [arrC_len]) (cs' := [.bool false, .string e0]) rfl
   dsimp only [List.set] at hw
   refine o_effU (hrun26 ..) <| oa hf rfl rfl fun a hf => oN <| ct <| wp_ret <| c_thenR ?_
   have ho := oI hp
   simp only [Prod.mk.injEq] at ho
   obtain ⟨rfl, rfl⟩ := ho
   exact b_retC2 hw hf results15 ty_36 rfl 0 rfl (vs := [.bool false, .string e0]) rfl rfl rfl ⟨_, rfl, ⟨rfl, hw.tail⟩⟩
  ·replace hp := cond_f hb25 hp
   refine oW hf (g := 17) rfl rfl <| om hf rfl rfl fun a hf => ?_
   obtain ⟨hg27, hp⟩ := gS hp
   exact absurd hg27 (by omega)
 ·dsimp only at hp
  replace hG := hG.mono hle17
  replace hR629 := hR629.mono hle17
  refine om hf rfl rfl fun a hf => oR hf (rE hf rfl rfl) rfl fun a hf => oR hf (rE hf rfl rfl) rfl fun a hf => oa hf rfl rfl fun a hf => oa hf rfl rfl fun a hf => oN <| ct <| wq ?_
  obtain ⟨out39, hp, hq40⟩ := bS hp
  refine c_cut (fun a w => ∃ y38 : Bool, y38 = out39 ∧ Ok E I2_9 (.blk rb14 (.cells ⟨[rvv10, .string ox_9.p_left_, rvv12]⟩ 103 (0, 0)) :: .blk b1 (.cells ⟨[.bool false, .string e0]⟩ 36 (0, 0)) :: F) w ∧ Fr 58 ([(0, a0v628), (4, .pointer (some ⟨b1, 0, none⟩)), (6, .pointer (some ⟨rb14, 0, none⟩)), (7, .int .i64 y5), (24, .bool y38)]) a) ?_ ?_
  ·refine wr <| om hf rfl rfl fun a hf => oR hf (iC hf rfl rfl rfl) rfl fun a hf => om hf rfl rfl fun a hf => g_split hf (g := 17) rfl (fun hb41 hf => ?_) (fun hb41 hf => ?_)
   ·replace hp := cond_t hb41 hp
    refine oQ hf (g := 17) rfl fun a hf => oQ hf (g := 17) rfl fun a hf => oQ hf (g := 17) rfl fun a hf => oQ hf (g := 17) rfl fun a hf => oQ hf (g := 17) rfl fun a hf => oQ hf (g := 17) rfl fun a hf => oR hf (pT hf rfl rfl) rfl fun a hf => oN <| ct ?_
    have ho := oI hp
    subst ho
    exact ⟨true, rfl, hw, hf.to ⟨rfl, rfl, rfl, rfl, rfl, trivial⟩⟩
   ·replace hp := cond_f hb41 hp
    refine oW hf (g := 17) rfl rfl <| om hf rfl rfl fun a hf => oW hf (g := 17) rfl rfl <| oR hf (nC hf rfl) rfl fun a hf => oW hf (g := 17) rfl rfl <| oR hf (rF hf rfl fd_103_2) rfl fun a hf => oW hf (g := 17) rfl rfl <| oR hf (rL hw hf rfl ty_55 0 rfl rfl) rfl fun a hf => oW hf (g := 17) rfl rfl <| oR hf (r_lenL (K := (ekI .i64)) hf el_55 rfl (hR13.rd hw)) rfl fun a hf => oW hf (g := 17) rfl rfl <| oR hf (iC hf rfl rfl rfl) rfl fun a hf => oR hf (pF hf rfl rfl) rfl fun a hf => oN <| ct ?_
    have ho := oI hp
    subst ho
    exact ⟨((ox_9.p_nodes_.length : Int) == 0), rfl, hw, hf.to ⟨rfl, rfl, rfl, rfl, rfl, trivial⟩⟩
  ·intro a w hM
   obtain ⟨y38, rfl, hw, hf⟩ := hM
   replace hp := hq40
   refine cC hf rfl (fun hb42 => ?_) (fun hb42 => ?_)
   ·replace hp := cond_t hb42 hp
    refine wq <| wr <| oR hf (r_build hf bd_36 (vs := []) rfl trivial (by decide) (out := [.bool false, .string e0]) rfl) rfl fun a hf => om hf rfl rfl fun a hf => ?_
    obtain ⟨w, hrun43, hw⟩ := e_store (P := P) hw hf (x := .tmp 4) (y := .tmp 25) rfl rfl ty_36 1 rfl (vs := [.bool false, .string e0]) rfl rfl (oC rfl (oC rfl ones_nil)) (by simp [arrC_len]) (cs' := [.bool false, .string e0]) rfl
    replace hw : Ok E I2_9 (.blk rb14 (.cells ⟨[rvv10, .string ox_9.p_left_, rvv12]⟩ 103 (0, 0)) :: .blk b1 (.cells ⟨[.bool false, .string e0]⟩ 36 (0, 0)) :: F) w := hw
    refine o_effU (hrun43 ..) <| oa hf rfl rfl fun a hf => oN <| ct <| wp_ret <| c_thenR ?_
    replace hw : Ok E I2_9 (.blk b1 (.cells ⟨[.bool false, .string e0]⟩ 36 (0, 0)) :: F) w := hw.sub (sc (scc sr))
    have ho := oI hp
    simp only [Prod.mk.injEq] at ho
    obtain ⟨rfl, rfl⟩ := ho
    exact b_retC2 hw hf results15 ty_36 rfl 0 rfl (vs := [.bool false, .string e0]) rfl rfl rfl ⟨_, rfl, ⟨rfl, (hw.tail.back hle17 sr)⟩⟩
   ·replace hp := cond_f hb42 hp
    refine wp_skip <| ct <| wq <| c_drawn mix [16] (.rd 0 (.rd 1 (.rd 2 (.rd 3 (.rd 4 (.rd 5 (.rd 6 (.rd 7 (.rd 8 (.rd 9 (.rd 10 (.rd 11 (.rd 12 (.rd 13 (.rd 14 (.ef 15 (.ef 16 .done))))))))))))))))) (by kernel_rfl) hw (fun w => Ok E I2_9 (.blk rb14 (.cells ⟨[rvv10, .string ox_9.p_left_, rvv12]⟩ 103 (0, 0)) :: .blk b1 (.cells ⟨[.bool false, .string e0]⟩ 36 (0, 0)) :: F) w) (fun w hw => ⟨hw.sub (scc (scc sr)), ?_⟩)
    refine tm rfl hf rfl rfl fun a hf => tm rfl hf rfl rfl fun a hf => tR rfl hf (fun w hw => nC hf rfl) rfl fun a hf => tR rfl hf (fun w hw => rF hf rfl fd_103_2) rfl fun a hf => tR rfl hf (fun w hw => rL hw hf rfl ty_55 0 rfl rfl) rfl fun a hf => tm rfl hf rfl rfl fun a hf => tR rfl hf (fun w hw => nC hf rfl) rfl fun a hf => tR rfl hf (fun w hw => rF hf rfl fd_103_2) rfl fun a hf => tR rfl hf (fun w hw => rL hw hf rfl ty_55 0 rfl rfl) rfl fun a hf => tR rfl hf (fun w hw => r_lenL (K := (ekI .i64)) hf el_55 rfl (hR13.rd hw)) rfl fun a hf => tR rfl hf (fun w hw => r_sub hf rfl rfl) rfl fun a hf => ?_
    obtain ⟨hg45, hp⟩ := gS hp
    refine tR rfl hf (fun w hw => rI (K := (ekI .i64)) hf el_55 rfl rfl (hR13.rd hw) hg45) rfl fun a hf => tR rfl hf (fun w hw => r_loadH (K := (ekI .i64)) hf rfl ty_3 (hR13.rd hw) hg45 rfl (fun cs h => ekI_f0 h)) rfl fun a hf => ?_
    obtain ⟨hg46, hp⟩ := gS hp
    refine tR rfl hf (fun w hw => rI (K := ek_Node) hf el_27 rfl rfl (hR629.rd hw) hg46) rfl fun a hf => tR rfl hf (fun w hw => r_loadHP (K := ek_Node) hf rfl ty_106 (hR629.rd hw) hg46 rfl (vs := (.int .i64 ((gt a0 (gt ox_9.p_nodes_ (w64 ((ox_9.p_nodes_.length : Int) - 1)))).kind_) :: .string ((gt a0 (gt ox_9.p_nodes_ (w64 ((ox_9.p_nodes_.length : Int) - 1)))).path_) :: .bool ((gt a0 (gt ox_9.p_nodes_ (w64 ((ox_9.p_nodes_.length : Int) - 1)))).has_) :: .string ((gt a0 (gt ox_9.p_nodes_ (w64 ((ox_9.p_nodes_.length : Int) - 1)))).value_) :: arrC .i64 ((gt a0 (gt ox_9.p_nodes_ (w64 ((ox_9.p_nodes_.length : Int) - 1)))).kids_))) (fun cs h => Node_all h) (by simp [arrC_len])) rfl fun a hf => t_ef rfl ?_
    obtain ⟨b47, w, hrun48, hw⟩ := e_alloc (P := P) (a := a) hw ty_106
    replace hw : Ok E I2_9 (.blk b47 (.cells ⟨.int .i64 0 :: .string e0 :: .bool false :: .string e0 :: arrC .i64 (Vector.replicate 16 0 : Vector Int 16)⟩ 106 (0, 0)) :: .blk rb14 (.cells ⟨[rvv10, .string ox_9.p_left_, rvv12]⟩ 103 (0, 0)) :: .blk b1 (.cells ⟨[.bool false, .string e0]⟩ 36 (0, 0)) :: F) w := hw
    refine t_eff hf (hrun48 ..) rfl fun a hf => ⟨.inr (hw.back (IH.le_refl _) (sc (scc (scc sr)))), ?_⟩
    refine t_ef rfl ?_
    obtain ⟨w, hrun50, hw⟩ := e_store (P := P) hw hf (x := .tmp 8) (y := .tmp 41) rfl rfl ty_106 0 rfl (vs := (.int .i64 ((gt a0 (gt ox_9.p_nodes_ (w64 ((ox_9.p_nodes_.length : Int) - 1)))).kind_) :: .string ((gt a0 (gt ox_9.p_nodes_ (w64 ((ox_9.p_nodes_.length : Int) - 1)))).path_) :: .bool ((gt a0 (gt ox_9.p_nodes_ (w64 ((ox_9.p_nodes_.length : Int) - 1)))).has_) :: .string ((gt a0 (gt ox_9.p_nodes_ (w64 ((ox_9.p_nodes_.length : Int) - 1)))).value_) :: arrC .i64 ((gt a0 (gt ox_9.p_nodes_ (w64 ((ox_9.p_nodes_.length : Int) - 1)))).kids_))) rfl (by simp [arrC_len]) (oC rfl (oC rfl (oC rfl (oC rfl (arrC_one _ _))))) (by simp [arrC_len]) (cs' := (.int .i64 ((gt a0 (gt ox_9.p_nodes_ (w64 ((ox_9.p_nodes_.length : Int) - 1)))).kind_) :: .string ((gt a0 (gt ox_9.p_nodes_ (w64 ((ox_9.p_nodes_.length : Int) - 1)))).path_) :: .bool ((gt a0 (gt ox_9.p_nodes_ (w64 ((ox_9.p_nodes_.length : Int) - 1)))).has_) :: .string ((gt a0 (gt ox_9.p_nodes_ (w64 ((ox_9.p_nodes_.length : Int) - 1)))).value_) :: arrC .i64 ((gt a0 (gt ox_9.p_nodes_ (w64 ((ox_9.p_nodes_.length : Int) - 1)))).kids_))) (by simp [arrC_len])
    replace hw : Ok E I2_9 (.blk b47 (.cells ⟨.int .i64 ((gt a0 (gt ox_9.p_nodes_ (w64 ((ox_9.p_nodes_.length : Int) - 1)))).kind_) :: .string ((gt a0 (gt ox_9.p_nodes_ (w64 ((ox_9.p_nodes_.length : Int) - 1)))).path_) :: .bool ((gt a0 (gt ox_9.p_nodes_ (w64 ((ox_9.p_nodes_.length : Int) - 1)))).has_) :: .string ((gt a0 (gt ox_9.p_nodes_ (w64 ((ox_9.p_nodes_.length : Int) - 1)))).value_) :: arrC .i64 ((gt a0 (gt ox_9.p_nodes_ (w64 ((ox_9.p_nodes_.length : Int) - 1)))).kids_)⟩ 106 (0, 0)) :: .blk rb14 (.cells ⟨[rvv10, .string ox_9.p_left_, rvv12]⟩ 103 (0, 0)) :: .blk b1 (.cells ⟨[.bool false, .string e0]⟩ 36 (0, 0)) :: F) w := hw
    refine t_effU (hrun50 ..) ⟨.inl rfl, ?_⟩
    refine t_done <| ct <| wq ?_
    obtain ⟨out67, hp, hq68⟩ := bS hp
    refine c_cut (fun a w => ∃ y66 : Bool, y66 = out67 ∧ Ok E I2_9 (.blk b47 (.cells ⟨.int .i64 ((gt a0 (gt ox_9.p_nodes_ (w64 ((ox_9.p_nodes_.length : Int) - 1)))).kind_) :: .string ((gt a0 (gt ox_9.p_nodes_ (w64 ((ox_9.p_nodes_.length : Int) - 1)))).path_) :: .bool ((gt a0 (gt ox_9.p_nodes_ (w64 ((ox_9.p_nodes_.length : Int) - 1)))).has_) :: .string ((gt a0 (gt ox_9.p_nodes_ (w64 ((ox_9.p_nodes_.length : Int) - 1)))).value_) :: arrC .i64 ((gt a0 (gt ox_9.p_nodes_ (w64 ((ox_9.p_nodes_.length : Int) - 1)))).kids_)⟩ 106 (0, 0)) :: .blk rb14 (.cells ⟨[rvv10, .string ox_9.p_left_, rvv12]⟩ 103 (0, 0)) :: .blk b1 (.cells ⟨[.bool false, .string e0]⟩ 36 (0, 0)) :: F) w ∧ Fr 58 ([(4, .pointer (some ⟨b1, 0, none⟩)), (8, .pointer (some ⟨b47, 0, none⟩)), (53, .bool y66)]) a) ?_ ?_
    ·refine c_drawn mix [] (.rd 0 (.rd 1 (.rd 2 (.rd 3 (.rd 4 (.rd 5 (.rd 6 (.rd 7 (.rd 8 (.rd 9 (.rd 10 (.rd 11 .done)))))))))))) (by kernel_rfl) hw (fun w => Ok E I2_9 (.blk b47 (.cells ⟨.int .i64 ((gt a0 (gt ox_9.p_nodes_ (w64 ((ox_9.p_nodes_.length : Int) - 1)))).kind_) :: .string ((gt a0 (gt ox_9.p_nodes_ (w64 ((ox_9.p_nodes_.length : Int) - 1)))).path_) :: .bool ((gt a0 (gt ox_9.p_nodes_ (w64 ((ox_9.p_nodes_.length : Int) - 1)))).has_) :: .string ((gt a0 (gt ox_9.p_nodes_ (w64 ((ox_9.p_nodes_.length : Int) - 1)))).value_) :: arrC .i64 ((gt a0 (gt ox_9.p_nodes_ (w64 ((ox_9.p_nodes_.length : Int) - 1)))).kids_)⟩ 106 (0, 0)) :: .blk rb14 (.cells ⟨[rvv10, .string ox_9.p_left_, rvv12]⟩ 103 (0, 0)) :: .blk b1 (.cells ⟨[.bool false, .string e0]⟩ 36 (0, 0)) :: F) w) (fun w hw => ⟨hw.sub (scc (scc (scc sr))), ?_⟩)
     refine tR rfl hf (fun w hw => rF hf rfl fd_106_2) rfl fun a hf => tR rfl hf (fun w hw => rL hw hf rfl ty_4 0 rfl rfl) rfl fun a hf => tR rfl hf (fun w hw => r_not hf rfl) rfl fun a hf => tm rfl hf rfl rfl fun a hf => g_split hf (g := 45) rfl (fun hb70 hf => ?_) (fun hb70 hf => ?_)
     ·replace hp := cond_t hb70 hp
      refine tS rfl rfl hf rfl rfl rfl fun a hf => tS rfl rfl hf rfl rfl rfl fun a hf => tS rfl rfl hf rfl rfl rfl fun a hf => tS rfl rfl hf rfl rfl rfl fun a hf => tS rfl rfl hf rfl rfl rfl fun a hf => tS rfl rfl hf rfl rfl rfl fun a hf => tS rfl rfl hf rfl rfl rfl fun a hf => tR rfl hf (fun w hw => pT hf rfl rfl) rfl fun a hf => t_done <| ct ?_
      have ho := oI hp
      subst ho
      exact ⟨true, rfl, hw, hf.to ⟨rfl, rfl, rfl, trivial⟩⟩
     ·replace hp := cond_f hb70 hp
      refine tG rfl rfl hf rfl (fun w hw => r_move hf rfl) rfl fun a hf => tG rfl rfl hf rfl (fun w hw => nC hf rfl) rfl fun a hf => tG rfl rfl hf rfl (fun w hw => rF hf rfl fd_103_1) rfl fun a hf => tG rfl rfl hf rfl (fun w hw => rL hw hf rfl ty_9 1 rfl rfl) rfl fun a hf => tG rfl rfl hf rfl (fun w hw => rF hf rfl fd_106_1) rfl fun a hf => tG rfl rfl hf rfl (fun w hw => rL hw hf rfl ty_9 0 rfl rfl) rfl fun a hf => tG rfl rfl hf rfl (fun w hw => r_scmp hf rfl rfl rfl) rfl fun a hf => tR rfl hf (fun w hw => pF hf rfl rfl) rfl fun a hf => t_done <| ct ?_
      have ho := oI hp
      subst ho
      exact ⟨(!(seq_ ox_9.p_left_ ((gt a0 (gt ox_9.p_nodes_ (w64 ((ox_9.p_nodes_.length : Int) - 1)))).path_))), rfl, hw, hf.to ⟨rfl, rfl, rfl, trivial⟩⟩
    ·intro a w hM
     obtain ⟨y66, rfl, hw, hf⟩ := hM
     replace hp := hq68
     refine cC hf rfl (fun hb71 => ?_) (fun hb71 => ?_)
     ·replace hp := cond_t hb71 hp
      refine wq <| wr <| oR hf (r_build hf bd_36 (vs := []) rfl trivial (by decide) (out := [.bool false, .string e0]) rfl) rfl fun a hf => ?_
      obtain ⟨w, hrun72, hw⟩ := e_store (P := P) hw hf (x := .tmp 4) (y := .tmp 54) rfl rfl ty_36 2 rfl (vs := [.bool false, .string e0]) rfl rfl (oC rfl (oC rfl ones_nil)) (by simp [arrC_len]) (cs' := [.bool false, .string e0]) rfl
      replace hw : Ok E I2_9 (.blk b47 (.cells ⟨.int .i64 ((gt a0 (gt ox_9.p_nodes_ (w64 ((ox_9.p_nodes_.length : Int) - 1)))).kind_) :: .string ((gt a0 (gt ox_9.p_nodes_ (w64 ((ox_9.p_nodes_.length : Int) - 1)))).path_) :: .bool ((gt a0 (gt ox_9.p_nodes_ (w64 ((ox_9.p_nodes_.length : Int) - 1)))).has_) :: .string ((gt a0 (gt ox_9.p_nodes_ (w64 ((ox_9.p_nodes_.length : Int) - 1)))).value_) :: arrC .i64 ((gt a0 (gt ox_9.p_nodes_ (w64 ((ox_9.p_nodes_.length : Int) - 1)))).kids_)⟩ 106 (0, 0)) :: .blk rb14 (.cells ⟨[rvv10, .string ox_9.p_left_, rvv12]⟩ 103 (0, 0)) :: .blk b1 (.cells ⟨[.bool false, .string e0]⟩ 36 (0, 0)) :: F) w := hw
      refine o_effU (hrun72 ..) <| oa hf rfl rfl fun a hf => oN <| ct <| wp_ret <| c_thenR ?_
      replace hw : Ok E I2_9 (.blk b1 (.cells ⟨[.bool false, .string e0]⟩ 36 (0, 0)) :: F) w := hw.sub (sc (sc (scc sr)))
      have ho := oI hp
      simp only [Prod.mk.injEq] at ho
      obtain ⟨rfl, rfl⟩ := ho
      exact b_retC2 hw hf results15 ty_36 rfl 0 rfl (vs := [.bool false, .string e0]) rfl rfl rfl ⟨_, rfl, ⟨rfl, (hw.tail.back hle17 sr)⟩⟩
     ·replace hp := cond_f hb71 hp
      refine wp_skip <| ct <| wq <| wr <| oR hf (rF hf rfl fd_106_3) rfl fun a hf => oR hf (rL hw hf rfl ty_9 0 rfl rfl) rfl fun a hf => oR hf (r_build hf bd_36 (vs := [.bool true, .string ((gt a0 (gt ox_9.p_nodes_ (w64 ((ox_9.p_nodes_.length : Int) - 1)))).value_)]) rfl ⟨rfl, rfl, trivial⟩ (by decide) (out := [.bool true, .string ((gt a0 (gt ox_9.p_nodes_ (w64 ((ox_9.p_nodes_.length : Int) - 1)))).value_)]) rfl) rfl fun a hf => ?_
      obtain ⟨w, hrun73, hw⟩ := e_store (P := P) hw hf (x := .tmp 4) (y := .tmp 57) rfl rfl ty_36 2 rfl (vs := [.bool true, .string ((gt a0 (gt ox_9.p_nodes_ (w64 ((ox_9.p_nodes_.length : Int) - 1)))).value_)]) rfl rfl (oC rfl (oC rfl ones_nil)) (by simp [arrC_len]) (cs' := [.bool true, .string ((gt a0 (gt ox_9.p_nodes_ (w64 ((ox_9.p_nodes_.length : Int) - 1)))).value_)]) rfl
      replace hw : Ok E I2_9 (.blk b47 (.cells ⟨.int .i64 ((gt a0 (gt ox_9.p_nodes_ (w64 ((ox_9.p_nodes_.length : Int) - 1)))).kind_) :: .string ((gt a0 (gt ox_9.p_nodes_ (w64 ((ox_9.p_nodes_.length : Int) - 1)))).path_) :: .bool ((gt a0 (gt ox_9.p_nodes_ (w64 ((ox_9.p_nodes_.length : Int) - 1)))).has_) :: .string ((gt a0 (gt ox_9.p_nodes_ (w64 ((ox_9.p_nodes_.length : Int) - 1)))).value_) :: arrC .i64 ((gt a0 (gt ox_9.p_nodes_ (w64 ((ox_9.p_nodes_.length : Int) - 1)))).kids_)⟩ 106 (0, 0)) :: .blk rb14 (.cells ⟨[rvv10, .string ox_9.p_left_, rvv12]⟩ 103 (0, 0)) :: .blk b1 (.cells ⟨[.bool true, .string ((gt a0 (gt ox_9.p_nodes_ (w64 ((ox_9.p_nodes_.length : Int) - 1)))).value_)]⟩ 36 (0, 0)) :: F) w := hw
      refine o_effU (hrun73 ..) <| oa hf rfl rfl fun a hf => oN <| ct <| wp_ret ?_
      replace hw : Ok E I2_9 (.blk b1 (.cells ⟨[.bool true, .string ((gt a0 (gt ox_9.p_nodes_ (w64 ((ox_9.p_nodes_.length : Int) - 1)))).value_)]⟩ 36 (0, 0)) :: F) w := hw.sub (sc (sc (scc sr)))
      have ho := oI hp
      simp only [Prod.mk.injEq] at ho
      obtain ⟨rfl, rfl⟩ := ho
      exact b_retC2 hw hf results15 ty_36 rfl 0 rfl (vs := [.bool true, .string ((gt a0 (gt ox_9.p_nodes_ (w64 ((ox_9.p_nodes_.length : Int) - 1)))).value_)]) rfl rfl rfl ⟨_, rfl, ⟨rfl, (hw.tail.back hle17 sr)⟩⟩

theorem law17_VerifyProves_ok {E : World} {I : IH} {F : List Atom} {w : World} {a0 : List Pair} {a0v1 : Value} {a1 : ByteArray} {res0 : Bool} (hw : Ok E I (F) w) (hG : Gl I) (hR2 : RS ek_Pair I a0v1 a0) (hp : law17_VerifyProves.f a0 a1 = some res0) :
  Calls P 3 ⟨[a0v1, Value.string a1]⟩ w fun e w' => ∃ v, e = .returned v ∧ v = Value.bool res0 ∧ Ok E I (F) w' := by
 refine c_enter func3 rfl ntmps3 rfl fun a hf => ?_
 replace hf : Fr 80 [(0, a0v1), (1, .string a1)] a := hf
 unfold law17_VerifyProves.f at hp
 refine wq <| wr <| oa hf rfl rfl fun a hf => oN <| ct <| wq ?_
 obtain ⟨out128, hp, hq129⟩ := bS hp
 refine c_cut (fun a w => ∃ y127 : Bool, y127 = out128 ∧ Ok E I (F) w ∧ Fr 80 ([(0, a0v1), (1, .string a1), (28, .bool y127)]) a) ?_ ?_
 ·refine wr <| om hf rfl rfl fun a hf => ?_
  obtain ⟨y130, hy131, hp⟩ := bS hp
  have hc133 := keep_LongPairs_ok hw hG hR2 hy131
  refine o_call hf cb_7 rfl rfl hc133 (fun v135 w a hK134 hf => ?_)
  obtain ⟨rfl, hw⟩ := hK134
  refine om hf rfl rfl fun a hf => g_split hf (g := 14) rfl (fun hb136 hf => ?_) (fun hb136 hf => ?_)
  ·replace hp := cond_t hb136 hp
   refine oQ hf (g := 14) rfl fun a hf => oQ hf (g := 14) rfl fun a hf => oQ hf (g := 14) rfl fun a hf => oR hf (pT hf rfl rfl) rfl fun a hf => om hf rfl rfl fun a hf => oQ hf (g := 19) rfl fun a hf => oQ hf (g := 19) rfl fun a hf => oQ hf (g := 19) rfl fun a hf => oR hf (pT hf rfl rfl) rfl fun a hf => om hf rfl rfl fun a hf => oQ hf (g := 24) rfl fun a hf => oQ hf (g := 24) rfl fun a hf => oQ hf (g := 24) rfl fun a hf => oR hf (pT hf rfl rfl) rfl fun a hf => oN <| ct ?_
   have ho := oI hp
   subst ho
   exact ⟨true, rfl, hw, hf.to ⟨rfl, rfl, rfl, trivial⟩⟩
  ·replace hp := cond_f hb136 hp
   refine oW hf (g := 14) rfl rfl <| om hf rfl rfl fun a hf => oW hf (g := 14) rfl rfl ?_
   obtain ⟨y137, hy138, hp⟩ := bS hp
   have hc140 := ref10_May_ok hw hG hR2 hy138
   refine o_call hf cb_8 rfl rfl hc140 (fun v142 w a hK141 hf => ?_)
   obtain ⟨rfl, hw⟩ := hK141
   refine oW hf (g := 14) rfl rfl <| oR hf (r_not hf rfl) rfl fun a hf => oR hf (pF hf rfl rfl) rfl fun a hf => om hf rfl rfl fun a hf => g_split hf (g := 19) rfl (fun hb143 hf => ?_) (fun hb143 hf => ?_)
   ·replace hp := cond_t hb143 hp
    refine oQ hf (g := 19) rfl fun a hf => oQ hf (g := 19) rfl fun a hf => oQ hf (g := 19) rfl fun a hf => oR hf (pT hf rfl rfl) rfl fun a hf => om hf rfl rfl fun a hf => oQ hf (g := 24) rfl fun a hf => oQ hf (g := 24) rfl fun a hf => oQ hf (g := 24) rfl fun a hf => oR hf (pT hf rfl rfl) rfl fun a hf => oN <| ct ?_
    have ho := oI hp
    subst ho
    exact ⟨true, rfl, hw, hf.to ⟨rfl, rfl, rfl, trivial⟩⟩
   ·replace hp := cond_f hb143 hp
    refine oW hf (g := 19) rfl rfl <| om hf rfl rfl fun a hf => oW hf (g := 19) rfl rfl <| oR hf (r_lenL (K := ek_Pair) hf el_22 rfl (hR2.rd hw)) rfl fun a hf => oW hf (g := 19) rfl rfl <| oR hf (iC hf rfl rfl rfl) rfl fun a hf => oR hf (pF hf rfl rfl) rfl fun a hf => om hf rfl rfl fun a hf => g_split hf (g := 24) rfl (fun hb144 hf => ?_) (fun hb144 hf => ?_)
    ·replace hp := cond_t hb144 hp
     refine oQ hf (g := 24) rfl fun a hf => oQ hf (g := 24) rfl fun a hf => oQ hf (g := 24) rfl fun a hf => oR hf (pT hf rfl rfl) rfl fun a hf => oN <| ct ?_
     have ho := oI hp
     subst ho
     exact ⟨true, rfl, hw, hf.to ⟨rfl, rfl, rfl, trivial⟩⟩
    ·replace hp := cond_f hb144 hp
     refine oW hf (g := 24) rfl rfl <| om hf rfl rfl fun a hf => oW hf (g := 24) rfl rfl ?_
     obtain ⟨y145, hy146, hp⟩ := bS hp
     have hc148 := ref12_Key_ok hw hG hy146
     refine o_call hf cb_9 rfl rfl hc148 (fun v150 w a hK149 hf => ?_)
     obtain ⟨rfl, hw⟩ := hK149
     refine oW hf (g := 24) rfl rfl <| oR hf (r_not hf rfl) rfl fun a hf => oR hf (pF hf rfl rfl) rfl fun a hf => oN <| ct ?_
     have ho := oI hp
     subst ho
     exact ⟨(!y145), rfl, hw, hf.to ⟨rfl, rfl, rfl, trivial⟩⟩
 ·intro a w hM
  obtain ⟨y127, rfl, hw, hf⟩ := hM
  replace hp := hq129
  refine cC hf rfl (fun hb151 => ?_) (fun hb151 => ?_)
  ·replace hp := cond_t hb151 hp
   refine wq <| wr ?_
   obtain ⟨y152, hy153, hp⟩ := bS hp
   have hc155 := law17_wakes_ok hw hG hy153
   refine o_call hf cb_10 rfl rfl hc155 (fun v157 w a hK156 hf => ?_)
   obtain ⟨rfl, hw⟩ := hK156
   refine oa hf rfl rfl fun a hf => oN <| ct <| wp_ret <| c_thenR ?_
   have ho := oI hp
   subst ho
   exact b_ret1 hf results3 rfl ⟨_, rfl, ⟨rfl, hw⟩⟩
  ·replace hp := cond_f hb151 hp
   refine wp_skip <| ct <| wq <| wr <| om hf rfl rfl fun a hf => ?_
   obtain ⟨y158, hy159, hp⟩ := bS hp
   have hc161 := ref10_Build_ok hw hG hR2 hy159
   refine o_call hf cb_11 rfl rfl hc161 (fun v167 w a hK162 hf => ?_)
   obtain ⟨I2_162, rvv163, rvv165, rfl, hle168, hw, hR164, hR166⟩ := hK162
   replace hG := hG.mono hle168
   replace hR2 := hR2.mono hle168
   refine oR hf (r_field hf rfl fd_30_0 ty_27 rfl) rfl fun a hf => oa hf rfl rfl fun a hf => oN <| ct <| wq <| wr <| om hf rfl rfl fun a hf => om hf rfl rfl fun a hf => ?_
   obtain ⟨y604, hy603, hp⟩ := bS hp
   obtain ⟨y601, y602⟩ := y604
   have hc605 := prove_Of_ok hw hG hR164 hy603
   refine o_call hf cb_12 rfl rfl hc605 (fun v609 w a hK606 hf => ?_)
   obtain ⟨I2_606, rvv607, rfl, hle610, hw, hR608⟩ := hK606
   replace hG := hG.mono hle610
   replace hR2 := hR2.mono hle610
   replace hR164 := hR164.mono hle610
   replace hR166 := hR166.mono hle610
   refine om hf rfl rfl fun a hf => oR hf (rE hf rfl rfl) rfl fun a hf => oR hf (rE hf rfl rfl) rfl fun a hf => oa hf rfl rfl fun a hf => oa hf rfl rfl fun a hf => oN <| ct <| wq <| wr <| om hf rfl rfl fun a hf => ?_
   obtain ⟨y611, hy612, hp⟩ := bS hp
   have hc614 := ref11_Root_ok hw hG hR164 hy612
   refine o_call hf cb_14 rfl rfl hc614 (fun v616 w a hK615 hf => ?_)
   obtain ⟨rfl, hw⟩ := hK615
   refine om hf rfl rfl fun a hf => om hf rfl rfl fun a hf => ?_
   obtain ⟨y620, hy619, hp⟩ := bS hp
   obtain ⟨y617, y618⟩ := y620
   have hc621 := verify_Of_ok hw hG hR608 hy619
   refine o_call hf cb_13 rfl rfl hc621 (fun v623 w a hK622 hf => ?_)
   obtain ⟨rfl, hw⟩ := hK622
   refine om hf rfl rfl fun a hf => oR hf (rE hf rfl rfl) rfl fun a hf => oR hf (rE hf rfl rfl) rfl fun a hf => ?_
   obtain ⟨b624, w, hrun625, hw⟩ := e_alloc (P := P) (a := a) hw ty_36
   replace hw : Ok E I2_606 (.blk b624 (.cells ⟨[.bool false, .string e0]⟩ 36 (0, 0)) :: F) w := hw
   refine o_eff hf (hrun625 ..) rfl fun a hf => ?_
   obtain ⟨w, hrun627, hw⟩ := e_store (P := P) hw hf (x := .tmp 8) (y := .tmp 45) rfl rfl ty_36 0 rfl (vs := [.bool y617.has_, .string y617.value_]) rfl rfl (oC rfl (oC rfl ones_nil)) (by simp [arrC_len]) (cs' := [.bool y617.has_, .string y617.value_]) rfl
   replace hw : Ok E I2_606 (.blk b624 (.cells ⟨[.bool y617.has_, .string y617.value_]⟩ 36 (0, 0)) :: F) w := hw
   refine o_effU (hrun627 ..) <| oa hf rfl rfl fun a hf => oN <| ct <| wq <| wr <| om hf rfl rfl fun a hf => om hf rfl rfl fun a hf => ?_
   obtain ⟨y77, hy76, hp⟩ := bS hp
   obtain ⟨y74, y75⟩ := y77
   have hc78 := get_Of_ok hw hG hR164 hy76
   refine o_call hf cb_15 rfl rfl hc78 (fun v80 w a hK79 hf => ?_)
   obtain ⟨rfl, hw⟩ := hK79
   refine om hf rfl rfl fun a hf => oR hf (rE hf rfl rfl) rfl fun a hf => oR hf (rE hf rfl rfl) rfl fun a hf => ?_
   obtain ⟨b81, w, hrun82, hw⟩ := e_alloc (P := P) (a := a) hw ty_36
   replace hw : Ok E I2_606 (.blk b81 (.cells ⟨[.bool false, .string e0]⟩ 36 (0, 0)) :: .blk b624 (.cells ⟨[.bool y617.has_, .string y617.value_]⟩ 36 (0, 0)) :: F) w := hw
   refine o_eff hf (hrun82 ..) rfl fun a hf => ?_
   obtain ⟨w, hrun84, hw⟩ := e_store (P := P) hw hf (x := .tmp 10) (y := .tmp 51) rfl rfl ty_36 0 rfl (vs := [.bool y74.has_, .string y74.value_]) rfl rfl (oC rfl (oC rfl ones_nil)) (by simp [arrC_len]) (cs' := [.bool y74.has_, .string y74.value_]) rfl
   replace hw : Ok E I2_606 (.blk b81 (.cells ⟨[.bool y74.has_, .string y74.value_]⟩ 36 (0, 0)) :: .blk b624 (.cells ⟨[.bool y617.has_, .string y617.value_]⟩ 36 (0, 0)) :: F) w := hw
   refine o_effU (hrun84 ..) <| oa hf rfl rfl fun a hf => oN <| ct ?_
   obtain ⟨out132, hp, hq133⟩ := bS hp
   refine c_cut (fun a w => ∃ y131 : Bool, y131 = out132 ∧ Ok E I2_606 (.blk b81 (.cells ⟨[.bool y74.has_, .string y74.value_]⟩ 36 (0, 0)) :: .blk b624 (.cells ⟨[.bool y617.has_, .string y617.value_]⟩ 36 (0, 0)) :: F) w ∧ Fr 80 ([(4, .bool y131)]) a) ?_ ?_
   ·refine wr <| om hf rfl rfl fun a hf => oR hf (iC hf rfl rfl rfl) rfl fun a hf => om hf rfl rfl fun a hf => g_split hf (g := 55) rfl (fun hb134 hf => ?_) (fun hb134 hf => ?_)
    ·replace hp := cond_t hb134 hp
     refine oW hf (g := 55) rfl rfl <| om hf rfl rfl fun a hf => oW hf (g := 55) rfl rfl <| oR hf (iC hf rfl rfl rfl) rfl fun a hf => oR hf (pT hf rfl rfl) rfl fun a hf => om hf rfl rfl fun a hf => g_split hf (g := 59) rfl (fun hb135 hf => ?_) (fun hb135 hf => ?_)
     ·replace hp := cond_t hb135 hp
      refine oW hf (g := 59) rfl rfl <| om hf rfl rfl fun a hf => oR hf (pT hf rfl rfl) rfl fun a hf => om hf rfl rfl fun a hf => g_split hf (g := 62) rfl (fun hb136 hf => ?_) (fun hb136 hf => ?_)
      ·replace hp := cond_t hb136 hp
       refine oW hf (g := 62) rfl rfl <| oR hf (r_loadA hw hf rfl ty_36 1 rfl (vs := [.bool y617.has_, .string y617.value_]) rfl rfl) rfl fun a hf => oW hf (g := 62) rfl rfl <| oR hf (r_loadA hw hf rfl ty_36 0 rfl (vs := [.bool y74.has_, .string y74.value_]) rfl rfl) rfl fun a hf => oW hf (g := 62) rfl rfl <| oR hf (r_eql_Answer hf (x := y617) (y := y74) rfl rfl) rfl fun a hf => oR hf (pT hf rfl rfl) rfl fun a hf => om hf rfl rfl fun a hf => g_split hf (g := 67) rfl (fun hb137 hf => ?_) (fun hb137 hf => ?_)
       ·replace hp := cond_t hb137 hp
        refine oW hf (g := 67) rfl rfl <| om hf rfl rfl fun a hf => oW hf (g := 67) rfl rfl ?_
        obtain ⟨y138, hy139, hp⟩ := bS hp
        have hc141 := ref11_Root_ok hw hG hR164 hy139
        refine o_call hf cb_14 rfl rfl hc141 (fun v143 w a hK142 hf => ?_)
        obtain ⟨rfl, hw⟩ := hK142
        refine oW hf (g := 67) rfl rfl <| om hf rfl rfl fun a hf => oW hf (g := 67) rfl rfl <| om hf rfl rfl fun a hf => oW hf (g := 67) rfl rfl ?_
        obtain ⟨y144, hy145, hp⟩ := bS hp
        have hc147 := verify_Steps_ok hw hG hR608 hy145
        refine o_call hf cb_16 rfl rfl hc147 (fun v149 w a hK148 hf => ?_)
        obtain ⟨rfl, hw⟩ := hK148
        refine oW hf (g := 67) rfl rfl <| om hf rfl rfl fun a hf => oW hf (g := 67) rfl rfl <| oR hf (r_lenL (K := ekS) hf el_28 rfl (hR608.rd hw)) rfl fun a hf => oW hf (g := 67) rfl rfl <| oR hf (iC hf rfl rfl rfl) rfl fun a hf => oR hf (pT hf rfl rfl) rfl fun a hf => om hf rfl rfl fun a hf => g_split hf (g := 77) rfl (fun hb150 hf => ?_) (fun hb150 hf => ?_)
        ·replace hp := cond_t hb150 hp
         refine oW hf (g := 77) rfl rfl ?_
         obtain ⟨y151, hy152, hp⟩ := bS hp
         have hc154 := law17_wakes_ok hw hG hy152
         refine o_call hf cb_10 rfl rfl hc154 (fun v156 w a hK155 hf => ?_)
         obtain ⟨rfl, hw⟩ := hK155
         refine oR hf (pT hf rfl rfl) rfl fun a hf => oa hf rfl rfl fun a hf => oN <| ct ?_
         have ho := oI hp
         subst ho
         exact ⟨y151, rfl, hw, hf.to ⟨rfl, trivial⟩⟩
        ·replace hp := cond_f hb150 hp
         refine oQ hf (g := 77) rfl fun a hf => oR hf (pF hf rfl rfl) rfl fun a hf => oa hf rfl rfl fun a hf => oN <| ct ?_
         have ho := oI hp
         subst ho
         exact ⟨false, rfl, hw, hf.to ⟨rfl, trivial⟩⟩
       ·replace hp := cond_f hb137 hp
        refine oQ hf (g := 67) rfl fun a hf => oQ hf (g := 67) rfl fun a hf => oQ hf (g := 67) rfl fun a hf => oQ hf (g := 67) rfl fun a hf => oQ hf (g := 67) rfl fun a hf => oQ hf (g := 67) rfl fun a hf => oQ hf (g := 67) rfl fun a hf => oQ hf (g := 67) rfl fun a hf => oR hf (pF hf rfl rfl) rfl fun a hf => om hf rfl rfl fun a hf => oQ hf (g := 77) rfl fun a hf => oR hf (pF hf rfl rfl) rfl fun a hf => oa hf rfl rfl fun a hf => oN <| ct ?_
        have ho := oI hp
        subst ho
        exact ⟨false, rfl, hw, hf.to ⟨rfl, trivial⟩⟩
      ·replace hp := cond_f hb136 hp
       refine oQ hf (g := 62) rfl fun a hf => oQ hf (g := 62) rfl fun a hf => oQ hf (g := 62) rfl fun a hf => oR hf (pF hf rfl rfl) rfl fun a hf => om hf rfl rfl fun a hf => oQ hf (g := 67) rfl fun a hf => oQ hf (g := 67) rfl fun a hf => oQ hf (g := 67) rfl fun a hf => oQ hf (g := 67) rfl fun a hf => oQ hf (g := 67) rfl fun a hf => oQ hf (g := 67) rfl fun a hf => oQ hf (g := 67) rfl fun a hf => oQ hf (g := 67) rfl fun a hf => oR hf (pF hf rfl rfl) rfl fun a hf => om hf rfl rfl fun a hf => oQ hf (g := 77) rfl fun a hf => ?_
       refine oR hf (pF hf rfl rfl) rfl fun a hf => oa hf rfl rfl fun a hf => oN <| ct ?_
       have ho := oI hp
       subst ho
       exact ⟨false, rfl, hw, hf.to ⟨rfl, trivial⟩⟩
     ·replace hp := cond_f hb135 hp
      refine oQ hf (g := 59) rfl fun a hf => oR hf (pF hf rfl rfl) rfl fun a hf => om hf rfl rfl fun a hf => oQ hf (g := 62) rfl fun a hf => oQ hf (g := 62) rfl fun a hf => oQ hf (g := 62) rfl fun a hf => oR hf (pF hf rfl rfl) rfl fun a hf => om hf rfl rfl fun a hf => oQ hf (g := 67) rfl fun a hf => oQ hf (g := 67) rfl fun a hf => oQ hf (g := 67) rfl fun a hf => oQ hf (g := 67) rfl fun a hf => oQ hf (g := 67) rfl fun a hf => oQ hf (g := 67) rfl fun a hf => oQ hf (g := 67) rfl fun a hf => oQ hf (g := 67) rfl fun a hf => ?_
      refine oR hf (pF hf rfl rfl) rfl fun a hf => om hf rfl rfl fun a hf => oQ hf (g := 77) rfl fun a hf => oR hf (pF hf rfl rfl) rfl fun a hf => oa hf rfl rfl fun a hf => oN <| ct ?_
      have ho := oI hp
      subst ho
      exact ⟨false, rfl, hw, hf.to ⟨rfl, trivial⟩⟩
    ·replace hp := cond_f hb134 hp
     refine oQ hf (g := 55) rfl fun a hf => oQ hf (g := 55) rfl fun a hf => oR hf (pF hf rfl rfl) rfl fun a hf => om hf rfl rfl fun a hf => oQ hf (g := 59) rfl fun a hf => oR hf (pF hf rfl rfl) rfl fun a hf => om hf rfl rfl fun a hf => oQ hf (g := 62) rfl fun a hf => oQ hf (g := 62) rfl fun a hf => oQ hf (g := 62) rfl fun a hf => oR hf (pF hf rfl rfl) rfl fun a hf => om hf rfl rfl fun a hf => oQ hf (g := 67) rfl fun a hf => oQ hf (g := 67) rfl fun a hf => oQ hf (g := 67) rfl fun a hf => oQ hf (g := 67) rfl fun a hf => ?_
     refine oQ hf (g := 67) rfl fun a hf => oQ hf (g := 67) rfl fun a hf => oQ hf (g := 67) rfl fun a hf => oQ hf (g := 67) rfl fun a hf => oR hf (pF hf rfl rfl) rfl fun a hf => om hf rfl rfl fun a hf => oQ hf (g := 77) rfl fun a hf => oR hf (pF hf rfl rfl) rfl fun a hf => oa hf rfl rfl fun a hf => oN <| ct ?_
     have ho := oI hp
     subst ho
     exact ⟨false, rfl, hw, hf.to ⟨rfl, trivial⟩⟩
   ·intro a w hM
    obtain ⟨y131, rfl, hw, hf⟩ := hM
    replace hp := hq133
    refine wp_ret ?_
    replace hw : Ok E I2_606 (F) w := hw.sub (sc (sc sr))
    have ho := oI hp
    subst ho
    exact b_ret1 hf results3 rfl ⟨_, rfl, ⟨rfl, (hw.back (IH.le_trans hle168 hle610) sr)⟩⟩
end Go.Lf
