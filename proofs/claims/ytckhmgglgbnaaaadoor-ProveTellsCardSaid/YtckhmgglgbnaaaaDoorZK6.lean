/- The Go functions compute the plain Lean functions (printed by our lift.py). -/
import Derived.Test.YtckhmgglgbnaaaaDoorZD
import Derived.Test.YtckhmgglgbnaaaaDoorZF
import Derived.Test.YtckhmgglgbnaaaaDoorJ
import Derived.Test.YtckhmgglgbnaaaaDoorZK3
import Derived.Test.YtckhmgglgbnaaaaDoorZK5
set_option linter.unusedVariables false
set_option linter.unusedSimpArgs false
set_option maxHeartbeats 1000000
set_option maxRecDepth 20000
namespace Go.Lf
open Go
theorem get_gone_ok {E : World} {I : IH} {F : List Atom} {w : World} {a0 : List Node} {a0v1 : Value} {a1 : ByteArray} {res0 : Option get_way_T} {res1 : Int} (hw : Ok E I (F) w) (hG : Gl I) (hR2 : RS ek_Node I a0v1 a0) (hp : get_gone.f a0 a1 = some (res0, res1)) :
  Calls P 80 ⟨[a0v1, Value.string a1]⟩ w fun e w' => ∃ v, e = .returned v ∧ ((res0 = none ∧ v = Value.tuple ⟨[Value.pointer none, Value.int .i64 res1]⟩ ∧ Ok E I (F) w') ∨ (∃ ox : get_way_T, res0 = some ox ∧ ∃ I2 : IH, ∃ rb133 : Nat, ∃ rvv129 : Value, ∃ rvv131 : Value, v = Value.tuple ⟨[Value.pointer (some ⟨rb133, 0, none⟩), Value.int .i64 res1]⟩ ∧ IH.le I I2 ∧ Ok E I2 (.blk rb133 (.cells ⟨[rvv129, Value.string ox.p_left_, rvv131]⟩ 132 (0, 0)) :: F) w' ∧ RS ek_Node I2 rvv129 ox.p_t_ ∧ RS (ekI .i64) I2 rvv131 ox.p_nodes_)) := by
 refine c_enter Go.Proofs.Tryd.func80 rfl Go.Proofs.Tryd.ntmps80 rfl fun a hf => ?_
 replace hf : Fr 50 [(0, a0v1), (1, .string a1)] a := hf
 unfold get_gone.f at hp
 refine wq <| wr <| oa hf rfl rfl fun a hf => oa hf rfl rfl fun a hf => oN <| ct <| wq <| wp_block <| wq <| wr <| om hf rfl rfl fun a hf => ?_
 obtain ⟨y15, hy16, hp⟩ := bS hp
 have hc18 := trie_Good_ok hw hG hR2 hy16
 refine o_call hf cb_40 rfl rfl hc18 (fun v20 w a hK19 hf => ?_)
 obtain ⟨rfl, hw⟩ := hK19
 refine oR hf (r_not hf rfl) rfl fun a hf => oa hf rfl rfl fun a hf => oN <| ct <| cC hf rfl (fun hb21 => ?_) (fun hb21 => ?_)
 ·replace hp := cond_t hb21 hp
  refine wq <| wr <| oa hf rfl rfl fun a hf => oa hf rfl rfl fun a hf => oN <| ct <| wp_ret <| c_blockR <| c_thenR ?_
  have ho := oI hp
  simp only [Prod.mk.injEq] at ho
  obtain ⟨rfl, rfl⟩ := ho
  exact b_ret2 hf Go.Proofs.Tryd.results80 rfl rfl ⟨_, rfl, .inl ⟨rfl, rfl, hw⟩⟩
 ·replace hp := cond_f hb21 hp
  obtain ⟨out25, hp, hq26⟩ := bS hp
  refine c_cut (fun a w => ∃ y24 : Bool, y24 = out25 ∧ Ok E I (F) w ∧ Fr 50 ([(0, a0v1), (1, .string a1), (12, .bool y24)]) a) ?_ ?_
  ·refine wr <| om hf rfl rfl fun a hf => oR hf (r_scmp hf rfl rfl rfl) rfl fun a hf => om hf rfl rfl fun a hf => g_split hf (g := 15) rfl (fun hb27 hf => ?_) (fun hb27 hf => ?_)
   ·replace hp := cond_t hb27 hp
    refine oS hf (g := 15) rfl rfl rfl rfl rfl rfl fun a hf => oS hf (g := 15) rfl rfl rfl rfl rfl rfl fun a hf => oS hf (g := 15) rfl rfl rfl rfl rfl rfl fun a hf => oR hf (pT hf rfl rfl) rfl fun a hf => oa hf rfl rfl fun a hf => oN <| ct ?_
    have ho := oI hp
    subst ho
    exact ⟨true, rfl, hw, hf.to ⟨rfl, rfl, rfl, trivial⟩⟩
   ·replace hp := cond_f hb27 hp
    refine oW hf (g := 15) rfl rfl <| om hf rfl rfl fun a hf => oW hf (g := 15) rfl rfl <| oR hf (r_lenS hf und_9 rfl) rfl fun a hf => oW hf (g := 15) rfl rfl <| oR hf (iC hf rfl rfl rfl) rfl fun a hf => oR hf (pF hf rfl rfl) rfl fun a hf => oa hf rfl rfl fun a hf => oN <| ct ?_
    have ho := oI hp
    subst ho
    exact ⟨(decide ((a1.size : Int) > 8)), rfl, hw, hf.to ⟨rfl, rfl, rfl, trivial⟩⟩
  ·intro a w hM
   obtain ⟨y24, rfl, hw, hf⟩ := hM
   replace hp := hq26
   refine cC hf rfl (fun hb28 => ?_) (fun hb28 => ?_)
   ·replace hp := cond_t hb28 hp
    refine wq <| wr <| oa hf rfl rfl fun a hf => oa hf rfl rfl fun a hf => oN <| ct <| wp_ret <| c_blockR <| c_thenR ?_
    have ho := oI hp
    simp only [Prod.mk.injEq] at ho
    obtain ⟨rfl, rfl⟩ := ho
    exact b_ret2 hf Go.Proofs.Tryd.results80 rfl rfl ⟨_, rfl, .inl ⟨rfl, rfl, hw⟩⟩
   ·replace hp := cond_f hb28 hp
    refine wp_skip <| c_blockN <| ct <| wq <| wr <| om hf rfl rfl fun a hf => om hf rfl rfl fun a hf => ?_
    obtain ⟨y29, hy30, hp⟩ := bS hp
    have hc32 := nibble_Of_ok hw hG hy30
    refine o_call hf cb_100 rfl rfl hc32 (fun v34 w a hK33 hf => ?_)
    obtain ⟨rfl, hw⟩ := hK33
    refine oR hf (r_build hf bd_132 (vs := [a0v1, Value.string y29]) rfl ⟨hR2.one, rfl, trivial⟩ (by decide) (out := [a0v1, Value.string y29, Value.slice none 0 0]) rfl) rfl fun a hf => ?_
    obtain ⟨b35, w, hrun36, hw⟩ := e_box (P := P) hw hf (e := 132) (x := .tmp 23) rfl (cs := [a0v1, Value.string y29, Value.slice none 0 0]) rfl
    refine o_eff hf (hrun36 ..) rfl fun a hf => oa hf rfl rfl fun a hf => oN <| ct <| wq <| wq <| wr <| om hf rfl rfl fun a hf => oR hf (r_lenL (K := ek_Node) hf el_23 rfl (hR2.rd hw)) rfl fun a hf => oR hf (iC hf rfl rfl rfl) rfl fun a hf => oN <| ct <| cC hf rfl (fun hb38 => ?_) (fun hb38 => ?_)
    ·replace hp := cond_t hb38 hp
     refine wq <| wr <| om hf rfl rfl fun a hf => oa hf rfl rfl fun a hf => oa hf rfl rfl fun a hf => oN <| ct <| wp_ret <| c_thenR ?_
     have ho := oI hp
     simp only [Prod.mk.injEq] at ho
     obtain ⟨rfl, rfl⟩ := ho
     exact b_ret2 hf Go.Proofs.Tryd.results80 rfl rfl ⟨_, rfl, .inr ⟨_, rfl, I, b35, a0v1, (Value.slice none 0 0), rfl, (IH.le_refl _), hw, hR2, RS.nil⟩⟩
    ·replace hp := cond_f hb38 hp
     refine wp_skip <| ct <| wq <| wr <| om hf rfl rfl fun a hf => ?_
     obtain ⟨w, v39, hrun40, hw, hRR41⟩ := e_buildSlice (P := P) (K := (ekI .i64)) (m := 1) hw hf (parts := [(0, .const (Value.int .i64 0))]) el_70 ty_3 rfl rfl rfl (ccs := [[Value.int .i64 0]]) rfl (xs := [0]) ⟨rfl, trivial⟩ rfl
     obtain ⟨cs42, hcs⟩ : ∃ cs, cs = ([[Value.int .i64 0]] : List (List Value)).flatten := ⟨_, rfl⟩
     rw [← hcs] at hw hRR41; clear hcs
     refine o_eff hf (hrun40 ..) rfl fun a hf => oR hf (nC hf rfl) rfl fun a hf => oR hf (rF hf rfl fd_132_2) rfl fun a hf => ?_
     obtain ⟨w, hrun44, hw⟩ := e_store (P := P) hw hf (x := .tmp 32) (y := .tmp 30) rfl rfl ty_70 1 rfl (vs := [v39]) (oE (row_one hw (i := 0) rfl)) rfl (oC (row_one hw (i := 0) rfl) ones_nil) (by simp [arrC_len]) (cs' := [a0v1, Value.string y29, v39]) rfl
     replace hw : Ok E I (.row v39 3 1 1 cs42 :: .blk b35 (.cells ⟨[a0v1, .string y29, v39]⟩ 132 (0, 0)) :: F) w := hw
     refine o_effU (hrun44 ..) <| oN <| ct <| wq <| wq <| wr <| om hf rfl rfl fun a hf => ?_
     replace hw : Ok E I (.row v39 3 1 1 cs42 :: .blk b35 (.cells ⟨[a0v1, .string y29, v39]⟩ 132 (0, 0)) :: F) w := hw.front (i := 0) rfl
     replace hw : Ok E I (.blk b35 (.cells ⟨[a0v1, .string y29, v39]⟩ 132 (0, 0)) :: .row v39 3 1 1 cs42 :: F) w := hw.front (i := 1) rfl
     obtain ⟨y48, hy47, hp⟩ := bS hp
     obtain ⟨y45, y46⟩ := y48
     have hc49 := get_way_next_ok hw hG hR2 hRR41 hy47
     refine o_call hf cb_101 rfl rfl hc49 (fun v51 w a hK50 hf => ?_)
     obtain ⟨rfl, hw⟩ := hK50
     refine oa hf rfl rfl fun a hf => oN <| ct ?_
     obtain ⟨out132, hp, hq133⟩ := bS hp
     refine c_cutX (fun a w => ∃ y126 : List Int, ∃ y131 : ByteArray, ∃ yv127 : Value, ∃ m128 : Nat, ∃ cs129 : List Value, (y126, y131) = out132 ∧ Ok E I (.blk b35 (.cells ⟨[a0v1, .string y131, yv127]⟩ 132 (0, 0)) :: .row yv127 3 1 m128 cs129 :: F) w ∧ Fr 50 ([(6, .pointer (some ⟨b35, 0, none⟩))]) a ∧ RowR (ekI .i64) I cs129 y126) ?_ ?_
     ·refine wp_block <| c_loop <| c_fuel (get_gone.l0 a0) out132 (fun (y99, y104, y105) a w => ∃ yv100 : Value, ∃ m101 : Nat, ∃ cs102 : List Value, Ok E I (.blk b35 (.cells ⟨[a0v1, .string y104, yv100]⟩ 132 (0, 0)) :: .row yv100 3 1 m101 cs102 :: F) w ∧ Fr 50 ([(6, .pointer (some ⟨b35, 0, none⟩)), (7, .int .i64 y105)]) a ∧ RowR (ekI .i64) I cs102 y99) (fun _ => rfl) ?_ BIG ([0], y46, y45) _ _ ⟨v39, 1, cs42, hw, hf.to ⟨rfl, rfl, trivial⟩, hRR41⟩ hp
      intro k st a w hI hp ih
      obtain ⟨y99, y104, y105⟩ := st
      obtain ⟨yv100, m101, cs102, hw, hf, hRR103⟩ := hI
      rw [get_gone.l0] at hp
      refine wq <| wq <| wr <| om hf rfl rfl fun a hf => oR hf (iC hf rfl rfl rfl) rfl fun a hf => oN <| ct <| cC hf rfl (fun hb135 => ?_) (fun hb135 => ?_)
      ·replace hp := cond_t hb135 hp
       refine wp_skip <| ct <| wq <| wp_block <| wr <| om hf rfl rfl fun a hf => om hf rfl rfl fun a hf => oR hf (nC hf rfl) rfl fun a hf => oR hf (rF hf rfl fd_132_2) rfl fun a hf => oR hf (rL hw hf rfl ty_70 0 rfl rfl) rfl fun a hf => om hf rfl rfl fun a hf => ?_
       obtain ⟨w, v136, hrun137, hw, hRR138⟩ := e_buildSlice (P := P) (K := (ekI .i64)) (m := 1) hw hf (parts := [(0, .tmp 44)]) el_70 ty_3 rfl rfl rfl (ccs := [[Value.int .i64 y105]]) rfl (xs := [y105]) ⟨rfl, trivial⟩ rfl
       obtain ⟨cs139, hcs⟩ : ∃ cs, cs = ([[Value.int .i64 y105]] : List (List Value)).flatten := ⟨_, rfl⟩
       rw [← hcs] at hw hRR138; clear hcs
       refine o_eff hf (hrun137 ..) rfl fun a hf => ?_
       obtain ⟨hg141, hp⟩ := gS hp
       obtain ⟨w, v142, m143, cs144, hrun146, hw, hRR145⟩ := e_append (P := P) (K := (ekI .i64)) (ty := 70) hw hf (s := .tmp 43) (x := .tmp 45) el_70 ty_3 rfl (by decide) 2 rfl rfl rfl hRR103 (ys := [y105]) (rR (K := (ekI .i64)) hw (i := 0) rfl hRR138) hg141
       replace hw : Ok E I (.row v136 3 1 1 cs139 :: .blk b35 (.cells ⟨[a0v1, .string y104, yv100]⟩ 132 (0, 0)) :: .row v142 3 1 m143 cs144 :: F) w := hw
       refine o_eff hf (hrun146 ..) rfl fun a hf => oR hf (nC hf rfl) rfl fun a hf => oR hf (rF hf rfl fd_132_2) rfl fun a hf => ?_
       obtain ⟨w, hrun147, hw⟩ := e_store (P := P) hw hf (x := .tmp 48) (y := .tmp 46) rfl rfl ty_70 1 rfl (vs := [v142]) (oE (row_one hw (i := 2) rfl)) rfl (oC (row_one hw (i := 2) rfl) ones_nil) (by simp [arrC_len]) (cs' := [a0v1, Value.string y104, v142]) rfl
       replace hw : Ok E I (.row v136 3 1 1 cs139 :: .blk b35 (.cells ⟨[a0v1, .string y104, v142]⟩ 132 (0, 0)) :: .row v142 3 1 m143 cs144 :: F) w := hw
       refine o_effU (hrun147 ..) <| oN <| c_blockN <| ct <| wr <| om hf rfl rfl fun a hf => ?_
       replace hw : Ok E I (.row v142 3 1 m143 cs144 :: .row v136 3 1 1 cs139 :: .blk b35 (.cells ⟨[a0v1, .string y104, v142]⟩ 132 (0, 0)) :: F) w := hw.front (i := 2) rfl
       replace hw : Ok E I (.blk b35 (.cells ⟨[a0v1, .string y104, v142]⟩ 132 (0, 0)) :: .row v142 3 1 m143 cs144 :: .row v136 3 1 1 cs139 :: F) w := hw.front (i := 2) rfl
       obtain ⟨y151, hy150, hp⟩ := bS hp
       obtain ⟨y148, y149⟩ := y151
       have hc152 := get_way_next_ok hw hG hR2 hRR145 hy150
       refine o_call hf cb_101 rfl rfl hc152 (fun v154 w a hK153 hf => ?_)
       obtain ⟨rfl, hw⟩ := hK153
       refine oa hf rfl rfl fun a hf => oN <| ct ?_
       replace hw : Ok E I (.blk b35 (.cells ⟨[a0v1, .string y149, v142]⟩ 132 (0, 0)) :: .row v142 3 1 m143 cs144 :: F) w := hw.sub (scc (scc (sc sr)))
       exact ih (y99 ++ [y105], y149, y148) _ _ ⟨v142, m143, cs144, hw, hf.to ⟨rfl, rfl, trivial⟩, hRR145⟩ hp
      ·replace hp := cond_f hb135 hp
       refine wp_exit <| c_thenE <| c_thenE <| c_exit <| ct ?_
       have ho := oI hp
       subst ho
       exact ⟨y99, y104, yv100, m101, cs102, rfl, hw, hf.to ⟨rfl, trivial⟩, hRR103⟩
     ·intro a w hM
      obtain ⟨y126, y131, yv127, m128, cs129, rfl, hw, hf, hRR130⟩ := hM
      replace hp := hq133
      refine ct <| wq <| wr <| om hf rfl rfl fun a hf => oa hf rfl rfl fun a hf => oa hf rfl rfl fun a hf => oN <| ct <| wp_ret ?_
      have hw : Ok E I (.row yv127 3 1 m128 cs129 :: .blk b35 (.cells ⟨[a0v1, Value.string y131, yv127]⟩ 132 (0, 0)) :: F) w := hw.front (i := 1) rfl
      obtain ⟨I156, hle157, hw, hR158⟩ := row_freeze (K := (ekI .i64)) hw hRR130
      replace hG := hG.mono hle157
      replace hR2 := hR2.mono hle157
      have ho := oI hp
      simp only [Prod.mk.injEq] at ho
      obtain ⟨rfl, rfl⟩ := ho
      exact b_ret2 hf Go.Proofs.Tryd.results80 rfl rfl ⟨_, rfl, .inr ⟨_, rfl, I156, b35, a0v1, yv127, rfl, hle157, hw, hR2, hR158⟩⟩

theorem get_Walk_ok {E : World} {I : IH} {F : List Atom} {w : World} {a0 : List Node} {a0v1 : Value} {a1 : ByteArray} {res0 : List Int} {res1 : Int} (hw : Ok E I (F) w) (hG : Gl I) (hR2 : RS ek_Node I a0v1 a0) (hp : get_Walk.f a0 a1 = some (res0, res1)) :
  Calls P 58 ⟨[a0v1, Value.string a1]⟩ w fun e w' => ∃ v, e = .returned v ∧ ∃ I2 : IH, ∃ rvv135 : Value, v = Value.tuple ⟨[rvv135, Value.int .i64 res1]⟩ ∧ IH.le I I2 ∧ Ok E I2 (F) w' ∧ RS (ekI .i64) I2 rvv135 res0 := by
 refine c_enter Go.Proofs.Tryd.func58 rfl Go.Proofs.Tryd.ntmps58 rfl fun a hf => ?_
 replace hf : Fr 21 [(0, a0v1), (1, .string a1)] a := hf
 unfold get_Walk.f at hp
 refine wq <| wr <| oa hf rfl rfl fun a hf => oa hf rfl rfl fun a hf => oN <| ct <| wq <| wr <| om hf rfl rfl fun a hf => om hf rfl rfl fun a hf => ?_
 obtain ⟨y162, hy161, hp⟩ := bS hp
 obtain ⟨y159, y160⟩ := y162
 have hc163 := get_gone_ok hw hG hR2 hy161
 refine o_call hf cb_80 rfl rfl hc163 (fun v171 w a hK164 hf => ?_)
 rcases hK164 with ⟨rfl, rfl, hw⟩ | ⟨ox_164, rfl, I2_164, rb169, rvv165, rvv167, rfl, hle172, hw, hR166, hR168⟩
 ·dsimp only at hp
  refine om hf rfl rfl fun a hf => oR hf (rE hf rfl rfl) rfl fun a hf => oR hf (rE hf rfl rfl) rfl fun a hf => oa hf rfl rfl fun a hf => oa hf rfl rfl fun a hf => oN <| ct <| wq <| wq <| wr <| om hf rfl rfl fun a hf => oR hf (iC hf rfl rfl rfl) rfl fun a hf => oN <| ct <| cC hf rfl (fun hb173 => ?_) (fun hb173 => ?_)
  ·replace hp := cond_t hb173 hp
   refine wq <| wr <| om hf rfl rfl fun a hf => oa hf rfl rfl fun a hf => oa hf rfl rfl fun a hf => oN <| ct <| wp_ret <| c_thenR ?_
   have ho := oI hp
   simp only [Prod.mk.injEq] at ho
   obtain ⟨rfl, rfl⟩ := ho
   exact b_ret2 hf Go.Proofs.Tryd.results58 rfl rfl ⟨_, rfl, ⟨I, (Value.slice none 0 0), rfl, (IH.le_refl _), hw, RS.nil⟩⟩
  ·replace hp := cond_f hb173 hp
   refine wp_skip <| ct <| wq <| wr <| om hf rfl rfl fun a hf => ?_
   obtain ⟨hg174, hp⟩ := gS hp
   exact absurd hg174 (by omega)
 ·dsimp only at hp
  replace hG := hG.mono hle172
  replace hR2 := hR2.mono hle172
  refine om hf rfl rfl fun a hf => oR hf (rE hf rfl rfl) rfl fun a hf => oR hf (rE hf rfl rfl) rfl fun a hf => oa hf rfl rfl fun a hf => oa hf rfl rfl fun a hf => oN <| ct <| wq <| wq <| wr <| om hf rfl rfl fun a hf => oR hf (iC hf rfl rfl rfl) rfl fun a hf => oN <| ct <| cC hf rfl (fun hb175 => ?_) (fun hb175 => ?_)
  ·replace hp := cond_t hb175 hp
   refine wq <| wr <| om hf rfl rfl fun a hf => oa hf rfl rfl fun a hf => oa hf rfl rfl fun a hf => oN <| ct <| wp_ret <| c_thenR ?_
   replace hw : Ok E I2_164 (F) w := hw.sub (sc sr)
   have ho := oI hp
   simp only [Prod.mk.injEq] at ho
   obtain ⟨rfl, rfl⟩ := ho
   exact b_ret2 hf Go.Proofs.Tryd.results58 rfl rfl ⟨_, rfl, ⟨I2_164, (Value.slice none 0 0), rfl, hle172, hw, RS.nil⟩⟩
  ·replace hp := cond_f hb175 hp
   refine wp_skip <| ct <| wq <| wr <| om hf rfl rfl fun a hf => oR hf (nC hf rfl) rfl fun a hf => oR hf (rF hf rfl fd_132_2) rfl fun a hf => oR hf (rL hw hf rfl ty_70 0 rfl rfl) rfl fun a hf => oa hf rfl rfl fun a hf => oa hf rfl rfl fun a hf => oN <| ct <| wp_ret ?_
   replace hw : Ok E I2_164 (F) w := hw.sub (sc sr)
   have ho := oI hp
   simp only [Prod.mk.injEq] at ho
   obtain ⟨rfl, rfl⟩ := ho
   exact b_ret2 hf Go.Proofs.Tryd.results58 rfl rfl ⟨_, rfl, ⟨I2_164, rvv167, rfl, hle172, hw, hR168⟩⟩

theorem root_item_r1_ok {E : World} {I : IH} {F : List Atom} {w : World} {a0 : Node} {a1 : List ByteArray} {a1v : Value} {a1m : Nat} {a1cs : List Value} {res0 : Item} (hw : Ok E I (.row a1v 9 1 a1m a1cs :: F) w) (hG : Gl I) (ha1 : RowR ekS I a1cs a1) (hp : root_item_r1.f a0 a1 = some res0) :
  Calls P 42 ⟨[Value.agg ⟨Value.int .i64 a0.kind_ :: Value.string a0.path_ :: Value.bool a0.has_ :: Value.string a0.value_ :: arrC .i64 a0.kids_⟩, a1v]⟩ w fun e w' => ∃ v, e = .returned v ∧ ∃ I2 : IH, ∃ rvv137 : Value, v = Value.agg ⟨[Value.int .i64 res0.kind_, Value.string res0.path_, Value.bool res0.has_, Value.string res0.value_, Value.int .i64 res0.mask_, rvv137]⟩ ∧ IH.le I I2 ∧ Ok E I2 (.row a1v 9 1 a1m a1cs :: F) w' ∧ RS ekS I2 rvv137 res0.hashes_ := by
 refine c_enter Go.Proofs.Tryd.func42 rfl Go.Proofs.Tryd.ntmps42 rfl fun a hf => ?_
 replace hf : Fr 42 [(0, Value.agg ⟨.int .i64 a0.kind_ :: .string a0.path_ :: .bool a0.has_ :: .string a0.value_ :: arrC .i64 a0.kids_⟩), (1, a1v)] a := hf
 unfold root_item_r1.f at hp
 refine wq <| wr ?_
 obtain ⟨b1, w, hrun2, hw⟩ := e_box (P := P) hw hf (e := 55) (x := .tmp 0) rfl (cs := (Value.int .i64 a0.kind_ :: Value.string a0.path_ :: Value.bool a0.has_ :: Value.string a0.value_ :: arrC .i64 a0.kids_)) rfl
 refine o_eff hf (hrun2 ..) rfl fun a hf => ?_
 obtain ⟨b4, w, hrun5, hw⟩ := e_alloc (P := P) (a := a) hw ty_32
 replace hw : Ok E I (.blk b4 (.cells ⟨[.int .i64 0, .string (⟨#[]⟩ : ByteArray), .bool false, .string (⟨#[]⟩ : ByteArray), .int .i64 0, .slice none 0 0]⟩ 32 (0, 0)) :: .blk b1 (.cells ⟨.int .i64 a0.kind_ :: .string a0.path_ :: .bool a0.has_ :: .string a0.value_ :: arrC .i64 a0.kids_⟩ 55 (0, 0)) :: .row a1v 9 1 a1m a1cs :: F) w := hw
 refine o_eff hf (hrun5 ..) rfl fun a hf => oN <| ct <| wq <| wr <| oR hf (rF hf rfl fd_55_0) rfl fun a hf => oR hf (rL hw hf rfl ty_3 1 rfl rfl) rfl fun a hf => oR hf (rF hf rfl fd_55_1) rfl fun a hf => oR hf (rL hw hf rfl ty_9 1 rfl rfl) rfl fun a hf => oR hf (rF hf rfl fd_55_2) rfl fun a hf => oR hf (rL hw hf rfl ty_4 1 rfl rfl) rfl fun a hf => oR hf (rF hf rfl fd_55_3) rfl fun a hf => oR hf (rL hw hf rfl ty_9 1 rfl rfl) rfl fun a hf => oR hf (r_build hf bd_32 (vs := [Value.int .i64 a0.kind_, Value.string a0.path_, Value.bool a0.has_, Value.string a0.value_]) rfl ⟨rfl, rfl, rfl, rfl, trivial⟩ (by decide) (out := [Value.int .i64 a0.kind_, Value.string a0.path_, Value.bool a0.has_, Value.string a0.value_, Value.int .i64 0, Value.slice none 0 0]) rfl) rfl fun a hf => ?_
 obtain ⟨b7, w, hrun8, hw⟩ := e_alloc (P := P) (a := a) hw ty_32
 replace hw : Ok E I (.blk b7 (.cells ⟨[.int .i64 0, .string (⟨#[]⟩ : ByteArray), .bool false, .string (⟨#[]⟩ : ByteArray), .int .i64 0, .slice none 0 0]⟩ 32 (0, 0)) :: .blk b4 (.cells ⟨[.int .i64 0, .string (⟨#[]⟩ : ByteArray), .bool false, .string (⟨#[]⟩ : ByteArray), .int .i64 0, .slice none 0 0]⟩ 32 (0, 0)) :: .blk b1 (.cells ⟨.int .i64 a0.kind_ :: .string a0.path_ :: .bool a0.has_ :: .string a0.value_ :: arrC .i64 a0.kids_⟩ 55 (0, 0)) :: .row a1v 9 1 a1m a1cs :: F) w := hw
 refine o_eff hf (hrun8 ..) rfl fun a hf => ?_
 obtain ⟨w, hrun10, hw⟩ := e_store (P := P) hw hf (x := .tmp 5) (y := .tmp 16) rfl rfl ty_32 0 rfl (vs := [Value.int .i64 a0.kind_, Value.string a0.path_, Value.bool a0.has_, Value.string a0.value_, Value.int .i64 0, Value.slice none 0 0]) rfl rfl (oC rfl (oC rfl (oC rfl (oC rfl (oC rfl (oC rfl ones_nil)))))) (by simp [arrC_len]) (cs' := [Value.int .i64 a0.kind_, Value.string a0.path_, Value.bool a0.has_, Value.string a0.value_, Value.int .i64 0, Value.slice none 0 0]) rfl
 replace hw : Ok E I (.blk b7 (.cells ⟨[.int .i64 a0.kind_, .string a0.path_, .bool a0.has_, .string a0.value_, .int .i64 0, .slice none 0 0]⟩ 32 (0, 0)) :: .blk b4 (.cells ⟨[.int .i64 0, .string (⟨#[]⟩ : ByteArray), .bool false, .string (⟨#[]⟩ : ByteArray), .int .i64 0, .slice none 0 0]⟩ 32 (0, 0)) :: .blk b1 (.cells ⟨.int .i64 a0.kind_ :: .string a0.path_ :: .bool a0.has_ :: .string a0.value_ :: arrC .i64 a0.kids_⟩ 55 (0, 0)) :: .row a1v 9 1 a1m a1cs :: F) w := hw
 refine o_effU (hrun10 ..) <| oN <| ct <| wq <| wq <| wr <| oR hf (rF hf rfl fd_55_4) rfl fun a hf => oR hf (r_loadA hw hf rfl ty_53 2 rfl (vs := (arrC .i64 a0.kids_)) (take_all (by simp [arrC_len])) (by simp [arrC_len])) rfl fun a hf => om hf rfl rfl fun a hf => oN <| ct ?_
 replace hw := hw.nilrow 9 1
 have hRR99 : RowR ekS I [] [] := RowR.nil
 obtain ⟨out315, hp, hq316⟩ := bS hp
 refine c_cutX (fun a w => ∃ y309 : List ByteArray, ∃ y314 : Int, ∃ yv310 : Value, ∃ m311 : Nat, ∃ cs312 : List Value, (y309, y314) = out315 ∧ Ok E I (.row yv310 9 1 m311 cs312 :: .blk b7 (.cells ⟨[.int .i64 a0.kind_, .string a0.path_, .bool a0.has_, .string a0.value_, .int .i64 y314, yv310]⟩ 32 (0, 0)) :: .blk b4 (.cells ⟨[.int .i64 0, .string (⟨#[]⟩ : ByteArray), .bool false, .string (⟨#[]⟩ : ByteArray), .int .i64 0, .slice none 0 0]⟩ 32 (0, 0)) :: .blk b1 (.cells ⟨.int .i64 a0.kind_ :: .string a0.path_ :: .bool a0.has_ :: .string a0.value_ :: arrC .i64 a0.kids_⟩ 55 (0, 0)) :: .row a1v 9 1 a1m a1cs :: F) w ∧ Fr 42 ([(4, .pointer (some ⟨b4, 0, none⟩)), (5, .pointer (some ⟨b7, 0, none⟩))]) a ∧ RowR ekS I cs312 y309) ?_ ?_
 ·refine wp_block <| c_loop <| c_fuel (root_item_r1.l0 a0 a1) out315 (fun (y236, y241, y242) a w => ∃ yv237 : Value, ∃ m238 : Nat, ∃ cs239 : List Value, Ok E I (.row yv237 9 1 m238 cs239 :: .blk b7 (.cells ⟨[.int .i64 a0.kind_, .string a0.path_, .bool a0.has_, .string a0.value_, .int .i64 y241, yv237]⟩ 32 (0, 0)) :: .blk b4 (.cells ⟨[.int .i64 0, .string (⟨#[]⟩ : ByteArray), .bool false, .string (⟨#[]⟩ : ByteArray), .int .i64 0, .slice none 0 0]⟩ 32 (0, 0)) :: .blk b1 (.cells ⟨.int .i64 a0.kind_ :: .string a0.path_ :: .bool a0.has_ :: .string a0.value_ :: arrC .i64 a0.kids_⟩ 55 (0, 0)) :: .row a1v 9 1 a1m a1cs :: F) w ∧ Fr 42 ([(1, a1v), (4, .pointer (some ⟨b4, 0, none⟩)), (5, .pointer (some ⟨b7, 0, none⟩)), (18, Value.agg ⟨arrC .i64 a0.kids_⟩), (19, .int .i64 y242)]) a ∧ RowR ekS I cs239 y236) (fun _ => rfl) ?_ BIG (([] : List ByteArray), 0, 0) _ _ ⟨(.slice none 0 0), 0, [], hw, hf.to ⟨rfl, rfl, rfl, rfl, rfl, trivial⟩, hRR99⟩ hp
  intro k st a w hI hp ih
  obtain ⟨y236, y241, y242⟩ := st
  obtain ⟨yv237, m238, cs239, hw, hf, hRR240⟩ := hI
  rw [root_item_r1.l0] at hp
  refine wq <| wr <| oR hf (iC hf rfl rfl rfl) rfl fun a hf => oN <| ct <| wq <| cC hf rfl (fun hb318 => ?_) (fun hb318 => ?_)
  ·replace hp := cond_t hb318 hp
   refine wp_skip <| ct ?_
   obtain ⟨out363, hp, hq364⟩ := bS hp
   refine c_cut (fun a w => ∃ y357 : List ByteArray, ∃ y362 : Int, ∃ yv358 : Value, ∃ m359 : Nat, ∃ cs360 : List Value, (y357, y362) = out363 ∧ Ok E I (.row yv358 9 1 m359 cs360 :: .blk b7 (.cells ⟨[.int .i64 a0.kind_, .string a0.path_, .bool a0.has_, .string a0.value_, .int .i64 y362, yv358]⟩ 32 (0, 0)) :: .blk b4 (.cells ⟨[.int .i64 0, .string (⟨#[]⟩ : ByteArray), .bool false, .string (⟨#[]⟩ : ByteArray), .int .i64 0, .slice none 0 0]⟩ 32 (0, 0)) :: .blk b1 (.cells ⟨.int .i64 a0.kind_ :: .string a0.path_ :: .bool a0.has_ :: .string a0.value_ :: arrC .i64 a0.kids_⟩ 55 (0, 0)) :: .row a1v 9 1 a1m a1cs :: F) w ∧ Fr 42 ([(1, a1v), (4, .pointer (some ⟨b4, 0, none⟩)), (5, .pointer (some ⟨b7, 0, none⟩)), (18, Value.agg ⟨arrC .i64 a0.kids_⟩), (19, .int .i64 y242)]) a ∧ RowR ekS I cs360 y357) ?_ ?_
   ·refine wp_block <| wq <| wr <| om hf rfl rfl fun a hf => ?_
    obtain ⟨hg365, hp⟩ := gS hp
    refine oR hf (r_indexArr hf el_53 ty_3 rfl rfl hg365) rfl fun a hf => oa hf rfl rfl fun a hf => oa hf rfl rfl fun a hf => oN <| ct <| wq <| wr <| om hf rfl rfl fun a hf => oR hf (iC hf rfl rfl rfl) rfl fun a hf => oN <| ct <| cC hf rfl (fun hb366 => ?_) (fun hb366 => ?_)
    ·replace hp := cond_t hb366 hp
     refine wq <| c_drawn mix [6] (.rd 0 (.rd 1 (.rd 2 (.rd 3 (.rd 4 (.rd 5 (.ef 6 .done))))))) (by kernel_rfl) hw (fun w => Ok E I (.row yv237 9 1 m238 cs239 :: .blk b7 (.cells ⟨[.int .i64 a0.kind_, .string a0.path_, .bool a0.has_, .string a0.value_, .int .i64 y241, yv237]⟩ 32 (0, 0)) :: .blk b4 (.cells ⟨[.int .i64 0, .string (⟨#[]⟩ : ByteArray), .bool false, .string (⟨#[]⟩ : ByteArray), .int .i64 0, .slice none 0 0]⟩ 32 (0, 0)) :: .blk b1 (.cells ⟨.int .i64 a0.kind_ :: .string a0.path_ :: .bool a0.has_ :: .string a0.value_ :: arrC .i64 a0.kids_⟩ 55 (0, 0)) :: .row a1v 9 1 a1m a1cs :: F) w) (fun w hw => ⟨hw.sub (scc (scc (scc (scc (scc sr))))), ?_⟩)
     refine tR rfl hf (fun w hw => rF hf rfl fd_32_4) rfl fun a hf => tR rfl hf (fun w hw => rL hw hf rfl ty_3 1 rfl rfl) rfl fun a hf => tm rfl hf rfl rfl fun a hf => ?_
     obtain ⟨hg368, hp⟩ := gS hp
     refine tR rfl hf (fun w hw => r_shl hf rfl rfl hg368) rfl fun a hf => tR rfl hf (fun w hw => r_or hf rfl rfl) rfl fun a hf => tR rfl hf (fun w hw => rF hf rfl fd_32_4) rfl fun a hf => t_ef rfl ?_
     obtain ⟨w, hrun369, hw⟩ := e_store (P := P) hw hf (x := .tmp 30) (y := .tmp 29) rfl rfl ty_3 1 rfl (vs := [Value.int .i64 (bor .i64 y241 (shl .i64 1 y242))]) (oE rfl) rfl (oC rfl ones_nil) (by simp [arrC_len]) (cs' := [Value.int .i64 a0.kind_, Value.string a0.path_, Value.bool a0.has_, Value.string a0.value_, Value.int .i64 (bor .i64 y241 (shl .i64 1 y242)), yv237]) rfl
     replace hw : Ok E I (.row yv237 9 1 m238 cs239 :: .blk b7 (.cells ⟨[.int .i64 a0.kind_, .string a0.path_, .bool a0.has_, .string a0.value_, .int .i64 (bor .i64 y241 (shl .i64 1 y242)), yv237]⟩ 32 (0, 0)) :: .blk b4 (.cells ⟨[.int .i64 0, .string (⟨#[]⟩ : ByteArray), .bool false, .string (⟨#[]⟩ : ByteArray), .int .i64 0, .slice none 0 0]⟩ 32 (0, 0)) :: .blk b1 (.cells ⟨.int .i64 a0.kind_ :: .string a0.path_ :: .bool a0.has_ :: .string a0.value_ :: arrC .i64 a0.kids_⟩ 55 (0, 0)) :: .row a1v 9 1 a1m a1cs :: F) w := hw
     refine t_effU (hrun369 ..) ⟨.inl rfl, ?_⟩
     refine t_done <| ct <| c_drawn mix [9] (.rd 0 (.rd 1 (.rd 2 (.rd 3 (.rd 4 (.rd 5 (.ef 6 (.ef 7 (.rd 8 (.ef 9 .done)))))))))) (by kernel_rfl) hw (fun w => Ok E I (.blk b7 (.cells ⟨[.int .i64 a0.kind_, .string a0.path_, .bool a0.has_, .string a0.value_, .int .i64 (bor .i64 y241 (shl .i64 1 y242)), yv237]⟩ 32 (0, 0)) :: .blk b4 (.cells ⟨[.int .i64 0, .string (⟨#[]⟩ : ByteArray), .bool false, .string (⟨#[]⟩ : ByteArray), .int .i64 0, .slice none 0 0]⟩ 32 (0, 0)) :: .blk b1 (.cells ⟨.int .i64 a0.kind_ :: .string a0.path_ :: .bool a0.has_ :: .string a0.value_ :: arrC .i64 a0.kids_⟩ 55 (0, 0)) :: .row a1v 9 1 a1m a1cs :: F) w) (fun w hw => ⟨hw.sub (sc (scc (scc (scc (scc sr))))), ?_⟩)
     refine tR rfl hf (fun w hw => rF hf rfl fd_32_5) rfl fun a hf => tR rfl hf (fun w hw => rL hw hf rfl ty_28 0 rfl rfl) rfl fun a hf => tm rfl hf rfl rfl fun a hf => tm rfl hf rfl rfl fun a hf => ?_
     obtain ⟨hg371, hp⟩ := gS hp
     refine tR rfl hf (fun w hw => rI (K := ekS) hf el_28 rfl rfl (rR (K := ekS) hw (i := 3) rfl ha1) hg371) rfl fun a hf => tR rfl hf (fun w hw => r_loadH (K := ekS) hf rfl ty_9 (rR (K := ekS) hw (i := 3) rfl ha1) hg371 rfl (fun cs h => ekS_f0 h)) rfl fun a hf => t_ef rfl ?_
     obtain ⟨w, v372, hrun373, hw, hRR374⟩ := e_buildSlice (P := P) (K := ekS) (m := 1) hw hf (parts := [(0, .tmp 36)]) el_28 ty_9 rfl rfl rfl (ccs := [[Value.string (gt a1 (vg a0.kids_ y242))]]) rfl (xs := [gt a1 (vg a0.kids_ y242)]) ⟨rfl, trivial⟩ rfl
     obtain ⟨cs375, hcs⟩ : ∃ cs, cs = ([[Value.string (gt a1 (vg a0.kids_ y242))]] : List (List Value)).flatten := ⟨_, rfl⟩
     rw [← hcs] at hw hRR374; clear hcs
     refine t_eff hf (hrun373 ..) rfl fun a hf => ⟨.inr (hw.back (IH.le_refl _) (sc (sc (scc (scc (scc (scc sr))))))), ?_⟩
     refine t_ef rfl ?_
     obtain ⟨hg377, hp⟩ := gS hp
     obtain ⟨w, v378, m379, cs380, hrun382, hw, hRR381⟩ := e_append (P := P) (K := ekS) (ty := 28) hw hf (s := .tmp 32) (x := .tmp 37) el_28 ty_9 rfl (by decide) 1 rfl rfl rfl hRR240 (ys := [gt a1 (vg a0.kids_ y242)]) (rR (K := ekS) hw (i := 0) rfl hRR374) hg377
     replace hw : Ok E I (.row v372 9 1 1 cs375 :: .row v378 9 1 m379 cs380 :: .blk b7 (.cells ⟨[.int .i64 a0.kind_, .string a0.path_, .bool a0.has_, .string a0.value_, .int .i64 (bor .i64 y241 (shl .i64 1 y242)), yv237]⟩ 32 (0, 0)) :: .blk b4 (.cells ⟨[.int .i64 0, .string (⟨#[]⟩ : ByteArray), .bool false, .string (⟨#[]⟩ : ByteArray), .int .i64 0, .slice none 0 0]⟩ 32 (0, 0)) :: .blk b1 (.cells ⟨.int .i64 a0.kind_ :: .string a0.path_ :: .bool a0.has_ :: .string a0.value_ :: arrC .i64 a0.kids_⟩ 55 (0, 0)) :: .row a1v 9 1 a1m a1cs :: F) w := hw
     refine t_eff hf (hrun382 ..) rfl fun a hf => ⟨.inr (hw.back (IH.le_refl _) (sc (sc (scc (scc (scc (scc sr))))))), ?_⟩
     refine tR rfl hf (fun w hw => rF hf rfl fd_32_5) rfl fun a hf => t_ef rfl ?_
     obtain ⟨w, hrun383, hw⟩ := e_store (P := P) hw hf (x := .tmp 39) (y := .tmp 38) rfl rfl ty_28 2 rfl (vs := [v378]) (oE (row_one hw (i := 1) rfl)) rfl (oC (row_one hw (i := 1) rfl) ones_nil) (by simp [arrC_len]) (cs' := [Value.int .i64 a0.kind_, Value.string a0.path_, Value.bool a0.has_, Value.string a0.value_, Value.int .i64 (bor .i64 y241 (shl .i64 1 y242)), v378]) rfl
     replace hw : Ok E I (.row v372 9 1 1 cs375 :: .row v378 9 1 m379 cs380 :: .blk b7 (.cells ⟨[.int .i64 a0.kind_, .string a0.path_, .bool a0.has_, .string a0.value_, .int .i64 (bor .i64 y241 (shl .i64 1 y242)), v378]⟩ 32 (0, 0)) :: .blk b4 (.cells ⟨[.int .i64 0, .string (⟨#[]⟩ : ByteArray), .bool false, .string (⟨#[]⟩ : ByteArray), .int .i64 0, .slice none 0 0]⟩ 32 (0, 0)) :: .blk b1 (.cells ⟨.int .i64 a0.kind_ :: .string a0.path_ :: .bool a0.has_ :: .string a0.value_ :: arrC .i64 a0.kids_⟩ 55 (0, 0)) :: .row a1v 9 1 a1m a1cs :: F) w := hw
     refine t_effU (hrun383 ..) ⟨.inl rfl, ?_⟩
     refine t_done <| c_blockN <| ct ?_
     have ho := oI hp
     subst ho
     replace hw : Ok E I (.row v378 9 1 m379 cs380 :: .blk b7 (.cells ⟨[.int .i64 a0.kind_, .string a0.path_, .bool a0.has_, .string a0.value_, .int .i64 (bor .i64 y241 (shl .i64 1 y242)), v378]⟩ 32 (0, 0)) :: .blk b4 (.cells ⟨[.int .i64 0, .string (⟨#[]⟩ : ByteArray), .bool false, .string (⟨#[]⟩ : ByteArray), .int .i64 0, .slice none 0 0]⟩ 32 (0, 0)) :: .blk b1 (.cells ⟨.int .i64 a0.kind_ :: .string a0.path_ :: .bool a0.has_ :: .string a0.value_ :: arrC .i64 a0.kids_⟩ 55 (0, 0)) :: .row a1v 9 1 a1m a1cs :: F) w := hw.sub (sc (scc (scc (scc (scc (scc sr))))))
     exact ⟨(y236 ++ [gt a1 (vg a0.kids_ y242)]), (bor .i64 y241 (shl .i64 1 y242)), v378, m379, cs380, rfl, hw, hf.to ⟨rfl, rfl, rfl, rfl, rfl, trivial⟩, hRR381⟩
    ·replace hp := cond_f hb366 hp
     refine wp_skip <| c_blockN <| ct ?_
     have ho := oI hp
     subst ho
     exact ⟨y236, y241, yv237, m238, cs239, rfl, hw, hf.to ⟨rfl, rfl, rfl, rfl, rfl, trivial⟩, hRR240⟩
   ·intro a w hM
    obtain ⟨y357, y362, yv358, m359, cs360, rfl, hw, hf, hRR361⟩ := hM
    replace hp := hq364
    refine wr <| oR hf (r_add hf rfl rfl) rfl fun a hf => om hf rfl rfl fun a hf => oN <| ct ?_
    exact ih (y357, y362, w64 (y242 + 1)) _ _ ⟨yv358, m359, cs360, hw, hf.to ⟨rfl, rfl, rfl, rfl, rfl, trivial⟩, hRR361⟩ hp
  ·replace hp := cond_f hb318 hp
   refine wp_exit <| c_thenE <| c_thenE <| c_exit <| ct ?_
   have ho := oI hp
   subst ho
   exact ⟨y236, y241, yv237, m238, cs239, rfl, hw, hf.to ⟨rfl, rfl, trivial⟩, hRR240⟩
 ·intro a w hM
  obtain ⟨y309, y314, yv310, m311, cs312, rfl, hw, hf, hRR313⟩ := hM
  replace hp := hq316
  refine ct <| wq <| wr <| oR hf (r_loadA hw hf rfl ty_32 1 rfl (vs := [Value.int .i64 a0.kind_, Value.string a0.path_, Value.bool a0.has_, Value.string a0.value_, Value.int .i64 y314, yv310]) rfl rfl) rfl fun a hf => ?_
  obtain ⟨w, hrun385, hw⟩ := e_store (P := P) hw hf (x := .tmp 4) (y := .tmp 41) rfl rfl ty_32 2 rfl (vs := [Value.int .i64 a0.kind_, Value.string a0.path_, Value.bool a0.has_, Value.string a0.value_, Value.int .i64 y314, yv310]) rfl rfl (oC rfl (oC rfl (oC rfl (oC rfl (oC rfl (oC (row_one hw (i := 0) rfl) ones_nil)))))) (by simp [arrC_len]) (cs' := [Value.int .i64 a0.kind_, Value.string a0.path_, Value.bool a0.has_, Value.string a0.value_, Value.int .i64 y314, yv310]) rfl
  replace hw : Ok E I (.row yv310 9 1 m311 cs312 :: .blk b7 (.cells ⟨[.int .i64 a0.kind_, .string a0.path_, .bool a0.has_, .string a0.value_, .int .i64 y314, yv310]⟩ 32 (0, 0)) :: .blk b4 (.cells ⟨[.int .i64 a0.kind_, .string a0.path_, .bool a0.has_, .string a0.value_, .int .i64 y314, yv310]⟩ 32 (0, 0)) :: .blk b1 (.cells ⟨.int .i64 a0.kind_ :: .string a0.path_ :: .bool a0.has_ :: .string a0.value_ :: arrC .i64 a0.kids_⟩ 55 (0, 0)) :: .row a1v 9 1 a1m a1cs :: F) w := hw
  refine o_effU (hrun385 ..) <| oN <| ct <| wp_ret ?_
  have hw : Ok E I (.row yv310 9 1 m311 cs312 :: .blk b7 (.cells ⟨[Value.int .i64 a0.kind_, Value.string a0.path_, Value.bool a0.has_, Value.string a0.value_, Value.int .i64 y314, yv310]⟩ 32 (0, 0)) :: .blk b4 (.cells ⟨[Value.int .i64 a0.kind_, Value.string a0.path_, Value.bool a0.has_, Value.string a0.value_, Value.int .i64 y314, yv310]⟩ 32 (0, 0)) :: .blk b1 (.cells ⟨Value.int .i64 a0.kind_ :: Value.string a0.path_ :: Value.bool a0.has_ :: Value.string a0.value_ :: arrC .i64 a0.kids_⟩ 55 (0, 0)) :: .row a1v 9 1 a1m a1cs :: F) w := hw.front (i := 0) rfl
  obtain ⟨I389, hle390, hw, hR391⟩ := row_freeze (K := ekS) hw hRR313
  replace hG := hG.mono hle390
  replace ha1 := ha1.mono hle390
  replace hw : Ok E I389 (.blk b4 (.cells ⟨[.int .i64 a0.kind_, .string a0.path_, .bool a0.has_, .string a0.value_, .int .i64 y314, yv310]⟩ 32 (0, 0)) :: .row a1v 9 1 a1m a1cs :: F) w := hw.sub (sc (scc (sc (scc sr))))
  have ho := oI hp
  subst ho
  exact b_retC hw hf Go.Proofs.Tryd.results42 ty_32 rfl 0 rfl (vs := [Value.int .i64 a0.kind_, Value.string a0.path_, Value.bool a0.has_, Value.string a0.value_, Value.int .i64 y314, yv310]) rfl rfl ⟨_, rfl, ⟨I389, yv310, rfl, hle390, hw.tail, hR391⟩⟩

theorem math_bits_OnesCount64_ok {E : World} {I : IH} {F : List Atom} {w : World} {a0 : Int} {res0 : Int} (hw : Ok E I (F) w) (hG : Gl I) (hp : math_bits_OnesCount64.f a0 = some res0) :
  Calls P 97 ⟨[Value.int .u64 a0]⟩ w fun e w' => ∃ v, e = .returned v ∧ v = Value.int .i64 res0 ∧ Ok E I (F) w' := by
 refine c_enter Go.Proofs.Tryd.func97 rfl Go.Proofs.Tryd.ntmps97 rfl fun a hf => ?_
 replace hf : Fr 35 [(0, .int .u64 a0)] a := hf
 unfold math_bits_OnesCount64.f at hp
 refine wq <| wr <| oa hf rfl rfl fun a hf => oN <| ct <| wq <| wr <| om hf rfl rfl fun a hf => oR hf (r_shr hf rfl rfl (by decide)) rfl fun a hf => oR hf (r_and hf rfl rfl) rfl fun a hf => om hf rfl rfl fun a hf => oR hf (r_and hf rfl rfl) rfl fun a hf => oR hf (r_add hf rfl rfl) rfl fun a hf => oa hf rfl rfl fun a hf => oN <| ct ?_
 refine wq <| wr <| om hf rfl rfl fun a hf => oR hf (r_shr hf rfl rfl (by decide)) rfl fun a hf => oR hf (r_and hf rfl rfl) rfl fun a hf => om hf rfl rfl fun a hf => oR hf (r_and hf rfl rfl) rfl fun a hf => oR hf (r_add hf rfl rfl) rfl fun a hf => oa hf rfl rfl fun a hf => oN <| ct <| wq <| wr <| om hf rfl rfl fun a hf => oR hf (r_shr hf rfl rfl (by decide)) rfl fun a hf => om hf rfl rfl fun a hf => ?_
 refine oR hf (r_add hf rfl rfl) rfl fun a hf => oR hf (r_and hf rfl rfl) rfl fun a hf => oa hf rfl rfl fun a hf => oN <| ct <| wq <| wr <| om hf rfl rfl fun a hf => om hf rfl rfl fun a hf => oR hf (r_shr hf rfl rfl (by decide)) rfl fun a hf => oR hf (r_add hf rfl rfl) rfl fun a hf => oa hf rfl rfl fun a hf => oN <| ct <| wq <| wr ?_
 refine om hf rfl rfl fun a hf => om hf rfl rfl fun a hf => oR hf (r_shr hf rfl rfl (by decide)) rfl fun a hf => oR hf (r_add hf rfl rfl) rfl fun a hf => oa hf rfl rfl fun a hf => oN <| ct <| wq <| wr <| om hf rfl rfl fun a hf => om hf rfl rfl fun a hf => oR hf (r_shr hf rfl rfl (by decide)) rfl fun a hf => oR hf (r_add hf rfl rfl) rfl fun a hf => oa hf rfl rfl fun a hf => oN <| ct ?_
 refine wq <| wr <| om hf rfl rfl fun a hf => oR hf (r_convI hf und_111 und_3 rfl) rfl fun a hf => oR hf (r_and hf rfl rfl) rfl fun a hf => oa hf rfl rfl fun a hf => oN <| ct <| wp_ret ?_
 have ho := oI hp
 subst ho
 exact b_ret1 hf Go.Proofs.Tryd.results97 rfl ⟨_, rfl, ⟨rfl, hw⟩⟩

theorem math_bits_OnesCount_ok {E : World} {I : IH} {F : List Atom} {w : World} {a0 : Int} {res0 : Int} (hw : Ok E I (F) w) (hG : Gl I) (hp : math_bits_OnesCount.f a0 = some res0) :
  Calls P 74 ⟨[Value.int .u64 a0]⟩ w fun e w' => ∃ v, e = .returned v ∧ v = Value.int .i64 res0 ∧ Ok E I (F) w' := by
 refine c_enter Go.Proofs.Tryd.func74 rfl Go.Proofs.Tryd.ntmps74 rfl fun a hf => ?_
 replace hf : Fr 8 [(0, .int .u64 a0)] a := hf
 unfold math_bits_OnesCount.f at hp
 refine wq <| wr <| oa hf rfl rfl fun a hf => oN <| ct <| wq <| wp_cond_false (hf.ev rfl) <| wp_skip <| ct <| wq <| wr <| om hf rfl rfl fun a hf => ?_
 obtain ⟨y1, hy2, hp⟩ := bS hp
 have hc4 := math_bits_OnesCount64_ok hw hG hy2
 refine o_call hf cb_97 rfl rfl hc4 (fun v6 w a hK5 hf => ?_)
 obtain ⟨rfl, hw⟩ := hK5
 refine oa hf rfl rfl fun a hf => oN <| ct <| wp_ret ?_
 have ho := oI hp
 subst ho
 exact b_ret1 hf Go.Proofs.Tryd.results74 rfl ⟨_, rfl, ⟨rfl, hw⟩⟩

theorem node_hashes_c1_ok {E : World} {I : IH} {F : List Atom} {w : World} {a0 : ByteArray} {res0 : Bool} (hw : Ok E I (F) w) (hG : Gl I) (hp : node_hashes_c1.f a0 = some res0) :
  Calls P 76 ⟨[Value.string a0]⟩ w fun e w' => ∃ v, e = .returned v ∧ v = Value.bool res0 ∧ Ok E I (F) w' := by
 refine c_enter Go.Proofs.Tryd.func76 rfl Go.Proofs.Tryd.ntmps76 rfl fun a hf => ?_
 replace hf : Fr 6 [(0, .string a0)] a := hf
 unfold node_hashes_c1.f at hp
 refine wq <| wr <| oa hf rfl rfl fun a hf => oN <| ct <| wq <| wr <| om hf rfl rfl fun a hf => oR hf (r_lenS hf und_9 rfl) rfl fun a hf => oR hf (iC hf rfl rfl rfl) rfl fun a hf => oa hf rfl rfl fun a hf => oN <| ct <| wp_ret ?_
 have ho := oI hp
 subst ho
 exact b_ret1 hf Go.Proofs.Tryd.results76 rfl ⟨_, rfl, ⟨rfl, hw⟩⟩

theorem slices_IndexFunc_string_node_hashes_c1_ok {E : World} {I : IH} {F : List Atom} {w : World} {a0 : List ByteArray} {a0v1 : Value} {res0 : Int} (hw : Ok E I (F) w) (hG : Gl I) (hR2 : RS ekS I a0v1 a0) (hp : slices_IndexFunc_string_node_hashes_c1.f a0 = some res0) :
  Calls P 98 ⟨[a0v1, Value.func (.func 76) #[] ⟨[]⟩]⟩ w fun e w' => ∃ v, e = .returned v ∧ v = Value.int .i64 res0 ∧ Ok E I (F) w' := by
 refine c_enter Go.Proofs.Tryd.func98 rfl Go.Proofs.Tryd.ntmps98 rfl fun a hf => ?_
 replace hf : Fr 19 [(0, a0v1), (1, Value.func (.func 76) #[] ⟨[]⟩)] a := hf
 unfold slices_IndexFunc_string_node_hashes_c1.f at hp
 refine wq <| wr <| oa hf rfl rfl fun a hf => oN <| ct <| wq <| wq <| wr <| om hf rfl rfl fun a hf => oR hf (r_lenL (K := ekS) hf el_28 rfl (hR2.rd hw)) rfl fun a hf => om hf rfl rfl fun a hf => oN <| ct ?_
 obtain ⟨out28, hp, hq29⟩ := bS hp
 refine c_cutX (fun a w => (.inl ()) = out28 ∧ Ok E I (F) w ∧ Fr 19 ([]) a) ?_ ?_
 ·refine wp_block <| c_loop <| c_fuel (slices_IndexFunc_string_node_hashes_c1.l0 a0) out28 (fun (y18 : Int) a w => Ok E I (F) w ∧ Fr 19 ([(0, a0v1), (1, Value.func (.func 76) #[] ⟨[]⟩), (7, .int .i64 (a0.length : Int)), (8, .int .i64 y18)]) a) (fun _ => rfl) ?_ BIG 0 _ _ ⟨hw, hf.to ⟨rfl, rfl, rfl, rfl, trivial⟩⟩ hp
  intro k y18 a w hI hp ih
  obtain ⟨hw, hf⟩ := hI
  rw [slices_IndexFunc_string_node_hashes_c1.l0] at hp
  refine wq <| wr <| oR hf (iC hf rfl rfl rfl) rfl fun a hf => oN <| ct <| wq <| cC hf rfl (fun hb31 => ?_) (fun hb31 => ?_)
  ·replace hp := cond_t hb31 hp
   refine wp_skip <| ct <| wq <| wp_block <| wq <| wr <| om hf rfl rfl fun a hf => oa hf rfl rfl fun a hf => oN <| ct <| wq <| wr <| om hf rfl rfl fun a hf => om hf rfl rfl fun a hf => om hf rfl rfl fun a hf => ?_
   obtain ⟨hg32, hp⟩ := gS hp
   refine oR hf (rI (K := ekS) hf el_28 rfl rfl (hR2.rd hw) hg32) rfl fun a hf => oR hf (r_loadH (K := ekS) hf rfl ty_9 (hR2.rd hw) hg32 rfl (fun cs h => ekS_f0 h)) rfl fun a hf => ?_
   obtain ⟨y33, hy34, hp⟩ := bS hp
   have hc36 := node_hashes_c1_ok hw hG hy34
   refine o_callV hf rfl cb_76 rfl rfl hc36 (fun v38 w a hK37 hf => ?_)
   obtain ⟨rfl, hw⟩ := hK37
   refine oN <| ct <| cC hf rfl (fun hb39 => ?_) (fun hb39 => ?_)
   ·replace hp := cond_t hb39 hp
    refine wq <| wr <| om hf rfl rfl fun a hf => oa hf rfl rfl fun a hf => oN <| ct <| wp_ret <| c_blockR <| c_thenR <| c_thenR <| c_blockR <| c_thenR ?_
    have ho := oI hp
    subst ho
    replace hp := hq29
    refine c_thenR ?_
    have ho := oI hp
    subst ho
    exact b_ret1 hf Go.Proofs.Tryd.results98 rfl ⟨_, rfl, ⟨rfl, hw⟩⟩
   ·replace hp := cond_f hb39 hp
    refine wp_skip <| c_blockN <| ct <| wr <| oR hf (r_add hf rfl rfl) rfl fun a hf => om hf rfl rfl fun a hf => oN <| ct ?_
    exact ih (w64 (y18 + 1)) _ _ ⟨hw, hf.to ⟨rfl, rfl, rfl, rfl, trivial⟩⟩ hp
  ·replace hp := cond_f hb31 hp
   refine wp_exit <| c_thenE <| c_thenE <| c_exit <| ct ?_
   have ho := oI hp
   subst ho
   exact ⟨rfl, hw, hf.to trivial⟩
 ·intro a w hM
  obtain ⟨rfl, hw, hf⟩ := hM
  replace hp := hq29
  refine ct <| wq <| wr <| oa hf rfl rfl fun a hf => oN <| ct <| wp_ret ?_
  have ho := oI hp
  subst ho
  exact b_ret1 hf Go.Proofs.Tryd.results98 rfl ⟨_, rfl, ⟨rfl, hw⟩⟩

theorem slices_ContainsFunc_string_node_hashes_c1_ok {E : World} {I : IH} {F : List Atom} {w : World} {a0 : List ByteArray} {a0v14 : Value} {res0 : Bool} (hw : Ok E I (F) w) (hG : Gl I) (hR15 : RS ekS I a0v14 a0) (hp : slices_ContainsFunc_string_node_hashes_c1.f a0 = some res0) :
  Calls P 75 ⟨[a0v14, Value.func (.func 76) #[] ⟨[]⟩]⟩ w fun e w' => ∃ v, e = .returned v ∧ v = Value.bool res0 ∧ Ok E I (F) w' := by
 refine c_enter Go.Proofs.Tryd.func75 rfl Go.Proofs.Tryd.ntmps75 rfl fun a hf => ?_
 replace hf : Fr 9 [(0, a0v14), (1, Value.func (.func 76) #[] ⟨[]⟩)] a := hf
 unfold slices_ContainsFunc_string_node_hashes_c1.f at hp
 refine wq <| wr <| oa hf rfl rfl fun a hf => oN <| ct <| wq <| wr <| om hf rfl rfl fun a hf => om hf rfl rfl fun a hf => ?_
 obtain ⟨y42, hy43, hp⟩ := bS hp
 have hc45 := slices_IndexFunc_string_node_hashes_c1_ok hw hG hR15 hy43
 refine o_call hf cb_98 rfl rfl hc45 (fun v47 w a hK46 hf => ?_)
 obtain ⟨rfl, hw⟩ := hK46
 refine oR hf (iC hf rfl rfl rfl) rfl fun a hf => oa hf rfl rfl fun a hf => oN <| ct <| wp_ret ?_
 have ho := oI hp
 subst ho
 exact b_ret1 hf Go.Proofs.Tryd.results75 rfl ⟨_, rfl, ⟨rfl, hw⟩⟩

theorem node_hashes_ok {E : World} {I : IH} {F : List Atom} {w : World} {a0 : Item} {a0v6 : Value} {res0 : Bool} (hw : Ok E I (F) w) (hG : Gl I) (hR7 : RS ekS I a0v6 a0.hashes_) (hp : node_hashes.f a0 = some res0) :
  Calls P 54 ⟨[Value.agg ⟨[Value.int .i64 a0.kind_, Value.string a0.path_, Value.bool a0.has_, Value.string a0.value_, Value.int .i64 a0.mask_, a0v6]⟩]⟩ w fun e w' => ∃ v, e = .returned v ∧ v = Value.bool res0 ∧ Ok E I (F) w' := by
 refine c_enter Go.Proofs.Tryd.func54 rfl Go.Proofs.Tryd.ntmps54 rfl fun a hf => ?_
 replace hf : Fr 17 [(0, Value.agg ⟨[.int .i64 a0.kind_, .string a0.path_, .bool a0.has_, .string a0.value_, .int .i64 a0.mask_, a0v6]⟩)] a := hf
 unfold node_hashes.f at hp
 refine wq <| wr ?_
 obtain ⟨b1, w, hrun2, hw⟩ := e_box (P := P) hw hf (e := 32) (x := .tmp 0) rfl (cs := [Value.int .i64 a0.kind_, Value.string a0.path_, Value.bool a0.has_, Value.string a0.value_, Value.int .i64 a0.mask_, a0v6]) rfl
 refine o_eff hf (hrun2 ..) rfl fun a hf => oa hf rfl rfl fun a hf => oN <| ct ?_
 obtain ⟨out69, hp, hq70⟩ := bS hp
 refine c_cut (fun a w => ∃ y68 : Bool, y68 = out69 ∧ Ok E I (.blk b1 (.cells ⟨[.int .i64 a0.kind_, .string a0.path_, .bool a0.has_, .string a0.value_, .int .i64 a0.mask_, a0v6]⟩ 32 (0, 0)) :: F) w ∧ Fr 17 ([(2, .bool y68)]) a) ?_ ?_
 ·refine c_drawn mix [] (.rd 0 (.rd 1 (.rd 2 (.rd 4 (.rd 5 (.rd 6 (.ef 3 (.rd 7 (.rd 8 (.rd 9 (.rd 10 (.ef 11 (.rd 12 (.rd 13 (.rd 14 .done))))))))))))))) (by kernel_rfl) hw (fun w => Ok E I (.blk b1 (.cells ⟨[.int .i64 a0.kind_, .string a0.path_, .bool a0.has_, .string a0.value_, .int .i64 a0.mask_, a0v6]⟩ 32 (0, 0)) :: F) w) (fun w hw => ⟨hw.sub (scc sr), ?_⟩)
  refine tR rfl hf (fun w hw => rF hf rfl fd_32_4) rfl fun a hf => tR rfl hf (fun w hw => rL hw hf rfl ty_3 0 rfl rfl) rfl fun a hf => tR rfl hf (fun w hw => r_convI hf und_3 und_56 rfl) rfl fun a hf => tR rfl hf (fun w hw => rF hf rfl fd_32_5) rfl fun a hf => tR rfl hf (fun w hw => rL hw hf rfl ty_28 0 rfl rfl) rfl fun a hf => tR rfl hf (fun w hw => r_lenL (K := ekS) hf el_28 rfl (hR7.rd hw)) rfl fun a hf => t_ef rfl ?_
  obtain ⟨y72, hy73, hp⟩ := bS hp
  have hc75 := math_bits_OnesCount_ok hw hG hy73
  refine t_call hf cb_74 rfl rfl hc75 (fun v77 w a hK76 hf => ?_)
  obtain ⟨rfl, hw⟩ := hK76
  refine ⟨.inr (hw.back (IH.le_refl _) (scc sr)), ?_⟩
  refine tR rfl hf (fun w hw => iC hf rfl rfl rfl) rfl fun a hf => tm rfl hf rfl rfl fun a hf => g_split hf (g := 11) rfl (fun hb78 hf => ?_) (fun hb78 hf => ?_)
  ·replace hp := cond_t hb78 hp
   refine tG rfl rfl hf rfl (fun w hw => rF hf rfl fd_32_5) rfl fun a hf => tG rfl rfl hf rfl (fun w hw => rL hw hf rfl ty_28 0 rfl rfl) rfl fun a hf => t_ef rfl ?_
   obtain ⟨y79, hy80, hp⟩ := bS hp
   have hc82 := slices_ContainsFunc_string_node_hashes_c1_ok hw hG hR7 hy80
   refine t_callG rfl hf rfl cb_75 rfl rfl hc82 (fun v84 w a hK83 hf => ?_)
   obtain ⟨rfl, hw⟩ := hK83
   refine ⟨.inr (hw.back (IH.le_refl _) (scc sr)), ?_⟩
   refine tG rfl rfl hf rfl (fun w hw => r_not hf rfl) rfl fun a hf => tR rfl hf (fun w hw => pT hf rfl rfl) rfl fun a hf => tR rfl hf (fun w hw => r_assign hf rfl) rfl fun a hf => t_done <| ct ?_
   have ho := oI hp
   subst ho
   exact ⟨(!y79), rfl, hw, hf.to ⟨rfl, trivial⟩⟩
  ·replace hp := cond_f hb78 hp
   refine tS rfl rfl hf rfl rfl rfl fun a hf => tS rfl rfl hf rfl rfl rfl fun a hf => t_ef rfl <| t_skipE rfl hf rfl rfl rfl fun a hf => ⟨.inr (hw.back (IH.le_refl _) (scc sr)), ?_⟩
   refine tS rfl rfl hf rfl rfl rfl fun a hf => tR rfl hf (fun w hw => pF hf rfl rfl) rfl fun a hf => tR rfl hf (fun w hw => r_assign hf rfl) rfl fun a hf => t_done <| ct ?_
   have ho := oI hp
   subst ho
   exact ⟨false, rfl, hw, hf.to ⟨rfl, trivial⟩⟩
 ·intro a w hM
  obtain ⟨y68, rfl, hw, hf⟩ := hM
  replace hp := hq70
  refine wp_ret ?_
  replace hw : Ok E I (F) w := hw.sub (sc sr)
  have ho := oI hp
  subst ho
  exact b_ret1 hf Go.Proofs.Tryd.results54 rfl ⟨_, rfl, ⟨rfl, hw⟩⟩
end Go.Lf
