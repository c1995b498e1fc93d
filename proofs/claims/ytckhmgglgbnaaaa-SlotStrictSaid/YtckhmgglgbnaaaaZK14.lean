import Derived.Test.YtckhmgglgbnaaaaZD
import Derived.Test.YtckhmgglgbnaaaaZF
import Derived.Test.YtckhmgglgbnaaaaUB
import Derived.Test.YtckhmgglgbnaaaaN
import Derived.Test.YtckhmgglgbnaaaaBL
import Derived.Test.YtckhmgglgbnaaaaZK10
import Derived.Test.YtckhmgglgbnaaaaZK12
import Derived.Test.YtckhmgglgbnaaaaZK13
set_option linter.unusedVariables false
set_option linter.unusedSimpArgs false
set_option maxHeartbeats 1000000
set_option maxRecDepth 20000
namespace Go.Lf
open Go Go.Proofs.Try
set_option maxHeartbeats 2000000 in
theorem slot_reader_node_scc (kk : Nat) : (∀ {E : World} {I : IH} {F : List Atom} {w : World} {a0b : Nat} {a0_p_s : ByteArray} {a0_p_l : List Slot} {a0_p_lv : Value} {a0_p_lm : Nat} {a0_p_lcs : List Value} {a0_p_bad : Bool} {a1 : Int} {res0 : Int} {new_a0_p_s : ByteArray} {new_a0_p_bad : Bool} {new_a0_p_l : List Slot} (hw : Ok E I (.blk a0b (.cells ⟨[Value.string a0_p_s, a0_p_lv, Value.bool a0_p_bad]⟩ 111 (0, 0)) :: .row a0_p_lv 70 20 a0_p_lm a0_p_lcs :: F) w) (ha0_p_l : RowR ek_Slot I a0_p_lcs a0_p_l) (hp : slot_reader_node.f kk a0_p_s a0_p_l a0_p_bad a1 = some (res0, new_a0_p_s, new_a0_p_bad, new_a0_p_l)),
  Calls P 57 ⟨[Value.pointer (some ⟨a0b, 0, none⟩), Value.int .i64 a1]⟩ w fun e w' => ∃ v, e = .returned v ∧ ∃ rv14187 : Value, ∃ rm14188 : Nat, ∃ rcs14189 : List Value, v = Value.int .i64 res0 ∧ Ok E I (.blk a0b (.cells ⟨[Value.string new_a0_p_s, rv14187, Value.bool new_a0_p_bad]⟩ 111 (0, 0)) :: .row rv14187 70 20 rm14188 rcs14189 :: F) w' ∧ RowR ek_Slot I rcs14189 new_a0_p_l) ∧
 (∀ {E : World} {I : IH} {F : List Atom} {w : World} {a0b : Nat} {a0_p_s : ByteArray} {a0_p_l : List Slot} {a0_p_lv : Value} {a0_p_lm : Nat} {a0_p_lcs : List Value} {a0_p_bad : Bool} {res0 : Int} {new_a0_p_s : ByteArray} {new_a0_p_bad : Bool} {new_a0_p_l : List Slot} (hw : Ok E I (.blk a0b (.cells ⟨[Value.string a0_p_s, a0_p_lv, Value.bool a0_p_bad]⟩ 111 (0, 0)) :: .row a0_p_lv 70 20 a0_p_lm a0_p_lcs :: F) w) (ha0_p_l : RowR ek_Slot I a0_p_lcs a0_p_l) (hp : slot_reader_child.f kk a0_p_s a0_p_l a0_p_bad = some (res0, new_a0_p_s, new_a0_p_bad, new_a0_p_l)),
  Calls P 79 ⟨[Value.pointer (some ⟨a0b, 0, none⟩)]⟩ w fun e w' => ∃ v, e = .returned v ∧ ∃ rv14191 : Value, ∃ rm14192 : Nat, ∃ rcs14193 : List Value, v = Value.int .i64 res0 ∧ Ok E I (.blk a0b (.cells ⟨[Value.string new_a0_p_s, rv14191, Value.bool new_a0_p_bad]⟩ 111 (0, 0)) :: .row rv14191 70 20 rm14192 rcs14193 :: F) w' ∧ RowR ek_Slot I rcs14193 new_a0_p_l) := by
 induction kk with
 | zero =>
  refine ⟨?_, ?_⟩
  ·intro E I F w a0b a0_p_s a0_p_l a0_p_lv a0_p_lm a0_p_lcs a0_p_bad a1 res0 new_a0_p_s new_a0_p_bad new_a0_p_l hw ha0_p_l hp
   rw [slot_reader_node.f] at hp
   cases hp
  ·intro E I F w a0b a0_p_s a0_p_l a0_p_lv a0_p_lm a0_p_lcs a0_p_bad res0 new_a0_p_s new_a0_p_bad new_a0_p_l hw ha0_p_l hp
   rw [slot_reader_child.f] at hp
   cases hp
 | succ kk ihr =>
  obtain ⟨ihr_slot_reader_node, ihr_slot_reader_child⟩ := ihr
  refine ⟨?_, ?_⟩
  ·intro E I F w a0b a0_p_s a0_p_l a0_p_lv a0_p_lm a0_p_lcs a0_p_bad a1 res0 new_a0_p_s new_a0_p_bad new_a0_p_l hw ha0_p_l hp
   refine c_enter func57 rfl ntmps57 rfl fun a hf => ?_
   replace hf : Fr 89 [(0, .pointer (some ⟨a0b, 0, none⟩)), (1, .int .i64 a1)] a := hf
   rw [slot_reader_node.f] at hp
   refine wq <| wr <| oa hf rfl rfl fun a hf => oN <| ct <| wq <| wr <| om hf rfl rfl fun a hf => oR hf (nC hf rfl) rfl fun a hf => oR hf (rF hf rfl fd_111_1) rfl fun a hf => oR hf (rL hw hf rfl ty_62 0 rfl rfl) rfl fun a hf => oR hf (r_lenL (K := ek_Slot) hf el_62 rfl (rR (K := ek_Slot) hw (i := 1) rfl ha0_p_l)) rfl fun a hf => oa hf rfl rfl fun a hf => oN <| ct <| wq ?_
   refine wr <| om hf rfl rfl fun a hf => oR hf (r_build hf bd_70 (vs := [.int .i64 a1]) rfl ⟨rfl, trivial⟩ (by decide) (out := (.int .i64 a1 :: .string e0 :: .bool false :: .string e0 :: arrC .i64 (Vector.replicate 16 0 : Vector Int 16))) rfl) rfl fun a hf => ?_
   obtain ⟨b1, w, hrun2, hw⟩ := e_alloc (P := P) (a := a) hw ty_70
   refine o_eff hf (hrun2 ..) rfl fun a hf => ?_
   obtain ⟨w, hrun4, hw⟩ := e_store (P := P) hw hf (x := .tmp 6) (y := .tmp 15) rfl rfl ty_70 0 rfl (vs := (.int .i64 a1 :: .string e0 :: .bool false :: .string e0 :: arrC .i64 (Vector.replicate 16 0 : Vector Int 16))) rfl (by simp [arrC_len]) (oC rfl (oC rfl (oC rfl (oC rfl (arrC_one _ _))))) (by simp [arrC_len]) (cs' := (.int .i64 a1 :: .string e0 :: .bool false :: .string e0 :: arrC .i64 (Vector.replicate 16 0 : Vector Int 16))) (by simp [arrC_len])
   dsimp only [List.set] at hw
   refine o_effU (hrun4 ..) <| oN <| ct <| wq <| c_drawn mix [10] (.rd 0 (.rd 1 (.rd 2 (.rd 3 (.rd 4 (.rd 5 (.ef 6 (.ef 7 (.ef 8 (.rd 9 (.ef 10 .done))))))))))) (by kernel_rfl) hw (fun w => Ok E I (.blk b1 (.cells ⟨.int .i64 a1 :: .string e0 :: .bool false :: .string e0 :: arrC .i64 (Vector.replicate 16 0 : Vector Int 16)⟩ 70 (0, 0)) :: .blk a0b (.cells ⟨[.string a0_p_s, a0_p_lv, .bool a0_p_bad]⟩ 111 (0, 0)) :: F) w) (fun w hw => ⟨hw.sub (scc (scc (sc sr))), ?_⟩)
   refine tm rfl hf rfl rfl fun a hf => tm rfl hf rfl rfl fun a hf => tR rfl hf (fun w hw => nC hf rfl) rfl fun a hf => tR rfl hf (fun w hw => rF hf rfl fd_111_1) rfl fun a hf => tR rfl hf (fun w hw => rL hw hf rfl ty_62 1 rfl rfl) rfl fun a hf => tR rfl hf (fun w hw => r_loadA hw hf rfl ty_70 0 rfl (vs := (.int .i64 a1 :: .string e0 :: .bool false :: .string e0 :: arrC .i64 (Vector.replicate 16 0 : Vector Int 16))) (take_all (by simp [arrC_len])) (by simp [arrC_len])) rfl fun a hf => t_ef rfl ?_
   obtain ⟨w, v6, hrun7, hw, hRR8⟩ := e_buildSlice (P := P) (K := ek_Slot) (m := 1) hw hf (parts := [(0, .tmp 21)]) el_62 ty_70 rfl rfl rfl (ccs := [(Value.int .i64 a1 :: Value.string e0 :: Value.bool false :: Value.string e0 :: arrC .i64 (Vector.replicate 16 0 : Vector Int 16))]) rfl (xs := [(⟨a1, e0, false, e0, (Vector.replicate 16 0 : Vector Int 16)⟩ : Slot)]) ⟨rfl, trivial⟩ rfl
   obtain ⟨cs9, hcs⟩ : ∃ cs, cs = ([(Value.int .i64 a1 :: Value.string e0 :: Value.bool false :: Value.string e0 :: arrC .i64 (Vector.replicate 16 0 : Vector Int 16))] : List (List Value)).flatten := ⟨_, rfl⟩
   rw [← hcs] at hw hRR8; clear hcs
   refine t_eff hf (hrun7 ..) rfl fun a hf => ⟨.inr (hw.back (IH.le_refl _) (sc (scc (scc (sc sr))))), ?_⟩
   refine t_ef rfl ?_
   obtain ⟨hg11, hp⟩ := gS hp
   obtain ⟨w, v12, m13, cs14, hrun16, hw, hRR15⟩ := e_append (P := P) (K := ek_Slot) (ty := 62) hw hf (s := .tmp 20) (x := .tmp 22) el_62 ty_70 rfl (by decide) 3 rfl rfl rfl ha0_p_l (ys := [(⟨a1, e0, false, e0, (Vector.replicate 16 0 : Vector Int 16)⟩ : Slot)]) (rR (K := ek_Slot) hw (i := 0) rfl hRR8) hg11
   replace hw : Ok E I (.row v6 70 20 1 cs9 :: .blk b1 (.cells ⟨.int .i64 a1 :: .string e0 :: .bool false :: .string e0 :: arrC .i64 (Vector.replicate 16 0 : Vector Int 16)⟩ 70 (0, 0)) :: .blk a0b (.cells ⟨[.string a0_p_s, a0_p_lv, .bool a0_p_bad]⟩ 111 (0, 0)) :: .row v12 70 20 m13 cs14 :: F) w := hw
   refine t_eff hf (hrun16 ..) rfl fun a hf => ⟨.inr (hw.back (IH.le_refl _) (sc (scc (scc (sc sr))))), ?_⟩
   refine t_ef rfl <| t_eff hf (nC hf rfl) rfl fun a hf => ⟨.inr (hw.back (IH.le_refl _) (sc (scc (scc (sc sr))))), ?_⟩
   refine tR rfl hf (fun w hw => rF hf rfl fd_111_1) rfl fun a hf => t_ef rfl ?_
   obtain ⟨w, hrun17, hw⟩ := e_store (P := P) hw hf (x := .tmp 25) (y := .tmp 23) rfl rfl ty_62 2 rfl (vs := [v12]) (oE (row_one hw (i := 3) rfl)) rfl (oC (row_one hw (i := 3) rfl) ones_nil) (by simp [arrC_len]) (cs' := [.string a0_p_s, v12, .bool a0_p_bad]) rfl
   dsimp only [List.set] at hw
   refine t_effU (hrun17 ..) ⟨.inl rfl, ?_⟩
   refine t_done <| ct <| wq <| wr <| oa hf rfl rfl fun a hf => oN <| ct ?_
   obtain ⟨out132, hp, hq133⟩ := bS hp
   refine c_cut (fun a w => ∃ y126 : ByteArray, ∃ y127 : Bool, ∃ y128 : ByteArray, ∃ y129 : ByteArray, ∃ y130 : Bool, ∃ y131 : Int, (y126, y127, y128, y129, y130, y131) = out132 ∧ Ok E I (.row v6 70 20 1 cs9 :: .blk b1 (.cells ⟨.int .i64 a1 :: .string y126 :: .bool y127 :: .string y128 :: arrC .i64 (Vector.replicate 16 0 : Vector Int 16)⟩ 70 (0, 0)) :: .blk a0b (.cells ⟨[.string y129, v12, .bool y130]⟩ 111 (0, 0)) :: .row v12 70 20 m13 cs14 :: F) w ∧ Fr 89 ([(0, .pointer (some ⟨a0b, 0, none⟩)), (5, .int .i64 (a0_p_l.length : Int)), (6, .pointer (some ⟨b1, 0, none⟩)), (7, .int .i64 y131)]) a) ?_ ?_
   ·refine wq <| wr <| om hf rfl rfl fun a hf => oN <| ct <| wp_block <| wq <| wr <| oR hf (iC hf rfl rfl rfl) rfl fun a hf => oa hf rfl rfl fun a hf => oN <| ct <| cC hf rfl (fun hb134 => ?_) (fun hb134 => ?_)
    ·replace hp := cond_t hb134 hp
     refine wq <| wr <| om hf rfl rfl fun a hf => ?_
     replace hw : Ok E I (.blk a0b (.cells ⟨[.string a0_p_s, v12, .bool a0_p_bad]⟩ 111 (0, 0)) :: .row v12 70 20 m13 cs14 :: .row v6 70 20 1 cs9 :: .blk b1 (.cells ⟨.int .i64 a1 :: .string e0 :: .bool false :: .string e0 :: arrC .i64 (Vector.replicate 16 0 : Vector Int 16)⟩ 70 (0, 0)) :: F) w := (hw.front (i := 3) rfl).front (i := 3) rfl
     obtain ⟨y139, hy138, hp⟩ := bS hp
     obtain ⟨y135, y136, y137⟩ := y139
     have hc140 := slot_reader_path_ok hw hRR15 hy138
     refine o_call hf cb_76 rfl rfl hc140 (fun v142 w a hK141 hf => ?_)
     obtain ⟨rfl, hw⟩ := hK141
     refine oR hf (rF hf rfl fd_70_1) rfl fun a hf => ?_
     obtain ⟨w, hrun143, hw⟩ := e_store (P := P) hw hf (x := .tmp 34) (y := .tmp 33) rfl rfl ty_9 3 rfl (vs := [.string y135]) (oE rfl) rfl (oC rfl ones_nil) (by simp [arrC_len]) (cs' := (.int .i64 a1 :: .string y135 :: .bool false :: .string e0 :: arrC .i64 (Vector.replicate 16 0 : Vector Int 16))) rfl
     dsimp only [List.set] at hw
     refine o_effU (hrun143 ..) <| oN <| ct <| wr <| om hf rfl rfl fun a hf => ?_
     replace hw : Ok E I (.blk a0b (.cells ⟨[.string y136, v12, .bool y137]⟩ 111 (0, 0)) :: .row v12 70 20 m13 cs14 :: .row v6 70 20 1 cs9 :: .blk b1 (.cells ⟨.int .i64 a1 :: .string y135 :: .bool false :: .string e0 :: arrC .i64 (Vector.replicate 16 0 : Vector Int 16)⟩ 70 (0, 0)) :: F) w := (hw.front (i := 1) rfl).front (i := 1) rfl
     obtain ⟨y148, hy147, hp⟩ := bS hp
     obtain ⟨y144, y145, y146⟩ := y148
     have hc149 := slot_reader_value_ok hw hRR15 hy147
     refine o_call hf cb_77 rfl rfl hc149 (fun v151 w a hK150 hf => ?_)
     obtain ⟨rfl, hw⟩ := hK150
     refine oR hf (rF hf rfl fd_70_2) rfl fun a hf => ?_
     obtain ⟨w, hrun152, hw⟩ := e_store (P := P) hw hf (x := .tmp 37) (y := .const (Value.bool true)) rfl rfl ty_4 3 rfl (vs := [.bool true]) (oE rfl) rfl (oC rfl ones_nil) (by simp [arrC_len]) (cs' := (.int .i64 a1 :: .string y135 :: .bool true :: .string e0 :: arrC .i64 (Vector.replicate 16 0 : Vector Int 16))) rfl
     dsimp only [List.set] at hw
     refine o_effU (hrun152 ..) <| oR hf (rF hf rfl fd_70_3) rfl fun a hf => ?_
     obtain ⟨w, hrun153, hw⟩ := e_store (P := P) hw hf (x := .tmp 38) (y := .tmp 36) rfl rfl ty_9 3 rfl (vs := [.string y144]) (oE rfl) rfl (oC rfl ones_nil) (by simp [arrC_len]) (cs' := (.int .i64 a1 :: .string y135 :: .bool true :: .string y144 :: arrC .i64 (Vector.replicate 16 0 : Vector Int 16))) rfl
     dsimp only [List.set] at hw
     refine o_effU (hrun153 ..) <| oN <| c_blockN <| ct ?_
     have ho := oI hp
     subst ho
     replace hw : Ok E I (.row v6 70 20 1 cs9 :: .blk b1 (.cells ⟨.int .i64 a1 :: .string y135 :: .bool true :: .string y144 :: arrC .i64 (Vector.replicate 16 0 : Vector Int 16)⟩ 70 (0, 0)) :: .blk a0b (.cells ⟨[.string y145, v12, .bool y146]⟩ 111 (0, 0)) :: .row v12 70 20 m13 cs14 :: F) w := (((hw.front (i := 1) rfl).front (i := 1) rfl).front (i := 3) rfl).front (i := 3) rfl
     exact ⟨y135, true, y144, y145, y146, 0, rfl, hw, hf.to ⟨rfl, rfl, rfl, rfl, trivial⟩⟩
    ·replace hp := cond_f hb134 hp
     refine wq <| wr <| oR hf (iC hf rfl rfl rfl) rfl fun a hf => oa hf rfl rfl fun a hf => oN <| ct <| cC hf rfl (fun hb154 => ?_) (fun hb154 => ?_)
     ·replace hp := cond_t hb154 hp
      refine wq <| wr <| om hf rfl rfl fun a hf => ?_
      replace hw : Ok E I (.blk a0b (.cells ⟨[.string a0_p_s, v12, .bool a0_p_bad]⟩ 111 (0, 0)) :: .row v12 70 20 m13 cs14 :: .row v6 70 20 1 cs9 :: .blk b1 (.cells ⟨.int .i64 a1 :: .string e0 :: .bool false :: .string e0 :: arrC .i64 (Vector.replicate 16 0 : Vector Int 16)⟩ 70 (0, 0)) :: F) w := (hw.front (i := 3) rfl).front (i := 3) rfl
      obtain ⟨y159, hy158, hp⟩ := bS hp
      obtain ⟨y155, y156, y157⟩ := y159
      have hc160 := slot_reader_path_ok hw hRR15 hy158
      refine o_call hf cb_76 rfl rfl hc160 (fun v162 w a hK161 hf => ?_)
      obtain ⟨rfl, hw⟩ := hK161
      refine oR hf (rF hf rfl fd_70_1) rfl fun a hf => ?_
      obtain ⟨w, hrun163, hw⟩ := e_store (P := P) hw hf (x := .tmp 43) (y := .tmp 42) rfl rfl ty_9 3 rfl (vs := [.string y155]) (oE rfl) rfl (oC rfl ones_nil) (by simp [arrC_len]) (cs' := (.int .i64 a1 :: .string y155 :: .bool false :: .string e0 :: arrC .i64 (Vector.replicate 16 0 : Vector Int 16))) rfl
      dsimp only [List.set] at hw
      refine o_effU (hrun163 ..) <| oN <| ct ?_
      obtain ⟨out171, hp, hq172⟩ := bS hp
      refine c_cut (fun a w => ∃ y170 : Bool, y170 = out171 ∧ Ok E I (.blk a0b (.cells ⟨[.string y156, v12, .bool y170]⟩ 111 (0, 0)) :: .row v12 70 20 m13 cs14 :: .row v6 70 20 1 cs9 :: .blk b1 (.cells ⟨.int .i64 a1 :: .string y155 :: .bool false :: .string e0 :: arrC .i64 (Vector.replicate 16 0 : Vector Int 16)⟩ 70 (0, 0)) :: F) w ∧ Fr 89 ([(0, .pointer (some ⟨a0b, 0, none⟩)), (5, .int .i64 (a0_p_l.length : Int)), (6, .pointer (some ⟨b1, 0, none⟩))]) a) ?_ ?_
      ·refine wr <| om hf rfl rfl fun a hf => om hf rfl rfl fun a hf => oR hf (nC hf rfl) rfl fun a hf => oR hf (rF hf rfl fd_111_2) rfl fun a hf => oR hf (rL hw hf rfl ty_4 0 rfl rfl) rfl fun a hf => om hf rfl rfl fun a hf => g_split hf (g := 49) rfl (fun hb173 hf => ?_) (fun hb173 hf => ?_)
       ·replace hp := cond_t hb173 hp
        refine oQ hf (g := 49) rfl fun a hf => oQ hf (g := 49) rfl fun a hf => oQ hf (g := 49) rfl fun a hf => oR hf (pT hf rfl rfl) rfl fun a hf => oR hf (nC hf rfl) rfl fun a hf => oR hf (rF hf rfl fd_111_2) rfl fun a hf => ?_
        obtain ⟨w, hrun174, hw⟩ := e_store (P := P) hw hf (x := .tmp 55) (y := .tmp 53) rfl rfl ty_4 0 rfl (vs := [.bool true]) (oE rfl) rfl (oC rfl ones_nil) (by simp [arrC_len]) (cs' := [.string y156, v12, .bool true]) rfl
        dsimp only [List.set] at hw
        refine o_effU (hrun174 ..) <| oN <| ct ?_
        have ho := oI hp
        subst ho
        exact ⟨true, rfl, hw, hf.to ⟨rfl, rfl, rfl, trivial⟩⟩
       ·replace hp := cond_f hb173 hp
        refine oW hf (g := 49) rfl rfl <| oR hf (rF hf rfl fd_70_1) rfl fun a hf => oW hf (g := 49) rfl rfl <| oR hf (rL hw hf rfl ty_9 3 rfl rfl) rfl fun a hf => oW hf (g := 49) rfl rfl <| oR hf (r_scmp hf rfl rfl rfl) rfl fun a hf => oR hf (pF hf rfl rfl) rfl fun a hf => oR hf (nC hf rfl) rfl fun a hf => oR hf (rF hf rfl fd_111_2) rfl fun a hf => ?_
        obtain ⟨w, hrun175, hw⟩ := e_store (P := P) hw hf (x := .tmp 55) (y := .tmp 53) rfl rfl ty_4 0 rfl (vs := [.bool (seq_ y155 e0)]) (oE rfl) rfl (oC rfl ones_nil) (by simp [arrC_len]) (cs' := [.string y156, v12, .bool (seq_ y155 e0)]) rfl
        dsimp only [List.set] at hw
        refine o_effU (hrun175 ..) <| oN <| ct ?_
        have ho := oI hp
        subst ho
        exact ⟨(seq_ y155 e0), rfl, hw, hf.to ⟨rfl, rfl, rfl, trivial⟩⟩
      ·intro a w hM
       obtain ⟨y170, rfl, hw, hf⟩ := hM
       replace hp := hq172
       refine wr <| oa hf rfl rfl fun a hf => oN <| c_blockN <| ct ?_
       have ho := oI hp
       subst ho
       replace hw : Ok E I (.row v6 70 20 1 cs9 :: .blk b1 (.cells ⟨.int .i64 a1 :: .string y155 :: .bool false :: .string e0 :: arrC .i64 (Vector.replicate 16 0 : Vector Int 16)⟩ 70 (0, 0)) :: .blk a0b (.cells ⟨[.string y156, v12, .bool y170]⟩ 111 (0, 0)) :: .row v12 70 20 m13 cs14 :: F) w := (((hw.front (i := 1) rfl).front (i := 1) rfl).front (i := 3) rfl).front (i := 3) rfl
       exact ⟨y155, false, e0, y156, y170, 1, rfl, hw, hf.to ⟨rfl, rfl, rfl, rfl, trivial⟩⟩
     ·replace hp := cond_f hb154 hp
      refine wq <| wr <| oR hf (iC hf rfl rfl rfl) rfl fun a hf => oa hf rfl rfl fun a hf => oN <| ct <| cC hf rfl (fun hb176 => ?_) (fun hb176 => ?_)
      ·replace hp := cond_t hb176 hp
       refine wr <| om hf rfl rfl fun a hf => ?_
       replace hw : Ok E I (.blk a0b (.cells ⟨[.string a0_p_s, v12, .bool a0_p_bad]⟩ 111 (0, 0)) :: .row v12 70 20 m13 cs14 :: .blk b1 (.cells ⟨.int .i64 a1 :: .string e0 :: .bool false :: .string e0 :: arrC .i64 (Vector.replicate 16 0 : Vector Int 16)⟩ 70 (0, 0)) :: .row v6 70 20 1 cs9 :: F) w := ((hw.front (i := 1) rfl).front (i := 3) rfl).front (i := 3) rfl
       obtain ⟨y183, hy182, hp⟩ := bS hp
       obtain ⟨y177, y178, y179, y180, y181⟩ := y183
       have hc184 := slot_reader_branch_ok hw hRR15 hy182
       refine o_call hf cb_78 rfl rfl hc184 (fun v186 w a hK185 hf => ?_)
       obtain ⟨rfl, hw⟩ := hK185
       refine oa hf rfl rfl fun a hf => oN <| c_blockN <| ct ?_
       have ho := oI hp
       subst ho
       replace hw : Ok E I (.row v6 70 20 1 cs9 :: .blk b1 (.cells ⟨.int .i64 a1 :: .string e0 :: .bool y180 :: .string y181 :: arrC .i64 (Vector.replicate 16 0 : Vector Int 16)⟩ 70 (0, 0)) :: .blk a0b (.cells ⟨[.string y178, v12, .bool y179]⟩ 111 (0, 0)) :: .row v12 70 20 m13 cs14 :: F) w := (((hw.front (i := 1) rfl).front (i := 1) rfl).front (i := 2) rfl).front (i := 3) rfl
       exact ⟨e0, y180, y181, y178, y179, y177, rfl, hw, hf.to ⟨rfl, rfl, rfl, rfl, trivial⟩⟩
      ·replace hp := cond_f hb176 hp
       refine wr <| om hf rfl rfl fun a hf => oR hf (nC hf rfl) rfl fun a hf => oR hf (rF hf rfl fd_111_2) rfl fun a hf => ?_
       obtain ⟨w, hrun187, hw⟩ := e_store (P := P) hw hf (x := .tmp 29) (y := .const (Value.bool true)) rfl rfl ty_4 2 rfl (vs := [.bool true]) (oE rfl) rfl (oC rfl ones_nil) (by simp [arrC_len]) (cs' := [.string a0_p_s, v12, .bool true]) rfl
       dsimp only [List.set] at hw
       refine o_effU (hrun187 ..) <| oN <| c_blockN <| ct ?_
       have ho := oI hp
       subst ho
       exact ⟨e0, false, e0, a0_p_s, true, 0, rfl, hw, hf.to ⟨rfl, rfl, rfl, rfl, trivial⟩⟩
   ·intro a w hM
    obtain ⟨y126, y127, y128, y129, y130, y131, rfl, hw, hf⟩ := hM
    replace hp := hq133
    refine wq <| wq <| wr <| om hf rfl rfl fun a hf => oN <| ct ?_
    obtain ⟨out463, hp, hq464⟩ := bS hp
    refine c_cutX (fun a w => ∃ y455 : List Slot, ∃ y460 : Vector Int 16, ∃ y461 : ByteArray, ∃ y462 : Bool, ∃ yv456 : Value, ∃ m457 : Nat, ∃ cs458 : List Value, (y455, y460, y461, y462) = out463 ∧ Ok E I (.row v6 70 20 1 cs9 :: .blk b1 (.cells ⟨.int .i64 a1 :: .string y126 :: .bool y127 :: .string y128 :: arrC .i64 y460⟩ 70 (0, 0)) :: .blk a0b (.cells ⟨[.string y461, yv456, .bool y462]⟩ 111 (0, 0)) :: .row yv456 70 20 m457 cs458 :: F) w ∧ Fr 89 ([(0, .pointer (some ⟨a0b, 0, none⟩)), (5, .int .i64 (a0_p_l.length : Int)), (6, .pointer (some ⟨b1, 0, none⟩))]) a ∧ RowR ek_Slot I cs458 y455) ?_ ?_
    ·refine wp_block <| c_loop <| c_fuel (slot_reader_node.l0 y131 (slot_reader_child.f kk)) out463 (fun (y360, y365, y366, y367, y368) a w => ∃ yv361 : Value, ∃ m362 : Nat, ∃ cs363 : List Value, Ok E I (.row v6 70 20 1 cs9 :: .blk b1 (.cells ⟨.int .i64 a1 :: .string y126 :: .bool y127 :: .string y128 :: arrC .i64 y365⟩ 70 (0, 0)) :: .blk a0b (.cells ⟨[.string y366, yv361, .bool y367]⟩ 111 (0, 0)) :: .row yv361 70 20 m362 cs363 :: F) w ∧ Fr 89 ([(0, .pointer (some ⟨a0b, 0, none⟩)), (5, .int .i64 (a0_p_l.length : Int)), (6, .pointer (some ⟨b1, 0, none⟩)), (7, .int .i64 y131), (60, .int .i64 y368)]) a ∧ RowR ek_Slot I cs363 y360) (fun _ => rfl) ?_ BIG (a0_p_l ++ [(⟨a1, e0, false, e0, (Vector.replicate 16 0 : Vector Int 16)⟩ : Slot)], (Vector.replicate 16 0 : Vector Int 16), y129, y130, 0) _ _ ⟨v12, m13, cs14, hw, hf.to ⟨rfl, rfl, rfl, rfl, rfl, trivial⟩, hRR15⟩ hp
     intro k st a w hI hp ih
     obtain ⟨y360, y365, y366, y367, y368⟩ := st
     obtain ⟨yv361, m362, cs363, hw, hf, hRR364⟩ := hI
     rw [slot_reader_node.l0] at hp
     refine wq <| wr <| oR hf (iC hf rfl rfl rfl) rfl fun a hf => oN <| ct <| wq <| cC hf rfl (fun hb466 => ?_) (fun hb466 => ?_)
     ·replace hp := cond_t hb466 hp
      refine wp_skip <| ct ?_
      obtain ⟨out525, hp, hq526⟩ := bS hp
      refine c_cut (fun a w => ∃ y517 : List Slot, ∃ y522 : Vector Int 16, ∃ y523 : ByteArray, ∃ y524 : Bool, ∃ yv518 : Value, ∃ m519 : Nat, ∃ cs520 : List Value, (y517, y522, y523, y524) = out525 ∧ Ok E I (.row v6 70 20 1 cs9 :: .blk b1 (.cells ⟨.int .i64 a1 :: .string y126 :: .bool y127 :: .string y128 :: arrC .i64 y522⟩ 70 (0, 0)) :: .blk a0b (.cells ⟨[.string y523, yv518, .bool y524]⟩ 111 (0, 0)) :: .row yv518 70 20 m519 cs520 :: F) w ∧ Fr 89 ([(0, .pointer (some ⟨a0b, 0, none⟩)), (5, .int .i64 (a0_p_l.length : Int)), (6, .pointer (some ⟨b1, 0, none⟩)), (7, .int .i64 y131), (60, .int .i64 y368)]) a ∧ RowR ek_Slot I cs520 y517) ?_ ?_
      ·refine wp_block <| wq <| wr <| om hf rfl rfl fun a hf => oa hf rfl rfl fun a hf => oN <| ct ?_
       obtain ⟨out532, hp, hq533⟩ := bS hp
       refine c_cut (fun a w => ∃ y531 : Bool, y531 = out532 ∧ Ok E I (.row v6 70 20 1 cs9 :: .blk b1 (.cells ⟨.int .i64 a1 :: .string y126 :: .bool y127 :: .string y128 :: arrC .i64 y365⟩ 70 (0, 0)) :: .blk a0b (.cells ⟨[.string y366, yv361, .bool y367]⟩ 111 (0, 0)) :: .row yv361 70 20 m362 cs363 :: F) w ∧ Fr 89 ([(0, .pointer (some ⟨a0b, 0, none⟩)), (5, .int .i64 (a0_p_l.length : Int)), (6, .pointer (some ⟨b1, 0, none⟩)), (7, .int .i64 y131), (8, .int .i64 y368), (60, .int .i64 y368), (74, .bool y531)]) a) ?_ ?_
       ·refine wr <| om hf rfl rfl fun a hf => om hf rfl rfl fun a hf => ?_
        obtain ⟨hg534, hp⟩ := gS hp
        refine oR hf (r_shr hf rfl rfl hg534) rfl fun a hf => oR hf (r_and hf rfl rfl) rfl fun a hf => oR hf (iC hf rfl rfl rfl) rfl fun a hf => om hf rfl rfl fun a hf => g_split hf (g := 68) rfl (fun hb535 hf => ?_) (fun hb535 hf => ?_)
        ·replace hp := cond_t hb535 hp
         refine oW hf (g := 68) rfl rfl <| om hf rfl rfl fun a hf => oW hf (g := 68) rfl rfl <| oR hf (nC hf rfl) rfl fun a hf => oW hf (g := 68) rfl rfl <| oR hf (rF hf rfl fd_111_2) rfl fun a hf => oW hf (g := 68) rfl rfl <| oR hf (rL hw hf rfl ty_4 2 rfl rfl) rfl fun a hf => oW hf (g := 68) rfl rfl <| oR hf (r_not hf rfl) rfl fun a hf => oR hf (pT hf rfl rfl) rfl fun a hf => oN <| ct ?_
         have ho := oI hp
         subst ho
         exact ⟨(!y367), rfl, hw, hf.to ⟨rfl, rfl, rfl, rfl, rfl, rfl, rfl, trivial⟩⟩
        ·replace hp := cond_f hb535 hp
         refine oQ hf (g := 68) rfl fun a hf => oQ hf (g := 68) rfl fun a hf => oQ hf (g := 68) rfl fun a hf => oQ hf (g := 68) rfl fun a hf => oQ hf (g := 68) rfl fun a hf => oR hf (pF hf rfl rfl) rfl fun a hf => oN <| ct ?_
         have ho := oI hp
         subst ho
         exact ⟨false, rfl, hw, hf.to ⟨rfl, rfl, rfl, rfl, rfl, rfl, rfl, trivial⟩⟩
       ·intro a w hM
        obtain ⟨y531, rfl, hw, hf⟩ := hM
        replace hp := hq533
        refine cC hf rfl (fun hb536 => ?_) (fun hb536 => ?_)
        ·replace hp := cond_t hb536 hp
         refine wr <| om hf rfl rfl fun a hf => om hf rfl rfl fun a hf => ?_
         replace hw : Ok E I (.blk a0b (.cells ⟨[.string y366, yv361, .bool y367]⟩ 111 (0, 0)) :: .row yv361 70 20 m362 cs363 :: .row v6 70 20 1 cs9 :: .blk b1 (.cells ⟨.int .i64 a1 :: .string y126 :: .bool y127 :: .string y128 :: arrC .i64 y365⟩ 70 (0, 0)) :: F) w := (hw.front (i := 3) rfl).front (i := 3) rfl
         obtain ⟨y542, hy541, hp⟩ := bS hp
         obtain ⟨y537, y538, y539, y540⟩ := y542
         have hc543 := ihr_slot_reader_child hw hRR364 hy541
         refine o_call hf cb_79 rfl rfl hc543 (fun v549 w a hK544 hf => ?_)
         obtain ⟨rv545, rm546, rcs547, rfl, hw, hRR548⟩ := hK544
         refine oR hf (rF hf rfl fd_70_4) rfl fun a hf => ?_
         obtain ⟨hg550, hp⟩ := gS hp
         refine oR hf (r_indexAddrA hf el_49 rfl rfl hg550) rfl fun a hf => ?_
         obtain ⟨w, hrun551, hw⟩ := e_store (P := P) hw hf (x := .tmp 79) (y := .tmp 77) rfl rfl ty_3 3 rfl (vs := [.int .i64 y537]) rfl rfl (oC rfl ones_nil) (by first | (simp [arrC_len] <;> omega) | (have h := hg550; try (simp only [w64, wu8, wu16, wu32, wu64] at h); simp only [List.length_cons, arrC_len]; omega)) (cs' := (.int .i64 a1 :: .string y126 :: .bool y127 :: .string y128 :: arrC .i64 (vset y365 y368 y537))) (arr_store (pre := [.int .i64 a1, .string y126, .bool y127, .string y128]) (v := y365) rfl rfl rfl hg550)
         dsimp only [List.set] at hw
         refine o_effU (hrun551 ..) <| oN <| c_blockN <| ct ?_
         have ho := oI hp
         subst ho
         replace hw : Ok E I (.row v6 70 20 1 cs9 :: .blk b1 (.cells ⟨.int .i64 a1 :: .string y126 :: .bool y127 :: .string y128 :: arrC .i64 (vset y365 y368 y537)⟩ 70 (0, 0)) :: .blk a0b (.cells ⟨[.string y538, rv545, .bool y539]⟩ 111 (0, 0)) :: .row rv545 70 20 rm546 rcs547 :: F) w := (((hw.front (i := 1) rfl).front (i := 1) rfl).front (i := 3) rfl).front (i := 3) rfl
         exact ⟨y540, (vset y365 y368 y537), y538, y539, rv545, rm546, rcs547, rfl, hw, hf.to ⟨rfl, rfl, rfl, rfl, rfl, trivial⟩, hRR548⟩
        ·replace hp := cond_f hb536 hp
         refine wp_skip <| c_blockN <| ct ?_
         have ho := oI hp
         subst ho
         exact ⟨y360, y365, y366, y367, yv361, m362, cs363, rfl, hw, hf.to ⟨rfl, rfl, rfl, rfl, rfl, trivial⟩, hRR364⟩
      ·intro a w hM
       obtain ⟨y517, y522, y523, y524, yv518, m519, cs520, rfl, hw, hf, hRR521⟩ := hM
       replace hp := hq526
       refine wr <| oR hf (r_add hf rfl rfl) rfl fun a hf => om hf rfl rfl fun a hf => oN <| ct ?_
       exact ih (y517, y522, y523, y524, w64 (y368 + 1)) _ _ ⟨yv518, m519, cs520, hw, hf.to ⟨rfl, rfl, rfl, rfl, rfl, trivial⟩, hRR521⟩ hp
     ·replace hp := cond_f hb466 hp
      refine wp_exit <| c_thenE <| c_thenE <| c_exit <| ct ?_
      have ho := oI hp
      subst ho
      exact ⟨y360, y365, y366, y367, yv361, m362, cs363, rfl, hw, hf.to ⟨rfl, rfl, rfl, trivial⟩, hRR364⟩
    ·intro a w hM
     obtain ⟨y455, y460, y461, y462, yv456, m457, cs458, rfl, hw, hf, hRR459⟩ := hM
     replace hp := hq464
     refine ct <| wq <| c_drawn mix [7] (.rd 0 (.rd 1 (.rd 2 (.rd 3 (.rd 4 (.rd 5 (.rd 6 (.ef 7 .done)))))))) (by kernel_rfl) hw (fun w => Ok E I (.row v6 70 20 1 cs9 :: .blk b1 (.cells ⟨.int .i64 a1 :: .string y126 :: .bool y127 :: .string y128 :: arrC .i64 y460⟩ 70 (0, 0)) :: .blk a0b (.cells ⟨[.string y461, yv456, .bool y462]⟩ 111 (0, 0)) :: .row yv456 70 20 m457 cs458 :: F) w) (fun w hw => ⟨hw.sub (scc (scc (scc (scc sr)))), ?_⟩)
     refine tm rfl hf rfl rfl fun a hf => tR rfl hf (fun w hw => nC hf rfl) rfl fun a hf => tR rfl hf (fun w hw => rF hf rfl fd_111_1) rfl fun a hf => tR rfl hf (fun w hw => rL hw hf rfl ty_62 2 rfl rfl) rfl fun a hf => tm rfl hf rfl rfl fun a hf => tR rfl hf (fun w hw => r_loadA hw hf rfl ty_70 1 rfl (vs := (.int .i64 a1 :: .string y126 :: .bool y127 :: .string y128 :: arrC .i64 y460)) (take_all (by simp [arrC_len])) (by simp [arrC_len])) rfl fun a hf => ?_
     obtain ⟨hg554, hp⟩ := gS hp
     refine tR rfl hf (fun w hw => rI (K := ek_Slot) hf el_62 rfl rfl (rR (K := ek_Slot) hw (i := 3) rfl hRR459) hg554) rfl fun a hf => t_ef rfl ?_
     obtain ⟨w, cs556, hrun555, hw, hRR557⟩ := e_storeH (P := P) (K := ek_Slot) hw hf (x := .tmp 87) (y := .tmp 86) rfl rfl ty_70 3 rfl hRR459 hg554 rfl (vs := (.int .i64 a1 :: .string y126 :: .bool y127 :: .string y128 :: arrC .i64 y460)) rfl (by simp [arrC_len]) (oC rfl (oC rfl (oC rfl (oC rfl (arrC_one _ _))))) (Nat.le_of_eq (by rfl)) (x' := (⟨a1, y126, y127, y128, y460⟩ : Slot)) (whole_store rfl)
     replace hw : Ok E I (.row v6 70 20 1 cs9 :: .blk b1 (.cells ⟨.int .i64 a1 :: .string y126 :: .bool y127 :: .string y128 :: arrC .i64 y460⟩ 70 (0, 0)) :: .blk a0b (.cells ⟨[.string y461, yv456, .bool y462]⟩ 111 (0, 0)) :: .row yv456 70 20 m457 cs556 :: F) w := hw
     refine t_effU (hrun555 ..) ⟨.inl rfl, ?_⟩
     refine t_done <| ct <| wq <| wr <| om hf rfl rfl fun a hf => oa hf rfl rfl fun a hf => oN <| ct <| wp_ret ?_
     replace hw : Ok E I (.blk a0b (.cells ⟨[.string y461, yv456, .bool y462]⟩ 111 (0, 0)) :: .row yv456 70 20 m457 cs556 :: F) w := hw.sub (sc (sc (scc (scc sr))))
     have ho := oI hp
     simp only [Prod.mk.injEq] at ho
     obtain ⟨rfl, rfl, rfl, rfl⟩ := ho
     exact b_ret1 hf results57 rfl ⟨_, rfl, ⟨yv456, m457, cs556, rfl, hw, hRR557⟩⟩
  ·intro E I F w a0b a0_p_s a0_p_l a0_p_lv a0_p_lm a0_p_lcs a0_p_bad res0 new_a0_p_s new_a0_p_bad new_a0_p_l hw ha0_p_l hp
   refine c_enter func79 rfl ntmps79 rfl fun a hf => ?_
   replace hf : Fr 28 [(0, .pointer (some ⟨a0b, 0, none⟩))] a := hf
   rw [slot_reader_child.f] at hp
   refine wq <| wr <| oa hf rfl rfl fun a hf => oN <| ct <| wq <| wr <| om hf rfl rfl fun a hf => ?_
   replace hw : Ok E I (.blk a0b (.cells ⟨[.string a0_p_s, a0_p_lv, .bool a0_p_bad]⟩ 111 (0, 0)) :: .row a0_p_lv 70 20 a0_p_lm a0_p_lcs :: F) w := (hw.front (i := 1) rfl).front (i := 1) rfl
   obtain ⟨y5, hy4, hp⟩ := bS hp
   obtain ⟨y1, y2, y3⟩ := y5
   have hc6 := slot_reader_number_ok hw ha0_p_l hy4
   refine o_call hf cb_58 rfl rfl hc6 (fun v8 w a hK7 hf => ?_)
   obtain ⟨rfl, hw⟩ := hK7
   refine oa hf rfl rfl fun a hf => oN <| ct <| wq <| wq <| wr <| om hf rfl rfl fun a hf => oR hf (iC hf rfl rfl rfl) rfl fun a hf => oN <| ct <| cC hf rfl (fun hb9 => ?_) (fun hb9 => ?_)
   ·replace hp := cond_t hb9 hp
    refine wq <| wr <| om hf rfl rfl fun a hf => om hf rfl rfl fun a hf => ?_
    replace hw : Ok E I (.blk a0b (.cells ⟨[.string y2, a0_p_lv, .bool y3]⟩ 111 (0, 0)) :: .row a0_p_lv 70 20 a0_p_lm a0_p_lcs :: F) w := (hw.front (i := 1) rfl).front (i := 1) rfl
    obtain ⟨y15, hy14, hp⟩ := bS hp
    obtain ⟨y10, y11, y12, y13⟩ := y15
    have hc16 := ihr_slot_reader_node hw ha0_p_l hy14
    refine o_call hf cb_57 rfl rfl hc16 (fun v22 w a hK17 hf => ?_)
    obtain ⟨rv18, rm19, rcs20, rfl, hw, hRR21⟩ := hK17
    refine oa hf rfl rfl fun a hf => oN <| ct <| wp_ret <| c_thenR ?_
    have ho := oI hp
    simp only [Prod.mk.injEq] at ho
    obtain ⟨rfl, rfl, rfl, rfl⟩ := ho
    exact b_ret1 hf results79 rfl ⟨_, rfl, ⟨rv18, rm19, rcs20, rfl, hw, hRR21⟩⟩
   ·replace hp := cond_f hb9 hp
    refine wp_skip <| ct <| wq <| wr <| om hf rfl rfl fun a hf => ?_
    replace hw : Ok E I (.blk a0b (.cells ⟨[.string y2, a0_p_lv, .bool y3]⟩ 111 (0, 0)) :: .row a0_p_lv 70 20 a0_p_lm a0_p_lcs :: F) w := (hw.front (i := 1) rfl).front (i := 1) rfl
    obtain ⟨y27, hy26, hp⟩ := bS hp
    obtain ⟨y23, y24, y25⟩ := y27
    have hc28 := slot_reader_two_ok hw ha0_p_l hy26
    refine o_call hf cb_93 rfl rfl hc28 (fun v30 w a hK29 hf => ?_)
    obtain ⟨rfl, hw⟩ := hK29
    refine oa hf rfl rfl fun a hf => oN <| ct ?_
    obtain ⟨out50, hp, hq51⟩ := bS hp
    refine c_cut (fun a w => ∃ y49 : Bool, y49 = out50 ∧ Ok E I (.blk a0b (.cells ⟨[.string y24, a0_p_lv, .bool y49]⟩ 111 (0, 0)) :: .row a0_p_lv 70 20 a0_p_lm a0_p_lcs :: F) w ∧ Fr 28 ([(4, .int .i64 y23)]) a) ?_ ?_
    ·refine wr <| om hf rfl rfl fun a hf => om hf rfl rfl fun a hf => oR hf (nC hf rfl) rfl fun a hf => oR hf (rF hf rfl fd_111_2) rfl fun a hf => oR hf (rL hw hf rfl ty_4 0 rfl rfl) rfl fun a hf => om hf rfl rfl fun a hf => g_split hf (g := 19) rfl (fun hb52 hf => ?_) (fun hb52 hf => ?_)
     ·replace hp := cond_t hb52 hp
      refine oQ hf (g := 19) rfl fun a hf => oQ hf (g := 19) rfl fun a hf => oQ hf (g := 19) rfl fun a hf => oR hf (pT hf rfl rfl) rfl fun a hf => oR hf (nC hf rfl) rfl fun a hf => oR hf (rF hf rfl fd_111_2) rfl fun a hf => ?_
      obtain ⟨w, hrun53, hw⟩ := e_store (P := P) hw hf (x := .tmp 25) (y := .tmp 23) rfl rfl ty_4 0 rfl (vs := [.bool true]) (oE rfl) rfl (oC rfl ones_nil) (by simp [arrC_len]) (cs' := [.string y24, a0_p_lv, .bool true]) rfl
      dsimp only [List.set] at hw
      refine o_effU (hrun53 ..) <| oN <| ct ?_
      have ho := oI hp
      subst ho
      exact ⟨true, rfl, hw, hf.to ⟨rfl, trivial⟩⟩
     ·replace hp := cond_f hb52 hp
      refine oW hf (g := 19) rfl rfl <| om hf rfl rfl fun a hf => oW hf (g := 19) rfl rfl ?_
      obtain ⟨y54, hy55, hp⟩ := bS hp
      have hc57 := slot_page_ok hw hy55
      refine o_call hf cb_49 rfl rfl hc57 (fun v59 w a hK58 hf => ?_)
      obtain ⟨rfl, hw⟩ := hK58
      refine oW hf (g := 19) rfl rfl <| oR hf (r_not hf rfl) rfl fun a hf => oR hf (pF hf rfl rfl) rfl fun a hf => oR hf (nC hf rfl) rfl fun a hf => oR hf (rF hf rfl fd_111_2) rfl fun a hf => ?_
      obtain ⟨w, hrun60, hw⟩ := e_store (P := P) hw hf (x := .tmp 25) (y := .tmp 23) rfl rfl ty_4 0 rfl (vs := [.bool (!y54)]) (oE rfl) rfl (oC rfl ones_nil) (by simp [arrC_len]) (cs' := [.string y24, a0_p_lv, .bool (!y54)]) rfl
      dsimp only [List.set] at hw
      refine o_effU (hrun60 ..) <| oN <| ct ?_
      have ho := oI hp
      subst ho
      exact ⟨(!y54), rfl, hw, hf.to ⟨rfl, trivial⟩⟩
    ·intro a w hM
     obtain ⟨y49, rfl, hw, hf⟩ := hM
     replace hp := hq51
     refine wq <| wr <| om hf rfl rfl fun a hf => oR hf (r_neg hf rfl) rfl fun a hf => oa hf rfl rfl fun a hf => oN <| ct <| wp_ret ?_
     have ho := oI hp
     simp only [Prod.mk.injEq] at ho
     obtain ⟨rfl, rfl, rfl, rfl⟩ := ho
     exact b_ret1 hf results79 rfl ⟨_, rfl, ⟨a0_p_lv, a0_p_lm, a0_p_lcs, rfl, hw, ha0_p_l⟩⟩
theorem slot_reader_node_ok (kk : Nat) : ∀ {E : World} {I : IH} {F : List Atom} {w : World} {a0b : Nat} {a0_p_s : ByteArray} {a0_p_l : List Slot} {a0_p_lv : Value} {a0_p_lm : Nat} {a0_p_lcs : List Value} {a0_p_bad : Bool} {a1 : Int} {res0 : Int} {new_a0_p_s : ByteArray} {new_a0_p_bad : Bool} {new_a0_p_l : List Slot} (hw : Ok E I (.blk a0b (.cells ⟨[Value.string a0_p_s, a0_p_lv, Value.bool a0_p_bad]⟩ 111 (0, 0)) :: .row a0_p_lv 70 20 a0_p_lm a0_p_lcs :: F) w) (ha0_p_l : RowR ek_Slot I a0_p_lcs a0_p_l) (hp : slot_reader_node.f kk a0_p_s a0_p_l a0_p_bad a1 = some (res0, new_a0_p_s, new_a0_p_bad, new_a0_p_l)),
  Calls P 57 ⟨[Value.pointer (some ⟨a0b, 0, none⟩), Value.int .i64 a1]⟩ w fun e w' => ∃ v, e = .returned v ∧ ∃ rv14187 : Value, ∃ rm14188 : Nat, ∃ rcs14189 : List Value, v = Value.int .i64 res0 ∧ Ok E I (.blk a0b (.cells ⟨[Value.string new_a0_p_s, rv14187, Value.bool new_a0_p_bad]⟩ 111 (0, 0)) :: .row rv14187 70 20 rm14188 rcs14189 :: F) w' ∧ RowR ek_Slot I rcs14189 new_a0_p_l := (slot_reader_node_scc kk).1
theorem slot_reader_child_ok (kk : Nat) : ∀ {E : World} {I : IH} {F : List Atom} {w : World} {a0b : Nat} {a0_p_s : ByteArray} {a0_p_l : List Slot} {a0_p_lv : Value} {a0_p_lm : Nat} {a0_p_lcs : List Value} {a0_p_bad : Bool} {res0 : Int} {new_a0_p_s : ByteArray} {new_a0_p_bad : Bool} {new_a0_p_l : List Slot} (hw : Ok E I (.blk a0b (.cells ⟨[Value.string a0_p_s, a0_p_lv, Value.bool a0_p_bad]⟩ 111 (0, 0)) :: .row a0_p_lv 70 20 a0_p_lm a0_p_lcs :: F) w) (ha0_p_l : RowR ek_Slot I a0_p_lcs a0_p_l) (hp : slot_reader_child.f kk a0_p_s a0_p_l a0_p_bad = some (res0, new_a0_p_s, new_a0_p_bad, new_a0_p_l)),
  Calls P 79 ⟨[Value.pointer (some ⟨a0b, 0, none⟩)]⟩ w fun e w' => ∃ v, e = .returned v ∧ ∃ rv14191 : Value, ∃ rm14192 : Nat, ∃ rcs14193 : List Value, v = Value.int .i64 res0 ∧ Ok E I (.blk a0b (.cells ⟨[Value.string new_a0_p_s, rv14191, Value.bool new_a0_p_bad]⟩ 111 (0, 0)) :: .row rv14191 70 20 rm14192 rcs14193 :: F) w' ∧ RowR ek_Slot I rcs14193 new_a0_p_l := (slot_reader_node_scc kk).2

theorem slot_Decode_ok {E : World} {I : IH} {F : List Atom} {w : World} {a0 : ByteArray} {res0 : List Slot} {res1 : Bool} (hw : Ok E I (F) w) (hp : slot_Decode.f a0 = some (res0, res1)) :
  Calls P 29 ⟨[Value.string a0]⟩ w fun e w' => ∃ v, e = .returned v ∧ ∃ I2 : IH, ∃ rvv14195 : Value, v = Value.tuple ⟨[rvv14195, Value.bool res1]⟩ ∧ IH.le I I2 ∧ Ok E I2 (F) w' ∧ RS ek_Slot I2 rvv14195 res0 := by
 refine c_enter func29 rfl ntmps29 rfl fun a hf => ?_
 replace hf : Fr 27 [(0, .string a0)] a := hf
 unfold slot_Decode.f at hp
 refine wq <| wr <| oa hf rfl rfl fun a hf => oa hf rfl rfl fun a hf => oN <| ct <| wq <| wr <| om hf rfl rfl fun a hf => oR hf (r_build hf bd_111 (vs := [.string a0]) rfl ⟨rfl, trivial⟩ (by decide) (out := [.string a0, .slice none 0 0, .bool false]) rfl) rfl fun a hf => ?_
 obtain ⟨b1, w, hrun2, hw⟩ := e_box (P := P) hw hf (e := 111) (x := .tmp 6) rfl (cs := [Value.string a0, Value.slice none 0 0, Value.bool false]) rfl
 refine o_eff hf (hrun2 ..) rfl fun a hf => oa hf rfl rfl fun a hf => oN <| ct <| wq <| wr <| om hf rfl rfl fun a hf => om hf rfl rfl fun a hf => ?_
 replace hw := hw.nilrow 70 20
 have hRR12 : RowR ek_Slot I [] [] := RowR.nil
 replace hw : Ok E I (.blk b1 (.cells ⟨[.string a0, (.slice none 0 0), .bool false]⟩ 111 (0, 0)) :: .row (.slice none 0 0) 70 20 0 [] :: F) w := (hw.front (i := 0) rfl).front (i := 1) rfl
 obtain ⟨y17, hy16, hp⟩ := bS hp
 obtain ⟨y13, y14, y15⟩ := y17
 have hc18 := slot_reader_number_ok hw hRR12 hy16
 refine o_call hf cb_58 rfl rfl hc18 (fun v20 w a hK19 hf => ?_)
 obtain ⟨rfl, hw⟩ := hK19
 replace hw : Ok E I (.blk b1 (.cells ⟨[.string y14, (.slice none 0 0), .bool y15]⟩ 111 (0, 0)) :: .row (.slice none 0 0) 70 20 0 [] :: F) w := (hw.front (i := 1) rfl).front (i := 1) rfl
 obtain ⟨y66, hy65, hp⟩ := bS hp
 obtain ⟨y61, y62, y63, y64⟩ := y66
 have hc67 := slot_reader_node_ok BIG hw hRR12 hy65
 refine o_call hf cb_57 rfl rfl hc67 (fun v73 w a hK68 hf => ?_)
 obtain ⟨rv69, rm70, rcs71, rfl, hw, hRR72⟩ := hK68
 refine oN <| ct <| wq ?_
 obtain ⟨out84, hp, hq85⟩ := bS hp
 refine c_cut (fun a w => ∃ y83 : Bool, y83 = out84 ∧ Ok E I (.blk b1 (.cells ⟨[.string y62, rv69, .bool y63]⟩ 111 (0, 0)) :: .row rv69 70 20 rm70 rcs71 :: F) w ∧ Fr 27 ([(4, .pointer (some ⟨b1, 0, none⟩)), (22, .bool y83)]) a) ?_ ?_
 ·refine wr <| om hf rfl rfl fun a hf => oR hf (nC hf rfl) rfl fun a hf => oR hf (rF hf rfl fd_111_2) rfl fun a hf => oR hf (rL hw hf rfl ty_4 0 rfl rfl) rfl fun a hf => om hf rfl rfl fun a hf => g_split hf (g := 16) rfl (fun hb86 hf => ?_) (fun hb86 hf => ?_)
  ·replace hp := cond_t hb86 hp
   refine oQ hf (g := 16) rfl fun a hf => oQ hf (g := 16) rfl fun a hf => oQ hf (g := 16) rfl fun a hf => oQ hf (g := 16) rfl fun a hf => oQ hf (g := 16) rfl fun a hf => oR hf (pT hf rfl rfl) rfl fun a hf => oN <| ct ?_
   have ho := oI hp
   subst ho
   exact ⟨true, rfl, hw, hf.to ⟨rfl, rfl, trivial⟩⟩
  ·replace hp := cond_f hb86 hp
   refine oW hf (g := 16) rfl rfl <| om hf rfl rfl fun a hf => oW hf (g := 16) rfl rfl <| oR hf (nC hf rfl) rfl fun a hf => oW hf (g := 16) rfl rfl <| oR hf (rF hf rfl fd_111_0) rfl fun a hf => oW hf (g := 16) rfl rfl <| oR hf (rL hw hf rfl ty_9 0 rfl rfl) rfl fun a hf => oW hf (g := 16) rfl rfl <| oR hf (r_scmp hf rfl rfl rfl) rfl fun a hf => oR hf (pF hf rfl rfl) rfl fun a hf => oN <| ct ?_
   have ho := oI hp
   subst ho
   exact ⟨(!(seq_ y62 e0)), rfl, hw, hf.to ⟨rfl, rfl, trivial⟩⟩
 ·intro a w hM
  obtain ⟨y83, rfl, hw, hf⟩ := hM
  replace hp := hq85
  refine cC hf rfl (fun hb87 => ?_) (fun hb87 => ?_)
  ·replace hp := cond_t hb87 hp
   refine wq <| wr <| oa hf rfl rfl fun a hf => oa hf rfl rfl fun a hf => oN <| ct <| wp_ret <| c_thenR ?_
   replace hw : Ok E I (F) w := hw.sub (sc (sc sr))
   have ho := oI hp
   simp only [Prod.mk.injEq] at ho
   obtain ⟨rfl, rfl⟩ := ho
   exact b_ret2 hf results29 rfl rfl ⟨_, rfl, ⟨I, (Value.slice none 0 0), rfl, (IH.le_refl _), hw, RS.nil⟩⟩
  ·replace hp := cond_f hb87 hp
   refine wp_skip <| ct <| wq <| wr <| om hf rfl rfl fun a hf => oR hf (nC hf rfl) rfl fun a hf => oR hf (rF hf rfl fd_111_1) rfl fun a hf => oR hf (rL hw hf rfl ty_62 0 rfl rfl) rfl fun a hf => oa hf rfl rfl fun a hf => oa hf rfl rfl fun a hf => oN <| ct <| wp_ret ?_
   have hw : Ok E I (.row rv69 70 20 rm70 rcs71 :: .blk b1 (.cells ⟨[Value.string y62, rv69, Value.bool y63]⟩ 111 (0, 0)) :: F) w := hw.front (i := 1) rfl
   obtain ⟨I88, hle89, hw, hR90⟩ := row_freeze (K := ek_Slot) hw hRR72
   replace hw : Ok E I88 (F) w := hw.sub (sc sr)
   have ho := oI hp
   simp only [Prod.mk.injEq] at ho
   obtain ⟨rfl, rfl⟩ := ho
   exact b_ret2 hf results29 rfl rfl ⟨_, rfl, ⟨I88, rv69, rfl, hle89, hw, hR90⟩⟩
end Go.Lf
