import Derived.Test.YtckhmgglgbnaaaaGreatDoorZD
import Derived.Test.YtckhmgglgbnaaaaGreatDoorZF
import Derived.Test.YtckhmgglgbnaaaaGreatDoorJ
import Derived.Test.YtckhmgglgbnaaaaGreatDoorUB
import Derived.Test.YtckhmgglgbnaaaaGreatDoorZK17
set_option linter.unusedVariables false
set_option linter.unusedSimpArgs false
set_option maxHeartbeats 1000000
set_option maxRecDepth 20000
namespace Go.Lf
open Go Go.Proofs.Tryz
set_option maxHeartbeats 2000000 in
theorem trie_walker_walk_ok (kk : Nat) : ∀ {E : World} {I : IH} {F : List Atom} {w : World} {a0b : Nat} {a0_p_t : List Node} {a0_p_tv5 : Value} {a0_p_next : Int} {a0_p_l : List Pair} {a0_p_lv : Value} {a0_p_lm : Nat} {a0_p_lcs : List Value} {a0_p_paths : List ByteArray} {a0_p_pathsv : Value} {a0_p_pathsm : Nat} {a0_p_pathscs : List Value} {a1 : Int} {a2 : ByteArray} {res0 : Bool} {new_a0_p_next : Int} {new_a0_p_l : List Pair} {new_a0_p_paths : List ByteArray} (hw : Ok E I (.blk a0b (.cells ⟨[a0_p_tv5, Value.int .i64 a0_p_next, a0_p_lv, a0_p_pathsv]⟩ 227 (0, 0)) :: .row a0_p_lv 74 2 a0_p_lm a0_p_lcs :: .row a0_p_pathsv 9 1 a0_p_pathsm a0_p_pathscs :: F) w) (hG : Gl I) (hR6 : RS ek_Node I a0_p_tv5 a0_p_t) (ha0_p_l : RowR ek_Pair I a0_p_lcs a0_p_l) (ha0_p_paths : RowR ekS I a0_p_pathscs a0_p_paths) (hp : trie_walker_walk.f kk a0_p_t a0_p_next a0_p_l a0_p_paths a1 a2 = some (res0, new_a0_p_next, new_a0_p_l, new_a0_p_paths)),
  Calls P 118 ⟨[Value.pointer (some ⟨a0b, 0, none⟩), Value.int .i64 a1, Value.string a2]⟩ w fun e w' => ∃ v, e = .returned v ∧ ∃ rv191 : Value, ∃ rm192 : Nat, ∃ rcs193 : List Value, ∃ rv195 : Value, ∃ rm196 : Nat, ∃ rcs197 : List Value, v = Value.bool res0 ∧ Ok E I (.blk a0b (.cells ⟨[a0_p_tv5, Value.int .i64 new_a0_p_next, rv191, rv195]⟩ 227 (0, 0)) :: .row rv191 74 2 rm192 rcs193 :: .row rv195 9 1 rm196 rcs197 :: F) w' ∧ RowR ek_Pair I rcs193 new_a0_p_l ∧ RowR ekS I rcs197 new_a0_p_paths := by
 induction kk with
 | zero =>
  intro E I F w a0b a0_p_t a0_p_tv5 a0_p_next a0_p_l a0_p_lv a0_p_lm a0_p_lcs a0_p_paths a0_p_pathsv a0_p_pathsm a0_p_pathscs a1 a2 res0 new_a0_p_next new_a0_p_l new_a0_p_paths hw hG hR6 ha0_p_l ha0_p_paths hp
  rw [trie_walker_walk.f] at hp
  cases hp
 | succ kk ihr =>
  intro E I F w a0b a0_p_t a0_p_tv5 a0_p_next a0_p_l a0_p_lv a0_p_lm a0_p_lcs a0_p_paths a0_p_pathsv a0_p_pathsm a0_p_pathscs a1 a2 res0 new_a0_p_next new_a0_p_l new_a0_p_paths hw hG hR6 ha0_p_l ha0_p_paths hp
  refine c_enter func118 rfl ntmps118 rfl fun a hf => ?_
  replace hf : Fr 95 [(0, .pointer (some ⟨a0b, 0, none⟩)), (1, .int .i64 a1), (2, .string a2)] a := hf
  rw [trie_walker_walk.f] at hp
  refine wq <| wr <| oa hf rfl rfl fun a hf => oN <| ct <| wq ?_
  obtain ⟨out16, hp, hq17⟩ := bS hp
  refine c_cut (fun a w => ∃ y15 : Bool, y15 = out16 ∧ Ok E I (.blk a0b (.cells ⟨[a0_p_tv5, .int .i64 a0_p_next, a0_p_lv, a0_p_pathsv]⟩ 227 (0, 0)) :: .row a0_p_lv 74 2 a0_p_lm a0_p_lcs :: .row a0_p_pathsv 9 1 a0_p_pathsm a0_p_pathscs :: F) w ∧ Fr 95 ([(0, .pointer (some ⟨a0b, 0, none⟩)), (1, .int .i64 a1), (2, .string a2), (30, .bool y15)]) a) ?_ ?_
  ·refine wr <| om hf rfl rfl fun a hf => om hf rfl rfl fun a hf => oR hf (nC hf rfl) rfl fun a hf => oR hf (rF hf rfl fd_227_1) rfl fun a hf => oR hf (rL hw hf rfl ty_3 0 rfl rfl) rfl fun a hf => oR hf (iC hf rfl rfl rfl) rfl fun a hf => om hf rfl rfl fun a hf => g_split hf (g := 17) rfl (fun hb18 hf => ?_) (fun hb18 hf => ?_)
   ·replace hp := cond_t hb18 hp
    refine oQ hf (g := 17) rfl fun a hf => oQ hf (g := 17) rfl fun a hf => oQ hf (g := 17) rfl fun a hf => oQ hf (g := 17) rfl fun a hf => oQ hf (g := 17) rfl fun a hf => oQ hf (g := 17) rfl fun a hf => oQ hf (g := 17) rfl fun a hf => oR hf (pT hf rfl rfl) rfl fun a hf => om hf rfl rfl fun a hf => oQ hf (g := 26) rfl fun a hf => oQ hf (g := 26) rfl fun a hf => oQ hf (g := 26) rfl fun a hf => oR hf (pT hf rfl rfl) rfl fun a hf => oN <| ct ?_
    have ho := oI hp
    subst ho
    exact ⟨true, rfl, hw, hf.to ⟨rfl, rfl, rfl, rfl, trivial⟩⟩
   ·replace hp := cond_f hb18 hp
    refine oW hf (g := 17) rfl rfl <| om hf rfl rfl fun a hf => oW hf (g := 17) rfl rfl <| om hf rfl rfl fun a hf => oW hf (g := 17) rfl rfl <| oR hf (nC hf rfl) rfl fun a hf => oW hf (g := 17) rfl rfl <| oR hf (rF hf rfl fd_227_0) rfl fun a hf => oW hf (g := 17) rfl rfl <| oR hf (rL hw hf rfl ty_27 0 rfl rfl) rfl fun a hf => oW hf (g := 17) rfl rfl <| oR hf (r_lenL (K := ek_Node) hf el_27 rfl (hR6.rd hw)) rfl fun a hf => oW hf (g := 17) rfl rfl <| oR hf (iC hf rfl rfl rfl) rfl fun a hf => oR hf (pF hf rfl rfl) rfl fun a hf => om hf rfl rfl fun a hf => ?_
    refine g_split hf (g := 26) rfl (fun hb19 hf => ?_) (fun hb19 hf => ?_)
    ·replace hp := cond_t hb19 hp
     refine oQ hf (g := 26) rfl fun a hf => oQ hf (g := 26) rfl fun a hf => oQ hf (g := 26) rfl fun a hf => oR hf (pT hf rfl rfl) rfl fun a hf => oN <| ct ?_
     have ho := oI hp
     subst ho
     exact ⟨true, rfl, hw, hf.to ⟨rfl, rfl, rfl, rfl, trivial⟩⟩
    ·replace hp := cond_f hb19 hp
     refine oW hf (g := 26) rfl rfl <| om hf rfl rfl fun a hf => oW hf (g := 26) rfl rfl <| oR hf (r_lenS hf und_9 rfl) rfl fun a hf => oW hf (g := 26) rfl rfl <| oR hf (iC hf rfl rfl rfl) rfl fun a hf => oR hf (pF hf rfl rfl) rfl fun a hf => oN <| ct ?_
     have ho := oI hp
     subst ho
     exact ⟨(decide ((a2.size : Int) > 16)), rfl, hw, hf.to ⟨rfl, rfl, rfl, rfl, trivial⟩⟩
  ·intro a w hM
   obtain ⟨y15, rfl, hw, hf⟩ := hM
   replace hp := hq17
   refine cC hf rfl (fun hb20 => ?_) (fun hb20 => ?_)
   ·replace hp := cond_t hb20 hp
    refine wq <| wr <| oa hf rfl rfl fun a hf => oN <| ct <| wp_ret <| c_thenR ?_
    have ho := oI hp
    simp only [Prod.mk.injEq] at ho
    obtain ⟨rfl, rfl, rfl, rfl⟩ := ho
    exact b_ret1 hf results118 rfl ⟨_, rfl, ⟨a0_p_lv, a0_p_lm, a0_p_lcs, a0_p_pathsv, a0_p_pathsm, a0_p_pathscs, rfl, hw, ha0_p_l, ha0_p_paths⟩⟩
   ·replace hp := cond_f hb20 hp
    refine wp_skip <| ct <| wq <| wr <| om hf rfl rfl fun a hf => oR hf (nC hf rfl) rfl fun a hf => oR hf (rF hf rfl fd_227_1) rfl fun a hf => oR hf (rL hw hf rfl ty_3 0 rfl rfl) rfl fun a hf => oR hf (r_add hf rfl rfl) rfl fun a hf => oR hf (nC hf rfl) rfl fun a hf => oR hf (rF hf rfl fd_227_1) rfl fun a hf => ?_
    obtain ⟨w, hrun21, hw⟩ := e_store (P := P) hw hf (x := .tmp 37) (y := .tmp 35) rfl rfl ty_3 0 rfl (vs := [.int .i64 (w64 (a0_p_next + 1))]) (oE rfl) rfl (oC rfl ones_nil) (by simp [arrC_len]) (cs' := [a0_p_tv5, .int .i64 (w64 (a0_p_next + 1)), a0_p_lv, a0_p_pathsv]) rfl
    dsimp only [List.set] at hw
    refine o_effU (hrun21 ..) <| oN <| ct <| wq <| wr <| om hf rfl rfl fun a hf => om hf rfl rfl fun a hf => oR hf (nC hf rfl) rfl fun a hf => oR hf (rF hf rfl fd_227_3) rfl fun a hf => oR hf (rL hw hf rfl ty_28 0 rfl rfl) rfl fun a hf => om hf rfl rfl fun a hf => ?_
    obtain ⟨w, v22, hrun23, hw, hRR24⟩ := e_buildSlice (P := P) (K := ekS) (m := 1) hw hf (parts := [(0, .tmp 43)]) el_28 ty_9 rfl rfl rfl (ccs := [[Value.string a2]]) rfl (xs := [a2]) ⟨rfl, trivial⟩ rfl
    obtain ⟨cs25, hcs⟩ : ∃ cs, cs = ([[Value.string a2]] : List (List Value)).flatten := ⟨_, rfl⟩
    rw [← hcs] at hw hRR24; clear hcs
    refine o_eff hf (hrun23 ..) rfl fun a hf => ?_
    obtain ⟨hg27, hp⟩ := gS hp
    obtain ⟨w, v28, m29, cs30, hrun32, hw, hRR31⟩ := e_append (P := P) (K := ekS) (ty := 28) hw hf (s := .tmp 42) (x := .tmp 44) el_28 ty_9 rfl (by decide) 3 rfl rfl rfl ha0_p_paths (ys := [a2]) (rR (K := ekS) hw (i := 0) rfl hRR24) hg27
    replace hw : Ok E I (.row v22 9 1 1 cs25 :: .blk a0b (.cells ⟨[a0_p_tv5, .int .i64 (w64 (a0_p_next + 1)), a0_p_lv, a0_p_pathsv]⟩ 227 (0, 0)) :: .row a0_p_lv 74 2 a0_p_lm a0_p_lcs :: .row v28 9 1 m29 cs30 :: F) w := hw
    refine o_eff hf (hrun32 ..) rfl fun a hf => oR hf (nC hf rfl) rfl fun a hf => oR hf (rF hf rfl fd_227_3) rfl fun a hf => ?_
    obtain ⟨w, hrun33, hw⟩ := e_store (P := P) hw hf (x := .tmp 47) (y := .tmp 45) rfl rfl ty_28 1 rfl (vs := [v28]) (oE (row_one hw (i := 3) rfl)) rfl (oC (row_one hw (i := 3) rfl) ones_nil) (by simp [arrC_len]) (cs' := [a0_p_tv5, .int .i64 (w64 (a0_p_next + 1)), a0_p_lv, v28]) rfl
    dsimp only [List.set] at hw
    refine o_effU (hrun33 ..) <| oN <| ct <| wq <| wr <| om hf rfl rfl fun a hf => oR hf (nC hf rfl) rfl fun a hf => oR hf (rF hf rfl fd_227_0) rfl fun a hf => oR hf (rL hw hf rfl ty_27 1 rfl rfl) rfl fun a hf => om hf rfl rfl fun a hf => ?_
    obtain ⟨hg34, hp⟩ := gS hp
    refine oR hf (rI (K := ek_Node) hf el_27 rfl rfl (hR6.rd hw) hg34) rfl fun a hf => oR hf (r_loadHP (K := ek_Node) hf rfl ty_106 (hR6.rd hw) hg34 rfl (vs := (.int .i64 ((gt a0_p_t a1).kind_) :: .string ((gt a0_p_t a1).path_) :: .bool ((gt a0_p_t a1).has_) :: .string ((gt a0_p_t a1).value_) :: arrC .i64 ((gt a0_p_t a1).kids_))) (fun cs h => Node_all h) (by simp [arrC_len])) rfl fun a hf => ?_
    obtain ⟨b35, w, hrun36, hw⟩ := e_alloc (P := P) (a := a) hw ty_106
    refine o_eff hf (hrun36 ..) rfl fun a hf => ?_
    obtain ⟨w, hrun38, hw⟩ := e_store (P := P) hw hf (x := .tmp 7) (y := .tmp 54) rfl rfl ty_106 0 rfl (vs := (.int .i64 ((gt a0_p_t a1).kind_) :: .string ((gt a0_p_t a1).path_) :: .bool ((gt a0_p_t a1).has_) :: .string ((gt a0_p_t a1).value_) :: arrC .i64 ((gt a0_p_t a1).kids_))) rfl (by simp [arrC_len]) (oC rfl (oC rfl (oC rfl (oC rfl (arrC_one _ _))))) (by simp [arrC_len]) (cs' := (.int .i64 ((gt a0_p_t a1).kind_) :: .string ((gt a0_p_t a1).path_) :: .bool ((gt a0_p_t a1).has_) :: .string ((gt a0_p_t a1).value_) :: arrC .i64 ((gt a0_p_t a1).kids_))) (by simp [arrC_len])
    dsimp only [List.set] at hw
    refine o_effU (hrun38 ..) <| oN <| ct <| wq <| wr <| om hf rfl rfl fun a hf => oR hf (rF hf rfl fd_106_1) rfl fun a hf => oR hf (rL hw hf rfl ty_9 0 rfl rfl) rfl fun a hf => ?_
    obtain ⟨hg39, hp⟩ := gS hp
    refine oR hf (r_sadd hf rfl rfl hg39) rfl fun a hf => oa hf rfl rfl fun a hf => oN <| ct <| wq ?_
    obtain ⟨out115, hp, hq116⟩ := bS hp
    refine c_cut (fun a w => ∃ y109 : List Pair, ∃ y114 : Bool, ∃ yv110 : Value, ∃ m111 : Nat, ∃ cs112 : List Value, (y109, y114) = out115 ∧ Ok E I (.blk b35 (.cells ⟨.int .i64 ((gt a0_p_t a1).kind_) :: .string ((gt a0_p_t a1).path_) :: .bool ((gt a0_p_t a1).has_) :: .string ((gt a0_p_t a1).value_) :: arrC .i64 ((gt a0_p_t a1).kids_)⟩ 106 (0, 0)) :: .row v22 9 1 1 cs25 :: .blk a0b (.cells ⟨[a0_p_tv5, .int .i64 (w64 (a0_p_next + 1)), yv110, v28]⟩ 227 (0, 0)) :: .row yv110 74 2 m111 cs112 :: .row v28 9 1 m29 cs30 :: F) w ∧ Fr 95 ([(0, .pointer (some ⟨a0b, 0, none⟩)), (2, .string (a2 ++ ((gt a0_p_t a1).path_))), (7, .pointer (some ⟨b35, 0, none⟩)), (68, .bool y114)]) a ∧ RowR ek_Pair I cs112 y109) ?_ ?_
    ·refine wr <| oR hf (rF hf rfl fd_106_2) rfl fun a hf => oR hf (rL hw hf rfl ty_4 0 rfl rfl) rfl fun a hf => om hf rfl rfl fun a hf => g_split hf (g := 61) rfl (fun hb117 hf => ?_) (fun hb117 hf => ?_)
     ·replace hp := cond_t hb117 hp
      refine oW hf (g := 61) rfl rfl <| om hf rfl rfl fun a hf => oW hf (g := 61) rfl rfl <| om hf rfl rfl fun a hf => oW hf (g := 61) rfl rfl <| oR hf (rF hf rfl fd_106_3) rfl fun a hf => oW hf (g := 61) rfl rfl <| oR hf (rL hw hf rfl ty_9 0 rfl rfl) rfl fun a hf => oW hf (g := 61) rfl rfl ?_
      replace hw : Ok E I (.blk a0b (.cells ⟨[a0_p_tv5, .int .i64 (w64 (a0_p_next + 1)), a0_p_lv, v28]⟩ 227 (0, 0)) :: .row a0_p_lv 74 2 a0_p_lm a0_p_lcs :: .row v28 9 1 m29 cs30 :: .blk b35 (.cells ⟨.int .i64 ((gt a0_p_t a1).kind_) :: .string ((gt a0_p_t a1).path_) :: .bool ((gt a0_p_t a1).has_) :: .string ((gt a0_p_t a1).value_) :: arrC .i64 ((gt a0_p_t a1).kids_)⟩ 106 (0, 0)) :: .row v22 9 1 1 cs25 :: F) w := ((hw.front (i := 4) rfl).front (i := 4) rfl).front (i := 4) rfl
      obtain ⟨y121, hy120, hp⟩ := bS hp
      obtain ⟨y118, y119⟩ := y121
      have hc122 := trie_walker_pair_ok hw hG hR6 ha0_p_l hRR31 hy120
      refine o_call hf cb_158 rfl rfl hc122 (fun v128 w a hK123 hf => ?_)
      obtain ⟨rv124, rm125, rcs126, rfl, hw, hRR127⟩ := hK123
      refine oW hf (g := 61) rfl rfl <| oR hf (r_not hf rfl) rfl fun a hf => oR hf (pT hf rfl rfl) rfl fun a hf => oN <| ct ?_
      have ho := oI hp
      subst ho
      replace hw : Ok E I (.blk b35 (.cells ⟨.int .i64 ((gt a0_p_t a1).kind_) :: .string ((gt a0_p_t a1).path_) :: .bool ((gt a0_p_t a1).has_) :: .string ((gt a0_p_t a1).value_) :: arrC .i64 ((gt a0_p_t a1).kids_)⟩ 106 (0, 0)) :: .row v22 9 1 1 cs25 :: .blk a0b (.cells ⟨[a0_p_tv5, .int .i64 (w64 (a0_p_next + 1)), rv124, v28]⟩ 227 (0, 0)) :: .row rv124 74 2 rm125 rcs126 :: .row v28 9 1 m29 cs30 :: F) w := ((((hw.front (i := 2) rfl).front (i := 2) rfl).front (i := 2) rfl).front (i := 4) rfl).front (i := 4) rfl
      exact ⟨y119, (!y118), rv124, rm125, rcs126, rfl, hw, hf.to ⟨rfl, rfl, rfl, rfl, trivial⟩, hRR127⟩
     ·replace hp := cond_f hb117 hp
      refine oQ hf (g := 61) rfl fun a hf => oQ hf (g := 61) rfl fun a hf => oQ hf (g := 61) rfl fun a hf => oQ hf (g := 61) rfl fun a hf => oQ hf (g := 61) rfl fun a hf => oQ hf (g := 61) rfl fun a hf => oR hf (pF hf rfl rfl) rfl fun a hf => oN <| ct ?_
      have ho := oI hp
      subst ho
      exact ⟨a0_p_l, false, a0_p_lv, a0_p_lm, a0_p_lcs, rfl, hw, hf.to ⟨rfl, rfl, rfl, rfl, trivial⟩, ha0_p_l⟩
    ·intro a w hM
     obtain ⟨y109, y114, yv110, m111, cs112, rfl, hw, hf, hRR113⟩ := hM
     replace hp := hq116
     refine cC hf rfl (fun hb129 => ?_) (fun hb129 => ?_)
     ·replace hp := cond_t hb129 hp
      refine wq <| wr <| oa hf rfl rfl fun a hf => oN <| ct <| wp_ret <| c_thenR ?_
      replace hw : Ok E I (.blk a0b (.cells ⟨[a0_p_tv5, .int .i64 (w64 (a0_p_next + 1)), yv110, v28]⟩ 227 (0, 0)) :: .row yv110 74 2 m111 cs112 :: .row v28 9 1 m29 cs30 :: F) w := hw.sub (sc (sc (scc (scc (scc sr)))))
      have ho := oI hp
      simp only [Prod.mk.injEq] at ho
      obtain ⟨rfl, rfl, rfl, rfl⟩ := ho
      exact b_ret1 hf results118 rfl ⟨_, rfl, ⟨yv110, m111, cs112, v28, m29, cs30, rfl, hw, hRR113, hRR31⟩⟩
     ·replace hp := cond_f hb129 hp
      refine wp_skip <| ct <| wq <| wq <| wr <| oR hf (rF hf rfl fd_106_4) rfl fun a hf => oR hf (r_loadA hw hf rfl ty_104 0 rfl (vs := (arrC .i64 ((gt a0_p_t a1).kids_))) (take_all (by simp [arrC_len])) (by simp [arrC_len])) rfl fun a hf => om hf rfl rfl fun a hf => oN <| ct ?_
      obtain ⟨out732, hp, hq733⟩ := bS hp
      refine c_cutX (fun a w => ∃ y721 : List Pair, ∃ y726 : List ByteArray, ∃ y731 : Int, ∃ yv722 : Value, ∃ m723 : Nat, ∃ cs724 : List Value, ∃ yv727 : Value, ∃ m728 : Nat, ∃ cs729 : List Value, (.inl (y721, y726, y731)) = out732 ∧ Ok E I (.blk b35 (.cells ⟨.int .i64 ((gt a0_p_t a1).kind_) :: .string ((gt a0_p_t a1).path_) :: .bool ((gt a0_p_t a1).has_) :: .string ((gt a0_p_t a1).value_) :: arrC .i64 ((gt a0_p_t a1).kids_)⟩ 106 (0, 0)) :: .row v22 9 1 1 cs25 :: .blk a0b (.cells ⟨[a0_p_tv5, .int .i64 y731, yv722, yv727]⟩ 227 (0, 0)) :: .row yv722 74 2 m723 cs724 :: .row yv727 9 1 m728 cs729 :: F) w ∧ Fr 95 ([]) a ∧ RowR ek_Pair I cs724 y721 ∧ RowR ekS I cs729 y726) ?_ ?_
      ·refine wp_block <| c_loop <| c_fuel (trie_walker_walk.l0 a0_p_t a1 a2 (trie_walker_walk.f kk)) out732 (fun (y520, y525, y530, y531) a w => ∃ yv521 : Value, ∃ m522 : Nat, ∃ cs523 : List Value, ∃ yv526 : Value, ∃ m527 : Nat, ∃ cs528 : List Value, Ok E I (.blk b35 (.cells ⟨.int .i64 ((gt a0_p_t a1).kind_) :: .string ((gt a0_p_t a1).path_) :: .bool ((gt a0_p_t a1).has_) :: .string ((gt a0_p_t a1).value_) :: arrC .i64 ((gt a0_p_t a1).kids_)⟩ 106 (0, 0)) :: .row v22 9 1 1 cs25 :: .blk a0b (.cells ⟨[a0_p_tv5, .int .i64 y530, yv521, yv526]⟩ 227 (0, 0)) :: .row yv521 74 2 m522 cs523 :: .row yv526 9 1 m527 cs528 :: F) w ∧ Fr 95 ([(0, .pointer (some ⟨a0b, 0, none⟩)), (2, .string (a2 ++ ((gt a0_p_t a1).path_))), (7, .pointer (some ⟨b35, 0, none⟩)), (70, Value.agg ⟨arrC .i64 ((gt a0_p_t a1).kids_)⟩), (71, .int .i64 y531)]) a ∧ RowR ek_Pair I cs523 y520 ∧ RowR ekS I cs528 y525) (fun _ => rfl) ?_ BIG (y109, a0_p_paths ++ [a2], w64 (a0_p_next + 1), 0) _ _ ⟨yv110, m111, cs112, v28, m29, cs30, hw, hf.to ⟨rfl, rfl, rfl, rfl, rfl, trivial⟩, hRR113, hRR31⟩ hp
       intro k st a w hI hp ih
       obtain ⟨y520, y525, y530, y531⟩ := st
       obtain ⟨yv521, m522, cs523, yv526, m527, cs528, hw, hf, hRR524, hRR529⟩ := hI
       rw [trie_walker_walk.l0] at hp
       refine wq <| wr <| oR hf (iC hf rfl rfl rfl) rfl fun a hf => oN <| ct <| wq <| cC hf rfl (fun hb735 => ?_) (fun hb735 => ?_)
       ·replace hp := cond_t hb735 hp
        refine wp_skip <| ct <| wq <| wp_block <| wq <| wr <| om hf rfl rfl fun a hf => ?_
        obtain ⟨hg830, hp⟩ := gS hp
        refine oR hf (r_indexArr hf el_104 ty_3 rfl rfl hg830) rfl fun a hf => oa hf rfl rfl fun a hf => oa hf rfl rfl fun a hf => oN <| ct <| wq <| wr <| om hf rfl rfl fun a hf => oa hf rfl rfl fun a hf => oN <| ct ?_
        obtain ⟨out846, hp, hq847⟩ := bS hp
        refine c_cut (fun a w => ∃ y845 : ByteArray, y845 = out846 ∧ Ok E I (.blk b35 (.cells ⟨.int .i64 ((gt a0_p_t a1).kind_) :: .string ((gt a0_p_t a1).path_) :: .bool ((gt a0_p_t a1).has_) :: .string ((gt a0_p_t a1).value_) :: arrC .i64 ((gt a0_p_t a1).kids_)⟩ 106 (0, 0)) :: .row v22 9 1 1 cs25 :: .blk a0b (.cells ⟨[a0_p_tv5, .int .i64 y530, yv521, yv526]⟩ 227 (0, 0)) :: .row yv521 74 2 m522 cs523 :: .row yv526 9 1 m527 cs528 :: F) w ∧ Fr 95 ([(0, .pointer (some ⟨a0b, 0, none⟩)), (2, .string (a2 ++ ((gt a0_p_t a1).path_))), (7, .pointer (some ⟨b35, 0, none⟩)), (9, .int .i64 (vg ((gt a0_p_t a1).kids_) y531)), (10, .string y845), (70, Value.agg ⟨arrC .i64 ((gt a0_p_t a1).kids_)⟩), (71, .int .i64 y531)]) a) ?_ ?_
        ·refine wq <| wr <| oR hf (rF hf rfl fd_106_0) rfl fun a hf => oR hf (rL hw hf rfl ty_3 0 rfl rfl) rfl fun a hf => oR hf (iC hf rfl rfl rfl) rfl fun a hf => oN <| ct <| cC hf rfl (fun hb848 => ?_) (fun hb848 => ?_)
         ·replace hp := cond_t hb848 hp
          refine wr <| om hf rfl rfl fun a hf => om hf rfl rfl fun a hf => oR hf (r_convI hf und_3 und_5 rfl) rfl fun a hf => ?_
          obtain ⟨w, v849, hrun850, hw, hRR851⟩ := e_buildSlice (P := P) (K := (ekI .u8)) (m := 1) hw hf (parts := [(0, .tmp 81)]) el_45 ty_5 rfl rfl rfl (ccs := [[Value.int .u8 (wu8 y531)]]) rfl (xs := [wu8 y531]) ⟨rfl, trivial⟩ rfl
          obtain ⟨cs852, hcs⟩ : ∃ cs, cs = ([[Value.int .u8 (wu8 y531)]] : List (List Value)).flatten := ⟨_, rfl⟩
          rw [← hcs] at hw hRR851; clear hcs
          refine o_eff hf (hrun850 ..) rfl fun a hf => oR hf (r_convB hf und_45 und_5 und_9 rfl (rR (K := (ekI .u8)) hw (i := 0) rfl hRR851)) rfl fun a hf => ?_
          obtain ⟨hg854, hp⟩ := gS hp
          refine oR hf (r_sadd hf rfl rfl hg854) rfl fun a hf => oa hf rfl rfl fun a hf => oN <| ct ?_
          have ho := oI hp
          subst ho
          replace hw : Ok E I (.blk b35 (.cells ⟨.int .i64 ((gt a0_p_t a1).kind_) :: .string ((gt a0_p_t a1).path_) :: .bool ((gt a0_p_t a1).has_) :: .string ((gt a0_p_t a1).value_) :: arrC .i64 ((gt a0_p_t a1).kids_)⟩ 106 (0, 0)) :: .row v22 9 1 1 cs25 :: .blk a0b (.cells ⟨[a0_p_tv5, .int .i64 y530, yv521, yv526]⟩ 227 (0, 0)) :: .row yv521 74 2 m522 cs523 :: .row yv526 9 1 m527 cs528 :: F) w := hw.sub (sc (scc (scc (scc (scc (scc sr))))))
          exact ⟨((a2 ++ ((gt a0_p_t a1).path_)) ++ (strOfNums [wu8 y531])), rfl, hw, hf.to ⟨rfl, rfl, rfl, rfl, rfl, rfl, rfl, trivial⟩⟩
         ·replace hp := cond_f hb848 hp
          refine wp_skip <| ct ?_
          have ho := oI hp
          subst ho
          exact ⟨(a2 ++ ((gt a0_p_t a1).path_)), rfl, hw, hf.to ⟨rfl, rfl, rfl, rfl, rfl, rfl, rfl, trivial⟩⟩
        ·intro a w hM
         obtain ⟨y845, rfl, hw, hf⟩ := hM
         replace hp := hq847
         obtain ⟨out903, hp, hq904⟩ := bS hp
         refine c_cut (fun a w => ∃ y891 : List Pair, ∃ y896 : List ByteArray, ∃ y901 : Int, ∃ y902 : Bool, ∃ yv892 : Value, ∃ m893 : Nat, ∃ cs894 : List Value, ∃ yv897 : Value, ∃ m898 : Nat, ∃ cs899 : List Value, (y891, y896, y901, y902) = out903 ∧ Ok E I (.blk b35 (.cells ⟨.int .i64 ((gt a0_p_t a1).kind_) :: .string ((gt a0_p_t a1).path_) :: .bool ((gt a0_p_t a1).has_) :: .string ((gt a0_p_t a1).value_) :: arrC .i64 ((gt a0_p_t a1).kids_)⟩ 106 (0, 0)) :: .row v22 9 1 1 cs25 :: .blk a0b (.cells ⟨[a0_p_tv5, .int .i64 y901, yv892, yv897]⟩ 227 (0, 0)) :: .row yv892 74 2 m893 cs894 :: .row yv897 9 1 m898 cs899 :: F) w ∧ Fr 95 ([(0, .pointer (some ⟨a0b, 0, none⟩)), (2, .string (a2 ++ ((gt a0_p_t a1).path_))), (7, .pointer (some ⟨b35, 0, none⟩)), (70, Value.agg ⟨arrC .i64 ((gt a0_p_t a1).kids_)⟩), (71, .int .i64 y531), (93, .bool y902)]) a ∧ RowR ek_Pair I cs894 y891 ∧ RowR ekS I cs899 y896) ?_ ?_
         ·refine wr <| om hf rfl rfl fun a hf => oR hf (iC hf rfl rfl rfl) rfl fun a hf => om hf rfl rfl fun a hf => g_split hf (g := 87) rfl (fun hb905 hf => ?_) (fun hb905 hf => ?_)
          ·replace hp := cond_t hb905 hp
           refine oW hf (g := 87) rfl rfl <| om hf rfl rfl fun a hf => oW hf (g := 87) rfl rfl <| om hf rfl rfl fun a hf => oW hf (g := 87) rfl rfl <| om hf rfl rfl fun a hf => oW hf (g := 87) rfl rfl ?_
           replace hw : Ok E I (.blk a0b (.cells ⟨[a0_p_tv5, .int .i64 y530, yv521, yv526]⟩ 227 (0, 0)) :: .row yv521 74 2 m522 cs523 :: .row yv526 9 1 m527 cs528 :: .blk b35 (.cells ⟨.int .i64 ((gt a0_p_t a1).kind_) :: .string ((gt a0_p_t a1).path_) :: .bool ((gt a0_p_t a1).has_) :: .string ((gt a0_p_t a1).value_) :: arrC .i64 ((gt a0_p_t a1).kids_)⟩ 106 (0, 0)) :: .row v22 9 1 1 cs25 :: F) w := ((hw.front (i := 4) rfl).front (i := 4) rfl).front (i := 4) rfl
           obtain ⟨y911, hy910, hp⟩ := bS hp
           obtain ⟨y906, y907, y908, y909⟩ := y911
           have hc912 := ihr hw hG hR6 hRR524 hRR529 hy910
           refine o_call hf cb_118 rfl rfl hc912 (fun v922 w a hK913 hf => ?_)
           obtain ⟨rv914, rm915, rcs916, rv918, rm919, rcs920, rfl, hw, hRR917, hRR921⟩ := hK913
           refine oW hf (g := 87) rfl rfl <| oR hf (r_not hf rfl) rfl fun a hf => oR hf (pT hf rfl rfl) rfl fun a hf => oN <| ct ?_
           have ho := oI hp
           subst ho
           replace hw : Ok E I (.blk b35 (.cells ⟨.int .i64 ((gt a0_p_t a1).kind_) :: .string ((gt a0_p_t a1).path_) :: .bool ((gt a0_p_t a1).has_) :: .string ((gt a0_p_t a1).value_) :: arrC .i64 ((gt a0_p_t a1).kids_)⟩ 106 (0, 0)) :: .row v22 9 1 1 cs25 :: .blk a0b (.cells ⟨[a0_p_tv5, .int .i64 y907, rv914, rv918]⟩ 227 (0, 0)) :: .row rv914 74 2 rm915 rcs916 :: .row rv918 9 1 rm919 rcs920 :: F) w := ((((hw.front (i := 2) rfl).front (i := 2) rfl).front (i := 2) rfl).front (i := 4) rfl).front (i := 4) rfl
           exact ⟨y908, y909, y907, (!y906), rv914, rm915, rcs916, rv918, rm919, rcs920, rfl, hw, hf.to ⟨rfl, rfl, rfl, rfl, rfl, rfl, trivial⟩, hRR917, hRR921⟩
          ·replace hp := cond_f hb905 hp
           refine oQ hf (g := 87) rfl fun a hf => oQ hf (g := 87) rfl fun a hf => oQ hf (g := 87) rfl fun a hf => oQ hf (g := 87) rfl fun a hf => oQ hf (g := 87) rfl fun a hf => oR hf (pF hf rfl rfl) rfl fun a hf => oN <| ct ?_
           have ho := oI hp
           subst ho
           exact ⟨y520, y525, y530, false, yv521, m522, cs523, yv526, m527, cs528, rfl, hw, hf.to ⟨rfl, rfl, rfl, rfl, rfl, rfl, trivial⟩, hRR524, hRR529⟩
         ·intro a w hM
          obtain ⟨y891, y896, y901, y902, yv892, m893, cs894, yv897, m898, cs899, rfl, hw, hf, hRR895, hRR900⟩ := hM
          replace hp := hq904
          refine cC hf rfl (fun hb923 => ?_) (fun hb923 => ?_)
          ·replace hp := cond_t hb923 hp
           refine wq <| wr <| oa hf rfl rfl fun a hf => oN <| ct <| wp_ret <| c_blockR <| c_thenR <| c_thenR <| c_blockR <| c_thenR ?_
           have ho := oI hp
           subst ho
           replace hp := hq733
           refine c_thenR ?_
           replace hw : Ok E I (.blk a0b (.cells ⟨[a0_p_tv5, .int .i64 y901, yv892, yv897]⟩ 227 (0, 0)) :: .row yv892 74 2 m893 cs894 :: .row yv897 9 1 m898 cs899 :: F) w := hw.sub (sc (sc (scc (scc (scc sr)))))
           have ho := oI hp
           simp only [Prod.mk.injEq] at ho
           obtain ⟨rfl, rfl, rfl, rfl⟩ := ho
           exact b_ret1 hf results118 rfl ⟨_, rfl, ⟨yv892, m893, cs894, yv897, m898, cs899, rfl, hw, hRR895, hRR900⟩⟩
          ·replace hp := cond_f hb923 hp
           refine wp_skip <| c_blockN <| ct <| wr <| oR hf (r_add hf rfl rfl) rfl fun a hf => om hf rfl rfl fun a hf => oN <| ct ?_
           exact ih (y891, y896, y901, w64 (y531 + 1)) _ _ ⟨yv892, m893, cs894, yv897, m898, cs899, hw, hf.to ⟨rfl, rfl, rfl, rfl, rfl, trivial⟩, hRR895, hRR900⟩ hp
       ·replace hp := cond_f hb735 hp
        refine wp_exit <| c_thenE <| c_thenE <| c_exit <| ct ?_
        have ho := oI hp
        subst ho
        exact ⟨y520, y525, y530, yv521, m522, cs523, yv526, m527, cs528, rfl, hw, hf.to trivial, hRR524, hRR529⟩
      ·intro a w hM
       obtain ⟨y721, y726, y731, yv722, m723, cs724, yv727, m728, cs729, rfl, hw, hf, hRR725, hRR730⟩ := hM
       replace hp := hq733
       refine ct <| wq <| wr <| oa hf rfl rfl fun a hf => oN <| ct <| wp_ret ?_
       replace hw : Ok E I (.blk a0b (.cells ⟨[a0_p_tv5, .int .i64 y731, yv722, yv727]⟩ 227 (0, 0)) :: .row yv722 74 2 m723 cs724 :: .row yv727 9 1 m728 cs729 :: F) w := hw.sub (sc (sc (scc (scc (scc sr)))))
       have ho := oI hp
       simp only [Prod.mk.injEq] at ho
       obtain ⟨rfl, rfl, rfl, rfl⟩ := ho
       exact b_ret1 hf results118 rfl ⟨_, rfl, ⟨yv722, m723, cs724, yv727, m728, cs729, rfl, hw, hRR725, hRR730⟩⟩

theorem trie_may_ok {E : World} {I : IH} {F : List Atom} {w : World} {a0 : List Pair} {a0v1 : Value} {res0 : Bool} (hw : Ok E I (F) w) (hG : Gl I) (hR2 : RS ek_Pair I a0v1 a0) (hp : trie_may.f a0 = some res0) :
  Calls P 159 ⟨[a0v1]⟩ w fun e w' => ∃ v, e = .returned v ∧ v = Value.bool res0 ∧ Ok E I (F) w' := by
 refine c_enter func159 rfl ntmps159 rfl fun a hf => ?_
 replace hf : Fr 43 [(0, a0v1)] a := hf
 unfold trie_may.f at hp
 refine wq <| wr <| oa hf rfl rfl fun a hf => oN <| ct <| wq <| wq <| wr <| om hf rfl rfl fun a hf => oR hf (r_lenL (K := ek_Pair) hf el_22 rfl (hR2.rd hw)) rfl fun a hf => om hf rfl rfl fun a hf => oN <| ct ?_
 obtain ⟨out168, hp, hq169⟩ := bS hp
 refine c_cutX (fun a w => (.inl ()) = out168 ∧ Ok E I (F) w ∧ Fr 43 ([]) a) ?_ ?_
 ·refine wp_block <| c_loop <| c_fuel (trie_may.l0 a0) out168 (fun (y112 : Int) a w => Ok E I (F) w ∧ Fr 43 ([(0, a0v1), (5, a0v1), (6, .int .i64 (a0.length : Int)), (7, .int .i64 y112)]) a) (fun _ => rfl) ?_ BIG 0 _ _ ⟨hw, hf.to ⟨rfl, rfl, rfl, rfl, trivial⟩⟩ hp
  intro k y112 a w hI hp ih
  obtain ⟨hw, hf⟩ := hI
  rw [trie_may.l0] at hp
  refine wq <| wr <| oR hf (iC hf rfl rfl rfl) rfl fun a hf => oN <| ct <| wq <| cC hf rfl (fun hb171 => ?_) (fun hb171 => ?_)
  ·replace hp := cond_t hb171 hp
   refine wp_skip <| ct <| wq <| wp_block <| wq <| wr <| om hf rfl rfl fun a hf => ?_
   obtain ⟨hg199, hp⟩ := gS hp
   refine oR hf (rI (K := ek_Pair) hf el_22 rfl rfl (hR2.rd hw) hg199) rfl fun a hf => oR hf (r_loadHP (K := ek_Pair) hf rfl ty_74 (hR2.rd hw) hg199 rfl (vs := [.string ((gt a0 y112).key_), .string ((gt a0 y112).value_)]) (fun cs h => Pair_all h) (by simp [arrC_len])) rfl fun a hf => ?_
   obtain ⟨b200, w, hrun201, hw⟩ := e_alloc (P := P) (a := a) hw ty_74
   refine o_eff hf (hrun201 ..) rfl fun a hf => oa hf rfl rfl fun a hf => ?_
   obtain ⟨w, hrun203, hw⟩ := e_store (P := P) hw hf (x := .tmp 4) (y := .tmp 11) rfl rfl ty_74 0 rfl (vs := [.string ((gt a0 y112).key_), .string ((gt a0 y112).value_)]) rfl rfl (oC rfl (oC rfl ones_nil)) (by simp [arrC_len]) (cs' := [.string ((gt a0 y112).key_), .string ((gt a0 y112).value_)]) rfl
   dsimp only [List.set] at hw
   refine o_effU (hrun203 ..) <| oN <| ct ?_
   obtain ⟨out217, hp, hq218⟩ := bS hp
   refine c_cut (fun a w => ∃ y216 : Bool, y216 = out217 ∧ Ok E I (.blk b200 (.cells ⟨[.string ((gt a0 y112).key_), .string ((gt a0 y112).value_)]⟩ 74 (0, 0)) :: F) w ∧ Fr 43 ([(0, a0v1), (5, a0v1), (6, .int .i64 (a0.length : Int)), (7, .int .i64 y112), (41, .bool y216)]) a) ?_ ?_
   ·refine c_drawn mix [] (.rd 0 (.rd 1 (.rd 2 (.rd 3 (.rd 4 (.rd 5 (.rd 6 (.rd 7 (.rd 8 (.rd 9 (.rd 10 (.rd 11 (.rd 12 (.rd 13 (.rd 14 (.rd 15 (.rd 16 (.rd 17 (.rd 18 (.rd 19 (.rd 20 (.rd 21 (.rd 22 (.rd 23 (.rd 24 (.rd 25 (.rd 26 (.rd 27 (.rd 28 (.rd 29 .done)))))))))))))))))))))))))))))) (by kernel_rfl) hw (fun w => Ok E I (.blk b200 (.cells ⟨[.string ((gt a0 y112).key_), .string ((gt a0 y112).value_)]⟩ 74 (0, 0)) :: F) w) (fun w hw => ⟨hw.sub (scc sr), ?_⟩)
    refine tR rfl hf (fun w hw => rF hf rfl fd_74_0) rfl fun a hf => tR rfl hf (fun w hw => rL hw hf rfl ty_9 0 rfl rfl) rfl fun a hf => tR rfl hf (fun w hw => r_scmp hf rfl rfl rfl) rfl fun a hf => tm rfl hf rfl rfl fun a hf => g_split hf (g := 15) rfl (fun hb220 hf => ?_) (fun hb220 hf => ?_)
    ·replace hp := cond_t hb220 hp
     refine tS rfl rfl hf rfl rfl rfl fun a hf => tS rfl rfl hf rfl rfl rfl fun a hf => tS rfl rfl hf rfl rfl rfl fun a hf => tS rfl rfl hf rfl rfl rfl fun a hf => tR rfl hf (fun w hw => pT hf rfl rfl) rfl fun a hf => tm rfl hf rfl rfl fun a hf => tS rfl rfl hf rfl rfl rfl fun a hf => tS rfl rfl hf rfl rfl rfl fun a hf => tS rfl rfl hf rfl rfl rfl fun a hf => tS rfl rfl hf rfl rfl rfl fun a hf => tR rfl hf (fun w hw => pT hf rfl rfl) rfl fun a hf => tm rfl hf rfl rfl fun a hf => tS rfl rfl hf rfl rfl rfl fun a hf => tS rfl rfl hf rfl rfl rfl fun a hf => tS rfl rfl hf rfl rfl rfl fun a hf => t_rdU rfl rfl hf rfl rfl fun a hf => ?_
     refine t_rdU rfl rfl hf rfl rfl fun a hf => t_rdU rfl rfl hf rfl rfl fun a hf => t_rdU rfl rfl hf rfl rfl fun a hf => t_rdU rfl rfl hf rfl rfl fun a hf => t_rdU rfl rfl hf rfl rfl fun a hf => t_rdU rfl rfl hf rfl rfl fun a hf => t_rdU rfl rfl hf rfl rfl fun a hf => t_rdU rfl rfl hf rfl rfl fun a hf => tS rfl rfl hf rfl rfl rfl fun a hf => tR rfl hf (fun w hw => pT hf rfl rfl) rfl fun a hf => t_done <| ct ?_
     have ho := oI hp
     subst ho
     exact ⟨true, rfl, hw, hf.to ⟨rfl, rfl, rfl, rfl, rfl, trivial⟩⟩
    ·replace hp := cond_f hb220 hp
     refine tG rfl rfl hf rfl (fun w hw => rF hf rfl fd_74_0) rfl fun a hf => tG rfl rfl hf rfl (fun w hw => rL hw hf rfl ty_9 0 rfl rfl) rfl fun a hf => tG rfl rfl hf rfl (fun w hw => r_lenS hf und_9 rfl) rfl fun a hf => tG rfl rfl hf rfl (fun w hw => iC hf rfl rfl rfl) rfl fun a hf => tR rfl hf (fun w hw => pF hf rfl rfl) rfl fun a hf => tm rfl hf rfl rfl fun a hf => g_split hf (g := 21) rfl (fun hb221 hf => ?_) (fun hb221 hf => ?_)
     ·replace hp := cond_t hb221 hp
      refine tS rfl rfl hf rfl rfl rfl fun a hf => tS rfl rfl hf rfl rfl rfl fun a hf => tS rfl rfl hf rfl rfl rfl fun a hf => tS rfl rfl hf rfl rfl rfl fun a hf => tR rfl hf (fun w hw => pT hf rfl rfl) rfl fun a hf => tm rfl hf rfl rfl fun a hf => tS rfl rfl hf rfl rfl rfl fun a hf => tS rfl rfl hf rfl rfl rfl fun a hf => tS rfl rfl hf rfl rfl rfl fun a hf => t_rdU rfl rfl hf rfl rfl fun a hf => t_rdU rfl rfl hf rfl rfl fun a hf => t_rdU rfl rfl hf rfl rfl fun a hf => t_rdU rfl rfl hf rfl rfl fun a hf => t_rdU rfl rfl hf rfl rfl fun a hf => t_rdU rfl rfl hf rfl rfl fun a hf => t_rdU rfl rfl hf rfl rfl fun a hf => ?_
      refine t_rdU rfl rfl hf rfl rfl fun a hf => t_rdU rfl rfl hf rfl rfl fun a hf => tS rfl rfl hf rfl rfl rfl fun a hf => tR rfl hf (fun w hw => pT hf rfl rfl) rfl fun a hf => t_done <| ct ?_
      have ho := oI hp
      subst ho
      exact ⟨true, rfl, hw, hf.to ⟨rfl, rfl, rfl, rfl, rfl, trivial⟩⟩
     ·replace hp := cond_f hb221 hp
      refine tG rfl rfl hf rfl (fun w hw => rF hf rfl fd_74_1) rfl fun a hf => tG rfl rfl hf rfl (fun w hw => rL hw hf rfl ty_9 0 rfl rfl) rfl fun a hf => tG rfl rfl hf rfl (fun w hw => r_lenS hf und_9 rfl) rfl fun a hf => tG rfl rfl hf rfl (fun w hw => iC hf rfl rfl rfl) rfl fun a hf => tR rfl hf (fun w hw => pF hf rfl rfl) rfl fun a hf => tm rfl hf rfl rfl fun a hf => g_split hf (g := 27) rfl (fun hb222 hf => ?_) (fun hb222 hf => ?_)
      ·replace hp := cond_t hb222 hp
       refine tS rfl rfl hf rfl rfl rfl fun a hf => tS rfl rfl hf rfl rfl rfl fun a hf => tS rfl rfl hf rfl rfl rfl fun a hf => t_rdU rfl rfl hf rfl rfl fun a hf => t_rdU rfl rfl hf rfl rfl fun a hf => t_rdU rfl rfl hf rfl rfl fun a hf => t_rdU rfl rfl hf rfl rfl fun a hf => t_rdU rfl rfl hf rfl rfl fun a hf => t_rdU rfl rfl hf rfl rfl fun a hf => t_rdU rfl rfl hf rfl rfl fun a hf => t_rdU rfl rfl hf rfl rfl fun a hf => t_rdU rfl rfl hf rfl rfl fun a hf => tS rfl rfl hf rfl rfl rfl fun a hf => tR rfl hf (fun w hw => pT hf rfl rfl) rfl fun a hf => t_done <| ct ?_
       have ho := oI hp
       subst ho
       exact ⟨true, rfl, hw, hf.to ⟨rfl, rfl, rfl, rfl, rfl, trivial⟩⟩
      ·replace hp := cond_f hb222 hp
       refine tG rfl rfl hf rfl (fun w hw => r_move hf rfl) rfl fun a hf => tG rfl rfl hf rfl (fun w hw => iC hf rfl rfl rfl) rfl fun a hf => tG rfl rfl hf rfl (fun w hw => r_move hf rfl) rfl fun a hf => g_split hf (g := 30) rfl (fun hb223 hf => ?_) (fun hb223 hf => ?_)
       ·replace hp := cond_t hb223 hp
        refine tG rfl rfl hf rfl (fun w hw => rF hf rfl fd_74_0) rfl fun a hf => tG rfl rfl hf rfl (fun w hw => rL hw hf rfl ty_9 0 rfl rfl) rfl fun a hf => tG rfl rfl hf rfl (fun w hw => r_move hf rfl) rfl fun a hf => tG rfl rfl hf rfl (fun w hw => r_move hf rfl) rfl fun a hf => tG rfl rfl hf rfl (fun w hw => r_sub hf rfl rfl) rfl fun a hf => ?_
        obtain ⟨hg224, hp⟩ := gS hp
        refine tG rfl rfl hf rfl (fun w hw => rI (K := ek_Pair) hf el_22 rfl rfl (hR2.rd hw) hg224) rfl fun a hf => tG rfl rfl hf rfl (fun w hw => r_fieldAddrH hf rfl fd_74_0) rfl fun a hf => tG rfl rfl hf rfl (fun w hw => r_loadH (K := ek_Pair) hf rfl ty_9 (hR2.rd hw) hg224 rfl (fun cs h => Pair_f0 h)) rfl fun a hf => tG rfl rfl hf rfl (fun w hw => r_scmp hf rfl rfl rfl) rfl fun a hf => tG rfl rfl hf rfl (fun w hw => pT hf rfl rfl) rfl fun a hf => tR rfl hf (fun w hw => pF hf rfl rfl) rfl fun a hf => t_done <| ct ?_
        have ho := oI hp
        subst ho
        exact ⟨(slt ((gt a0 y112).key_) ((gt a0 (w64 (y112 - 1))).key_) || seq_ ((gt a0 y112).key_) ((gt a0 (w64 (y112 - 1))).key_)), rfl, hw, hf.to ⟨rfl, rfl, rfl, rfl, rfl, trivial⟩⟩
       ·replace hp := cond_f hb223 hp
        refine tS rfl rfl hf rfl rfl rfl fun a hf => tS rfl rfl hf rfl rfl rfl fun a hf => tS rfl rfl hf rfl rfl rfl fun a hf => tS rfl rfl hf rfl rfl rfl fun a hf => tS rfl rfl hf rfl rfl rfl fun a hf => tS rfl rfl hf rfl rfl rfl fun a hf => tS rfl rfl hf rfl rfl rfl fun a hf => tS rfl rfl hf rfl rfl rfl fun a hf => tS rfl rfl hf rfl rfl rfl fun a hf => tG rfl rfl hf rfl (fun w hw => pF hf rfl rfl) rfl fun a hf => tR rfl hf (fun w hw => pF hf rfl rfl) rfl fun a hf => t_done <| ct ?_
        have ho := oI hp
        subst ho
        exact ⟨false, rfl, hw, hf.to ⟨rfl, rfl, rfl, rfl, rfl, trivial⟩⟩
   ·intro a w hM
    obtain ⟨y216, rfl, hw, hf⟩ := hM
    replace hp := hq218
    refine cC hf rfl (fun hb225 => ?_) (fun hb225 => ?_)
    ·replace hp := cond_t hb225 hp
     refine wq <| wr <| oa hf rfl rfl fun a hf => oN <| ct <| wp_ret <| c_blockR <| c_thenR <| c_thenR <| c_blockR <| c_thenR ?_
     have ho := oI hp
     subst ho
     replace hp := hq169
     refine c_thenR ?_
     replace hw : Ok E I (F) w := hw.sub (sc sr)
     have ho := oI hp
     subst ho
     exact b_ret1 hf results159 rfl ⟨_, rfl, ⟨rfl, hw⟩⟩
    ·replace hp := cond_f hb225 hp
     refine wp_skip <| c_blockN <| ct <| wr <| oR hf (r_add hf rfl rfl) rfl fun a hf => om hf rfl rfl fun a hf => oN <| ct ?_
     replace hw : Ok E I (F) w := hw.sub (sc sr)
     exact ih (w64 (y112 + 1)) _ _ ⟨hw, hf.to ⟨rfl, rfl, rfl, rfl, trivial⟩⟩ hp
  ·replace hp := cond_f hb171 hp
   refine wp_exit <| c_thenE <| c_thenE <| c_exit <| ct ?_
   have ho := oI hp
   subst ho
   exact ⟨rfl, hw, hf.to trivial⟩
 ·intro a w hM
  obtain ⟨rfl, hw, hf⟩ := hM
  replace hp := hq169
  refine ct <| wq <| wr <| oa hf rfl rfl fun a hf => oN <| ct <| wp_ret ?_
  have ho := oI hp
  subst ho
  exact b_ret1 hf results159 rfl ⟨_, rfl, ⟨rfl, hw⟩⟩

theorem nibble_Common_ok {E : World} {I : IH} {F : List Atom} {w : World} {a0 : ByteArray} {a1 : ByteArray} {res0 : Int} (hw : Ok E I (F) w) (hG : Gl I) (hp : nibble_Common.f a0 a1 = some res0) :
  Calls P 201 ⟨[Value.string a0, Value.string a1]⟩ w fun e w' => ∃ v, e = .returned v ∧ v = Value.int .i64 res0 ∧ Ok E I (F) w' := by
 refine c_enter func201 rfl ntmps201 rfl fun a hf => ?_
 replace hf : Fr 25 [(0, .string a0), (1, .string a1)] a := hf
 unfold nibble_Common.f at hp
 refine wq <| wr <| oa hf rfl rfl fun a hf => oN <| ct <| wq <| wr <| oa hf rfl rfl fun a hf => oN <| ct <| wq ?_
 obtain ⟨out100, hp, hq101⟩ := bS hp
 refine c_cutX (fun a w => ∃ y99 : Int, y99 = out100 ∧ Ok E I (F) w ∧ Fr 25 ([(5, .int .i64 y99)]) a) ?_ ?_
 ·refine wp_block <| c_loop <| c_fuel (nibble_Common.l0 a0 a1) out100 (fun (y66 : Int) a w => Ok E I (F) w ∧ Fr 25 ([(0, .string a0), (1, .string a1), (5, .int .i64 y66)]) a) (fun _ => rfl) ?_ BIG 0 _ _ ⟨hw, hf.to ⟨rfl, rfl, rfl, trivial⟩⟩ hp
  intro k y66 a w hI hp ih
  obtain ⟨hw, hf⟩ := hI
  rw [nibble_Common.l0] at hp
  refine wq ?_
  obtain ⟨out128, hp, hq129⟩ := bS hp
  refine c_cut (fun a w => ∃ y127 : Bool, y127 = out128 ∧ Ok E I (F) w ∧ Fr 25 ([(0, .string a0), (1, .string a1), (5, .int .i64 y66), (21, .bool y127)]) a) ?_ ?_
  ·refine c_drawn mix [] (.rd 0 (.rd 1 (.rd 2 (.rd 3 (.rd 4 (.rd 5 (.rd 6 (.rd 7 (.rd 8 (.rd 9 (.rd 10 (.rd 11 (.rd 12 (.rd 13 (.rd 14 (.rd 15 .done)))))))))))))))) (by kernel_rfl) hw (fun w => Ok E I (F) w) (fun w hw => ⟨hw.sub sr, ?_⟩)
   refine tm rfl hf rfl rfl fun a hf => tm rfl hf rfl rfl fun a hf => tR rfl hf (fun w hw => r_lenS hf und_9 rfl) rfl fun a hf => tm rfl hf rfl rfl fun a hf => tR rfl hf (fun w hw => r_lenS hf und_9 rfl) rfl fun a hf => tR rfl hf (fun w hw => r_min hf rfl rfl) rfl fun a hf => tR rfl hf (fun w hw => iC hf rfl rfl rfl) rfl fun a hf => tm rfl hf rfl rfl fun a hf => g_split hf (g := 13) rfl (fun hb131 hf => ?_) (fun hb131 hf => ?_)
   ·replace hp := cond_t hb131 hp
    refine tG rfl rfl hf rfl (fun w hw => r_move hf rfl) rfl fun a hf => tG rfl rfl hf rfl (fun w hw => r_move hf rfl) rfl fun a hf => ?_
    obtain ⟨hg132, hp⟩ := gS hp
    refine tG rfl rfl hf rfl (fun w hw => r_indexS hf und_9 rfl rfl hg132) rfl fun a hf => tG rfl rfl hf rfl (fun w hw => r_move hf rfl) rfl fun a hf => tG rfl rfl hf rfl (fun w hw => r_move hf rfl) rfl fun a hf => ?_
    obtain ⟨hg133, hp⟩ := gS hp
    refine tG rfl rfl hf rfl (fun w hw => r_indexS hf und_9 rfl rfl hg133) rfl fun a hf => tG rfl rfl hf rfl (fun w hw => iC hf rfl rfl rfl) rfl fun a hf => tR rfl hf (fun w hw => pT hf rfl rfl) rfl fun a hf => t_done <| ct ?_
    have ho := oI hp
    subst ho
    exact ⟨((bt a0 y66) == (bt a1 y66)), rfl, hw, hf.to ⟨rfl, rfl, rfl, rfl, trivial⟩⟩
   ·replace hp := cond_f hb131 hp
    refine tS rfl rfl hf rfl rfl rfl fun a hf => tS rfl rfl hf rfl rfl rfl fun a hf => tS rfl rfl hf rfl rfl rfl fun a hf => tS rfl rfl hf rfl rfl rfl fun a hf => tS rfl rfl hf rfl rfl rfl fun a hf => tS rfl rfl hf rfl rfl rfl fun a hf => tS rfl rfl hf rfl rfl rfl fun a hf => tR rfl hf (fun w hw => pF hf rfl rfl) rfl fun a hf => t_done <| ct ?_
    have ho := oI hp
    subst ho
    exact ⟨false, rfl, hw, hf.to ⟨rfl, rfl, rfl, rfl, trivial⟩⟩
  ·intro a w hM
   obtain ⟨y127, rfl, hw, hf⟩ := hM
   replace hp := hq129
   refine cC hf rfl (fun hb134 => ?_) (fun hb134 => ?_)
   ·replace hp := cond_t hb134 hp
    refine wp_skip <| ct <| wp_block <| wr <| om hf rfl rfl fun a hf => oR hf (r_add hf rfl rfl) rfl fun a hf => oa hf rfl rfl fun a hf => oN <| c_blockN <| ct ?_
    exact ih (w64 (y66 + 1)) _ _ ⟨hw, hf.to ⟨rfl, rfl, rfl, trivial⟩⟩ hp
   ·replace hp := cond_f hb134 hp
    refine wp_exit <| c_thenE <| c_thenE <| c_exit <| ct ?_
    have ho := oI hp
    subst ho
    exact ⟨y66, rfl, hw, hf.to ⟨rfl, trivial⟩⟩
 ·intro a w hM
  obtain ⟨y99, rfl, hw, hf⟩ := hM
  replace hp := hq101
  refine ct <| wq <| wr <| om hf rfl rfl fun a hf => oa hf rfl rfl fun a hf => oN <| ct <| wp_ret ?_
  have ho := oI hp
  subst ho
  exact b_ret1 hf results201 rfl ⟨_, rfl, ⟨rfl, hw⟩⟩
end Go.Lf
