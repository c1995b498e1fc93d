import Derived.Test.YtckhmgglgbnaaaaZD
import Derived.Test.YtckhmgglgbnaaaaZF
import Derived.Test.YtckhmgglgbnaaaaUB
import Derived.Test.YtckhmgglgbnaaaaN
import Derived.Test.YtckhmgglgbnaaaaBL
import Derived.Test.YtckhmgglgbnaaaaZK7
import Derived.Test.YtckhmgglgbnaaaaZK12
set_option linter.unusedVariables false
set_option linter.unusedSimpArgs false
set_option maxHeartbeats 1000000
set_option maxRecDepth 20000
namespace Go.Lf
open Go Go.Proofs.Try
theorem nibble_Unpack_ok {E : World} {I : IH} {F : List Atom} {w : World} {a0 : ByteArray} {res0 : ByteArray} {res1 : Int} {res2 : Bool} (hw : Ok E I (F) w) (hp : nibble_Unpack.f a0 = some (res0, res1, res2)) :
  Calls P 92 ⟨[Value.string a0]⟩ w fun e w' => ∃ v, e = .returned v ∧ v = Value.tuple ⟨[Value.string res0, Value.int .i64 res1, Value.bool res2]⟩ ∧ Ok E I (F) w' := by
 refine c_enter func92 rfl ntmps92 rfl fun a hf => ?_
 replace hf : Fr 44 [(0, .string a0)] a := hf
 unfold nibble_Unpack.f at hp
 refine wq <| wr <| oa hf rfl rfl fun a hf => oa hf rfl rfl fun a hf => oa hf rfl rfl fun a hf => oN <| ct <| wq ?_
 obtain ⟨out16, hp, hq17⟩ := bS hp
 refine c_cut (fun a w => ∃ y15 : Bool, y15 = out16 ∧ Ok E I (F) w ∧ Fr 44 ([(0, .string a0), (14, .bool y15)]) a) ?_ ?_
 ·refine wr <| om hf rfl rfl fun a hf => oR hf (r_scmp hf rfl rfl rfl) rfl fun a hf => om hf rfl rfl fun a hf => g_split hf (g := 9) rfl (fun hb18 hf => ?_) (fun hb18 hf => ?_)
  ·replace hp := cond_t hb18 hp
   refine oQ hf (g := 9) rfl fun a hf => oQ hf (g := 9) rfl fun a hf => oQ hf (g := 9) rfl fun a hf => oQ hf (g := 9) rfl fun a hf => oR hf (pT hf rfl rfl) rfl fun a hf => oN <| ct ?_
   have ho := oI hp
   subst ho
   exact ⟨true, rfl, hw, hf.to ⟨rfl, rfl, trivial⟩⟩
  ·replace hp := cond_f hb18 hp
   refine oW hf (g := 9) rfl rfl <| om hf rfl rfl fun a hf => ?_
   obtain ⟨hg19, hp⟩ := gS hp
   refine oW hf (g := 9) rfl rfl <| oR hf (r_indexS hf und_9 rfl rfl hg19) rfl fun a hf => oW hf (g := 9) rfl rfl <| oR hf (r_convI hf und_5 und_3 rfl) rfl fun a hf => oW hf (g := 9) rfl rfl <| oR hf (iC hf rfl rfl rfl) rfl fun a hf => oR hf (pF hf rfl rfl) rfl fun a hf => oN <| ct ?_
   have ho := oI hp
   subst ho
   exact ⟨(decide ((w64 (bt a0 0)) > 16)), rfl, hw, hf.to ⟨rfl, rfl, trivial⟩⟩
 ·intro a w hM
  obtain ⟨y15, rfl, hw, hf⟩ := hM
  replace hp := hq17
  refine cC hf rfl (fun hb20 => ?_) (fun hb20 => ?_)
  ·replace hp := cond_t hb20 hp
   refine wq <| wr <| oa hf rfl rfl fun a hf => oa hf rfl rfl fun a hf => oa hf rfl rfl fun a hf => oN <| ct <| wp_ret <| c_thenR ?_
   have ho := oI hp
   simp only [Prod.mk.injEq] at ho
   obtain ⟨rfl, rfl, rfl⟩ := ho
   exact b_ret3 hf results92 rfl rfl rfl ⟨_, rfl, ⟨rfl, hw⟩⟩
  ·replace hp := cond_f hb20 hp
   refine wp_skip <| ct <| wq <| wr <| om hf rfl rfl fun a hf => ?_
   obtain ⟨hg21, hp⟩ := gS hp
   refine oR hf (r_indexS hf und_9 rfl rfl hg21) rfl fun a hf => oR hf (r_convI hf und_5 und_3 rfl) rfl fun a hf => oa hf rfl rfl fun a hf => oN <| ct <| wq <| wr <| om hf rfl rfl fun a hf => oR hf (r_add hf rfl rfl) rfl fun a hf => oR hf (r_quo hf rfl rfl (by decide)) rfl fun a hf => oR hf (r_add hf rfl rfl) rfl fun a hf => oa hf rfl rfl fun a hf => oN <| ct <| wq <| wq ?_
   refine wr <| om hf rfl rfl fun a hf => om hf rfl rfl fun a hf => oR hf (r_lenS hf und_9 rfl) rfl fun a hf => oR hf (iC hf rfl rfl rfl) rfl fun a hf => oN <| ct <| cC hf rfl (fun hb22 => ?_) (fun hb22 => ?_)
   ·replace hp := cond_t hb22 hp
    refine wq <| wr <| oa hf rfl rfl fun a hf => oa hf rfl rfl fun a hf => oa hf rfl rfl fun a hf => oN <| ct <| wp_ret <| c_thenR ?_
    have ho := oI hp
    simp only [Prod.mk.injEq] at ho
    obtain ⟨rfl, rfl, rfl⟩ := ho
    exact b_ret3 hf results92 rfl rfl rfl ⟨_, rfl, ⟨rfl, hw⟩⟩
   ·replace hp := cond_f hb22 hp
    refine wp_skip <| ct <| wq <| wr <| om hf rfl rfl fun a hf => om hf rfl rfl fun a hf => ?_
    obtain ⟨hg23, hp⟩ := gS hp
    refine oR hf (r_sliceS hf und_9 rfl rfl rfl hg23) rfl fun a hf => ?_
    obtain ⟨y24, hy25, hp⟩ := bS hp
    have hc27 := nibble_Of_ok hw hy25
    refine o_call hf cb_96 rfl rfl hc27 (fun v29 w a hK28 hf => ?_)
    obtain ⟨rfl, hw⟩ := hK28
    refine oa hf rfl rfl fun a hf => oN <| ct <| wq ?_
    obtain ⟨out45, hp, hq46⟩ := bS hp
    refine c_cut (fun a w => ∃ y44 : Bool, y44 = out45 ∧ Ok E I (F) w ∧ Fr 44 ([(3, .int .i64 (w64 (1 + (w64 ((w64 ((w64 (bt a0 0)) + 1)).tdiv 2))))), (5, .int .i64 (w64 (bt a0 0))), (6, .string y24), (39, .bool y44)]) a) ?_ ?_
    ·refine wr <| om hf rfl rfl fun a hf => om hf rfl rfl fun a hf => oR hf (r_lenS hf und_9 rfl) rfl fun a hf => oR hf (iC hf rfl rfl rfl) rfl fun a hf => om hf rfl rfl fun a hf => g_split hf (g := 34) rfl (fun hb47 hf => ?_) (fun hb47 hf => ?_)
     ·replace hp := cond_t hb47 hp
      refine oW hf (g := 34) rfl rfl <| om hf rfl rfl fun a hf => oW hf (g := 34) rfl rfl <| om hf rfl rfl fun a hf => ?_
      obtain ⟨hg48, hp⟩ := gS hp
      refine oW hf (g := 34) rfl rfl <| oR hf (r_indexS hf und_9 rfl rfl hg48) rfl fun a hf => oW hf (g := 34) rfl rfl <| oR hf (iC hf rfl rfl rfl) rfl fun a hf => oR hf (pT hf rfl rfl) rfl fun a hf => oN <| ct ?_
      have ho := oI hp
      subst ho
      exact ⟨((bt y24 (w64 (bt a0 0))) != 0), rfl, hw, hf.to ⟨rfl, rfl, rfl, rfl, trivial⟩⟩
     ·replace hp := cond_f hb47 hp
      refine oQ hf (g := 34) rfl fun a hf => oQ hf (g := 34) rfl fun a hf => oQ hf (g := 34) rfl fun a hf => oQ hf (g := 34) rfl fun a hf => oR hf (pF hf rfl rfl) rfl fun a hf => oN <| ct ?_
      have ho := oI hp
      subst ho
      exact ⟨false, rfl, hw, hf.to ⟨rfl, rfl, rfl, rfl, trivial⟩⟩
    ·intro a w hM
     obtain ⟨y44, rfl, hw, hf⟩ := hM
     replace hp := hq46
     refine cC hf rfl (fun hb49 => ?_) (fun hb49 => ?_)
     ·replace hp := cond_t hb49 hp
      refine wq <| wr <| oa hf rfl rfl fun a hf => oa hf rfl rfl fun a hf => oa hf rfl rfl fun a hf => oN <| ct <| wp_ret <| c_thenR ?_
      have ho := oI hp
      simp only [Prod.mk.injEq] at ho
      obtain ⟨rfl, rfl, rfl⟩ := ho
      exact b_ret3 hf results92 rfl rfl rfl ⟨_, rfl, ⟨rfl, hw⟩⟩
     ·replace hp := cond_f hb49 hp
      refine wp_skip <| ct <| wq <| wr <| om hf rfl rfl fun a hf => om hf rfl rfl fun a hf => ?_
      obtain ⟨hg50, hp⟩ := gS hp
      refine oR hf (r_sliceSh hf und_9 rfl rfl hg50) rfl fun a hf => om hf rfl rfl fun a hf => oa hf rfl rfl fun a hf => oa hf rfl rfl fun a hf => oa hf rfl rfl fun a hf => oN <| ct <| wp_ret ?_
      have ho := oI hp
      simp only [Prod.mk.injEq] at ho
      obtain ⟨rfl, rfl, rfl⟩ := ho
      exact b_ret3 hf results92 rfl rfl rfl ⟨_, rfl, ⟨rfl, hw⟩⟩

theorem slot_reader_path_ok {E : World} {I : IH} {F : List Atom} {w : World} {a0b : Nat} {a0_p_s : ByteArray} {a0_p_l : List Slot} {a0_p_lv : Value} {a0_p_lm : Nat} {a0_p_lcs : List Value} {a0_p_bad : Bool} {res0 : ByteArray} {new_a0_p_s : ByteArray} {new_a0_p_bad : Bool} (hw : Ok E I (.blk a0b (.cells ⟨[Value.string a0_p_s, a0_p_lv, Value.bool a0_p_bad]⟩ 111 (0, 0)) :: .row a0_p_lv 70 20 a0_p_lm a0_p_lcs :: F) w) (ha0_p_l : RowR ek_Slot I a0_p_lcs a0_p_l) (hp : slot_reader_path.f a0_p_s a0_p_l a0_p_bad = some (res0, new_a0_p_s, new_a0_p_bad)) :
  Calls P 76 ⟨[Value.pointer (some ⟨a0b, 0, none⟩)]⟩ w fun e w' => ∃ v, e = .returned v ∧ v = Value.string res0 ∧ Ok E I (.blk a0b (.cells ⟨[Value.string new_a0_p_s, a0_p_lv, Value.bool new_a0_p_bad]⟩ 111 (0, 0)) :: .row a0_p_lv 70 20 a0_p_lm a0_p_lcs :: F) w' := by
 refine c_enter func76 rfl ntmps76 rfl fun a hf => ?_
 replace hf : Fr 30 [(0, .pointer (some ⟨a0b, 0, none⟩))] a := hf
 unfold slot_reader_path.f at hp
 refine wq <| wr <| oa hf rfl rfl fun a hf => oN <| ct <| wq <| wr <| om hf rfl rfl fun a hf => oR hf (nC hf rfl) rfl fun a hf => oR hf (rF hf rfl fd_111_0) rfl fun a hf => oR hf (rL hw hf rfl ty_9 0 rfl rfl) rfl fun a hf => ?_
 obtain ⟨y5, hy4, hp⟩ := bS hp
 obtain ⟨y1, y2, y3⟩ := y5
 have hc6 := nibble_Unpack_ok hw hy4
 refine o_call hf cb_92 rfl rfl hc6 (fun v8 w a hK7 hf => ?_)
 obtain ⟨rfl, hw⟩ := hK7
 refine om hf rfl rfl fun a hf => oR hf (rE hf rfl rfl) rfl fun a hf => oR hf (rE hf rfl rfl) rfl fun a hf => oR hf (rE hf rfl rfl) rfl fun a hf => oa hf rfl rfl fun a hf => oa hf rfl rfl fun a hf => oa hf rfl rfl fun a hf => oN <| ct ?_
 obtain ⟨out16, hp, hq17⟩ := bS hp
 refine c_cut (fun a w => ∃ y15 : Bool, y15 = out16 ∧ Ok E I (.blk a0b (.cells ⟨[.string a0_p_s, a0_p_lv, .bool y15]⟩ 111 (0, 0)) :: .row a0_p_lv 70 20 a0_p_lm a0_p_lcs :: F) w ∧ Fr 30 ([(0, .pointer (some ⟨a0b, 0, none⟩)), (3, .string y1), (4, .int .i64 y2)]) a) ?_ ?_
 ·refine wr <| om hf rfl rfl fun a hf => om hf rfl rfl fun a hf => oR hf (nC hf rfl) rfl fun a hf => oR hf (rF hf rfl fd_111_2) rfl fun a hf => oR hf (rL hw hf rfl ty_4 0 rfl rfl) rfl fun a hf => om hf rfl rfl fun a hf => g_split hf (g := 20) rfl (fun hb18 hf => ?_) (fun hb18 hf => ?_)
  ·replace hp := cond_t hb18 hp
   refine oQ hf (g := 20) rfl fun a hf => oQ hf (g := 20) rfl fun a hf => oR hf (pT hf rfl rfl) rfl fun a hf => oR hf (nC hf rfl) rfl fun a hf => oR hf (rF hf rfl fd_111_2) rfl fun a hf => ?_
   obtain ⟨w, hrun19, hw⟩ := e_store (P := P) hw hf (x := .tmp 25) (y := .tmp 23) rfl rfl ty_4 0 rfl (vs := [.bool true]) (oE rfl) rfl (oC rfl ones_nil) (by simp [arrC_len]) (cs' := [.string a0_p_s, a0_p_lv, .bool true]) rfl
   dsimp only [List.set] at hw
   refine o_effU (hrun19 ..) <| oN <| ct ?_
   have ho := oI hp
   subst ho
   exact ⟨true, rfl, hw, hf.to ⟨rfl, rfl, rfl, trivial⟩⟩
  ·replace hp := cond_f hb18 hp
   refine oW hf (g := 20) rfl rfl <| om hf rfl rfl fun a hf => oW hf (g := 20) rfl rfl <| oR hf (r_not hf rfl) rfl fun a hf => oR hf (pF hf rfl rfl) rfl fun a hf => oR hf (nC hf rfl) rfl fun a hf => oR hf (rF hf rfl fd_111_2) rfl fun a hf => ?_
   obtain ⟨w, hrun20, hw⟩ := e_store (P := P) hw hf (x := .tmp 25) (y := .tmp 23) rfl rfl ty_4 0 rfl (vs := [.bool (!y3)]) (oE rfl) rfl (oC rfl ones_nil) (by simp [arrC_len]) (cs' := [.string a0_p_s, a0_p_lv, .bool (!y3)]) rfl
   dsimp only [List.set] at hw
   refine o_effU (hrun20 ..) <| oN <| ct ?_
   have ho := oI hp
   subst ho
   exact ⟨(!y3), rfl, hw, hf.to ⟨rfl, rfl, rfl, trivial⟩⟩
 ·intro a w hM
  obtain ⟨y15, rfl, hw, hf⟩ := hM
  replace hp := hq17
  refine wq <| wr <| om hf rfl rfl fun a hf => om hf rfl rfl fun a hf => ?_
  replace hw : Ok E I (.blk a0b (.cells ⟨[.string a0_p_s, a0_p_lv, .bool y15]⟩ 111 (0, 0)) :: .row a0_p_lv 70 20 a0_p_lm a0_p_lcs :: F) w := (hw.front (i := 1) rfl).front (i := 1) rfl
  obtain ⟨y25, hy24, hp⟩ := bS hp
  obtain ⟨y21, y22, y23⟩ := y25
  have hc26 := slot_reader_take_ok hw ha0_p_l hy24
  refine o_call hf cb_80 rfl rfl hc26 (fun v28 w a hK27 hf => ?_)
  obtain ⟨rfl, hw⟩ := hK27
  refine oN <| ct <| wq <| wr <| om hf rfl rfl fun a hf => oa hf rfl rfl fun a hf => oN <| ct <| wp_ret ?_
  have ho := oI hp
  simp only [Prod.mk.injEq] at ho
  obtain ⟨rfl, rfl, rfl⟩ := ho
  exact b_ret1 hf results76 rfl ⟨_, rfl, ⟨rfl, hw⟩⟩

theorem slot_reader_value_ok {E : World} {I : IH} {F : List Atom} {w : World} {a0b : Nat} {a0_p_s : ByteArray} {a0_p_l : List Slot} {a0_p_lv : Value} {a0_p_lm : Nat} {a0_p_lcs : List Value} {a0_p_bad : Bool} {res0 : ByteArray} {new_a0_p_s : ByteArray} {new_a0_p_bad : Bool} (hw : Ok E I (.blk a0b (.cells ⟨[Value.string a0_p_s, a0_p_lv, Value.bool a0_p_bad]⟩ 111 (0, 0)) :: .row a0_p_lv 70 20 a0_p_lm a0_p_lcs :: F) w) (ha0_p_l : RowR ek_Slot I a0_p_lcs a0_p_l) (hp : slot_reader_value.f a0_p_s a0_p_l a0_p_bad = some (res0, new_a0_p_s, new_a0_p_bad)) :
  Calls P 77 ⟨[Value.pointer (some ⟨a0b, 0, none⟩)]⟩ w fun e w' => ∃ v, e = .returned v ∧ v = Value.string res0 ∧ Ok E I (.blk a0b (.cells ⟨[Value.string new_a0_p_s, a0_p_lv, Value.bool new_a0_p_bad]⟩ 111 (0, 0)) :: .row a0_p_lv 70 20 a0_p_lm a0_p_lcs :: F) w' := by
 refine c_enter func77 rfl ntmps77 rfl fun a hf => ?_
 replace hf : Fr 20 [(0, .pointer (some ⟨a0b, 0, none⟩))] a := hf
 unfold slot_reader_value.f at hp
 refine wq <| wr <| oa hf rfl rfl fun a hf => oN <| ct <| wq <| wr <| om hf rfl rfl fun a hf => ?_
 replace hw : Ok E I (.blk a0b (.cells ⟨[.string a0_p_s, a0_p_lv, .bool a0_p_bad]⟩ 111 (0, 0)) :: .row a0_p_lv 70 20 a0_p_lm a0_p_lcs :: F) w := (hw.front (i := 1) rfl).front (i := 1) rfl
 obtain ⟨y5, hy4, hp⟩ := bS hp
 obtain ⟨y1, y2, y3⟩ := y5
 have hc6 := slot_reader_number_ok hw ha0_p_l hy4
 refine o_call hf cb_58 rfl rfl hc6 (fun v8 w a hK7 hf => ?_)
 obtain ⟨rfl, hw⟩ := hK7
 refine oa hf rfl rfl fun a hf => oN <| ct ?_
 obtain ⟨out16, hp, hq17⟩ := bS hp
 refine c_cut (fun a w => ∃ y15 : Bool, y15 = out16 ∧ Ok E I (.blk a0b (.cells ⟨[.string y2, a0_p_lv, .bool y15]⟩ 111 (0, 0)) :: .row a0_p_lv 70 20 a0_p_lm a0_p_lcs :: F) w ∧ Fr 20 ([(0, .pointer (some ⟨a0b, 0, none⟩)), (3, .int .i64 y1)]) a) ?_ ?_
 ·refine wr <| om hf rfl rfl fun a hf => om hf rfl rfl fun a hf => oR hf (nC hf rfl) rfl fun a hf => oR hf (rF hf rfl fd_111_2) rfl fun a hf => oR hf (rL hw hf rfl ty_4 0 rfl rfl) rfl fun a hf => om hf rfl rfl fun a hf => g_split hf (g := 11) rfl (fun hb18 hf => ?_) (fun hb18 hf => ?_)
  ·replace hp := cond_t hb18 hp
   refine oQ hf (g := 11) rfl fun a hf => oQ hf (g := 11) rfl fun a hf => oR hf (pT hf rfl rfl) rfl fun a hf => oR hf (nC hf rfl) rfl fun a hf => oR hf (rF hf rfl fd_111_2) rfl fun a hf => ?_
   obtain ⟨w, hrun19, hw⟩ := e_store (P := P) hw hf (x := .tmp 16) (y := .tmp 14) rfl rfl ty_4 0 rfl (vs := [.bool true]) (oE rfl) rfl (oC rfl ones_nil) (by simp [arrC_len]) (cs' := [.string y2, a0_p_lv, .bool true]) rfl
   dsimp only [List.set] at hw
   refine o_effU (hrun19 ..) <| oN <| ct ?_
   have ho := oI hp
   subst ho
   exact ⟨true, rfl, hw, hf.to ⟨rfl, rfl, trivial⟩⟩
  ·replace hp := cond_f hb18 hp
   refine oW hf (g := 11) rfl rfl <| om hf rfl rfl fun a hf => oW hf (g := 11) rfl rfl <| oR hf (iC hf rfl rfl rfl) rfl fun a hf => oR hf (pF hf rfl rfl) rfl fun a hf => oR hf (nC hf rfl) rfl fun a hf => oR hf (rF hf rfl fd_111_2) rfl fun a hf => ?_
   obtain ⟨w, hrun20, hw⟩ := e_store (P := P) hw hf (x := .tmp 16) (y := .tmp 14) rfl rfl ty_4 0 rfl (vs := [.bool (decide (y1 > 16))]) (oE rfl) rfl (oC rfl ones_nil) (by simp [arrC_len]) (cs' := [.string y2, a0_p_lv, .bool (decide (y1 > 16))]) rfl
   dsimp only [List.set] at hw
   refine o_effU (hrun20 ..) <| oN <| ct ?_
   have ho := oI hp
   subst ho
   exact ⟨(decide (y1 > 16)), rfl, hw, hf.to ⟨rfl, rfl, trivial⟩⟩
 ·intro a w hM
  obtain ⟨y15, rfl, hw, hf⟩ := hM
  replace hp := hq17
  refine wq <| wr <| om hf rfl rfl fun a hf => om hf rfl rfl fun a hf => ?_
  replace hw : Ok E I (.blk a0b (.cells ⟨[.string y2, a0_p_lv, .bool y15]⟩ 111 (0, 0)) :: .row a0_p_lv 70 20 a0_p_lm a0_p_lcs :: F) w := (hw.front (i := 1) rfl).front (i := 1) rfl
  obtain ⟨y25, hy24, hp⟩ := bS hp
  obtain ⟨y21, y22, y23⟩ := y25
  have hc26 := slot_reader_take_ok hw ha0_p_l hy24
  refine o_call hf cb_80 rfl rfl hc26 (fun v28 w a hK27 hf => ?_)
  obtain ⟨rfl, hw⟩ := hK27
  refine oa hf rfl rfl fun a hf => oN <| ct <| wp_ret ?_
  have ho := oI hp
  simp only [Prod.mk.injEq] at ho
  obtain ⟨rfl, rfl, rfl⟩ := ho
  exact b_ret1 hf results77 rfl ⟨_, rfl, ⟨rfl, hw⟩⟩

theorem slot_reader_two_ok {E : World} {I : IH} {F : List Atom} {w : World} {a0b : Nat} {a0_p_s : ByteArray} {a0_p_l : List Slot} {a0_p_lv : Value} {a0_p_lm : Nat} {a0_p_lcs : List Value} {a0_p_bad : Bool} {res0 : Int} {new_a0_p_s : ByteArray} {new_a0_p_bad : Bool} (hw : Ok E I (.blk a0b (.cells ⟨[Value.string a0_p_s, a0_p_lv, Value.bool a0_p_bad]⟩ 111 (0, 0)) :: .row a0_p_lv 70 20 a0_p_lm a0_p_lcs :: F) w) (ha0_p_l : RowR ek_Slot I a0_p_lcs a0_p_l) (hp : slot_reader_two.f a0_p_s a0_p_l a0_p_bad = some (res0, new_a0_p_s, new_a0_p_bad)) :
  Calls P 93 ⟨[Value.pointer (some ⟨a0b, 0, none⟩)]⟩ w fun e w' => ∃ v, e = .returned v ∧ v = Value.int .i64 res0 ∧ Ok E I (.blk a0b (.cells ⟨[Value.string new_a0_p_s, a0_p_lv, Value.bool new_a0_p_bad]⟩ 111 (0, 0)) :: .row a0_p_lv 70 20 a0_p_lm a0_p_lcs :: F) w' := by
 refine c_enter func93 rfl ntmps93 rfl fun a hf => ?_
 replace hf : Fr 11 [(0, .pointer (some ⟨a0b, 0, none⟩))] a := hf
 unfold slot_reader_two.f at hp
 refine wq <| wr <| oa hf rfl rfl fun a hf => oN <| ct <| wq <| wr <| om hf rfl rfl fun a hf => ?_
 replace hw : Ok E I (.blk a0b (.cells ⟨[.string a0_p_s, a0_p_lv, .bool a0_p_bad]⟩ 111 (0, 0)) :: .row a0_p_lv 70 20 a0_p_lm a0_p_lcs :: F) w := (hw.front (i := 1) rfl).front (i := 1) rfl
 obtain ⟨y5, hy4, hp⟩ := bS hp
 obtain ⟨y1, y2, y3⟩ := y5
 have hc6 := slot_reader_number_ok hw ha0_p_l hy4
 refine o_call hf cb_58 rfl rfl hc6 (fun v8 w a hK7 hf => ?_)
 obtain ⟨rfl, hw⟩ := hK7
 refine oR hf (r_shl hf rfl rfl (by decide)) rfl fun a hf => oa hf rfl rfl fun a hf => oN <| ct <| wq <| wr <| om hf rfl rfl fun a hf => om hf rfl rfl fun a hf => ?_
 replace hw : Ok E I (.blk a0b (.cells ⟨[.string y2, a0_p_lv, .bool y3]⟩ 111 (0, 0)) :: .row a0_p_lv 70 20 a0_p_lm a0_p_lcs :: F) w := (hw.front (i := 1) rfl).front (i := 1) rfl
 obtain ⟨y13, hy12, hp⟩ := bS hp
 obtain ⟨y9, y10, y11⟩ := y13
 have hc14 := slot_reader_number_ok hw ha0_p_l hy12
 refine o_call hf cb_58 rfl rfl hc14 (fun v16 w a hK15 hf => ?_)
 obtain ⟨rfl, hw⟩ := hK15
 refine oR hf (r_or hf rfl rfl) rfl fun a hf => oa hf rfl rfl fun a hf => oN <| ct <| wp_ret ?_
 have ho := oI hp
 simp only [Prod.mk.injEq] at ho
 obtain ⟨rfl, rfl, rfl⟩ := ho
 exact b_ret1 hf results93 rfl ⟨_, rfl, ⟨rfl, hw⟩⟩

theorem slot_reader_branch_ok {E : World} {I : IH} {F : List Atom} {w : World} {a0b : Nat} {a0_p_s : ByteArray} {a0_p_l : List Slot} {a0_p_lv : Value} {a0_p_lm : Nat} {a0_p_lcs : List Value} {a0_p_bad : Bool} {a1b : Nat} {a1_kind : Int} {a1_path : ByteArray} {a1_has : Bool} {a1_value : ByteArray} {a1_kids : Vector Int 16} {res0 : Int} {new_a0_p_s : ByteArray} {new_a0_p_bad : Bool} {new_a1_has : Bool} {new_a1_value : ByteArray} (hw : Ok E I (.blk a0b (.cells ⟨[Value.string a0_p_s, a0_p_lv, Value.bool a0_p_bad]⟩ 111 (0, 0)) :: .row a0_p_lv 70 20 a0_p_lm a0_p_lcs :: .blk a1b (.cells ⟨Value.int .i64 a1_kind :: Value.string a1_path :: Value.bool a1_has :: Value.string a1_value :: arrC .i64 a1_kids⟩ 70 (0, 0)) :: F) w) (ha0_p_l : RowR ek_Slot I a0_p_lcs a0_p_l) (hp : slot_reader_branch.f a0_p_s a0_p_l a0_p_bad a1_kind a1_path a1_has a1_value a1_kids = some (res0, new_a0_p_s, new_a0_p_bad, new_a1_has, new_a1_value)) :
  Calls P 78 ⟨[Value.pointer (some ⟨a0b, 0, none⟩), Value.pointer (some ⟨a1b, 0, none⟩)]⟩ w fun e w' => ∃ v, e = .returned v ∧ v = Value.int .i64 res0 ∧ Ok E I (.blk a0b (.cells ⟨[Value.string new_a0_p_s, a0_p_lv, Value.bool new_a0_p_bad]⟩ 111 (0, 0)) :: .row a0_p_lv 70 20 a0_p_lm a0_p_lcs :: .blk a1b (.cells ⟨Value.int .i64 a1_kind :: Value.string a1_path :: Value.bool new_a1_has :: Value.string new_a1_value :: arrC .i64 a1_kids⟩ 70 (0, 0)) :: F) w' := by
 refine c_enter func78 rfl ntmps78 rfl fun a hf => ?_
 replace hf : Fr 60 [(0, .pointer (some ⟨a0b, 0, none⟩)), (1, .pointer (some ⟨a1b, 0, none⟩))] a := hf
 unfold slot_reader_branch.f at hp
 refine wq <| wr <| oa hf rfl rfl fun a hf => oN <| ct <| wq <| wr <| om hf rfl rfl fun a hf => ?_
 replace hw : Ok E I (.blk a0b (.cells ⟨[.string a0_p_s, a0_p_lv, .bool a0_p_bad]⟩ 111 (0, 0)) :: .row a0_p_lv 70 20 a0_p_lm a0_p_lcs :: .blk a1b (.cells ⟨.int .i64 a1_kind :: .string a1_path :: .bool a1_has :: .string a1_value :: arrC .i64 a1_kids⟩ 70 (0, 0)) :: F) w := (hw.front (i := 1) rfl).front (i := 1) rfl
 obtain ⟨y5, hy4, hp⟩ := bS hp
 obtain ⟨y1, y2, y3⟩ := y5
 have hc6 := slot_reader_two_ok hw ha0_p_l hy4
 refine o_call hf cb_93 rfl rfl hc6 (fun v8 w a hK7 hf => ?_)
 obtain ⟨rfl, hw⟩ := hK7
 refine oa hf rfl rfl fun a hf => oN <| ct <| wq <| wr <| om hf rfl rfl fun a hf => ?_
 replace hw : Ok E I (.blk a0b (.cells ⟨[.string y2, a0_p_lv, .bool y3]⟩ 111 (0, 0)) :: .row a0_p_lv 70 20 a0_p_lm a0_p_lcs :: .blk a1b (.cells ⟨.int .i64 a1_kind :: .string a1_path :: .bool a1_has :: .string a1_value :: arrC .i64 a1_kids⟩ 70 (0, 0)) :: F) w := (hw.front (i := 1) rfl).front (i := 1) rfl
 obtain ⟨y13, hy12, hp⟩ := bS hp
 obtain ⟨y9, y10, y11⟩ := y13
 have hc14 := slot_reader_number_ok hw ha0_p_l hy12
 refine o_call hf cb_58 rfl rfl hc14 (fun v16 w a hK15 hf => ?_)
 obtain ⟨rfl, hw⟩ := hK15
 refine oa hf rfl rfl fun a hf => oN <| ct ?_
 obtain ⟨out24, hp, hq25⟩ := bS hp
 refine c_cut (fun a w => ∃ y23 : Bool, y23 = out24 ∧ Ok E I (.blk a0b (.cells ⟨[.string y10, a0_p_lv, .bool y23]⟩ 111 (0, 0)) :: .row a0_p_lv 70 20 a0_p_lm a0_p_lcs :: .blk a1b (.cells ⟨.int .i64 a1_kind :: .string a1_path :: .bool a1_has :: .string a1_value :: arrC .i64 a1_kids⟩ 70 (0, 0)) :: F) w ∧ Fr 60 ([(0, .pointer (some ⟨a0b, 0, none⟩)), (1, .pointer (some ⟨a1b, 0, none⟩)), (5, .int .i64 y1), (6, .int .i64 y9)]) a) ?_ ?_
 ·refine wr <| om hf rfl rfl fun a hf => om hf rfl rfl fun a hf => oR hf (nC hf rfl) rfl fun a hf => oR hf (rF hf rfl fd_111_2) rfl fun a hf => oR hf (rL hw hf rfl ty_4 0 rfl rfl) rfl fun a hf => om hf rfl rfl fun a hf => g_split hf (g := 17) rfl (fun hb26 hf => ?_) (fun hb26 hf => ?_)
  ·replace hp := cond_t hb26 hp
   refine oQ hf (g := 17) rfl fun a hf => oQ hf (g := 17) rfl fun a hf => oR hf (pT hf rfl rfl) rfl fun a hf => oR hf (nC hf rfl) rfl fun a hf => oR hf (rF hf rfl fd_111_2) rfl fun a hf => ?_
   obtain ⟨w, hrun27, hw⟩ := e_store (P := P) hw hf (x := .tmp 22) (y := .tmp 20) rfl rfl ty_4 0 rfl (vs := [.bool true]) (oE rfl) rfl (oC rfl ones_nil) (by simp [arrC_len]) (cs' := [.string y10, a0_p_lv, .bool true]) rfl
   dsimp only [List.set] at hw
   refine o_effU (hrun27 ..) <| oN <| ct ?_
   have ho := oI hp
   subst ho
   exact ⟨true, rfl, hw, hf.to ⟨rfl, rfl, rfl, rfl, trivial⟩⟩
  ·replace hp := cond_f hb26 hp
   refine oW hf (g := 17) rfl rfl <| om hf rfl rfl fun a hf => oW hf (g := 17) rfl rfl <| oR hf (iC hf rfl rfl rfl) rfl fun a hf => oR hf (pF hf rfl rfl) rfl fun a hf => oR hf (nC hf rfl) rfl fun a hf => oR hf (rF hf rfl fd_111_2) rfl fun a hf => ?_
   obtain ⟨w, hrun28, hw⟩ := e_store (P := P) hw hf (x := .tmp 22) (y := .tmp 20) rfl rfl ty_4 0 rfl (vs := [.bool (decide (y9 > 1))]) (oE rfl) rfl (oC rfl ones_nil) (by simp [arrC_len]) (cs' := [.string y10, a0_p_lv, .bool (decide (y9 > 1))]) rfl
   dsimp only [List.set] at hw
   refine o_effU (hrun28 ..) <| oN <| ct ?_
   have ho := oI hp
   subst ho
   exact ⟨(decide (y9 > 1)), rfl, hw, hf.to ⟨rfl, rfl, rfl, rfl, trivial⟩⟩
 ·intro a w hM
  obtain ⟨y23, rfl, hw, hf⟩ := hM
  replace hp := hq25
  obtain ⟨out55, hp, hq56⟩ := bS hp
  refine c_cut (fun a w => ∃ y51 : ByteArray, ∃ y52 : Bool, ∃ y53 : Bool, ∃ y54 : ByteArray, (y51, y52, y53, y54) = out55 ∧ Ok E I (.blk a0b (.cells ⟨[.string y51, a0_p_lv, .bool y52]⟩ 111 (0, 0)) :: .row a0_p_lv 70 20 a0_p_lm a0_p_lcs :: .blk a1b (.cells ⟨.int .i64 a1_kind :: .string a1_path :: .bool y53 :: .string y54 :: arrC .i64 a1_kids⟩ 70 (0, 0)) :: F) w ∧ Fr 60 ([(0, .pointer (some ⟨a0b, 0, none⟩)), (1, .pointer (some ⟨a1b, 0, none⟩)), (5, .int .i64 y1)]) a) ?_ ?_
  ·refine wq <| wr <| om hf rfl rfl fun a hf => oR hf (iC hf rfl rfl rfl) rfl fun a hf => oN <| ct <| cC hf rfl (fun hb57 => ?_) (fun hb57 => ?_)
   ·replace hp := cond_t hb57 hp
    refine wr <| om hf rfl rfl fun a hf => om hf rfl rfl fun a hf => om hf rfl rfl fun a hf => ?_
    replace hw : Ok E I (.blk a0b (.cells ⟨[.string y10, a0_p_lv, .bool y23]⟩ 111 (0, 0)) :: .row a0_p_lv 70 20 a0_p_lm a0_p_lcs :: .blk a1b (.cells ⟨.int .i64 a1_kind :: .string a1_path :: .bool a1_has :: .string a1_value :: arrC .i64 a1_kids⟩ 70 (0, 0)) :: F) w := (hw.front (i := 1) rfl).front (i := 1) rfl
    obtain ⟨y62, hy61, hp⟩ := bS hp
    obtain ⟨y58, y59, y60⟩ := y62
    have hc63 := slot_reader_value_ok hw ha0_p_l hy61
    refine o_call hf cb_77 rfl rfl hc63 (fun v65 w a hK64 hf => ?_)
    obtain ⟨rfl, hw⟩ := hK64
    refine oR hf (nC hf rfl) rfl fun a hf => oR hf (rF hf rfl fd_70_2) rfl fun a hf => ?_
    obtain ⟨w, hrun66, hw⟩ := e_store (P := P) hw hf (x := .tmp 30) (y := .const (Value.bool true)) rfl rfl ty_4 2 rfl (vs := [.bool true]) (oE rfl) rfl (oC rfl ones_nil) (by simp [arrC_len]) (cs' := (.int .i64 a1_kind :: .string a1_path :: .bool true :: .string a1_value :: arrC .i64 a1_kids)) rfl
    dsimp only [List.set] at hw
    refine o_effU (hrun66 ..) <| oR hf (nC hf rfl) rfl fun a hf => oR hf (rF hf rfl fd_70_3) rfl fun a hf => ?_
    obtain ⟨w, hrun67, hw⟩ := e_store (P := P) hw hf (x := .tmp 32) (y := .tmp 28) rfl rfl ty_9 2 rfl (vs := [.string y58]) (oE rfl) rfl (oC rfl ones_nil) (by simp [arrC_len]) (cs' := (.int .i64 a1_kind :: .string a1_path :: .bool true :: .string y58 :: arrC .i64 a1_kids)) rfl
    dsimp only [List.set] at hw
    refine o_effU (hrun67 ..) <| oN <| ct ?_
    have ho := oI hp
    subst ho
    exact ⟨y59, y60, true, y58, rfl, hw, hf.to ⟨rfl, rfl, rfl, trivial⟩⟩
   ·replace hp := cond_f hb57 hp
    refine wp_skip <| ct ?_
    have ho := oI hp
    subst ho
    exact ⟨y10, y23, a1_has, a1_value, rfl, hw, hf.to ⟨rfl, rfl, rfl, trivial⟩⟩
  ·intro a w hM
   obtain ⟨y51, y52, y53, y54, rfl, hw, hf⟩ := hM
   replace hp := hq56
   obtain ⟨out73, hp, hq74⟩ := bS hp
   refine c_cut (fun a w => ∃ y72 : Bool, y72 = out73 ∧ Ok E I (.blk a0b (.cells ⟨[.string y51, a0_p_lv, .bool y52]⟩ 111 (0, 0)) :: .row a0_p_lv 70 20 a0_p_lm a0_p_lcs :: .blk a1b (.cells ⟨.int .i64 a1_kind :: .string a1_path :: .bool y53 :: .string y54 :: arrC .i64 a1_kids⟩ 70 (0, 0)) :: F) w ∧ Fr 60 ([(0, .pointer (some ⟨a0b, 0, none⟩)), (5, .int .i64 y1), (7, .bool y72)]) a) ?_ ?_
   ·refine wr <| om hf rfl rfl fun a hf => om hf rfl rfl fun a hf => oR hf (r_sub hf rfl rfl) rfl fun a hf => oR hf (r_and hf rfl rfl) rfl fun a hf => oR hf (iC hf rfl rfl rfl) rfl fun a hf => om hf rfl rfl fun a hf => g_split hf (g := 38) rfl (fun hb75 hf => ?_) (fun hb75 hf => ?_)
    ·replace hp := cond_t hb75 hp
     refine oQ hf (g := 38) rfl fun a hf => oQ hf (g := 38) rfl fun a hf => oQ hf (g := 38) rfl fun a hf => o_skipU hf (g := 41) rfl rfl rfl rfl rfl fun a hf => o_skipU hf (g := 41) rfl rfl rfl rfl rfl fun a hf => o_skipU hf (g := 41) rfl rfl rfl rfl rfl fun a hf => o_skipU hf (g := 41) rfl rfl rfl rfl rfl fun a hf => oQ hf (g := 38) rfl fun a hf => oR hf (pT hf rfl rfl) rfl fun a hf => oa hf rfl rfl fun a hf => oN <| ct ?_
     have ho := oI hp
     subst ho
     exact ⟨true, rfl, hw, hf.to ⟨rfl, rfl, rfl, trivial⟩⟩
    ·replace hp := cond_f hb75 hp
     refine oW hf (g := 38) rfl rfl <| om hf rfl rfl fun a hf => oW hf (g := 38) rfl rfl <| oR hf (iC hf rfl rfl rfl) rfl fun a hf => oW hf (g := 38) rfl rfl <| om hf rfl rfl fun a hf => g_split hf (g := 41) rfl (fun hb76 hf => ?_) (fun hb76 hf => ?_)
     ·replace hp := cond_t hb76 hp
      refine oW hf (g := 41) rfl rfl <| om hf rfl rfl fun a hf => oW hf (g := 41) rfl rfl <| oR hf (nC hf rfl) rfl fun a hf => oW hf (g := 41) rfl rfl <| oR hf (rF hf rfl fd_70_2) rfl fun a hf => oW hf (g := 41) rfl rfl <| oR hf (rL hw hf rfl ty_4 2 rfl rfl) rfl fun a hf => oW hf (g := 38) rfl rfl <| oR hf (pT hf rfl rfl) rfl fun a hf => oR hf (pF hf rfl rfl) rfl fun a hf => oa hf rfl rfl fun a hf => oN <| ct ?_
      have ho := oI hp
      subst ho
      exact ⟨y53, rfl, hw, hf.to ⟨rfl, rfl, rfl, trivial⟩⟩
     ·replace hp := cond_f hb76 hp
      refine oQ hf (g := 41) rfl fun a hf => oQ hf (g := 41) rfl fun a hf => oQ hf (g := 41) rfl fun a hf => oQ hf (g := 41) rfl fun a hf => oW hf (g := 38) rfl rfl <| oR hf (pF hf rfl rfl) rfl fun a hf => oR hf (pF hf rfl rfl) rfl fun a hf => oa hf rfl rfl fun a hf => oN <| ct ?_
      have ho := oI hp
      subst ho
      exact ⟨false, rfl, hw, hf.to ⟨rfl, rfl, rfl, trivial⟩⟩
   ·intro a w hM
    obtain ⟨y72, rfl, hw, hf⟩ := hM
    replace hp := hq74
    obtain ⟨out84, hp, hq85⟩ := bS hp
    refine c_cut (fun a w => ∃ y83 : Bool, y83 = out84 ∧ Ok E I (.blk a0b (.cells ⟨[.string y51, a0_p_lv, .bool y83]⟩ 111 (0, 0)) :: .row a0_p_lv 70 20 a0_p_lm a0_p_lcs :: .blk a1b (.cells ⟨.int .i64 a1_kind :: .string a1_path :: .bool y53 :: .string y54 :: arrC .i64 a1_kids⟩ 70 (0, 0)) :: F) w ∧ Fr 60 ([(5, .int .i64 y1)]) a) ?_ ?_
    ·refine wr <| om hf rfl rfl fun a hf => om hf rfl rfl fun a hf => oR hf (nC hf rfl) rfl fun a hf => oR hf (rF hf rfl fd_111_2) rfl fun a hf => oR hf (rL hw hf rfl ty_4 0 rfl rfl) rfl fun a hf => om hf rfl rfl fun a hf => g_split hf (g := 53) rfl (fun hb86 hf => ?_) (fun hb86 hf => ?_)
     ·replace hp := cond_t hb86 hp
      refine oQ hf (g := 53) rfl fun a hf => oQ hf (g := 53) rfl fun a hf => oR hf (pT hf rfl rfl) rfl fun a hf => oR hf (nC hf rfl) rfl fun a hf => oR hf (rF hf rfl fd_111_2) rfl fun a hf => ?_
      obtain ⟨w, hrun87, hw⟩ := e_store (P := P) hw hf (x := .tmp 58) (y := .tmp 56) rfl rfl ty_4 0 rfl (vs := [.bool true]) (oE rfl) rfl (oC rfl ones_nil) (by simp [arrC_len]) (cs' := [.string y51, a0_p_lv, .bool true]) rfl
      dsimp only [List.set] at hw
      refine o_effU (hrun87 ..) <| oN <| ct ?_
      have ho := oI hp
      subst ho
      exact ⟨true, rfl, hw, hf.to ⟨rfl, trivial⟩⟩
     ·replace hp := cond_f hb86 hp
      refine oW hf (g := 53) rfl rfl <| om hf rfl rfl fun a hf => oW hf (g := 53) rfl rfl <| oR hf (r_not hf rfl) rfl fun a hf => oR hf (pF hf rfl rfl) rfl fun a hf => oR hf (nC hf rfl) rfl fun a hf => oR hf (rF hf rfl fd_111_2) rfl fun a hf => ?_
      obtain ⟨w, hrun88, hw⟩ := e_store (P := P) hw hf (x := .tmp 58) (y := .tmp 56) rfl rfl ty_4 0 rfl (vs := [.bool (!y72)]) (oE rfl) rfl (oC rfl ones_nil) (by simp [arrC_len]) (cs' := [.string y51, a0_p_lv, .bool (!y72)]) rfl
      dsimp only [List.set] at hw
      refine o_effU (hrun88 ..) <| oN <| ct ?_
      have ho := oI hp
      subst ho
      exact ⟨(!y72), rfl, hw, hf.to ⟨rfl, trivial⟩⟩
    ·intro a w hM
     obtain ⟨y83, rfl, hw, hf⟩ := hM
     replace hp := hq85
     refine wq <| wr <| om hf rfl rfl fun a hf => oa hf rfl rfl fun a hf => oN <| ct <| wp_ret ?_
     have ho := oI hp
     simp only [Prod.mk.injEq] at ho
     obtain ⟨rfl, rfl, rfl, rfl, rfl⟩ := ho
     exact b_ret1 hf results78 rfl ⟨_, rfl, ⟨rfl, hw⟩⟩
end Go.Lf
