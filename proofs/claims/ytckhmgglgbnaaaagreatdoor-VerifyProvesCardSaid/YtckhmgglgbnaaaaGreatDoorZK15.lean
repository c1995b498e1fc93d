import Derived.Test.YtckhmgglgbnaaaaGreatDoorZD
import Derived.Test.YtckhmgglgbnaaaaGreatDoorZF
import Derived.Test.YtckhmgglgbnaaaaGreatDoorJ
import Derived.Test.YtckhmgglgbnaaaaGreatDoorUB
import Derived.Test.YtckhmgglgbnaaaaGreatDoorZK12
import Derived.Test.YtckhmgglgbnaaaaGreatDoorZK13
import Derived.Test.YtckhmgglgbnaaaaGreatDoorZK14
set_option linter.unusedVariables false
set_option linter.unusedSimpArgs false
set_option maxHeartbeats 1000000
set_option maxRecDepth 20000
namespace Go.Lf
open Go Go.Proofs.Tryz
theorem node_Encode_ok {E : World} {I : IH} {F : List Atom} {w : World} {a0 : Item} {a0v150 : Value} {res0 : ByteArray} {res1 : Bool} (hw : Ok E I (F) w) (hG : Gl I) (hR151 : RS ekS I a0v150 a0.hashes_) (hp : node_Encode.f a0 = some (res0, res1)) :
  Calls P 35 ⟨[Value.agg ⟨[Value.int .i64 a0.kind_, Value.string a0.path_, Value.bool a0.has_, Value.string a0.value_, Value.int .i64 a0.mask_, a0v150]⟩]⟩ w fun e w' => ∃ v, e = .returned v ∧ v = Value.tuple ⟨[Value.string res0, Value.bool res1]⟩ ∧ Ok E I (F) w' := by
 refine c_enter func35 rfl ntmps35 rfl fun a hf => ?_
 replace hf : Fr 69 [(0, Value.agg ⟨[.int .i64 a0.kind_, .string a0.path_, .bool a0.has_, .string a0.value_, .int .i64 a0.mask_, a0v150]⟩)] a := hf
 unfold node_Encode.f at hp
 refine wq <| wr ?_
 obtain ⟨b1, w, hrun2, hw⟩ := e_box (P := P) hw hf (e := 86) (x := .tmp 0) rfl (cs := [Value.int .i64 a0.kind_, Value.string a0.path_, Value.bool a0.has_, Value.string a0.value_, Value.int .i64 a0.mask_, a0v150]) rfl
 refine o_eff hf (hrun2 ..) rfl fun a hf => oa hf rfl rfl fun a hf => oa hf rfl rfl fun a hf => oN <| ct <| wq <| wq <| wr <| oR hf (r_loadA hw hf rfl ty_86 0 rfl (vs := [.int .i64 a0.kind_, .string a0.path_, .bool a0.has_, .string a0.value_, .int .i64 a0.mask_, a0v150]) rfl rfl) rfl fun a hf => ?_
 obtain ⟨y208, hy209, hp⟩ := bS hp
 have hc211 := node_Good_ok hw hG hR151 hy209
 refine o_call hf cb_64 rfl rfl hc211 (fun v213 w a hK212 hf => ?_)
 obtain ⟨rfl, hw⟩ := hK212
 refine oR hf (r_not hf rfl) rfl fun a hf => oN <| ct <| cC hf rfl (fun hb214 => ?_) (fun hb214 => ?_)
 ·replace hp := cond_t hb214 hp
  refine wq <| wr <| oa hf rfl rfl fun a hf => oa hf rfl rfl fun a hf => oN <| ct <| wp_ret <| c_thenR ?_
  replace hw : Ok E I (F) w := hw.sub (sc sr)
  have ho := oI hp
  simp only [Prod.mk.injEq] at ho
  obtain ⟨rfl, rfl⟩ := ho
  exact b_ret2 hf results35 rfl rfl ⟨_, rfl, ⟨rfl, hw⟩⟩
 ·replace hp := cond_f hb214 hp
  refine wp_skip <| ct <| wq <| wr <| oR hf (rF hf rfl fd_86_0) rfl fun a hf => oR hf (rL hw hf rfl ty_3 0 rfl rfl) rfl fun a hf => oR hf (r_convI hf und_3 und_5 rfl) rfl fun a hf => ?_
  obtain ⟨w, v215, hrun216, hw, hRR217⟩ := e_buildSlice (P := P) (K := (ekI .u8)) (m := 1) hw hf (parts := [(0, .tmp 13)]) el_45 ty_5 rfl rfl rfl (ccs := [[Value.int .u8 (wu8 a0.kind_)]]) rfl (xs := [wu8 a0.kind_]) ⟨rfl, trivial⟩ rfl
  obtain ⟨cs218, hcs⟩ : ∃ cs, cs = ([[Value.int .u8 (wu8 a0.kind_)]] : List (List Value)).flatten := ⟨_, rfl⟩
  rw [← hcs] at hw hRR217; clear hcs
  refine o_eff hf (hrun216 ..) rfl fun a hf => oR hf (r_convB hf und_45 und_5 und_9 rfl (rR (K := (ekI .u8)) hw (i := 0) rfl hRR217)) rfl fun a hf => oa hf rfl rfl fun a hf => oN <| ct <| wq <| wr <| oR hf (rF hf rfl fd_86_1) rfl fun a hf => oR hf (rL hw hf rfl ty_9 1 rfl rfl) rfl fun a hf => ?_
  obtain ⟨y97, hy96, hp⟩ := bS hp
  obtain ⟨y94, y95⟩ := y97
  have hc98 := nibble_Pack_ok hw hG hy96
  refine o_call hf cb_65 rfl rfl hc98 (fun v100 w a hK99 hf => ?_)
  obtain ⟨rfl, hw⟩ := hK99
  refine om hf rfl rfl fun a hf => oR hf (rE hf rfl rfl) rfl fun a hf => oR hf (rE hf rfl rfl) rfl fun a hf => oa hf rfl rfl fun a hf => oa hf rfl rfl fun a hf => oN <| ct <| wq <| wr <| oR hf (rF hf rfl fd_86_5) rfl fun a hf => oR hf (rL hw hf rfl ty_28 1 rfl rfl) rfl fun a hf => ?_
  obtain ⟨y103, hy104, hp⟩ := bS hp
  have hc106 := strings_Join_ok hw hG hR151 hy104
  refine o_call hf cb_66 rfl rfl hc106 (fun v108 w a hK107 hf => ?_)
  obtain ⟨rfl, hw⟩ := hK107
  refine oa hf rfl rfl fun a hf => oN <| ct <| wq <| wq <| wr <| oR hf (rF hf rfl fd_86_0) rfl fun a hf => oR hf (rL hw hf rfl ty_3 1 rfl rfl) rfl fun a hf => oN <| ct <| wp_block <| wq <| wr <| oR hf (iC hf rfl rfl rfl) rfl fun a hf => oa hf rfl rfl fun a hf => oN ?_
  refine ct <| cC hf rfl (fun hb109 => ?_) (fun hb109 => ?_)
  ·replace hp := cond_t hb109 hp
   refine wq <| wr <| om hf rfl rfl fun a hf => om hf rfl rfl fun a hf => ?_
   obtain ⟨hg110, hp⟩ := gS hp
   refine oR hf (r_sadd hf rfl rfl hg110) rfl fun a hf => oR hf (rF hf rfl fd_86_3) rfl fun a hf => oR hf (rL hw hf rfl ty_9 1 rfl rfl) rfl fun a hf => ?_
   obtain ⟨y7, hy8, hp⟩ := bS hp
   have hc10 := node_value_ok hw hG hy8
   refine o_call hf cb_67 rfl rfl hc10 (fun v12 w a hK11 hf => ?_)
   obtain ⟨rfl, hw⟩ := hK11
   obtain ⟨hg13, hp⟩ := gS hp
   refine oR hf (r_sadd hf rfl rfl hg13) rfl fun a hf => oa hf rfl rfl fun a hf => oa hf rfl rfl fun a hf => oN <| ct <| wp_ret <| c_blockR <| c_thenR ?_
   replace hw : Ok E I (F) w := hw.sub (sc (sc sr))
   have ho := oI hp
   simp only [Prod.mk.injEq] at ho
   obtain ⟨rfl, rfl⟩ := ho
   exact b_ret2 hf results35 rfl rfl ⟨_, rfl, ⟨rfl, hw⟩⟩
  ·replace hp := cond_f hb109 hp
   refine wq <| wr <| oR hf (iC hf rfl rfl rfl) rfl fun a hf => oa hf rfl rfl fun a hf => oN <| ct <| cC hf rfl (fun hb14 => ?_) (fun hb14 => ?_)
   ·replace hp := cond_t hb14 hp
    refine wq <| wr <| om hf rfl rfl fun a hf => om hf rfl rfl fun a hf => ?_
    obtain ⟨hg15, hp⟩ := gS hp
    refine oR hf (r_sadd hf rfl rfl hg15) rfl fun a hf => om hf rfl rfl fun a hf => ?_
    obtain ⟨hg16, hp⟩ := gS hp
    refine oR hf (r_sadd hf rfl rfl hg16) rfl fun a hf => oa hf rfl rfl fun a hf => oa hf rfl rfl fun a hf => oN <| ct <| wp_ret <| c_blockR <| c_thenR ?_
    replace hw : Ok E I (F) w := hw.sub (sc (sc sr))
    have ho := oI hp
    simp only [Prod.mk.injEq] at ho
    obtain ⟨rfl, rfl⟩ := ho
    exact b_ret2 hf results35 rfl rfl ⟨_, rfl, ⟨rfl, hw⟩⟩
   ·replace hp := cond_f hb14 hp
    refine wp_skip <| c_blockN <| ct <| wq <| wr <| om hf rfl rfl fun a hf => oR hf (rF hf rfl fd_86_4) rfl fun a hf => oR hf (rL hw hf rfl ty_3 1 rfl rfl) rfl fun a hf => oR hf (r_shr hf rfl rfl (by decide)) rfl fun a hf => oR hf (r_convI hf und_3 und_5 rfl) rfl fun a hf => oR hf (rF hf rfl fd_86_4) rfl fun a hf => oR hf (rL hw hf rfl ty_3 1 rfl rfl) rfl fun a hf => oR hf (r_convI hf und_3 und_5 rfl) rfl fun a hf => ?_
    obtain ⟨w, v17, hrun18, hw, hRR19⟩ := e_buildSlice (P := P) (K := (ekI .u8)) (m := 2) hw hf (parts := [(0, .tmp 47), (1, .tmp 50)]) el_45 ty_5 rfl rfl rfl (ccs := [[Value.int .u8 (wu8 (shr .i64 a0.mask_ 8))], [Value.int .u8 (wu8 a0.mask_)]]) rfl (xs := [wu8 (shr .i64 a0.mask_ 8), wu8 a0.mask_]) ⟨rfl, rfl, trivial⟩ rfl
    obtain ⟨cs20, hcs⟩ : ∃ cs, cs = ([[Value.int .u8 (wu8 (shr .i64 a0.mask_ 8))], [Value.int .u8 (wu8 a0.mask_)]] : List (List Value)).flatten := ⟨_, rfl⟩
    rw [← hcs] at hw hRR19; clear hcs
    refine o_eff hf (hrun18 ..) rfl fun a hf => oR hf (r_convB hf und_45 und_5 und_9 rfl (rR (K := (ekI .u8)) hw (i := 0) rfl hRR19)) rfl fun a hf => ?_
    obtain ⟨hg22, hp⟩ := gS hp
    refine oR hf (r_sadd hf rfl rfl hg22) rfl fun a hf => oa hf rfl rfl fun a hf => oN <| ct <| wq <| wq <| wr <| oR hf (rF hf rfl fd_86_2) rfl fun a hf => oR hf (rL hw hf rfl ty_4 2 rfl rfl) rfl fun a hf => oR hf (r_not hf rfl) rfl fun a hf => oN <| ct <| cC hf rfl (fun hb23 => ?_) (fun hb23 => ?_)
    ·replace hp := cond_t hb23 hp
     refine wq <| wr <| om hf rfl rfl fun a hf => ?_
     obtain ⟨hg24, hp⟩ := gS hp
     refine oR hf (r_sadd hf rfl rfl hg24) rfl fun a hf => om hf rfl rfl fun a hf => ?_
     obtain ⟨hg25, hp⟩ := gS hp
     refine oR hf (r_sadd hf rfl rfl hg25) rfl fun a hf => oa hf rfl rfl fun a hf => oa hf rfl rfl fun a hf => oN <| ct <| wp_ret <| c_thenR ?_
     replace hw : Ok E I (F) w := hw.sub (sc (sc (sc sr)))
     have ho := oI hp
     simp only [Prod.mk.injEq] at ho
     obtain ⟨rfl, rfl⟩ := ho
     exact b_ret2 hf results35 rfl rfl ⟨_, rfl, ⟨rfl, hw⟩⟩
    ·replace hp := cond_f hb23 hp
     refine wp_skip <| ct <| wq <| wr <| om hf rfl rfl fun a hf => ?_
     obtain ⟨hg26, hp⟩ := gS hp
     refine oR hf (r_sadd hf rfl rfl hg26) rfl fun a hf => oR hf (rF hf rfl fd_86_3) rfl fun a hf => oR hf (rL hw hf rfl ty_9 2 rfl rfl) rfl fun a hf => ?_
     obtain ⟨y27, hy28, hp⟩ := bS hp
     have hc30 := node_value_ok hw hG hy28
     refine o_call hf cb_67 rfl rfl hc30 (fun v32 w a hK31 hf => ?_)
     obtain ⟨rfl, hw⟩ := hK31
     obtain ⟨hg33, hp⟩ := gS hp
     refine oR hf (r_sadd hf rfl rfl hg33) rfl fun a hf => om hf rfl rfl fun a hf => ?_
     obtain ⟨hg34, hp⟩ := gS hp
     refine oR hf (r_sadd hf rfl rfl hg34) rfl fun a hf => oa hf rfl rfl fun a hf => oa hf rfl rfl fun a hf => oN <| ct <| wp_ret ?_
     replace hw : Ok E I (F) w := hw.sub (sc (sc (sc sr)))
     have ho := oI hp
     simp only [Prod.mk.injEq] at ho
     obtain ⟨rfl, rfl⟩ := ho
     exact b_ret2 hf results35 rfl rfl ⟨_, rfl, ⟨rfl, hw⟩⟩

theorem node_Decode_ok {E : World} {I : IH} {F : List Atom} {w : World} {a0 : ByteArray} {res0 : Item} {res1 : Bool} (hw : Ok E I (F) w) (hG : Gl I) (hp : node_Decode.f a0 = some (res0, res1)) :
  Calls P 70 ⟨[Value.string a0]⟩ w fun e w' => ∃ v, e = .returned v ∧ ∃ I2 : IH, ∃ rvv185 : Value, v = Value.tuple ⟨[Value.agg ⟨[Value.int .i64 res0.kind_, Value.string res0.path_, Value.bool res0.has_, Value.string res0.value_, Value.int .i64 res0.mask_, rvv185]⟩, Value.bool res1]⟩ ∧ IH.le I I2 ∧ Ok E I2 (F) w' ∧ RS ekS I2 rvv185 res0.hashes_ := by
 refine c_enter func70 rfl ntmps70 rfl fun a hf => ?_
 replace hf : Fr 23 [(0, .string a0)] a := hf
 unfold node_Decode.f at hp
 refine wq <| wr ?_
 obtain ⟨b1, w, hrun2, hw⟩ := e_alloc (P := P) (a := a) hw ty_86
 refine o_eff hf (hrun2 ..) rfl fun a hf => oa hf rfl rfl fun a hf => oN <| ct <| wq <| wr <| om hf rfl rfl fun a hf => ?_
 obtain ⟨y137, hy138, hp⟩ := bS hp
 have hc140 := node_read_ok hw hG hy138
 refine o_call hf cb_104 rfl rfl hc140 (fun v144 w a hK141 hf => ?_)
 obtain ⟨I2_141, rvv142, rfl, hle145, hw, hR143⟩ := hK141
 replace hG := hG.mono hle145
 obtain ⟨b146, w, hrun147, hw⟩ := e_alloc (P := P) (a := a) hw ty_86
 replace hw : Ok E I2_141 (.blk b146 (.cells ⟨[.int .i64 0, .string e0, .bool false, .string e0, .int .i64 0, .slice none 0 0]⟩ 86 (0, 0)) :: .blk b1 (.cells ⟨[.int .i64 0, .string e0, .bool false, .string e0, .int .i64 0, .slice none 0 0]⟩ 86 (0, 0)) :: F) w := hw
 refine o_eff hf (hrun147 ..) rfl fun a hf => ?_
 obtain ⟨w, hrun149, hw⟩ := e_store (P := P) hw hf (x := .tmp 4) (y := .tmp 8) rfl rfl ty_86 0 rfl (vs := [.int .i64 y137.kind_, .string y137.path_, .bool y137.has_, .string y137.value_, .int .i64 y137.mask_, rvv142]) rfl rfl (oC rfl (oC rfl (oC rfl (oC rfl (oC rfl (oC hR143.one ones_nil)))))) (by simp [arrC_len]) (cs' := [.int .i64 y137.kind_, .string y137.path_, .bool y137.has_, .string y137.value_, .int .i64 y137.mask_, rvv142]) rfl
 replace hw : Ok E I2_141 (.blk b146 (.cells ⟨[.int .i64 y137.kind_, .string y137.path_, .bool y137.has_, .string y137.value_, .int .i64 y137.mask_, rvv142]⟩ 86 (0, 0)) :: .blk b1 (.cells ⟨[.int .i64 0, .string e0, .bool false, .string e0, .int .i64 0, .slice none 0 0]⟩ 86 (0, 0)) :: F) w := hw
 refine o_effU (hrun149 ..) <| oN <| ct <| wq <| wq <| wr <| oR hf (r_loadA hw hf rfl ty_86 0 rfl (vs := [.int .i64 y137.kind_, .string y137.path_, .bool y137.has_, .string y137.value_, .int .i64 y137.mask_, rvv142]) rfl rfl) rfl fun a hf => ?_
 obtain ⟨y53, hy52, hp⟩ := bS hp
 obtain ⟨y50, y51⟩ := y53
 have hc54 := node_Encode_ok hw hG hR143 hy52
 refine o_call hf cb_35 rfl rfl hc54 (fun v56 w a hK55 hf => ?_)
 obtain ⟨rfl, hw⟩ := hK55
 refine om hf rfl rfl fun a hf => oR hf (rE hf rfl rfl) rfl fun a hf => oR hf (rE hf rfl rfl) rfl fun a hf => oa hf rfl rfl fun a hf => oa hf rfl rfl fun a hf => oN <| ct ?_
 obtain ⟨out60, hp, hq61⟩ := bS hp
 refine c_cut (fun a w => ∃ y59 : Bool, y59 = out60 ∧ Ok E I2_141 (.blk b146 (.cells ⟨[.int .i64 y137.kind_, .string y137.path_, .bool y137.has_, .string y137.value_, .int .i64 y137.mask_, rvv142]⟩ 86 (0, 0)) :: .blk b1 (.cells ⟨[.int .i64 0, .string e0, .bool false, .string e0, .int .i64 0, .slice none 0 0]⟩ 86 (0, 0)) :: F) w ∧ Fr 23 ([(2, .pointer (some ⟨b1, 0, none⟩)), (4, .pointer (some ⟨b146, 0, none⟩)), (20, .bool y59)]) a) ?_ ?_
 ·refine wr <| om hf rfl rfl fun a hf => oR hf (r_not hf rfl) rfl fun a hf => om hf rfl rfl fun a hf => g_split hf (g := 16) rfl (fun hb62 hf => ?_) (fun hb62 hf => ?_)
  ·replace hp := cond_t hb62 hp
   refine oQ hf (g := 16) rfl fun a hf => oQ hf (g := 16) rfl fun a hf => oQ hf (g := 16) rfl fun a hf => oR hf (pT hf rfl rfl) rfl fun a hf => oN <| ct ?_
   have ho := oI hp
   subst ho
   exact ⟨true, rfl, hw, hf.to ⟨rfl, rfl, rfl, trivial⟩⟩
  ·replace hp := cond_f hb62 hp
   refine oW hf (g := 16) rfl rfl <| om hf rfl rfl fun a hf => oW hf (g := 16) rfl rfl <| om hf rfl rfl fun a hf => oW hf (g := 16) rfl rfl <| oR hf (r_scmp hf rfl rfl rfl) rfl fun a hf => oR hf (pF hf rfl rfl) rfl fun a hf => oN <| ct ?_
   have ho := oI hp
   subst ho
   exact ⟨(!(seq_ y50 a0)), rfl, hw, hf.to ⟨rfl, rfl, rfl, trivial⟩⟩
 ·intro a w hM
  obtain ⟨y59, rfl, hw, hf⟩ := hM
  replace hp := hq61
  refine cC hf rfl (fun hb63 => ?_) (fun hb63 => ?_)
  ·replace hp := cond_t hb63 hp
   refine wq <| wr <| oR hf (r_build hf bd_86 (vs := []) rfl trivial (by decide) (out := [.int .i64 0, .string e0, .bool false, .string e0, .int .i64 0, .slice none 0 0]) rfl) rfl fun a hf => ?_
   obtain ⟨w, hrun64, hw⟩ := e_store (P := P) hw hf (x := .tmp 2) (y := .tmp 21) rfl rfl ty_86 1 rfl (vs := [.int .i64 0, .string e0, .bool false, .string e0, .int .i64 0, .slice none 0 0]) rfl rfl (oC rfl (oC rfl (oC rfl (oC rfl (oC rfl (oC rfl ones_nil)))))) (by simp [arrC_len]) (cs' := [.int .i64 0, .string e0, .bool false, .string e0, .int .i64 0, .slice none 0 0]) rfl
   replace hw : Ok E I2_141 (.blk b146 (.cells ⟨[.int .i64 y137.kind_, .string y137.path_, .bool y137.has_, .string y137.value_, .int .i64 y137.mask_, rvv142]⟩ 86 (0, 0)) :: .blk b1 (.cells ⟨[.int .i64 0, .string e0, .bool false, .string e0, .int .i64 0, .slice none 0 0]⟩ 86 (0, 0)) :: F) w := hw
   refine o_effU (hrun64 ..) <| oa hf rfl rfl fun a hf => oN <| ct <| wp_ret <| c_thenR ?_
   replace hw : Ok E I2_141 (.blk b1 (.cells ⟨[.int .i64 0, .string e0, .bool false, .string e0, .int .i64 0, .slice none 0 0]⟩ 86 (0, 0)) :: F) w := hw.sub (sc (scc sr))
   have ho := oI hp
   simp only [Prod.mk.injEq] at ho
   obtain ⟨rfl, rfl⟩ := ho
   exact b_retC2 hw hf results70 ty_86 rfl 0 rfl (vs := [.int .i64 0, .string e0, .bool false, .string e0, .int .i64 0, .slice none 0 0]) rfl rfl rfl ⟨_, rfl, ⟨I2_141, (Value.slice none 0 0), rfl, hle145, hw.tail, RS.nil⟩⟩
  ·replace hp := cond_f hb63 hp
   refine wp_skip <| ct <| wq <| wr <| oR hf (r_loadA hw hf rfl ty_86 0 rfl (vs := [.int .i64 y137.kind_, .string y137.path_, .bool y137.has_, .string y137.value_, .int .i64 y137.mask_, rvv142]) rfl rfl) rfl fun a hf => ?_
   obtain ⟨w, hrun65, hw⟩ := e_store (P := P) hw hf (x := .tmp 2) (y := .tmp 22) rfl rfl ty_86 1 rfl (vs := [.int .i64 y137.kind_, .string y137.path_, .bool y137.has_, .string y137.value_, .int .i64 y137.mask_, rvv142]) rfl rfl (oC rfl (oC rfl (oC rfl (oC rfl (oC rfl (oC hR143.one ones_nil)))))) (by simp [arrC_len]) (cs' := [.int .i64 y137.kind_, .string y137.path_, .bool y137.has_, .string y137.value_, .int .i64 y137.mask_, rvv142]) rfl
   replace hw : Ok E I2_141 (.blk b146 (.cells ⟨[.int .i64 y137.kind_, .string y137.path_, .bool y137.has_, .string y137.value_, .int .i64 y137.mask_, rvv142]⟩ 86 (0, 0)) :: .blk b1 (.cells ⟨[.int .i64 y137.kind_, .string y137.path_, .bool y137.has_, .string y137.value_, .int .i64 y137.mask_, rvv142]⟩ 86 (0, 0)) :: F) w := hw
   refine o_effU (hrun65 ..) <| oa hf rfl rfl fun a hf => oN <| ct <| wp_ret ?_
   replace hw : Ok E I2_141 (.blk b1 (.cells ⟨[.int .i64 y137.kind_, .string y137.path_, .bool y137.has_, .string y137.value_, .int .i64 y137.mask_, rvv142]⟩ 86 (0, 0)) :: F) w := hw.sub (sc (scc sr))
   have ho := oI hp
   simp only [Prod.mk.injEq] at ho
   obtain ⟨rfl, rfl⟩ := ho
   exact b_retC2 hw hf results70 ty_86 rfl 0 rfl (vs := [.int .i64 y137.kind_, .string y137.path_, .bool y137.has_, .string y137.value_, .int .i64 y137.mask_, rvv142]) rfl rfl rfl ⟨_, rfl, ⟨I2_141, rvv142, rfl, hle145, hw.tail, hR143⟩⟩

theorem internal_stringslite_HasPrefix_ok {E : World} {I : IH} {F : List Atom} {w : World} {a0 : ByteArray} {a1 : ByteArray} {res0 : Bool} (hw : Ok E I (F) w) (hG : Gl I) (hp : internal_stringslite_HasPrefix.f a0 a1 = some res0) :
  Calls P 184 ⟨[Value.string a0, Value.string a1]⟩ w fun e w' => ∃ v, e = .returned v ∧ v = Value.bool res0 ∧ Ok E I (F) w' := by
 refine c_enter func184 rfl ntmps184 rfl fun a hf => ?_
 replace hf : Fr 18 [(0, .string a0), (1, .string a1)] a := hf
 unfold internal_stringslite_HasPrefix.f at hp
 refine wq <| wr <| oa hf rfl rfl fun a hf => oN <| ct ?_
 obtain ⟨out6, hp, hq7⟩ := bS hp
 refine c_cut (fun a w => ∃ y5 : Bool, y5 = out6 ∧ Ok E I (F) w ∧ Fr 18 ([(4, .bool y5)]) a) ?_ ?_
 ·refine wr <| om hf rfl rfl fun a hf => oR hf (r_lenS hf und_9 rfl) rfl fun a hf => om hf rfl rfl fun a hf => oR hf (r_lenS hf und_9 rfl) rfl fun a hf => oR hf (iC hf rfl rfl rfl) rfl fun a hf => om hf rfl rfl fun a hf => g_split hf (g := 10) rfl (fun hb8 hf => ?_) (fun hb8 hf => ?_)
  ·replace hp := cond_t hb8 hp
   refine oW hf (g := 10) rfl rfl <| om hf rfl rfl fun a hf => oW hf (g := 10) rfl rfl <| om hf rfl rfl fun a hf => oW hf (g := 10) rfl rfl <| oR hf (r_lenS hf und_9 rfl) rfl fun a hf => ?_
   obtain ⟨hg9, hp⟩ := gS hp
   refine oW hf (g := 10) rfl rfl <| oR hf (r_sliceSh hf und_9 rfl rfl hg9) rfl fun a hf => oW hf (g := 10) rfl rfl <| om hf rfl rfl fun a hf => oW hf (g := 10) rfl rfl <| oR hf (r_scmp hf rfl rfl rfl) rfl fun a hf => oR hf (pT hf rfl rfl) rfl fun a hf => oa hf rfl rfl fun a hf => oN <| ct ?_
   have ho := oI hp
   subst ho
   exact ⟨(seq_ (sub a0 0 (a1.size : Int)) a1), rfl, hw, hf.to ⟨rfl, trivial⟩⟩
  ·replace hp := cond_f hb8 hp
   refine oQ hf (g := 10) rfl fun a hf => oQ hf (g := 10) rfl fun a hf => oQ hf (g := 10) rfl fun a hf => oQ hf (g := 10) rfl fun a hf => oQ hf (g := 10) rfl fun a hf => oQ hf (g := 10) rfl fun a hf => oR hf (pF hf rfl rfl) rfl fun a hf => oa hf rfl rfl fun a hf => oN <| ct ?_
   have ho := oI hp
   subst ho
   exact ⟨false, rfl, hw, hf.to ⟨rfl, trivial⟩⟩
 ·intro a w hM
  obtain ⟨y5, rfl, hw, hf⟩ := hM
  replace hp := hq7
  refine wp_ret ?_
  have ho := oI hp
  subst ho
  exact b_ret1 hf results184 rfl ⟨_, rfl, ⟨rfl, hw⟩⟩

theorem internal_stringslite_CutPrefix_ok {E : World} {I : IH} {F : List Atom} {w : World} {a0 : ByteArray} {a1 : ByteArray} {res0 : ByteArray} {res1 : Bool} (hw : Ok E I (F) w) (hG : Gl I) (hp : internal_stringslite_CutPrefix.f a0 a1 = some (res0, res1)) :
  Calls P 144 ⟨[Value.string a0, Value.string a1]⟩ w fun e w' => ∃ v, e = .returned v ∧ v = Value.tuple ⟨[Value.string res0, Value.bool res1]⟩ ∧ Ok E I (F) w' := by
 refine c_enter func144 rfl ntmps144 rfl fun a hf => ?_
 replace hf : Fr 15 [(0, .string a0), (1, .string a1)] a := hf
 unfold internal_stringslite_CutPrefix.f at hp
 refine wq <| wr <| oa hf rfl rfl fun a hf => oa hf rfl rfl fun a hf => oN <| ct <| wq <| wq <| wr <| om hf rfl rfl fun a hf => om hf rfl rfl fun a hf => ?_
 obtain ⟨y10, hy11, hp⟩ := bS hp
 have hc13 := internal_stringslite_HasPrefix_ok hw hG hy11
 refine o_call hf cb_184 rfl rfl hc13 (fun v15 w a hK14 hf => ?_)
 obtain ⟨rfl, hw⟩ := hK14
 refine oR hf (r_not hf rfl) rfl fun a hf => oN <| ct <| cC hf rfl (fun hb16 => ?_) (fun hb16 => ?_)
 ·replace hp := cond_t hb16 hp
  refine wq <| wr <| om hf rfl rfl fun a hf => oa hf rfl rfl fun a hf => oa hf rfl rfl fun a hf => oN <| ct <| wp_ret <| c_thenR ?_
  have ho := oI hp
  simp only [Prod.mk.injEq] at ho
  obtain ⟨rfl, rfl⟩ := ho
  exact b_ret2 hf results144 rfl rfl ⟨_, rfl, ⟨rfl, hw⟩⟩
 ·replace hp := cond_f hb16 hp
  refine wp_skip <| ct <| wq <| wr <| om hf rfl rfl fun a hf => om hf rfl rfl fun a hf => oR hf (r_lenS hf und_9 rfl) rfl fun a hf => ?_
  obtain ⟨hg17, hp⟩ := gS hp
  refine oR hf (r_sliceSl hf und_9 rfl rfl hg17) rfl fun a hf => oa hf rfl rfl fun a hf => oa hf rfl rfl fun a hf => oN <| ct <| wp_ret ?_
  have ho := oI hp
  simp only [Prod.mk.injEq] at ho
  obtain ⟨rfl, rfl⟩ := ho
  exact b_ret2 hf results144 rfl rfl ⟨_, rfl, ⟨rfl, hw⟩⟩

theorem strings_CutPrefix_ok {E : World} {I : IH} {F : List Atom} {w : World} {a0 : ByteArray} {a1 : ByteArray} {res0 : ByteArray} {res1 : Bool} (hw : Ok E I (F) w) (hG : Gl I) (hp : strings_CutPrefix.f a0 a1 = some (res0, res1)) :
  Calls P 105 ⟨[Value.string a0, Value.string a1]⟩ w fun e w' => ∃ v, e = .returned v ∧ v = Value.tuple ⟨[Value.string res0, Value.bool res1]⟩ ∧ Ok E I (F) w' := by
 refine c_enter func105 rfl ntmps105 rfl fun a hf => ?_
 replace hf : Fr 11 [(0, .string a0), (1, .string a1)] a := hf
 unfold strings_CutPrefix.f at hp
 refine wq <| wr <| oa hf rfl rfl fun a hf => oa hf rfl rfl fun a hf => oN <| ct <| wq <| wr <| om hf rfl rfl fun a hf => om hf rfl rfl fun a hf => ?_
 obtain ⟨y21, hy20, hp⟩ := bS hp
 obtain ⟨y18, y19⟩ := y21
 have hc22 := internal_stringslite_CutPrefix_ok hw hG hy20
 refine o_call hf cb_144 rfl rfl hc22 (fun v24 w a hK23 hf => ?_)
 obtain ⟨rfl, hw⟩ := hK23
 refine oR hf (rE hf rfl rfl) rfl fun a hf => oR hf (rE hf rfl rfl) rfl fun a hf => oa hf rfl rfl fun a hf => oa hf rfl rfl fun a hf => oN <| ct <| wp_ret ?_
 have ho := oI hp
 simp only [Prod.mk.injEq] at ho
 obtain ⟨rfl, rfl⟩ := ho
 exact b_ret2 hf results105 rfl rfl ⟨_, rfl, ⟨rfl, hw⟩⟩

theorem verify_over_ok {E : World} {I : IH} {F : List Atom} {w : World} {a0 : Answer} {res0 : verify_state_T} (hw : Ok E I (F) w) (hG : Gl I) (hp : verify_over.f a0 = some res0) :
  Calls P 106 ⟨[Value.agg ⟨[Value.bool a0.has_, Value.string a0.value_]⟩]⟩ w fun e w' => ∃ v, e = .returned v ∧ v = Value.agg ⟨[Value.string res0.p_left_, Value.string res0.p_hash_, Value.bool res0.p_over_, Value.bool res0.p_answer_.has_, Value.string res0.p_answer_.value_]⟩ ∧ Ok E I (F) w' := by
 refine c_enter func106 rfl ntmps106 rfl fun a hf => ?_
 replace hf : Fr 5 [(0, Value.agg ⟨[.bool a0.has_, .string a0.value_]⟩)] a := hf
 unfold verify_over.f at hp
 refine wq <| wr ?_
 obtain ⟨b1, w, hrun2, hw⟩ := e_box (P := P) hw hf (e := 36) (x := .tmp 0) rfl (cs := [Value.bool a0.has_, Value.string a0.value_]) rfl
 refine o_eff hf (hrun2 ..) rfl fun a hf => ?_
 obtain ⟨b4, w, hrun5, hw⟩ := e_alloc (P := P) (a := a) hw ty_92
 refine o_eff hf (hrun5 ..) rfl fun a hf => oN <| ct <| wq <| wr <| oR hf (r_loadA hw hf rfl ty_36 1 rfl (vs := [.bool a0.has_, .string a0.value_]) rfl rfl) rfl fun a hf => oR hf (r_buildA hf bd_92 (vs := [.bool true, Value.agg ⟨[.bool a0.has_, .string a0.value_]⟩]) rfl (ccs := [[Value.bool true], [Value.bool a0.has_, Value.string a0.value_]]) rfl (by decide) (out := [.string e0, .string e0, .bool true, .bool a0.has_, .string a0.value_]) rfl) rfl fun a hf => ?_
 obtain ⟨w, hrun7, hw⟩ := e_store (P := P) hw hf (x := .tmp 2) (y := .tmp 4) rfl rfl ty_92 0 rfl (vs := [.string e0, .string e0, .bool true, .bool a0.has_, .string a0.value_]) rfl rfl (oC rfl (oC rfl (oC rfl (oC rfl (oC rfl ones_nil))))) (by simp [arrC_len]) (cs' := [.string e0, .string e0, .bool true, .bool a0.has_, .string a0.value_]) rfl
 dsimp only [List.set] at hw
 refine o_effU (hrun7 ..) <| oN <| ct <| wp_ret ?_
 replace hw : Ok E I (.blk b4 (.cells ⟨[.string e0, .string e0, .bool true, .bool a0.has_, .string a0.value_]⟩ 92 (0, 0)) :: F) w := hw.sub (scc (sc sr))
 have ho := oI hp
 subst ho
 exact b_retC hw hf results106 ty_92 rfl 0 rfl (vs := [.string e0, .string e0, .bool true, .bool a0.has_, .string a0.value_]) rfl rfl ⟨_, rfl, ⟨rfl, hw.tail⟩⟩

theorem verify_kid_ok {E : World} {I : IH} {F : List Atom} {w : World} {a0 : Item} {a0v35 : Value} {a1 : Int} {res0 : ByteArray} {res1 : Bool} (hw : Ok E I (F) w) (hG : Gl I) (hR36 : RS ekS I a0v35 a0.hashes_) (hp : verify_kid.f a0 a1 = some (res0, res1)) :
  Calls P 107 ⟨[Value.agg ⟨[Value.int .i64 a0.kind_, Value.string a0.path_, Value.bool a0.has_, Value.string a0.value_, Value.int .i64 a0.mask_, a0v35]⟩, Value.int .u8 a1]⟩ w fun e w' => ∃ v, e = .returned v ∧ v = Value.tuple ⟨[Value.string res0, Value.bool res1]⟩ ∧ Ok E I (F) w' := by
 refine c_enter func107 rfl ntmps107 rfl fun a hf => ?_
 replace hf : Fr 24 [(0, Value.agg ⟨[.int .i64 a0.kind_, .string a0.path_, .bool a0.has_, .string a0.value_, .int .i64 a0.mask_, a0v35]⟩), (1, .int .u8 a1)] a := hf
 unfold verify_kid.f at hp
 refine wq <| wr ?_
 obtain ⟨b1, w, hrun2, hw⟩ := e_box (P := P) hw hf (e := 86) (x := .tmp 0) rfl (cs := [Value.int .i64 a0.kind_, Value.string a0.path_, Value.bool a0.has_, Value.string a0.value_, Value.int .i64 a0.mask_, a0v35]) rfl
 refine o_eff hf (hrun2 ..) rfl fun a hf => oa hf rfl rfl fun a hf => oa hf rfl rfl fun a hf => oN <| ct <| wq <| wq <| wr <| oR hf (rF hf rfl fd_86_4) rfl fun a hf => oR hf (rL hw hf rfl ty_3 0 rfl rfl) rfl fun a hf => om hf rfl rfl fun a hf => ?_
 obtain ⟨hg4, hp⟩ := gS hp
 refine oR hf (r_shr hf rfl rfl hg4) rfl fun a hf => oR hf (r_and hf rfl rfl) rfl fun a hf => oR hf (iC hf rfl rfl rfl) rfl fun a hf => oN <| ct <| cC hf rfl (fun hb5 => ?_) (fun hb5 => ?_)
 ·replace hp := cond_t hb5 hp
  refine wq <| wr <| oa hf rfl rfl fun a hf => oa hf rfl rfl fun a hf => oN <| ct <| wp_ret <| c_thenR ?_
  replace hw : Ok E I (F) w := hw.sub (sc sr)
  have ho := oI hp
  simp only [Prod.mk.injEq] at ho
  obtain ⟨rfl, rfl⟩ := ho
  exact b_ret2 hf results107 rfl rfl ⟨_, rfl, ⟨rfl, hw⟩⟩
 ·replace hp := cond_f hb5 hp
  refine wp_skip <| ct <| wq <| c_drawn mix [] (.rd 0 (.rd 1 (.rd 2 (.rd 3 (.rd 4 (.rd 5 (.rd 6 (.rd 7 (.rd 8 (.ef 9 (.rd 10 (.rd 11 (.rd 12 (.rd 13 .done)))))))))))))) (by kernel_rfl) hw (fun w => Ok E I (.blk b1 (.cells ⟨[.int .i64 a0.kind_, .string a0.path_, .bool a0.has_, .string a0.value_, .int .i64 a0.mask_, a0v35]⟩ 86 (0, 0)) :: F) w) (fun w hw => ⟨hw.sub (scc sr), ?_⟩)
  refine tR rfl hf (fun w hw => rF hf rfl fd_86_5) rfl fun a hf => tR rfl hf (fun w hw => rL hw hf rfl ty_28 0 rfl rfl) rfl fun a hf => tR rfl hf (fun w hw => rF hf rfl fd_86_4) rfl fun a hf => tR rfl hf (fun w hw => rL hw hf rfl ty_3 0 rfl rfl) rfl fun a hf => tR rfl hf (fun w hw => r_convI hf und_3 und_160 rfl) rfl fun a hf => tm rfl hf rfl rfl fun a hf => ?_
  obtain ⟨hg7, hp⟩ := gS hp
  refine tR rfl hf (fun w hw => r_shl hf rfl rfl hg7) rfl fun a hf => tR rfl hf (fun w hw => r_sub hf rfl rfl) rfl fun a hf => tR rfl hf (fun w hw => r_and hf rfl rfl) rfl fun a hf => t_ef rfl ?_
  obtain ⟨y8, hy9, hp⟩ := bS hp
  have hc11 := math_bits_OnesCount_ok hw hG hy9
  refine t_call hf cb_133 rfl rfl hc11 (fun v13 w a hK12 hf => ?_)
  obtain ⟨rfl, hw⟩ := hK12
  refine ⟨.inr (hw.back (IH.le_refl _) (scc sr)), ?_⟩
  obtain ⟨hg14, hp⟩ := gS hp
  refine tR rfl hf (fun w hw => rI (K := ekS) hf el_28 rfl rfl (hR36.rd hw) hg14) rfl fun a hf => tR rfl hf (fun w hw => r_loadH (K := ekS) hf rfl ty_9 (hR36.rd hw) hg14 rfl (fun cs h => ekS_f0 h)) rfl fun a hf => tR rfl hf (fun w hw => r_assign hf rfl) rfl fun a hf => tR rfl hf (fun w hw => r_assign hf rfl) rfl fun a hf => t_done <| ct <| wp_ret ?_
  replace hw : Ok E I (F) w := hw.sub (sc sr)
  have ho := oI hp
  simp only [Prod.mk.injEq] at ho
  obtain ⟨rfl, rfl⟩ := ho
  exact b_ret2 hf results107 rfl rfl ⟨_, rfl, ⟨rfl, hw⟩⟩

theorem verify_state_by_ok {E : World} {I : IH} {F : List Atom} {w : World} {a0 : verify_state_T} {a1 : Item} {a1v144 : Value} {res0 : verify_state_T} (hw : Ok E I (F) w) (hG : Gl I) (hR145 : RS ekS I a1v144 a1.hashes_) (hp : verify_state_by.f a0 a1 = some res0) :
  Calls P 71 ⟨[Value.agg ⟨[Value.string a0.p_left_, Value.string a0.p_hash_, Value.bool a0.p_over_, Value.bool a0.p_answer_.has_, Value.string a0.p_answer_.value_]⟩, Value.agg ⟨[Value.int .i64 a1.kind_, Value.string a1.path_, Value.bool a1.has_, Value.string a1.value_, Value.int .i64 a1.mask_, a1v144]⟩]⟩ w fun e w' => ∃ v, e = .returned v ∧ v = Value.agg ⟨[Value.string res0.p_left_, Value.string res0.p_hash_, Value.bool res0.p_over_, Value.bool res0.p_answer_.has_, Value.string res0.p_answer_.value_]⟩ ∧ Ok E I (F) w' := by
 refine c_enter func71 rfl ntmps71 rfl fun a hf => ?_
 replace hf : Fr 66 [(0, Value.agg ⟨[.string a0.p_left_, .string a0.p_hash_, .bool a0.p_over_, .bool a0.p_answer_.has_, .string a0.p_answer_.value_]⟩), (1, Value.agg ⟨[.int .i64 a1.kind_, .string a1.path_, .bool a1.has_, .string a1.value_, .int .i64 a1.mask_, a1v144]⟩)] a := hf
 unfold verify_state_by.f at hp
 refine wq <| wr ?_
 obtain ⟨b1, w, hrun2, hw⟩ := e_box (P := P) hw hf (e := 92) (x := .tmp 0) rfl (cs := [Value.string a0.p_left_, Value.string a0.p_hash_, Value.bool a0.p_over_, Value.bool a0.p_answer_.has_, Value.string a0.p_answer_.value_]) rfl
 refine o_eff hf (hrun2 ..) rfl fun a hf => ?_
 obtain ⟨b4, w, hrun5, hw⟩ := e_box (P := P) hw hf (e := 86) (x := .tmp 1) rfl (cs := [Value.int .i64 a1.kind_, Value.string a1.path_, Value.bool a1.has_, Value.string a1.value_, Value.int .i64 a1.mask_, a1v144]) rfl
 refine o_eff hf (hrun5 ..) rfl fun a hf => ?_
 obtain ⟨b7, w, hrun8, hw⟩ := e_alloc (P := P) (a := a) hw ty_92
 refine o_eff hf (hrun8 ..) rfl fun a hf => oN <| ct <| wq <| wp_block <| wq <| wr <| oR hf (rF hf rfl fd_86_0) rfl fun a hf => oR hf (rL hw hf rfl ty_3 1 rfl rfl) rfl fun a hf => oR hf (iC hf rfl rfl rfl) rfl fun a hf => oa hf rfl rfl fun a hf => oN <| ct <| cC hf rfl (fun hb10 => ?_) (fun hb10 => ?_)
 ·replace hp := cond_t hb10 hp
  refine wq <| wr <| oR hf (rF hf rfl fd_92_0) rfl fun a hf => oR hf (rL hw hf rfl ty_9 2 rfl rfl) rfl fun a hf => oR hf (rF hf rfl fd_86_1) rfl fun a hf => oR hf (rL hw hf rfl ty_9 1 rfl rfl) rfl fun a hf => ?_
  obtain ⟨y28, hy27, hp⟩ := bS hp
  obtain ⟨y25, y26⟩ := y28
  have hc29 := strings_CutPrefix_ok hw hG hy27
  refine o_call hf cb_105 rfl rfl hc29 (fun v31 w a hK30 hf => ?_)
  obtain ⟨rfl, hw⟩ := hK30
  refine om hf rfl rfl fun a hf => oR hf (rE hf rfl rfl) rfl fun a hf => oR hf (rE hf rfl rfl) rfl fun a hf => oa hf rfl rfl fun a hf => oa hf rfl rfl fun a hf => oN <| ct <| wq <| wq <| wr <| om hf rfl rfl fun a hf => oR hf (r_not hf rfl) rfl fun a hf => oN <| ct <| cC hf rfl (fun hb32 => ?_) (fun hb32 => ?_)
  ·replace hp := cond_t hb32 hp
   refine wq <| wr <| oR hf (r_build hf bd_36 (vs := []) rfl trivial (by decide) (out := [.bool false, .string e0]) rfl) rfl fun a hf => ?_
   obtain ⟨y8, hy9, hp⟩ := bS hp
   have hc11 := verify_over_ok hw hG hy9
   refine o_call hf cb_106 rfl rfl hc11 (fun v13 w a hK12 hf => ?_)
   obtain ⟨rfl, hw⟩ := hK12
   obtain ⟨w, hrun14, hw⟩ := e_store (P := P) hw hf (x := .tmp 4) (y := .tmp 24) rfl rfl ty_92 0 rfl (vs := [.string y8.p_left_, .string y8.p_hash_, .bool y8.p_over_, .bool y8.p_answer_.has_, .string y8.p_answer_.value_]) rfl rfl (oC rfl (oC rfl (oC rfl (oC rfl (oC rfl ones_nil))))) (by simp [arrC_len]) (cs' := [.string y8.p_left_, .string y8.p_hash_, .bool y8.p_over_, .bool y8.p_answer_.has_, .string y8.p_answer_.value_]) rfl
   dsimp only [List.set] at hw
   refine o_effU (hrun14 ..) <| oN <| ct <| wp_ret <| c_thenR <| c_blockR <| c_thenR ?_
   replace hw : Ok E I (.blk b7 (.cells ⟨[.string y8.p_left_, .string y8.p_hash_, .bool y8.p_over_, .bool y8.p_answer_.has_, .string y8.p_answer_.value_]⟩ 92 (0, 0)) :: F) w := hw.sub (scc (sc (sc sr)))
   have ho := oI hp
   subst ho
   exact b_retC hw hf results71 ty_92 rfl 0 rfl (vs := [.string y8.p_left_, .string y8.p_hash_, .bool y8.p_over_, .bool y8.p_answer_.has_, .string y8.p_answer_.value_]) rfl rfl ⟨_, rfl, ⟨rfl, hw.tail⟩⟩
  ·replace hp := cond_f hb32 hp
   refine wp_skip <| ct <| wq <| wr <| om hf rfl rfl fun a hf => oR hf (rF hf rfl fd_86_5) rfl fun a hf => oR hf (rL hw hf rfl ty_28 1 rfl rfl) rfl fun a hf => ?_
   obtain ⟨hg15, hp⟩ := gS hp
   refine oR hf (rI (K := ekS) hf el_28 rfl rfl (hR145.rd hw) hg15) rfl fun a hf => oR hf (r_loadH (K := ekS) hf rfl ty_9 (hR145.rd hw) hg15 rfl (fun cs h => ekS_f0 h)) rfl fun a hf => oR hf (r_build hf bd_92 (vs := [.string y25, .string (gt a1.hashes_ 0)]) rfl ⟨rfl, rfl, trivial⟩ (by decide) (out := [.string y25, .string (gt a1.hashes_ 0), .bool false, .bool false, .string e0]) rfl) rfl fun a hf => ?_
   obtain ⟨w, hrun16, hw⟩ := e_store (P := P) hw hf (x := .tmp 4) (y := .tmp 30) rfl rfl ty_92 0 rfl (vs := [.string y25, .string (gt a1.hashes_ 0), .bool false, .bool false, .string e0]) rfl rfl (oC rfl (oC rfl (oC rfl (oC rfl (oC rfl ones_nil))))) (by simp [arrC_len]) (cs' := [.string y25, .string (gt a1.hashes_ 0), .bool false, .bool false, .string e0]) rfl
   dsimp only [List.set] at hw
   refine o_effU (hrun16 ..) <| oN <| ct <| wp_ret <| c_blockR <| c_thenR ?_
   replace hw : Ok E I (.blk b7 (.cells ⟨[.string y25, .string (gt a1.hashes_ 0), .bool false, .bool false, .string e0]⟩ 92 (0, 0)) :: F) w := hw.sub (scc (sc (sc sr)))
   have ho := oI hp
   subst ho
   exact b_retC hw hf results71 ty_92 rfl 0 rfl (vs := [.string y25, .string (gt a1.hashes_ 0), .bool false, .bool false, .string e0]) rfl rfl ⟨_, rfl, ⟨rfl, hw.tail⟩⟩
 ·replace hp := cond_f hb10 hp
  refine wq <| wr <| oR hf (rF hf rfl fd_92_0) rfl fun a hf => oR hf (rL hw hf rfl ty_9 2 rfl rfl) rfl fun a hf => oR hf (rF hf rfl fd_86_1) rfl fun a hf => oR hf (rL hw hf rfl ty_9 1 rfl rfl) rfl fun a hf => oR hf (r_scmp hf rfl rfl rfl) rfl fun a hf => oa hf rfl rfl fun a hf => oN <| ct <| cC hf rfl (fun hb17 => ?_) (fun hb17 => ?_)
  ·replace hp := cond_t hb17 hp
   refine wq <| wr <| oR hf (rF hf rfl fd_86_2) rfl fun a hf => oR hf (rL hw hf rfl ty_4 1 rfl rfl) rfl fun a hf => oR hf (rF hf rfl fd_86_3) rfl fun a hf => oR hf (rL hw hf rfl ty_9 1 rfl rfl) rfl fun a hf => oR hf (r_build hf bd_36 (vs := [.bool a1.has_, .string a1.value_]) rfl ⟨rfl, rfl, trivial⟩ (by decide) (out := [.bool a1.has_, .string a1.value_]) rfl) rfl fun a hf => ?_
   obtain ⟨y18, hy19, hp⟩ := bS hp
   have hc21 := verify_over_ok hw hG hy19
   refine o_call hf cb_106 rfl rfl hc21 (fun v23 w a hK22 hf => ?_)
   obtain ⟨rfl, hw⟩ := hK22
   obtain ⟨w, hrun24, hw⟩ := e_store (P := P) hw hf (x := .tmp 4) (y := .tmp 42) rfl rfl ty_92 0 rfl (vs := [.string y18.p_left_, .string y18.p_hash_, .bool y18.p_over_, .bool y18.p_answer_.has_, .string y18.p_answer_.value_]) rfl rfl (oC rfl (oC rfl (oC rfl (oC rfl (oC rfl ones_nil))))) (by simp [arrC_len]) (cs' := [.string y18.p_left_, .string y18.p_hash_, .bool y18.p_over_, .bool y18.p_answer_.has_, .string y18.p_answer_.value_]) rfl
   dsimp only [List.set] at hw
   refine o_effU (hrun24 ..) <| oN <| ct <| wp_ret <| c_blockR <| c_thenR ?_
   replace hw : Ok E I (.blk b7 (.cells ⟨[.string y18.p_left_, .string y18.p_hash_, .bool y18.p_over_, .bool y18.p_answer_.has_, .string y18.p_answer_.value_]⟩ 92 (0, 0)) :: F) w := hw.sub (scc (sc (sc sr)))
   have ho := oI hp
   subst ho
   exact b_retC hw hf results71 ty_92 rfl 0 rfl (vs := [.string y18.p_left_, .string y18.p_hash_, .bool y18.p_over_, .bool y18.p_answer_.has_, .string y18.p_answer_.value_]) rfl rfl ⟨_, rfl, ⟨rfl, hw.tail⟩⟩
  ·replace hp := cond_f hb17 hp
   refine wq <| wr <| oR hf (rF hf rfl fd_86_0) rfl fun a hf => oR hf (rL hw hf rfl ty_3 1 rfl rfl) rfl fun a hf => oR hf (iC hf rfl rfl rfl) rfl fun a hf => oa hf rfl rfl fun a hf => oN <| ct <| cC hf rfl (fun hb25 => ?_) (fun hb25 => ?_)
   ·replace hp := cond_t hb25 hp
    refine wq <| wr <| oR hf (r_build hf bd_36 (vs := []) rfl trivial (by decide) (out := [.bool false, .string e0]) rfl) rfl fun a hf => ?_
    obtain ⟨y26, hy27, hp⟩ := bS hp
    have hc29 := verify_over_ok hw hG hy27
    refine o_call hf cb_106 rfl rfl hc29 (fun v31 w a hK30 hf => ?_)
    obtain ⟨rfl, hw⟩ := hK30
    obtain ⟨w, hrun32, hw⟩ := e_store (P := P) hw hf (x := .tmp 4) (y := .tmp 48) rfl rfl ty_92 0 rfl (vs := [.string y26.p_left_, .string y26.p_hash_, .bool y26.p_over_, .bool y26.p_answer_.has_, .string y26.p_answer_.value_]) rfl rfl (oC rfl (oC rfl (oC rfl (oC rfl (oC rfl ones_nil))))) (by simp [arrC_len]) (cs' := [.string y26.p_left_, .string y26.p_hash_, .bool y26.p_over_, .bool y26.p_answer_.has_, .string y26.p_answer_.value_]) rfl
    dsimp only [List.set] at hw
    refine o_effU (hrun32 ..) <| oN <| ct <| wp_ret <| c_blockR <| c_thenR ?_
    replace hw : Ok E I (.blk b7 (.cells ⟨[.string y26.p_left_, .string y26.p_hash_, .bool y26.p_over_, .bool y26.p_answer_.has_, .string y26.p_answer_.value_]⟩ 92 (0, 0)) :: F) w := hw.sub (scc (sc (sc sr)))
    have ho := oI hp
    subst ho
    exact b_retC hw hf results71 ty_92 rfl 0 rfl (vs := [.string y26.p_left_, .string y26.p_hash_, .bool y26.p_over_, .bool y26.p_answer_.has_, .string y26.p_answer_.value_]) rfl rfl ⟨_, rfl, ⟨rfl, hw.tail⟩⟩
   ·replace hp := cond_f hb25 hp
    refine wp_skip <| c_blockN <| ct <| wq <| c_drawn mix [] (.rd 0 (.rd 1 (.rd 2 (.rd 3 (.ef 4 (.rd 5 (.rd 6 (.rd 7 (.rd 8 (.rd 9 .done)))))))))) (by kernel_rfl) hw (fun w => Ok E I (.blk b7 (.cells ⟨[.string e0, .string e0, .bool false, .bool false, .string e0]⟩ 92 (0, 0)) :: .blk b4 (.cells ⟨[.int .i64 a1.kind_, .string a1.path_, .bool a1.has_, .string a1.value_, .int .i64 a1.mask_, a1v144]⟩ 86 (0, 0)) :: .blk b1 (.cells ⟨[.string a0.p_left_, .string a0.p_hash_, .bool a0.p_over_, .bool a0.p_answer_.has_, .string a0.p_answer_.value_]⟩ 92 (0, 0)) :: F) w) (fun w hw => ⟨hw.sub (scc (scc (scc sr))), ?_⟩)
    refine tR rfl hf (fun w hw => r_loadA hw hf rfl ty_86 1 rfl (vs := [.int .i64 a1.kind_, .string a1.path_, .bool a1.has_, .string a1.value_, .int .i64 a1.mask_, a1v144]) rfl rfl) rfl fun a hf => tR rfl hf (fun w hw => rF hf rfl fd_92_0) rfl fun a hf => tR rfl hf (fun w hw => rL hw hf rfl ty_9 2 rfl rfl) rfl fun a hf => ?_
    obtain ⟨hg34, hp⟩ := gS hp
    refine tR rfl hf (fun w hw => r_indexS hf und_9 rfl rfl hg34) rfl fun a hf => t_ef rfl ?_
    obtain ⟨y18, hy17, hp⟩ := bS hp
    obtain ⟨y15, y16⟩ := y18
    have hc19 := verify_kid_ok hw hG hR145 hy17
    refine t_call hf cb_107 rfl rfl hc19 (fun v21 w a hK20 hf => ?_)
    obtain ⟨rfl, hw⟩ := hK20
    refine ⟨.inr (hw.back (IH.le_refl _) (scc (scc (scc sr)))), ?_⟩
    refine tm rfl hf rfl rfl fun a hf => tR rfl hf (fun w hw => rE hf rfl rfl) rfl fun a hf => tR rfl hf (fun w hw => rE hf rfl rfl) rfl fun a hf => tR rfl hf (fun w hw => r_assign hf rfl) rfl fun a hf => tR rfl hf (fun w hw => r_assign hf rfl) rfl fun a hf => t_done <| ct <| wq <| wq <| wr <| om hf rfl rfl fun a hf => oR hf (r_not hf rfl) rfl fun a hf => oN <| ct <| cC hf rfl (fun hb22 => ?_) (fun hb22 => ?_)
    ·replace hp := cond_t hb22 hp
     refine wq <| wr <| oR hf (r_build hf bd_36 (vs := []) rfl trivial (by decide) (out := [.bool false, .string e0]) rfl) rfl fun a hf => ?_
     obtain ⟨y23, hy24, hp⟩ := bS hp
     have hc26 := verify_over_ok hw hG hy24
     refine o_call hf cb_106 rfl rfl hc26 (fun v28 w a hK27 hf => ?_)
     obtain ⟨rfl, hw⟩ := hK27
     obtain ⟨w, hrun29, hw⟩ := e_store (P := P) hw hf (x := .tmp 4) (y := .tmp 60) rfl rfl ty_92 0 rfl (vs := [.string y23.p_left_, .string y23.p_hash_, .bool y23.p_over_, .bool y23.p_answer_.has_, .string y23.p_answer_.value_]) rfl rfl (oC rfl (oC rfl (oC rfl (oC rfl (oC rfl ones_nil))))) (by simp [arrC_len]) (cs' := [.string y23.p_left_, .string y23.p_hash_, .bool y23.p_over_, .bool y23.p_answer_.has_, .string y23.p_answer_.value_]) rfl
     dsimp only [List.set] at hw
     refine o_effU (hrun29 ..) <| oN <| ct <| wp_ret <| c_thenR ?_
     replace hw : Ok E I (.blk b7 (.cells ⟨[.string y23.p_left_, .string y23.p_hash_, .bool y23.p_over_, .bool y23.p_answer_.has_, .string y23.p_answer_.value_]⟩ 92 (0, 0)) :: F) w := hw.sub (scc (sc (sc sr)))
     have ho := oI hp
     subst ho
     exact b_retC hw hf results71 ty_92 rfl 0 rfl (vs := [.string y23.p_left_, .string y23.p_hash_, .bool y23.p_over_, .bool y23.p_answer_.has_, .string y23.p_answer_.value_]) rfl rfl ⟨_, rfl, ⟨rfl, hw.tail⟩⟩
    ·replace hp := cond_f hb22 hp
     refine wp_skip <| ct <| wq <| wr <| oR hf (rF hf rfl fd_92_0) rfl fun a hf => oR hf (rL hw hf rfl ty_9 2 rfl rfl) rfl fun a hf => ?_
     obtain ⟨hg30, hp⟩ := gS hp
     refine oR hf (r_sliceSl hf und_9 rfl rfl hg30) rfl fun a hf => om hf rfl rfl fun a hf => oR hf (r_build hf bd_92 (vs := [.string (sub a0.p_left_ 1 (a0.p_left_.size : Int)), .string y15]) rfl ⟨rfl, rfl, trivial⟩ (by decide) (out := [.string (sub a0.p_left_ 1 (a0.p_left_.size : Int)), .string y15, .bool false, .bool false, .string e0]) rfl) rfl fun a hf => ?_
     obtain ⟨w, hrun31, hw⟩ := e_store (P := P) hw hf (x := .tmp 4) (y := .tmp 65) rfl rfl ty_92 0 rfl (vs := [.string (sub a0.p_left_ 1 (a0.p_left_.size : Int)), .string y15, .bool false, .bool false, .string e0]) rfl rfl (oC rfl (oC rfl (oC rfl (oC rfl (oC rfl ones_nil))))) (by simp [arrC_len]) (cs' := [.string (sub a0.p_left_ 1 (a0.p_left_.size : Int)), .string y15, .bool false, .bool false, .string e0]) rfl
     dsimp only [List.set] at hw
     refine o_effU (hrun31 ..) <| oN <| ct <| wp_ret ?_
     replace hw : Ok E I (.blk b7 (.cells ⟨[.string (sub a0.p_left_ 1 (a0.p_left_.size : Int)), .string y15, .bool false, .bool false, .string e0]⟩ 92 (0, 0)) :: F) w := hw.sub (scc (sc (sc sr)))
     have ho := oI hp
     subst ho
     exact b_retC hw hf results71 ty_92 rfl 0 rfl (vs := [.string (sub a0.p_left_ 1 (a0.p_left_.size : Int)), .string y15, .bool false, .bool false, .string e0]) rfl rfl ⟨_, rfl, ⟨rfl, hw.tail⟩⟩
end Go.Lf
