/- The Go functions compute the plain Lean functions (printed by our lift.py). -/
import Derived.Test.YtckhmgglgbnaaaaDoorZD
import Derived.Test.YtckhmgglgbnaaaaDoorZF
import Derived.Test.YtckhmgglgbnaaaaDoorJ
import Derived.Test.YtckhmgglgbnaaaaDoorZK3
import Derived.Test.YtckhmgglgbnaaaaDoorZK8
import Derived.Test.YtckhmgglgbnaaaaDoorZK18
set_option linter.unusedVariables false
set_option linter.unusedSimpArgs false
set_option maxHeartbeats 1000000
set_option maxRecDepth 20000
namespace Go.Lf
open Go
theorem nibble_Unpack_ok {E : World} {I : IH} {F : List Atom} {w : World} {a0 : ByteArray} {res0 : ByteArray} {res1 : Int} {res2 : Bool} (hw : Ok E I (F) w) (hG : Gl I) (hp : nibble_Unpack.f a0 = some (res0, res1, res2)) :
  Calls P 102 ⟨[Value.string a0]⟩ w fun e w' => ∃ v, e = .returned v ∧ v = Value.tuple ⟨[Value.string res0, Value.int .i64 res1, Value.bool res2]⟩ ∧ Ok E I (F) w' := by
 refine c_enter Go.Proofs.Tryd.func102 rfl Go.Proofs.Tryd.ntmps102 rfl fun a hf => ?_
 replace hf : Fr 44 [(0, .string a0)] a := hf
 unfold nibble_Unpack.f at hp
 refine wp_seq <| wp_region_lit <| oa hf rfl rfl fun a hf => oa hf rfl rfl fun a hf => oa hf rfl rfl fun a hf => o_nil <| c_then <| wp_seq ?_
 obtain ⟨out16, hp, hq17⟩ := bind_some hp
 refine c_cut (fun a w => ∃ y15 : Bool, y15 = out16 ∧ Ok E I (F) w ∧ Fr 44 ([(0, .string a0), (14, .bool y15)]) a) ?_ ?_
 ·refine wp_region_lit <| om hf rfl rfl fun a hf => o_run hf (r_scmp hf rfl rfl rfl) rfl fun a hf => om hf rfl rfl fun a hf => g_split hf (g := 9) rfl (fun hb18 hf => ?_) (fun hb18 hf => ?_)
  ·replace hp := cond_t hb18 hp
   refine o_skip hf (g := 9) rfl rfl rfl rfl rfl rfl fun a hf => o_skip hf (g := 9) rfl rfl rfl rfl rfl rfl fun a hf => o_skip hf (g := 9) rfl rfl rfl rfl rfl rfl fun a hf => o_skip hf (g := 9) rfl rfl rfl rfl rfl rfl fun a hf => o_run hf (r_pickT hf rfl rfl) rfl fun a hf => o_nil <| c_then ?_
   have ho := out_inj hp
   subst ho
   exact ⟨true, rfl, hw, hf.to ⟨rfl, rfl, trivial⟩⟩
  ·replace hp := cond_f hb18 hp
   refine o_want hf (g := 9) rfl rfl <| om hf rfl rfl fun a hf => ?_
   obtain ⟨hg19, hp⟩ := gd_some hp
   refine o_want hf (g := 9) rfl rfl <| o_run hf (r_indexS hf und_9 rfl rfl hg19) rfl fun a hf => o_want hf (g := 9) rfl rfl <| o_run hf (r_convI hf und_5 und_3 rfl) rfl fun a hf => o_want hf (g := 9) rfl rfl <| o_run hf (r_icmp hf rfl rfl rfl) rfl fun a hf => o_run hf (r_pickF hf rfl rfl) rfl fun a hf => o_nil <| c_then ?_
   have ho := out_inj hp
   subst ho
   exact ⟨(decide ((w64 (bt a0 0)) > 16)), rfl, hw, hf.to ⟨rfl, rfl, trivial⟩⟩
 ·intro a w hM
  obtain ⟨y15, rfl, hw, hf⟩ := hM
  replace hp := hq17
  refine c_cond hf rfl (fun hb20 => ?_) (fun hb20 => ?_)
  ·replace hp := cond_t hb20 hp
   refine wp_seq <| wp_region_lit <| oa hf rfl rfl fun a hf => oa hf rfl rfl fun a hf => oa hf rfl rfl fun a hf => o_nil <| c_then <| wp_ret <| c_thenR ?_
   have ho := out_inj hp
   simp only [Prod.mk.injEq] at ho
   obtain ⟨rfl, rfl, rfl⟩ := ho
   exact b_ret3 hf Go.Proofs.Tryd.results102 rfl rfl rfl ⟨_, rfl, ⟨rfl, hw⟩⟩
  ·replace hp := cond_f hb20 hp
   refine wp_skip <| c_then <| wp_seq <| wp_region_lit <| om hf rfl rfl fun a hf => ?_
   obtain ⟨hg21, hp⟩ := gd_some hp
   refine o_run hf (r_indexS hf und_9 rfl rfl hg21) rfl fun a hf => o_run hf (r_convI hf und_5 und_3 rfl) rfl fun a hf => oa hf rfl rfl fun a hf => o_nil <| c_then <| wp_seq <| wp_region_lit <| om hf rfl rfl fun a hf => o_run hf (r_add hf rfl rfl) rfl fun a hf => o_run hf (r_quo hf rfl rfl (by decide)) rfl fun a hf => ?_
   refine o_run hf (r_add hf rfl rfl) rfl fun a hf => oa hf rfl rfl fun a hf => o_nil <| c_then <| wp_seq <| wp_seq <| wp_region_lit <| om hf rfl rfl fun a hf => om hf rfl rfl fun a hf => o_run hf (r_lenS hf und_9 rfl) rfl fun a hf => ?_
   refine o_run hf (r_icmp hf rfl rfl rfl) rfl fun a hf => o_nil <| c_then <| c_cond hf rfl (fun hb22 => ?_) (fun hb22 => ?_)
   ·replace hp := cond_t hb22 hp
    refine wp_seq <| wp_region_lit <| oa hf rfl rfl fun a hf => oa hf rfl rfl fun a hf => oa hf rfl rfl fun a hf => o_nil <| c_then <| wp_ret <| c_thenR ?_
    have ho := out_inj hp
    simp only [Prod.mk.injEq] at ho
    obtain ⟨rfl, rfl, rfl⟩ := ho
    exact b_ret3 hf Go.Proofs.Tryd.results102 rfl rfl rfl ⟨_, rfl, ⟨rfl, hw⟩⟩
   ·replace hp := cond_f hb22 hp
    refine wp_skip <| c_then <| wp_seq <| wp_region_lit <| om hf rfl rfl fun a hf => om hf rfl rfl fun a hf => ?_
    obtain ⟨hg23, hp⟩ := gd_some hp
    refine o_run hf (r_sliceS hf und_9 rfl rfl rfl hg23) rfl fun a hf => ?_
    obtain ⟨y24, hy25, hp⟩ := bind_some hp
    have hc27 := nibble_Of_ok hw hG hy25
    refine o_call hf cb_100 rfl rfl hc27 (fun v29 w a hK28 hf => ?_)
    obtain ⟨rfl, hw⟩ := hK28
    refine oa hf rfl rfl fun a hf => o_nil <| c_then <| wp_seq ?_
    obtain ⟨out45, hp, hq46⟩ := bind_some hp
    refine c_cut (fun a w => ∃ y44 : Bool, y44 = out45 ∧ Ok E I (F) w ∧ Fr 44 ([(3, .int .i64 (w64 (1 + (w64 ((w64 ((w64 (bt a0 0)) + 1)).tdiv 2))))), (5, .int .i64 (w64 (bt a0 0))), (6, .string y24), (39, .bool y44)]) a) ?_ ?_
    ·refine wp_region_lit <| om hf rfl rfl fun a hf => om hf rfl rfl fun a hf => o_run hf (r_lenS hf und_9 rfl) rfl fun a hf => o_run hf (r_icmp hf rfl rfl rfl) rfl fun a hf => om hf rfl rfl fun a hf => g_split hf (g := 34) rfl (fun hb47 hf => ?_) (fun hb47 hf => ?_)
     ·replace hp := cond_t hb47 hp
      refine o_want hf (g := 34) rfl rfl <| om hf rfl rfl fun a hf => o_want hf (g := 34) rfl rfl <| om hf rfl rfl fun a hf => ?_
      obtain ⟨hg48, hp⟩ := gd_some hp
      refine o_want hf (g := 34) rfl rfl <| o_run hf (r_indexS hf und_9 rfl rfl hg48) rfl fun a hf => o_want hf (g := 34) rfl rfl <| o_run hf (r_icmp hf rfl rfl rfl) rfl fun a hf => o_run hf (r_pickT hf rfl rfl) rfl fun a hf => o_nil <| c_then ?_
      have ho := out_inj hp
      subst ho
      exact ⟨((bt y24 (w64 (bt a0 0))) != 0), rfl, hw, hf.to ⟨rfl, rfl, rfl, rfl, trivial⟩⟩
     ·replace hp := cond_f hb47 hp
      refine o_skip hf (g := 34) rfl rfl rfl rfl rfl rfl fun a hf => o_skip hf (g := 34) rfl rfl rfl rfl rfl rfl fun a hf => o_skip hf (g := 34) rfl rfl rfl rfl rfl rfl fun a hf => o_skip hf (g := 34) rfl rfl rfl rfl rfl rfl fun a hf => o_run hf (r_pickF hf rfl rfl) rfl fun a hf => o_nil <| c_then ?_
      have ho := out_inj hp
      subst ho
      exact ⟨false, rfl, hw, hf.to ⟨rfl, rfl, rfl, rfl, trivial⟩⟩
    ·intro a w hM
     obtain ⟨y44, rfl, hw, hf⟩ := hM
     replace hp := hq46
     refine c_cond hf rfl (fun hb49 => ?_) (fun hb49 => ?_)
     ·replace hp := cond_t hb49 hp
      refine wp_seq <| wp_region_lit <| oa hf rfl rfl fun a hf => oa hf rfl rfl fun a hf => oa hf rfl rfl fun a hf => o_nil <| c_then <| wp_ret <| c_thenR ?_
      have ho := out_inj hp
      simp only [Prod.mk.injEq] at ho
      obtain ⟨rfl, rfl, rfl⟩ := ho
      exact b_ret3 hf Go.Proofs.Tryd.results102 rfl rfl rfl ⟨_, rfl, ⟨rfl, hw⟩⟩
     ·replace hp := cond_f hb49 hp
      refine wp_skip <| c_then <| wp_seq <| wp_region_lit <| om hf rfl rfl fun a hf => om hf rfl rfl fun a hf => ?_
      obtain ⟨hg50, hp⟩ := gd_some hp
      refine o_run hf (r_sliceSh hf und_9 rfl rfl hg50) rfl fun a hf => om hf rfl rfl fun a hf => oa hf rfl rfl fun a hf => oa hf rfl rfl fun a hf => oa hf rfl rfl fun a hf => o_nil <| c_then <| wp_ret ?_
      have ho := out_inj hp
      simp only [Prod.mk.injEq] at ho
      obtain ⟨rfl, rfl, rfl⟩ := ho
      exact b_ret3 hf Go.Proofs.Tryd.results102 rfl rfl rfl ⟨_, rfl, ⟨rfl, hw⟩⟩

theorem node_reader_path_ok {E : World} {I : IH} {F : List Atom} {w : World} {a0b : Nat} {a0_p_s : ByteArray} {res0 : ByteArray} {new_a0_p_s : ByteArray} (hw : Ok E I (.blk a0b (.cells ⟨[Value.string a0_p_s]⟩ 135 (0, 0)) :: F) w) (hG : Gl I) (hp : node_reader_path.f a0_p_s = some (res0, new_a0_p_s)) :
  Calls P 82 ⟨[Value.pointer (some ⟨a0b, 0, none⟩)]⟩ w fun e w' => ∃ v, e = .returned v ∧ v = Value.string res0 ∧ Ok E I (.blk a0b (.cells ⟨[Value.string new_a0_p_s]⟩ 135 (0, 0)) :: F) w' := by
 refine c_enter Go.Proofs.Tryd.func82 rfl Go.Proofs.Tryd.ntmps82 rfl fun a hf => ?_
 replace hf : Fr 19 [(0, .pointer (some ⟨a0b, 0, none⟩))] a := hf
 unfold node_reader_path.f at hp
 refine wp_seq <| wp_region_lit <| oa hf rfl rfl fun a hf => o_nil <| c_then <| wp_seq <| wp_region_lit <| om hf rfl rfl fun a hf => o_run hf (r_nilCheck hf rfl) rfl fun a hf => o_run hf (r_fieldAddr hf rfl fd_135_0) rfl fun a hf => ?_
 refine o_run hf (r_load hw hf rfl ty_9 0 rfl rfl) rfl fun a hf => ?_
 obtain ⟨y5, hy4, hp⟩ := bind_some hp
 obtain ⟨y1, y2, y3⟩ := y5
 have hc6 := nibble_Unpack_ok hw hG hy4
 refine o_call hf cb_102 rfl rfl hc6 (fun v8 w a hK7 hf => ?_)
 obtain ⟨rfl, hw⟩ := hK7
 refine om hf rfl rfl fun a hf => o_run hf (r_extract hf rfl rfl) rfl fun a hf => o_run hf (r_extract hf rfl rfl) rfl fun a hf => o_run hf (r_extract hf rfl rfl) rfl fun a hf => oa hf rfl rfl fun a hf => oa hf rfl rfl fun a hf => oa hf rfl rfl fun a hf => o_nil <| c_then <| wp_seq ?_
 refine wp_region_lit <| om hf rfl rfl fun a hf => om hf rfl rfl fun a hf => ?_
 replace hw : Ok E I (.blk a0b (.cells ⟨[.string a0_p_s]⟩ 135 (0, 0)) :: F) w := hw.front (i := 0) rfl
 obtain ⟨y12, hy11, hp⟩ := bind_some hp
 obtain ⟨y9, y10⟩ := y12
 have hc13 := node_reader_take_ok hw hG hy11
 refine o_call hf cb_83 rfl rfl hc13 (fun v15 w a hK14 hf => ?_)
 obtain ⟨rfl, hw⟩ := hK14
 refine o_nil <| c_then <| wp_seq <| wp_region_lit <| om hf rfl rfl fun a hf => oa hf rfl rfl fun a hf => o_nil <| c_then <| wp_ret ?_
 have ho := out_inj hp
 simp only [Prod.mk.injEq] at ho
 obtain ⟨rfl, rfl⟩ := ho
 exact b_ret1 hf Go.Proofs.Tryd.results82 rfl ⟨_, rfl, ⟨rfl, hw⟩⟩

theorem node_reader_rest_ok {E : World} {I : IH} {F : List Atom} {w : World} {a0b : Nat} {a0_p_s : ByteArray} {res0 : List ByteArray} {new_a0_p_s : ByteArray} (hw : Ok E I (.blk a0b (.cells ⟨[Value.string a0_p_s]⟩ 135 (0, 0)) :: F) w) (hG : Gl I) (hp : node_reader_rest.f a0_p_s = some (res0, new_a0_p_s)) :
  Calls P 84 ⟨[Value.pointer (some ⟨a0b, 0, none⟩)]⟩ w fun e w' => ∃ v, e = .returned v ∧ ∃ I2 : IH, ∃ rvv7809 : Value, v = rvv7809 ∧ IH.le I I2 ∧ Ok E I2 (.blk a0b (.cells ⟨[Value.string new_a0_p_s]⟩ 135 (0, 0)) :: F) w' ∧ RS ekS I2 rvv7809 res0 := by
 refine c_enter Go.Proofs.Tryd.func84 rfl Go.Proofs.Tryd.ntmps84 rfl fun a hf => ?_
 replace hf : Fr 15 [(0, .pointer (some ⟨a0b, 0, none⟩))] a := hf
 unfold node_reader_rest.f at hp
 refine wp_seq <| wp_region_lit <| oa hf rfl rfl fun a hf => o_nil <| c_then <| wp_seq <| wp_region_lit <| oa hf rfl rfl fun a hf => o_nil <| c_then ?_
 refine wp_seq ?_
 replace hw := hw.nilrow 9 1
 have hRR23 : RowR ekS I [] [] := RowR.nil
 obtain ⟨out99, hp, hq100⟩ := bind_some hp
 refine c_cutX (fun a w => ∃ y93 : List ByteArray, ∃ y98 : ByteArray, ∃ yv94 : Value, ∃ m95 : Nat, ∃ cs96 : List Value, (y93, y98) = out99 ∧ Ok E I (.row yv94 9 1 m95 cs96 :: .blk a0b (.cells ⟨[.string y98]⟩ 135 (0, 0)) :: F) w ∧ Fr 15 ([(3, yv94)]) a ∧ RowR ekS I cs96 y93) ?_ ?_
 ·refine wp_block <| c_loop <| c_fuel (node_reader_rest.l0) out99 (fun (y68, y73) a w => ∃ yv69 : Value, ∃ m70 : Nat, ∃ cs71 : List Value, Ok E I (.row yv69 9 1 m70 cs71 :: .blk a0b (.cells ⟨[.string y73]⟩ 135 (0, 0)) :: F) w ∧ Fr 15 ([(0, .pointer (some ⟨a0b, 0, none⟩)), (3, yv69)]) a ∧ RowR ekS I cs71 y68) (fun _ => rfl) ?_ BIG (([] : List ByteArray), a0_p_s) _ _ ⟨(.slice none 0 0), 0, [], hw, hf.to ⟨rfl, rfl, trivial⟩, hRR23⟩ hp
  intro k st a w hI hp ih
  obtain ⟨y68, y73⟩ := st
  obtain ⟨yv69, m70, cs71, hw, hf, hRR72⟩ := hI
  rw [node_reader_rest.l0] at hp
  refine wp_seq <| wp_seq <| wp_region_lit <| om hf rfl rfl fun a hf => o_run hf (r_nilCheck hf rfl) rfl fun a hf => o_run hf (r_fieldAddr hf rfl fd_135_0) rfl fun a hf => o_run hf (r_load hw hf rfl ty_9 1 rfl rfl) rfl fun a hf => o_run hf (r_scmp hf rfl rfl rfl) rfl fun a hf => o_nil <| c_then ?_
  refine c_cond hf rfl (fun hb102 => ?_) (fun hb102 => ?_)
  ·replace hp := cond_t hb102 hp
   refine wp_skip <| c_then <| wp_block <| wp_region_lit <| om hf rfl rfl fun a hf => om hf rfl rfl fun a hf => ?_
   replace hw : Ok E I (.blk a0b (.cells ⟨[.string y73]⟩ 135 (0, 0)) :: .row yv69 9 1 m70 cs71 :: F) w := hw.front (i := 1) rfl
   obtain ⟨y106, hy105, hp⟩ := bind_some hp
   obtain ⟨y103, y104⟩ := y106
   have hc107 := node_reader_take_ok hw hG hy105
   refine o_call hf cb_83 rfl rfl hc107 (fun v109 w a hK108 hf => ?_)
   obtain ⟨rfl, hw⟩ := hK108
   obtain ⟨w, v110, hrun111, hw, hRR112⟩ := e_buildSlice (P := P) (K := ekS) (m := 1) hw hf (parts := [(0, .tmp 11)]) el_28 ty_9 rfl rfl rfl (ccs := [[Value.string y103]]) rfl (xs := [y103]) ⟨rfl, trivial⟩ rfl
   obtain ⟨cs113, hcs⟩ : ∃ cs, cs = ([[Value.string y103]] : List (List Value)).flatten := ⟨_, rfl⟩
   rw [← hcs] at hw hRR112; clear hcs
   refine o_eff hf (hrun111 ..) rfl fun a hf => ?_
   obtain ⟨hg115, hp⟩ := gd_some hp
   obtain ⟨w, v116, m117, cs118, hrun120, hw, hRR119⟩ := e_append (P := P) (K := ekS) (ty := 28) hw hf (s := .tmp 9) (x := .tmp 12) el_28 ty_9 rfl (by decide) 2 rfl rfl rfl hRR72 (ys := [y103]) (row_rd (K := ekS) hw (i := 0) rfl hRR112) hg115
   replace hw : Ok E I (.row v110 9 1 1 cs113 :: .blk a0b (.cells ⟨[.string y104]⟩ 135 (0, 0)) :: .row v116 9 1 m117 cs118 :: F) w := hw
   refine o_eff hf (hrun120 ..) rfl fun a hf => oa hf rfl rfl fun a hf => o_nil <| c_blockN <| c_then ?_
   replace hw : Ok E I (.blk a0b (.cells ⟨[.string y104]⟩ 135 (0, 0)) :: .row v110 9 1 1 cs113 :: .row v116 9 1 m117 cs118 :: F) w := hw.front (i := 1) rfl
   replace hw : Ok E I (.row v116 9 1 m117 cs118 :: .blk a0b (.cells ⟨[.string y104]⟩ 135 (0, 0)) :: .row v110 9 1 1 cs113 :: F) w := hw.front (i := 2) rfl
   replace hw : Ok E I (.row v116 9 1 m117 cs118 :: .blk a0b (.cells ⟨[.string y104]⟩ 135 (0, 0)) :: F) w := hw.sub (scc (scc (sc sr)))
   exact ih (y68 ++ [y103], y104) _ _ ⟨v116, m117, cs118, hw, hf.to ⟨rfl, rfl, trivial⟩, hRR119⟩ hp
  ·replace hp := cond_f hb102 hp
   refine wp_exit <| c_thenE <| c_thenE <| c_exit <| c_then ?_
   have ho := out_inj hp
   subst ho
   exact ⟨y68, y73, yv69, m70, cs71, rfl, hw, hf.to ⟨rfl, trivial⟩, hRR72⟩
 ·intro a w hM
  obtain ⟨y93, y98, yv94, m95, cs96, rfl, hw, hf, hRR97⟩ := hM
  replace hp := hq100
  refine c_then <| wp_seq <| wp_region_lit <| om hf rfl rfl fun a hf => oa hf rfl rfl fun a hf => o_nil <| c_then <| wp_ret ?_
  have hw : Ok E I (.row yv94 9 1 m95 cs96 :: .blk a0b (.cells ⟨[Value.string y98]⟩ 135 (0, 0)) :: F) w := hw.front (i := 0) rfl
  obtain ⟨I122, hle123, hw, hR124⟩ := row_freeze (K := ekS) hw hRR97
  replace hG := hG.mono hle123
  have ho := out_inj hp
  simp only [Prod.mk.injEq] at ho
  obtain ⟨rfl, rfl⟩ := ho
  exact b_ret1 hf Go.Proofs.Tryd.results84 rfl ⟨_, rfl, ⟨I122, yv94, rfl, hle123, hw, hR124⟩⟩

theorem node_read_ok {E : World} {I : IH} {F : List Atom} {w : World} {a0 : ByteArray} {res0 : Item} (hw : Ok E I (F) w) (hG : Gl I) (hp : node_read.f a0 = some res0) :
  Calls P 60 ⟨[Value.string a0]⟩ w fun e w' => ∃ v, e = .returned v ∧ ∃ I2 : IH, ∃ rvv7811 : Value, v = Value.agg ⟨[Value.int .i64 res0.kind_, Value.string res0.path_, Value.bool res0.has_, Value.string res0.value_, Value.int .i64 res0.mask_, rvv7811]⟩ ∧ IH.le I I2 ∧ Ok E I2 (F) w' ∧ RS ekS I2 rvv7811 res0.hashes_ := by
 refine c_enter Go.Proofs.Tryd.func60 rfl Go.Proofs.Tryd.ntmps60 rfl fun a hf => ?_
 replace hf : Fr 57 [(0, .string a0)] a := hf
 unfold node_read.f at hp
 refine wp_seq <| wp_region_lit ?_
 obtain ⟨b1, w, hrun2, hw⟩ := e_alloc (P := P) (a := a) hw ty_32
 replace hw : Ok E I (.blk b1 (.cells ⟨[.int .i64 0, .string (⟨#[]⟩ : ByteArray), .bool false, .string (⟨#[]⟩ : ByteArray), .int .i64 0, .slice none 0 0]⟩ 32 (0, 0)) :: F) w := hw
 refine o_eff hf (hrun2 ..) rfl fun a hf => o_nil <| c_then <| wp_seq <| wp_region_lit <| om hf rfl rfl fun a hf => o_run hf (r_build hf bd_135 (vs := [Value.string a0]) rfl ⟨rfl, trivial⟩ (by decide) (out := [Value.string a0]) rfl) rfl fun a hf => ?_
 obtain ⟨b4, w, hrun5, hw⟩ := e_box (P := P) hw hf (e := 135) (x := .tmp 6) rfl (cs := [Value.string a0]) rfl
 refine o_eff hf (hrun5 ..) rfl fun a hf => oa hf rfl rfl fun a hf => o_nil <| c_then <| wp_seq <| wp_region_lit <| om hf rfl rfl fun a hf => ?_
 replace hw : Ok E I (.blk b4 (.cells ⟨[.string a0]⟩ 135 (0, 0)) :: .blk b1 (.cells ⟨[.int .i64 0, .string (⟨#[]⟩ : ByteArray), .bool false, .string (⟨#[]⟩ : ByteArray), .int .i64 0, .slice none 0 0]⟩ 32 (0, 0)) :: F) w := hw.front (i := 0) rfl
 obtain ⟨y13, hy12, hp⟩ := bind_some hp
 obtain ⟨y10, y11⟩ := y13
 have hc14 := node_reader_number_ok hw hG hy12
 refine o_call hf cb_81 rfl rfl hc14 (fun v16 w a hK15 hf => ?_)
 obtain ⟨rfl, hw⟩ := hK15
 refine o_run hf (r_build hf bd_32 (vs := [Value.int .i64 y10]) rfl ⟨rfl, trivial⟩ (by decide) (out := [Value.int .i64 y10, Value.string (⟨#[]⟩ : ByteArray), Value.bool false, Value.string (⟨#[]⟩ : ByteArray), Value.int .i64 0, Value.slice none 0 0]) rfl) rfl fun a hf => ?_
 obtain ⟨b17, w, hrun18, hw⟩ := e_alloc (P := P) (a := a) hw ty_32
 replace hw : Ok E I (.blk b17 (.cells ⟨[.int .i64 0, .string (⟨#[]⟩ : ByteArray), .bool false, .string (⟨#[]⟩ : ByteArray), .int .i64 0, .slice none 0 0]⟩ 32 (0, 0)) :: .blk b4 (.cells ⟨[.string y11]⟩ 135 (0, 0)) :: .blk b1 (.cells ⟨[.int .i64 0, .string (⟨#[]⟩ : ByteArray), .bool false, .string (⟨#[]⟩ : ByteArray), .int .i64 0, .slice none 0 0]⟩ 32 (0, 0)) :: F) w := hw
 refine o_eff hf (hrun18 ..) rfl fun a hf => ?_
 obtain ⟨w, hrun20, hw⟩ := e_store (P := P) hw hf (x := .tmp 4) (y := .tmp 10) rfl rfl ty_32 0 rfl (vs := [Value.int .i64 y10, Value.string (⟨#[]⟩ : ByteArray), Value.bool false, Value.string (⟨#[]⟩ : ByteArray), Value.int .i64 0, Value.slice none 0 0]) rfl rfl (ones_cons rfl (ones_cons rfl (ones_cons rfl (ones_cons rfl (ones_cons rfl (ones_cons rfl ones_nil)))))) (by simp [arrC_len]) (cs' := [Value.int .i64 y10, Value.string (⟨#[]⟩ : ByteArray), Value.bool false, Value.string (⟨#[]⟩ : ByteArray), Value.int .i64 0, Value.slice none 0 0]) rfl
 replace hw : Ok E I (.blk b17 (.cells ⟨[.int .i64 y10, .string (⟨#[]⟩ : ByteArray), .bool false, .string (⟨#[]⟩ : ByteArray), .int .i64 0, .slice none 0 0]⟩ 32 (0, 0)) :: .blk b4 (.cells ⟨[.string y11]⟩ 135 (0, 0)) :: .blk b1 (.cells ⟨[.int .i64 0, .string (⟨#[]⟩ : ByteArray), .bool false, .string (⟨#[]⟩ : ByteArray), .int .i64 0, .slice none 0 0]⟩ 32 (0, 0)) :: F) w := hw
 refine o_effU (hrun20 ..) <| o_nil <| c_then ?_
 obtain ⟨out174, hp, hq175⟩ := bind_some hp
 refine c_cut (fun a w => ∃ y169 : ByteArray, ∃ y170 : Bool, ∃ y171 : ByteArray, ∃ y172 : Int, ∃ y173 : ByteArray, (y169, y170, y171, y172, y173) = out174 ∧ Ok E I (.blk b17 (.cells ⟨[.int .i64 y10, .string y169, .bool y170, .string y171, .int .i64 y172, .slice none 0 0]⟩ 32 (0, 0)) :: .blk b4 (.cells ⟨[.string y173]⟩ 135 (0, 0)) :: .blk b1 (.cells ⟨[.int .i64 0, .string (⟨#[]⟩ : ByteArray), .bool false, .string (⟨#[]⟩ : ByteArray), .int .i64 0, .slice none 0 0]⟩ 32 (0, 0)) :: F) w ∧ Fr 57 ([(2, .pointer (some ⟨b1, 0, none⟩)), (3, .pointer (some ⟨b4, 0, none⟩)), (4, .pointer (some ⟨b17, 0, none⟩))]) a) ?_ ?_
 ·refine wp_seq <| wp_region_lit <| o_run hf (r_fieldAddr hf rfl fd_32_0) rfl fun a hf => o_run hf (r_load hw hf rfl ty_3 0 rfl rfl) rfl fun a hf => o_nil <| c_then <| wp_block <| wp_seq <| wp_region_lit <| o_run hf (r_icmp hf rfl rfl rfl) rfl fun a hf => ?_
  refine oa hf rfl rfl fun a hf => o_nil <| c_then <| c_cond hf rfl (fun hb176 => ?_) (fun hb176 => ?_)
  ·replace hp := cond_t hb176 hp
   refine wp_seq <| wp_region_lit <| om hf rfl rfl fun a hf => ?_
   replace hw : Ok E I (.blk b4 (.cells ⟨[.string y11]⟩ 135 (0, 0)) :: .blk b17 (.cells ⟨[.int .i64 y10, .string (⟨#[]⟩ : ByteArray), .bool false, .string (⟨#[]⟩ : ByteArray), .int .i64 0, .slice none 0 0]⟩ 32 (0, 0)) :: .blk b1 (.cells ⟨[.int .i64 0, .string (⟨#[]⟩ : ByteArray), .bool false, .string (⟨#[]⟩ : ByteArray), .int .i64 0, .slice none 0 0]⟩ 32 (0, 0)) :: F) w := hw.front (i := 1) rfl
   obtain ⟨y180, hy179, hp⟩ := bind_some hp
   obtain ⟨y177, y178⟩ := y180
   have hc181 := node_reader_path_ok hw hG hy179
   refine o_call hf cb_82 rfl rfl hc181 (fun v183 w a hK182 hf => ?_)
   obtain ⟨rfl, hw⟩ := hK182
   refine o_run hf (r_fieldAddr hf rfl fd_32_1) rfl fun a hf => ?_
   obtain ⟨w, hrun184, hw⟩ := e_store (P := P) hw hf (x := .tmp 17) (y := .tmp 16) rfl rfl ty_9 1 rfl (vs := [Value.string y177]) (one_cells rfl) rfl (ones_cons rfl ones_nil) (by simp [arrC_len]) (cs' := [Value.int .i64 y10, Value.string y177, Value.bool false, Value.string (⟨#[]⟩ : ByteArray), Value.int .i64 0, Value.slice none 0 0]) rfl
   replace hw : Ok E I (.blk b4 (.cells ⟨[.string y178]⟩ 135 (0, 0)) :: .blk b17 (.cells ⟨[.int .i64 y10, .string y177, .bool false, .string (⟨#[]⟩ : ByteArray), .int .i64 0, .slice none 0 0]⟩ 32 (0, 0)) :: .blk b1 (.cells ⟨[.int .i64 0, .string (⟨#[]⟩ : ByteArray), .bool false, .string (⟨#[]⟩ : ByteArray), .int .i64 0, .slice none 0 0]⟩ 32 (0, 0)) :: F) w := hw
   refine o_effU (hrun184 ..) <| o_run hf (r_fieldAddr hf rfl fd_32_2) rfl fun a hf => ?_
   obtain ⟨w, hrun185, hw⟩ := e_store (P := P) hw hf (x := .tmp 18) (y := .const (Value.bool true)) rfl rfl ty_4 1 rfl (vs := [Value.bool true]) (one_cells rfl) rfl (ones_cons rfl ones_nil) (by simp [arrC_len]) (cs' := [Value.int .i64 y10, Value.string y177, Value.bool true, Value.string (⟨#[]⟩ : ByteArray), Value.int .i64 0, Value.slice none 0 0]) rfl
   replace hw : Ok E I (.blk b4 (.cells ⟨[.string y178]⟩ 135 (0, 0)) :: .blk b17 (.cells ⟨[.int .i64 y10, .string y177, .bool true, .string (⟨#[]⟩ : ByteArray), .int .i64 0, .slice none 0 0]⟩ 32 (0, 0)) :: .blk b1 (.cells ⟨[.int .i64 0, .string (⟨#[]⟩ : ByteArray), .bool false, .string (⟨#[]⟩ : ByteArray), .int .i64 0, .slice none 0 0]⟩ 32 (0, 0)) :: F) w := hw
   refine o_effU (hrun185 ..) <| o_nil <| c_then <| wp_region_lit <| om hf rfl rfl fun a hf => om hf rfl rfl fun a hf => ?_
   replace hw : Ok E I (.blk b4 (.cells ⟨[.string y178]⟩ 135 (0, 0)) :: .blk b17 (.cells ⟨[.int .i64 y10, .string y177, .bool true, .string (⟨#[]⟩ : ByteArray), .int .i64 0, .slice none 0 0]⟩ 32 (0, 0)) :: .blk b1 (.cells ⟨[.int .i64 0, .string (⟨#[]⟩ : ByteArray), .bool false, .string (⟨#[]⟩ : ByteArray), .int .i64 0, .slice none 0 0]⟩ 32 (0, 0)) :: F) w := hw.front (i := 0) rfl
   obtain ⟨y189, hy188, hp⟩ := bind_some hp
   obtain ⟨y186, y187⟩ := y189
   have hc190 := node_reader_number_ok hw hG hy188
   refine o_call hf cb_81 rfl rfl hc190 (fun v192 w a hK191 hf => ?_)
   obtain ⟨rfl, hw⟩ := hK191
   replace hw : Ok E I (.blk b4 (.cells ⟨[.string y187]⟩ 135 (0, 0)) :: .blk b17 (.cells ⟨[.int .i64 y10, .string y177, .bool true, .string (⟨#[]⟩ : ByteArray), .int .i64 0, .slice none 0 0]⟩ 32 (0, 0)) :: .blk b1 (.cells ⟨[.int .i64 0, .string (⟨#[]⟩ : ByteArray), .bool false, .string (⟨#[]⟩ : ByteArray), .int .i64 0, .slice none 0 0]⟩ 32 (0, 0)) :: F) w := hw.front (i := 0) rfl
   obtain ⟨y196, hy195, hp⟩ := bind_some hp
   obtain ⟨y193, y194⟩ := y196
   have hc197 := node_reader_take_ok hw hG hy195
   refine o_call hf cb_83 rfl rfl hc197 (fun v199 w a hK198 hf => ?_)
   obtain ⟨rfl, hw⟩ := hK198
   refine o_run hf (r_fieldAddr hf rfl fd_32_3) rfl fun a hf => ?_
   obtain ⟨w, hrun200, hw⟩ := e_store (P := P) hw hf (x := .tmp 23) (y := .tmp 22) rfl rfl ty_9 1 rfl (vs := [Value.string y193]) (one_cells rfl) rfl (ones_cons rfl ones_nil) (by simp [arrC_len]) (cs' := [Value.int .i64 y10, Value.string y177, Value.bool true, Value.string y193, Value.int .i64 0, Value.slice none 0 0]) rfl
   replace hw : Ok E I (.blk b4 (.cells ⟨[.string y194]⟩ 135 (0, 0)) :: .blk b17 (.cells ⟨[.int .i64 y10, .string y177, .bool true, .string y193, .int .i64 0, .slice none 0 0]⟩ 32 (0, 0)) :: .blk b1 (.cells ⟨[.int .i64 0, .string (⟨#[]⟩ : ByteArray), .bool false, .string (⟨#[]⟩ : ByteArray), .int .i64 0, .slice none 0 0]⟩ 32 (0, 0)) :: F) w := hw
   refine o_effU (hrun200 ..) <| o_nil <| c_blockN <| c_then ?_
   have ho := out_inj hp
   subst ho
   replace hw : Ok E I (.blk b1 (.cells ⟨[.int .i64 0, .string (⟨#[]⟩ : ByteArray), .bool false, .string (⟨#[]⟩ : ByteArray), .int .i64 0, .slice none 0 0]⟩ 32 (0, 0)) :: .blk b4 (.cells ⟨[.string y194]⟩ 135 (0, 0)) :: .blk b17 (.cells ⟨[.int .i64 y10, .string y177, .bool true, .string y193, .int .i64 0, .slice none 0 0]⟩ 32 (0, 0)) :: F) w := hw.front (i := 2) rfl
   replace hw : Ok E I (.blk b4 (.cells ⟨[.string y194]⟩ 135 (0, 0)) :: .blk b1 (.cells ⟨[.int .i64 0, .string (⟨#[]⟩ : ByteArray), .bool false, .string (⟨#[]⟩ : ByteArray), .int .i64 0, .slice none 0 0]⟩ 32 (0, 0)) :: .blk b17 (.cells ⟨[.int .i64 y10, .string y177, .bool true, .string y193, .int .i64 0, .slice none 0 0]⟩ 32 (0, 0)) :: F) w := hw.front (i := 1) rfl
   replace hw : Ok E I (.blk b17 (.cells ⟨[.int .i64 y10, .string y177, .bool true, .string y193, .int .i64 0, .slice none 0 0]⟩ 32 (0, 0)) :: .blk b4 (.cells ⟨[.string y194]⟩ 135 (0, 0)) :: .blk b1 (.cells ⟨[.int .i64 0, .string (⟨#[]⟩ : ByteArray), .bool false, .string (⟨#[]⟩ : ByteArray), .int .i64 0, .slice none 0 0]⟩ 32 (0, 0)) :: F) w := hw.front (i := 2) rfl
   exact ⟨y177, true, y193, 0, y194, rfl, hw, hf.to ⟨rfl, rfl, rfl, trivial⟩⟩
  ·replace hp := cond_f hb176 hp
   refine wp_seq <| wp_region_lit <| o_run hf (r_icmp hf rfl rfl rfl) rfl fun a hf => oa hf rfl rfl fun a hf => o_nil <| c_then <| c_cond hf rfl (fun hb201 => ?_) (fun hb201 => ?_)
   ·replace hp := cond_t hb201 hp
    refine wp_region_lit <| om hf rfl rfl fun a hf => ?_
    replace hw : Ok E I (.blk b4 (.cells ⟨[.string y11]⟩ 135 (0, 0)) :: .blk b17 (.cells ⟨[.int .i64 y10, .string (⟨#[]⟩ : ByteArray), .bool false, .string (⟨#[]⟩ : ByteArray), .int .i64 0, .slice none 0 0]⟩ 32 (0, 0)) :: .blk b1 (.cells ⟨[.int .i64 0, .string (⟨#[]⟩ : ByteArray), .bool false, .string (⟨#[]⟩ : ByteArray), .int .i64 0, .slice none 0 0]⟩ 32 (0, 0)) :: F) w := hw.front (i := 1) rfl
    obtain ⟨y205, hy204, hp⟩ := bind_some hp
    obtain ⟨y202, y203⟩ := y205
    have hc206 := node_reader_path_ok hw hG hy204
    refine o_call hf cb_82 rfl rfl hc206 (fun v208 w a hK207 hf => ?_)
    obtain ⟨rfl, hw⟩ := hK207
    refine o_run hf (r_fieldAddr hf rfl fd_32_1) rfl fun a hf => ?_
    obtain ⟨w, hrun209, hw⟩ := e_store (P := P) hw hf (x := .tmp 28) (y := .tmp 27) rfl rfl ty_9 1 rfl (vs := [Value.string y202]) (one_cells rfl) rfl (ones_cons rfl ones_nil) (by simp [arrC_len]) (cs' := [Value.int .i64 y10, Value.string y202, Value.bool false, Value.string (⟨#[]⟩ : ByteArray), Value.int .i64 0, Value.slice none 0 0]) rfl
    replace hw : Ok E I (.blk b4 (.cells ⟨[.string y203]⟩ 135 (0, 0)) :: .blk b17 (.cells ⟨[.int .i64 y10, .string y202, .bool false, .string (⟨#[]⟩ : ByteArray), .int .i64 0, .slice none 0 0]⟩ 32 (0, 0)) :: .blk b1 (.cells ⟨[.int .i64 0, .string (⟨#[]⟩ : ByteArray), .bool false, .string (⟨#[]⟩ : ByteArray), .int .i64 0, .slice none 0 0]⟩ 32 (0, 0)) :: F) w := hw
    refine o_effU (hrun209 ..) <| o_run hf (r_fieldAddr hf rfl fd_32_4) rfl fun a hf => ?_
    obtain ⟨w, hrun210, hw⟩ := e_store (P := P) hw hf (x := .tmp 29) (y := .const (Value.int .i64 1)) rfl rfl ty_3 1 rfl (vs := [Value.int .i64 1]) (one_cells rfl) rfl (ones_cons rfl ones_nil) (by simp [arrC_len]) (cs' := [Value.int .i64 y10, Value.string y202, Value.bool false, Value.string (⟨#[]⟩ : ByteArray), Value.int .i64 1, Value.slice none 0 0]) rfl
    replace hw : Ok E I (.blk b4 (.cells ⟨[.string y203]⟩ 135 (0, 0)) :: .blk b17 (.cells ⟨[.int .i64 y10, .string y202, .bool false, .string (⟨#[]⟩ : ByteArray), .int .i64 1, .slice none 0 0]⟩ 32 (0, 0)) :: .blk b1 (.cells ⟨[.int .i64 0, .string (⟨#[]⟩ : ByteArray), .bool false, .string (⟨#[]⟩ : ByteArray), .int .i64 0, .slice none 0 0]⟩ 32 (0, 0)) :: F) w := hw
    refine o_effU (hrun210 ..) <| o_nil <| c_blockN <| c_then ?_
    have ho := out_inj hp
    subst ho
    replace hw : Ok E I (.blk b1 (.cells ⟨[.int .i64 0, .string (⟨#[]⟩ : ByteArray), .bool false, .string (⟨#[]⟩ : ByteArray), .int .i64 0, .slice none 0 0]⟩ 32 (0, 0)) :: .blk b4 (.cells ⟨[.string y203]⟩ 135 (0, 0)) :: .blk b17 (.cells ⟨[.int .i64 y10, .string y202, .bool false, .string (⟨#[]⟩ : ByteArray), .int .i64 1, .slice none 0 0]⟩ 32 (0, 0)) :: F) w := hw.front (i := 2) rfl
    replace hw : Ok E I (.blk b4 (.cells ⟨[.string y203]⟩ 135 (0, 0)) :: .blk b1 (.cells ⟨[.int .i64 0, .string (⟨#[]⟩ : ByteArray), .bool false, .string (⟨#[]⟩ : ByteArray), .int .i64 0, .slice none 0 0]⟩ 32 (0, 0)) :: .blk b17 (.cells ⟨[.int .i64 y10, .string y202, .bool false, .string (⟨#[]⟩ : ByteArray), .int .i64 1, .slice none 0 0]⟩ 32 (0, 0)) :: F) w := hw.front (i := 1) rfl
    replace hw : Ok E I (.blk b17 (.cells ⟨[.int .i64 y10, .string y202, .bool false, .string (⟨#[]⟩ : ByteArray), .int .i64 1, .slice none 0 0]⟩ 32 (0, 0)) :: .blk b4 (.cells ⟨[.string y203]⟩ 135 (0, 0)) :: .blk b1 (.cells ⟨[.int .i64 0, .string (⟨#[]⟩ : ByteArray), .bool false, .string (⟨#[]⟩ : ByteArray), .int .i64 0, .slice none 0 0]⟩ 32 (0, 0)) :: F) w := hw.front (i := 2) rfl
    exact ⟨y202, false, (⟨#[]⟩ : ByteArray), 1, y203, rfl, hw, hf.to ⟨rfl, rfl, rfl, trivial⟩⟩
   ·replace hp := cond_f hb201 hp
    refine wp_seq <| wp_region_lit <| o_run hf (r_icmp hf rfl rfl rfl) rfl fun a hf => oa hf rfl rfl fun a hf => o_nil <| c_then <| c_cond hf rfl (fun hb211 => ?_) (fun hb211 => ?_)
    ·replace hp := cond_t hb211 hp
     refine wp_seq <| wp_region_lit <| om hf rfl rfl fun a hf => ?_
     replace hw : Ok E I (.blk b4 (.cells ⟨[.string y11]⟩ 135 (0, 0)) :: .blk b17 (.cells ⟨[.int .i64 y10, .string (⟨#[]⟩ : ByteArray), .bool false, .string (⟨#[]⟩ : ByteArray), .int .i64 0, .slice none 0 0]⟩ 32 (0, 0)) :: .blk b1 (.cells ⟨[.int .i64 0, .string (⟨#[]⟩ : ByteArray), .bool false, .string (⟨#[]⟩ : ByteArray), .int .i64 0, .slice none 0 0]⟩ 32 (0, 0)) :: F) w := hw.front (i := 1) rfl
     obtain ⟨y215, hy214, hp⟩ := bind_some hp
     obtain ⟨y212, y213⟩ := y215
     have hc216 := node_reader_number_ok hw hG hy214
     refine o_call hf cb_81 rfl rfl hc216 (fun v218 w a hK217 hf => ?_)
     obtain ⟨rfl, hw⟩ := hK217
     refine o_run hf (r_shl hf rfl rfl (by decide)) rfl fun a hf => o_run hf (r_fieldAddr hf rfl fd_32_4) rfl fun a hf => ?_
     obtain ⟨w, hrun219, hw⟩ := e_store (P := P) hw hf (x := .tmp 35) (y := .tmp 34) rfl rfl ty_3 1 rfl (vs := [Value.int .i64 (shl .i64 y212 8)]) (one_cells rfl) rfl (ones_cons rfl ones_nil) (by simp [arrC_len]) (cs' := [Value.int .i64 y10, Value.string (⟨#[]⟩ : ByteArray), Value.bool false, Value.string (⟨#[]⟩ : ByteArray), Value.int .i64 (shl .i64 y212 8), Value.slice none 0 0]) rfl
     replace hw : Ok E I (.blk b4 (.cells ⟨[.string y213]⟩ 135 (0, 0)) :: .blk b17 (.cells ⟨[.int .i64 y10, .string (⟨#[]⟩ : ByteArray), .bool false, .string (⟨#[]⟩ : ByteArray), .int .i64 (shl .i64 y212 8), .slice none 0 0]⟩ 32 (0, 0)) :: .blk b1 (.cells ⟨[.int .i64 0, .string (⟨#[]⟩ : ByteArray), .bool false, .string (⟨#[]⟩ : ByteArray), .int .i64 0, .slice none 0 0]⟩ 32 (0, 0)) :: F) w := hw
     refine o_effU (hrun219 ..) <| o_nil <| c_then <| wp_seq <| c_drawn mix [6] (.rd 0 (.rd 1 (.rd 2 (.ef 3 (.rd 4 (.rd 5 (.ef 6 .done))))))) (by kernel_rfl) hw (fun w => Ok E I (.blk b17 (.cells ⟨[.int .i64 y10, .string (⟨#[]⟩ : ByteArray), .bool false, .string (⟨#[]⟩ : ByteArray), .int .i64 (shl .i64 y212 8), .slice none 0 0]⟩ 32 (0, 0)) :: .blk b1 (.cells ⟨[.int .i64 0, .string (⟨#[]⟩ : ByteArray), .bool false, .string (⟨#[]⟩ : ByteArray), .int .i64 0, .slice none 0 0]⟩ 32 (0, 0)) :: F) w) (fun w hw => ⟨hw.sub (sc (scc (scc sr))), ?_⟩)
     refine t_rd rfl hf (fun w hw => r_fieldAddr hf rfl fd_32_4) rfl fun a hf => t_rd rfl hf (fun w hw => r_load hw hf rfl ty_3 0 rfl rfl) rfl fun a hf => tm rfl hf rfl rfl fun a hf => t_ef rfl ?_
     replace hw : Ok E I (.blk b4 (.cells ⟨[.string y213]⟩ 135 (0, 0)) :: .blk b17 (.cells ⟨[.int .i64 y10, .string (⟨#[]⟩ : ByteArray), .bool false, .string (⟨#[]⟩ : ByteArray), .int .i64 (shl .i64 y212 8), .slice none 0 0]⟩ 32 (0, 0)) :: .blk b1 (.cells ⟨[.int .i64 0, .string (⟨#[]⟩ : ByteArray), .bool false, .string (⟨#[]⟩ : ByteArray), .int .i64 0, .slice none 0 0]⟩ 32 (0, 0)) :: F) w := hw.front (i := 0) rfl
     obtain ⟨y224, hy223, hp⟩ := bind_some hp
     obtain ⟨y221, y222⟩ := y224
     have hc225 := node_reader_number_ok hw hG hy223
     refine t_call hf cb_81 rfl rfl hc225 (fun v227 w a hK226 hf => ?_)
     obtain ⟨rfl, hw⟩ := hK226
     refine ⟨.inr (hw.back (IH.le_refl _) (sc (scc (scc sr)))), ?_⟩
     refine t_rd rfl hf (fun w hw => r_or hf rfl rfl) rfl fun a hf => t_rd rfl hf (fun w hw => r_fieldAddr hf rfl fd_32_4) rfl fun a hf => t_ef rfl ?_
     obtain ⟨w, hrun228, hw⟩ := e_store (P := P) hw hf (x := .tmp 41) (y := .tmp 40) rfl rfl ty_3 1 rfl (vs := [Value.int .i64 (bor .i64 (shl .i64 y212 8) y221)]) (one_cells rfl) rfl (ones_cons rfl ones_nil) (by simp [arrC_len]) (cs' := [Value.int .i64 y10, Value.string (⟨#[]⟩ : ByteArray), Value.bool false, Value.string (⟨#[]⟩ : ByteArray), Value.int .i64 (bor .i64 (shl .i64 y212 8) y221), Value.slice none 0 0]) rfl
     replace hw : Ok E I (.blk b4 (.cells ⟨[.string y222]⟩ 135 (0, 0)) :: .blk b17 (.cells ⟨[.int .i64 y10, .string (⟨#[]⟩ : ByteArray), .bool false, .string (⟨#[]⟩ : ByteArray), .int .i64 (bor .i64 (shl .i64 y212 8) y221), .slice none 0 0]⟩ 32 (0, 0)) :: .blk b1 (.cells ⟨[.int .i64 0, .string (⟨#[]⟩ : ByteArray), .bool false, .string (⟨#[]⟩ : ByteArray), .int .i64 0, .slice none 0 0]⟩ 32 (0, 0)) :: F) w := hw
     refine t_effU (hrun228 ..) ⟨.inl rfl, ?_⟩
     refine t_done <| c_then <| wp_seq <| wp_region_lit <| om hf rfl rfl fun a hf => ?_
     replace hw : Ok E I (.blk b4 (.cells ⟨[.string y222]⟩ 135 (0, 0)) :: .blk b17 (.cells ⟨[.int .i64 y10, .string (⟨#[]⟩ : ByteArray), .bool false, .string (⟨#[]⟩ : ByteArray), .int .i64 (bor .i64 (shl .i64 y212 8) y221), .slice none 0 0]⟩ 32 (0, 0)) :: .blk b1 (.cells ⟨[.int .i64 0, .string (⟨#[]⟩ : ByteArray), .bool false, .string (⟨#[]⟩ : ByteArray), .int .i64 0, .slice none 0 0]⟩ 32 (0, 0)) :: F) w := hw.front (i := 0) rfl
     obtain ⟨y232, hy231, hp⟩ := bind_some hp
     obtain ⟨y229, y230⟩ := y232
     have hc233 := node_reader_number_ok hw hG hy231
     refine o_call hf cb_81 rfl rfl hc233 (fun v235 w a hK234 hf => ?_)
     obtain ⟨rfl, hw⟩ := hK234
     refine o_run hf (r_icmp hf rfl rfl rfl) rfl fun a hf => o_run hf (r_fieldAddr hf rfl fd_32_2) rfl fun a hf => ?_
     obtain ⟨w, hrun236, hw⟩ := e_store (P := P) hw hf (x := .tmp 45) (y := .tmp 44) rfl rfl ty_4 1 rfl (vs := [Value.bool (y229 == 1)]) (one_cells rfl) rfl (ones_cons rfl ones_nil) (by simp [arrC_len]) (cs' := [Value.int .i64 y10, Value.string (⟨#[]⟩ : ByteArray), Value.bool (y229 == 1), Value.string (⟨#[]⟩ : ByteArray), Value.int .i64 (bor .i64 (shl .i64 y212 8) y221), Value.slice none 0 0]) rfl
     replace hw : Ok E I (.blk b4 (.cells ⟨[.string y230]⟩ 135 (0, 0)) :: .blk b17 (.cells ⟨[.int .i64 y10, .string (⟨#[]⟩ : ByteArray), .bool (y229 == 1), .string (⟨#[]⟩ : ByteArray), .int .i64 (bor .i64 (shl .i64 y212 8) y221), .slice none 0 0]⟩ 32 (0, 0)) :: .blk b1 (.cells ⟨[.int .i64 0, .string (⟨#[]⟩ : ByteArray), .bool false, .string (⟨#[]⟩ : ByteArray), .int .i64 0, .slice none 0 0]⟩ 32 (0, 0)) :: F) w := hw
     refine o_effU (hrun236 ..) <| o_nil <| c_then <| wp_seq <| wp_region_lit <| o_run hf (r_fieldAddr hf rfl fd_32_2) rfl fun a hf => o_run hf (r_load hw hf rfl ty_4 1 rfl rfl) rfl fun a hf => o_nil <| c_then <| c_cond hf rfl (fun hb237 => ?_) (fun hb237 => ?_)
     ·replace hp := cond_t hb237 hp
      refine wp_region_lit <| om hf rfl rfl fun a hf => om hf rfl rfl fun a hf => ?_
      replace hw : Ok E I (.blk b4 (.cells ⟨[.string y230]⟩ 135 (0, 0)) :: .blk b17 (.cells ⟨[.int .i64 y10, .string (⟨#[]⟩ : ByteArray), .bool (y229 == 1), .string (⟨#[]⟩ : ByteArray), .int .i64 (bor .i64 (shl .i64 y212 8) y221), .slice none 0 0]⟩ 32 (0, 0)) :: .blk b1 (.cells ⟨[.int .i64 0, .string (⟨#[]⟩ : ByteArray), .bool false, .string (⟨#[]⟩ : ByteArray), .int .i64 0, .slice none 0 0]⟩ 32 (0, 0)) :: F) w := hw.front (i := 0) rfl
      obtain ⟨y241, hy240, hp⟩ := bind_some hp
      obtain ⟨y238, y239⟩ := y241
      have hc242 := node_reader_number_ok hw hG hy240
      refine o_call hf cb_81 rfl rfl hc242 (fun v244 w a hK243 hf => ?_)
      obtain ⟨rfl, hw⟩ := hK243
      replace hw : Ok E I (.blk b4 (.cells ⟨[.string y239]⟩ 135 (0, 0)) :: .blk b17 (.cells ⟨[.int .i64 y10, .string (⟨#[]⟩ : ByteArray), .bool (y229 == 1), .string (⟨#[]⟩ : ByteArray), .int .i64 (bor .i64 (shl .i64 y212 8) y221), .slice none 0 0]⟩ 32 (0, 0)) :: .blk b1 (.cells ⟨[.int .i64 0, .string (⟨#[]⟩ : ByteArray), .bool false, .string (⟨#[]⟩ : ByteArray), .int .i64 0, .slice none 0 0]⟩ 32 (0, 0)) :: F) w := hw.front (i := 0) rfl
      obtain ⟨y248, hy247, hp⟩ := bind_some hp
      obtain ⟨y245, y246⟩ := y248
      have hc249 := node_reader_take_ok hw hG hy247
      refine o_call hf cb_83 rfl rfl hc249 (fun v251 w a hK250 hf => ?_)
      obtain ⟨rfl, hw⟩ := hK250
      refine o_run hf (r_fieldAddr hf rfl fd_32_3) rfl fun a hf => ?_
      obtain ⟨w, hrun252, hw⟩ := e_store (P := P) hw hf (x := .tmp 52) (y := .tmp 51) rfl rfl ty_9 1 rfl (vs := [Value.string y245]) (one_cells rfl) rfl (ones_cons rfl ones_nil) (by simp [arrC_len]) (cs' := [Value.int .i64 y10, Value.string (⟨#[]⟩ : ByteArray), Value.bool (y229 == 1), Value.string y245, Value.int .i64 (bor .i64 (shl .i64 y212 8) y221), Value.slice none 0 0]) rfl
      replace hw : Ok E I (.blk b4 (.cells ⟨[.string y246]⟩ 135 (0, 0)) :: .blk b17 (.cells ⟨[.int .i64 y10, .string (⟨#[]⟩ : ByteArray), .bool (y229 == 1), .string y245, .int .i64 (bor .i64 (shl .i64 y212 8) y221), .slice none 0 0]⟩ 32 (0, 0)) :: .blk b1 (.cells ⟨[.int .i64 0, .string (⟨#[]⟩ : ByteArray), .bool false, .string (⟨#[]⟩ : ByteArray), .int .i64 0, .slice none 0 0]⟩ 32 (0, 0)) :: F) w := hw
      refine o_effU (hrun252 ..) <| o_nil <| c_blockN <| c_then ?_
      have ho := out_inj hp
      subst ho
      replace hw : Ok E I (.blk b1 (.cells ⟨[.int .i64 0, .string (⟨#[]⟩ : ByteArray), .bool false, .string (⟨#[]⟩ : ByteArray), .int .i64 0, .slice none 0 0]⟩ 32 (0, 0)) :: .blk b4 (.cells ⟨[.string y246]⟩ 135 (0, 0)) :: .blk b17 (.cells ⟨[.int .i64 y10, .string (⟨#[]⟩ : ByteArray), .bool (y229 == 1), .string y245, .int .i64 (bor .i64 (shl .i64 y212 8) y221), .slice none 0 0]⟩ 32 (0, 0)) :: F) w := hw.front (i := 2) rfl
      replace hw : Ok E I (.blk b4 (.cells ⟨[.string y246]⟩ 135 (0, 0)) :: .blk b1 (.cells ⟨[.int .i64 0, .string (⟨#[]⟩ : ByteArray), .bool false, .string (⟨#[]⟩ : ByteArray), .int .i64 0, .slice none 0 0]⟩ 32 (0, 0)) :: .blk b17 (.cells ⟨[.int .i64 y10, .string (⟨#[]⟩ : ByteArray), .bool (y229 == 1), .string y245, .int .i64 (bor .i64 (shl .i64 y212 8) y221), .slice none 0 0]⟩ 32 (0, 0)) :: F) w := hw.front (i := 1) rfl
      replace hw : Ok E I (.blk b17 (.cells ⟨[.int .i64 y10, .string (⟨#[]⟩ : ByteArray), .bool (y229 == 1), .string y245, .int .i64 (bor .i64 (shl .i64 y212 8) y221), .slice none 0 0]⟩ 32 (0, 0)) :: .blk b4 (.cells ⟨[.string y246]⟩ 135 (0, 0)) :: .blk b1 (.cells ⟨[.int .i64 0, .string (⟨#[]⟩ : ByteArray), .bool false, .string (⟨#[]⟩ : ByteArray), .int .i64 0, .slice none 0 0]⟩ 32 (0, 0)) :: F) w := hw.front (i := 2) rfl
      exact ⟨(⟨#[]⟩ : ByteArray), (y229 == 1), y245, (bor .i64 (shl .i64 y212 8) y221), y246, rfl, hw, hf.to ⟨rfl, rfl, rfl, trivial⟩⟩
     ·replace hp := cond_f hb237 hp
      refine wp_skip <| c_blockN <| c_then ?_
      have ho := out_inj hp
      subst ho
      replace hw : Ok E I (.blk b1 (.cells ⟨[.int .i64 0, .string (⟨#[]⟩ : ByteArray), .bool false, .string (⟨#[]⟩ : ByteArray), .int .i64 0, .slice none 0 0]⟩ 32 (0, 0)) :: .blk b4 (.cells ⟨[.string y230]⟩ 135 (0, 0)) :: .blk b17 (.cells ⟨[.int .i64 y10, .string (⟨#[]⟩ : ByteArray), .bool (y229 == 1), .string (⟨#[]⟩ : ByteArray), .int .i64 (bor .i64 (shl .i64 y212 8) y221), .slice none 0 0]⟩ 32 (0, 0)) :: F) w := hw.front (i := 2) rfl
      replace hw : Ok E I (.blk b4 (.cells ⟨[.string y230]⟩ 135 (0, 0)) :: .blk b1 (.cells ⟨[.int .i64 0, .string (⟨#[]⟩ : ByteArray), .bool false, .string (⟨#[]⟩ : ByteArray), .int .i64 0, .slice none 0 0]⟩ 32 (0, 0)) :: .blk b17 (.cells ⟨[.int .i64 y10, .string (⟨#[]⟩ : ByteArray), .bool (y229 == 1), .string (⟨#[]⟩ : ByteArray), .int .i64 (bor .i64 (shl .i64 y212 8) y221), .slice none 0 0]⟩ 32 (0, 0)) :: F) w := hw.front (i := 1) rfl
      replace hw : Ok E I (.blk b17 (.cells ⟨[.int .i64 y10, .string (⟨#[]⟩ : ByteArray), .bool (y229 == 1), .string (⟨#[]⟩ : ByteArray), .int .i64 (bor .i64 (shl .i64 y212 8) y221), .slice none 0 0]⟩ 32 (0, 0)) :: .blk b4 (.cells ⟨[.string y230]⟩ 135 (0, 0)) :: .blk b1 (.cells ⟨[.int .i64 0, .string (⟨#[]⟩ : ByteArray), .bool false, .string (⟨#[]⟩ : ByteArray), .int .i64 0, .slice none 0 0]⟩ 32 (0, 0)) :: F) w := hw.front (i := 2) rfl
      exact ⟨(⟨#[]⟩ : ByteArray), (y229 == 1), (⟨#[]⟩ : ByteArray), (bor .i64 (shl .i64 y212 8) y221), y230, rfl, hw, hf.to ⟨rfl, rfl, rfl, trivial⟩⟩
    ·replace hp := cond_f hb211 hp
     refine wp_skip <| c_blockN <| c_then ?_
     have ho := out_inj hp
     subst ho
     exact ⟨(⟨#[]⟩ : ByteArray), false, (⟨#[]⟩ : ByteArray), 0, y11, rfl, hw, hf.to ⟨rfl, rfl, rfl, trivial⟩⟩
 ·intro a w hM
  obtain ⟨y169, y170, y171, y172, y173, rfl, hw, hf⟩ := hM
  replace hp := hq175
  refine wp_seq <| wp_region_lit <| om hf rfl rfl fun a hf => ?_
  replace hw : Ok E I (.blk b4 (.cells ⟨[.string y173]⟩ 135 (0, 0)) :: .blk b17 (.cells ⟨[.int .i64 y10, .string y169, .bool y170, .string y171, .int .i64 y172, .slice none 0 0]⟩ 32 (0, 0)) :: .blk b1 (.cells ⟨[.int .i64 0, .string (⟨#[]⟩ : ByteArray), .bool false, .string (⟨#[]⟩ : ByteArray), .int .i64 0, .slice none 0 0]⟩ 32 (0, 0)) :: F) w := hw.front (i := 1) rfl
  obtain ⟨y128, hy127, hp⟩ := bind_some hp
  obtain ⟨y125, y126⟩ := y128
  have hc129 := node_reader_rest_ok hw hG hy127
  refine o_call hf cb_84 rfl rfl hc129 (fun v133 w a hK130 hf => ?_)
  obtain ⟨I2_130, rvv131, hv0, hle134, hw, hR132⟩ := hK130
  subst v133
  replace hG := hG.mono hle134
  refine o_run hf (r_fieldAddr hf rfl fd_32_5) rfl fun a hf => ?_
  obtain ⟨w, hrun135, hw⟩ := e_store (P := P) hw hf (x := .tmp 55) (y := .tmp 54) rfl rfl ty_28 1 rfl (vs := [rvv131]) (one_cells hR132.one) rfl (ones_cons hR132.one ones_nil) (by simp [arrC_len]) (cs' := [Value.int .i64 y10, Value.string y169, Value.bool y170, Value.string y171, Value.int .i64 y172, rvv131]) rfl
  replace hw : Ok E I2_130 (.blk b4 (.cells ⟨[.string y126]⟩ 135 (0, 0)) :: .blk b17 (.cells ⟨[.int .i64 y10, .string y169, .bool y170, .string y171, .int .i64 y172, rvv131]⟩ 32 (0, 0)) :: .blk b1 (.cells ⟨[.int .i64 0, .string (⟨#[]⟩ : ByteArray), .bool false, .string (⟨#[]⟩ : ByteArray), .int .i64 0, .slice none 0 0]⟩ 32 (0, 0)) :: F) w := hw
  refine o_effU (hrun135 ..) <| o_nil <| c_then <| wp_seq <| wp_region_lit <| o_run hf (r_loadA hw hf rfl ty_32 1 rfl (vs := [Value.int .i64 y10, Value.string y169, Value.bool y170, Value.string y171, Value.int .i64 y172, rvv131]) rfl rfl) rfl fun a hf => ?_
  obtain ⟨w, hrun136, hw⟩ := e_store (P := P) hw hf (x := .tmp 2) (y := .tmp 56) rfl rfl ty_32 2 rfl (vs := [Value.int .i64 y10, Value.string y169, Value.bool y170, Value.string y171, Value.int .i64 y172, rvv131]) rfl rfl (ones_cons rfl (ones_cons rfl (ones_cons rfl (ones_cons rfl (ones_cons rfl (ones_cons hR132.one ones_nil)))))) (by simp [arrC_len]) (cs' := [Value.int .i64 y10, Value.string y169, Value.bool y170, Value.string y171, Value.int .i64 y172, rvv131]) rfl
  replace hw : Ok E I2_130 (.blk b4 (.cells ⟨[.string y126]⟩ 135 (0, 0)) :: .blk b17 (.cells ⟨[.int .i64 y10, .string y169, .bool y170, .string y171, .int .i64 y172, rvv131]⟩ 32 (0, 0)) :: .blk b1 (.cells ⟨[.int .i64 y10, .string y169, .bool y170, .string y171, .int .i64 y172, rvv131]⟩ 32 (0, 0)) :: F) w := hw
  refine o_effU (hrun136 ..) <| o_nil <| c_then <| wp_ret ?_
  replace hw : Ok E I2_130 (.blk b1 (.cells ⟨[.int .i64 y10, .string y169, .bool y170, .string y171, .int .i64 y172, rvv131]⟩ 32 (0, 0)) :: F) w := hw.sub (sc (sc (scc sr)))
  have ho := out_inj hp
  subst ho
  exact b_retC hw hf Go.Proofs.Tryd.results60 ty_32 rfl 0 rfl (vs := [Value.int .i64 y10, Value.string y169, Value.bool y170, Value.string y171, Value.int .i64 y172, rvv131]) rfl rfl ⟨_, rfl, ⟨I2_130, rvv131, rfl, hle134, hw.tail, hR132⟩⟩

theorem node_Decode_ok {E : World} {I : IH} {F : List Atom} {w : World} {a0 : ByteArray} {res0 : Item} {res1 : Bool} (hw : Ok E I (F) w) (hG : Gl I) (hp : node_Decode.f a0 = some (res0, res1)) :
  Calls P 38 ⟨[Value.string a0]⟩ w fun e w' => ∃ v, e = .returned v ∧ ∃ I2 : IH, ∃ rvv7813 : Value, v = Value.tuple ⟨[Value.agg ⟨[Value.int .i64 res0.kind_, Value.string res0.path_, Value.bool res0.has_, Value.string res0.value_, Value.int .i64 res0.mask_, rvv7813]⟩, Value.bool res1]⟩ ∧ IH.le I I2 ∧ Ok E I2 (F) w' ∧ RS ekS I2 rvv7813 res0.hashes_ := by
 refine c_enter Go.Proofs.Tryd.func38 rfl Go.Proofs.Tryd.ntmps38 rfl fun a hf => ?_
 replace hf : Fr 23 [(0, .string a0)] a := hf
 unfold node_Decode.f at hp
 refine wp_seq <| wp_region_lit ?_
 obtain ⟨b1, w, hrun2, hw⟩ := e_alloc (P := P) (a := a) hw ty_32
 replace hw : Ok E I (.blk b1 (.cells ⟨[.int .i64 0, .string (⟨#[]⟩ : ByteArray), .bool false, .string (⟨#[]⟩ : ByteArray), .int .i64 0, .slice none 0 0]⟩ 32 (0, 0)) :: F) w := hw
 refine o_eff hf (hrun2 ..) rfl fun a hf => oa hf rfl rfl fun a hf => o_nil <| c_then <| wp_seq <| wp_region_lit <| om hf rfl rfl fun a hf => ?_
 obtain ⟨y137, hy138, hp⟩ := bind_some hp
 have hc140 := node_read_ok hw hG hy138
 refine o_call hf cb_60 rfl rfl hc140 (fun v144 w a hK141 hf => ?_)
 obtain ⟨I2_141, rvv142, rfl, hle145, hw, hR143⟩ := hK141
 replace hG := hG.mono hle145
 obtain ⟨b146, w, hrun147, hw⟩ := e_alloc (P := P) (a := a) hw ty_32
 replace hw : Ok E I2_141 (.blk b146 (.cells ⟨[.int .i64 0, .string (⟨#[]⟩ : ByteArray), .bool false, .string (⟨#[]⟩ : ByteArray), .int .i64 0, .slice none 0 0]⟩ 32 (0, 0)) :: .blk b1 (.cells ⟨[.int .i64 0, .string (⟨#[]⟩ : ByteArray), .bool false, .string (⟨#[]⟩ : ByteArray), .int .i64 0, .slice none 0 0]⟩ 32 (0, 0)) :: F) w := hw
 refine o_eff hf (hrun147 ..) rfl fun a hf => ?_
 obtain ⟨w, hrun149, hw⟩ := e_store (P := P) hw hf (x := .tmp 4) (y := .tmp 8) rfl rfl ty_32 0 rfl (vs := [Value.int .i64 y137.kind_, Value.string y137.path_, Value.bool y137.has_, Value.string y137.value_, Value.int .i64 y137.mask_, rvv142]) rfl rfl (ones_cons rfl (ones_cons rfl (ones_cons rfl (ones_cons rfl (ones_cons rfl (ones_cons hR143.one ones_nil)))))) (by simp [arrC_len]) (cs' := [Value.int .i64 y137.kind_, Value.string y137.path_, Value.bool y137.has_, Value.string y137.value_, Value.int .i64 y137.mask_, rvv142]) rfl
 replace hw : Ok E I2_141 (.blk b146 (.cells ⟨[.int .i64 y137.kind_, .string y137.path_, .bool y137.has_, .string y137.value_, .int .i64 y137.mask_, rvv142]⟩ 32 (0, 0)) :: .blk b1 (.cells ⟨[.int .i64 0, .string (⟨#[]⟩ : ByteArray), .bool false, .string (⟨#[]⟩ : ByteArray), .int .i64 0, .slice none 0 0]⟩ 32 (0, 0)) :: F) w := hw
 refine o_effU (hrun149 ..) <| o_nil <| c_then <| wp_seq <| wp_seq <| wp_region_lit <| o_run hf (r_loadA hw hf rfl ty_32 0 rfl (vs := [Value.int .i64 y137.kind_, Value.string y137.path_, Value.bool y137.has_, Value.string y137.value_, Value.int .i64 y137.mask_, rvv142]) rfl rfl) rfl fun a hf => ?_
 obtain ⟨y168, hy167, hp⟩ := bind_some hp
 obtain ⟨y165, y166⟩ := y168
 have hc169 := node_Encode_ok hw hG hR143 hy167
 refine o_call hf cb_28 rfl rfl hc169 (fun v171 w a hK170 hf => ?_)
 obtain ⟨rfl, hw⟩ := hK170
 refine om hf rfl rfl fun a hf => o_run hf (r_extract hf rfl rfl) rfl fun a hf => o_run hf (r_extract hf rfl rfl) rfl fun a hf => oa hf rfl rfl fun a hf => oa hf rfl rfl fun a hf => o_nil <| c_then ?_
 obtain ⟨out175, hp, hq176⟩ := bind_some hp
 refine c_cut (fun a w => ∃ y174 : Bool, y174 = out175 ∧ Ok E I2_141 (.blk b146 (.cells ⟨[.int .i64 y137.kind_, .string y137.path_, .bool y137.has_, .string y137.value_, .int .i64 y137.mask_, rvv142]⟩ 32 (0, 0)) :: .blk b1 (.cells ⟨[.int .i64 0, .string (⟨#[]⟩ : ByteArray), .bool false, .string (⟨#[]⟩ : ByteArray), .int .i64 0, .slice none 0 0]⟩ 32 (0, 0)) :: F) w ∧ Fr 23 ([(2, .pointer (some ⟨b1, 0, none⟩)), (4, .pointer (some ⟨b146, 0, none⟩)), (20, .bool y174)]) a) ?_ ?_
 ·refine wp_region_lit <| om hf rfl rfl fun a hf => o_run hf (r_not hf rfl) rfl fun a hf => om hf rfl rfl fun a hf => g_split hf (g := 16) rfl (fun hb177 hf => ?_) (fun hb177 hf => ?_)
  ·replace hp := cond_t hb177 hp
   refine o_skip hf (g := 16) rfl rfl rfl rfl rfl rfl fun a hf => o_skip hf (g := 16) rfl rfl rfl rfl rfl rfl fun a hf => o_skip hf (g := 16) rfl rfl rfl rfl rfl rfl fun a hf => o_run hf (r_pickT hf rfl rfl) rfl fun a hf => o_nil <| c_then ?_
   have ho := out_inj hp
   subst ho
   exact ⟨true, rfl, hw, hf.to ⟨rfl, rfl, rfl, trivial⟩⟩
  ·replace hp := cond_f hb177 hp
   refine o_want hf (g := 16) rfl rfl <| om hf rfl rfl fun a hf => o_want hf (g := 16) rfl rfl <| om hf rfl rfl fun a hf => o_want hf (g := 16) rfl rfl <| o_run hf (r_scmp hf rfl rfl rfl) rfl fun a hf => o_run hf (r_pickF hf rfl rfl) rfl fun a hf => o_nil <| c_then ?_
   have ho := out_inj hp
   subst ho
   exact ⟨(!(seq_ y165 a0)), rfl, hw, hf.to ⟨rfl, rfl, rfl, trivial⟩⟩
 ·intro a w hM
  obtain ⟨y174, rfl, hw, hf⟩ := hM
  replace hp := hq176
  refine c_cond hf rfl (fun hb178 => ?_) (fun hb178 => ?_)
  ·replace hp := cond_t hb178 hp
   refine wp_seq <| wp_region_lit <| o_run hf (r_build hf bd_32 (vs := []) rfl trivial (by decide) (out := [Value.int .i64 0, Value.string (⟨#[]⟩ : ByteArray), Value.bool false, Value.string (⟨#[]⟩ : ByteArray), Value.int .i64 0, Value.slice none 0 0]) rfl) rfl fun a hf => ?_
   obtain ⟨w, hrun179, hw⟩ := e_store (P := P) hw hf (x := .tmp 2) (y := .tmp 21) rfl rfl ty_32 1 rfl (vs := [Value.int .i64 0, Value.string (⟨#[]⟩ : ByteArray), Value.bool false, Value.string (⟨#[]⟩ : ByteArray), Value.int .i64 0, Value.slice none 0 0]) rfl rfl (ones_cons rfl (ones_cons rfl (ones_cons rfl (ones_cons rfl (ones_cons rfl (ones_cons rfl ones_nil)))))) (by simp [arrC_len]) (cs' := [Value.int .i64 0, Value.string (⟨#[]⟩ : ByteArray), Value.bool false, Value.string (⟨#[]⟩ : ByteArray), Value.int .i64 0, Value.slice none 0 0]) rfl
   replace hw : Ok E I2_141 (.blk b146 (.cells ⟨[.int .i64 y137.kind_, .string y137.path_, .bool y137.has_, .string y137.value_, .int .i64 y137.mask_, rvv142]⟩ 32 (0, 0)) :: .blk b1 (.cells ⟨[.int .i64 0, .string (⟨#[]⟩ : ByteArray), .bool false, .string (⟨#[]⟩ : ByteArray), .int .i64 0, .slice none 0 0]⟩ 32 (0, 0)) :: F) w := hw
   refine o_effU (hrun179 ..) <| oa hf rfl rfl fun a hf => o_nil <| c_then <| wp_ret <| c_thenR ?_
   replace hw : Ok E I2_141 (.blk b1 (.cells ⟨[.int .i64 0, .string (⟨#[]⟩ : ByteArray), .bool false, .string (⟨#[]⟩ : ByteArray), .int .i64 0, .slice none 0 0]⟩ 32 (0, 0)) :: F) w := hw.sub (sc (scc sr))
   have ho := out_inj hp
   simp only [Prod.mk.injEq] at ho
   obtain ⟨rfl, rfl⟩ := ho
   exact b_retC2 hw hf Go.Proofs.Tryd.results38 ty_32 rfl 0 rfl (vs := [Value.int .i64 0, Value.string (⟨#[]⟩ : ByteArray), Value.bool false, Value.string (⟨#[]⟩ : ByteArray), Value.int .i64 0, Value.slice none 0 0]) rfl rfl rfl ⟨_, rfl, ⟨I2_141, (Value.slice none 0 0), rfl, hle145, hw.tail, RS.nil⟩⟩
  ·replace hp := cond_f hb178 hp
   refine wp_skip <| c_then <| wp_seq <| wp_region_lit <| o_run hf (r_loadA hw hf rfl ty_32 0 rfl (vs := [Value.int .i64 y137.kind_, Value.string y137.path_, Value.bool y137.has_, Value.string y137.value_, Value.int .i64 y137.mask_, rvv142]) rfl rfl) rfl fun a hf => ?_
   obtain ⟨w, hrun180, hw⟩ := e_store (P := P) hw hf (x := .tmp 2) (y := .tmp 22) rfl rfl ty_32 1 rfl (vs := [Value.int .i64 y137.kind_, Value.string y137.path_, Value.bool y137.has_, Value.string y137.value_, Value.int .i64 y137.mask_, rvv142]) rfl rfl (ones_cons rfl (ones_cons rfl (ones_cons rfl (ones_cons rfl (ones_cons rfl (ones_cons hR143.one ones_nil)))))) (by simp [arrC_len]) (cs' := [Value.int .i64 y137.kind_, Value.string y137.path_, Value.bool y137.has_, Value.string y137.value_, Value.int .i64 y137.mask_, rvv142]) rfl
   replace hw : Ok E I2_141 (.blk b146 (.cells ⟨[.int .i64 y137.kind_, .string y137.path_, .bool y137.has_, .string y137.value_, .int .i64 y137.mask_, rvv142]⟩ 32 (0, 0)) :: .blk b1 (.cells ⟨[.int .i64 y137.kind_, .string y137.path_, .bool y137.has_, .string y137.value_, .int .i64 y137.mask_, rvv142]⟩ 32 (0, 0)) :: F) w := hw
   refine o_effU (hrun180 ..) <| oa hf rfl rfl fun a hf => o_nil <| c_then <| wp_ret ?_
   replace hw : Ok E I2_141 (.blk b1 (.cells ⟨[.int .i64 y137.kind_, .string y137.path_, .bool y137.has_, .string y137.value_, .int .i64 y137.mask_, rvv142]⟩ 32 (0, 0)) :: F) w := hw.sub (sc (scc sr))
   have ho := out_inj hp
   simp only [Prod.mk.injEq] at ho
   obtain ⟨rfl, rfl⟩ := ho
   exact b_retC2 hw hf Go.Proofs.Tryd.results38 ty_32 rfl 0 rfl (vs := [Value.int .i64 y137.kind_, Value.string y137.path_, Value.bool y137.has_, Value.string y137.value_, Value.int .i64 y137.mask_, rvv142]) rfl rfl rfl ⟨_, rfl, ⟨I2_141, rvv142, rfl, hle145, hw.tail, hR143⟩⟩
end Go.Lf
