import Derived.Test.YtckhmgglgbnaaaaGreatDoorZD
import Derived.Test.YtckhmgglgbnaaaaGreatDoorZF
import Derived.Test.YtckhmgglgbnaaaaGreatDoorJ
import Derived.Test.YtckhmgglgbnaaaaGreatDoorUB
set_option linter.unusedVariables false
set_option linter.unusedSimpArgs false
set_option maxHeartbeats 1000000
set_option maxRecDepth 20000
namespace Go.Lf
open Go Go.Proofs.Tryz
theorem math_bits_OnesCount64_ok {E : World} {I : IH} {F : List Atom} {w : World} {a0 : Int} {res0 : Int} (hw : Ok E I (F) w) (hG : Gl I) (hp : math_bits_OnesCount64.f a0 = some res0) :
  Calls P 179 ⟨[Value.int .u64 a0]⟩ w fun e w' => ∃ v, e = .returned v ∧ v = Value.int .i64 res0 ∧ Ok E I (F) w' := by
 refine c_enter func179 rfl ntmps179 rfl fun a hf => ?_
 replace hf : Fr 35 [(0, .int .u64 a0)] a := hf
 unfold math_bits_OnesCount64.f at hp
 refine wq <| wr <| oa hf rfl rfl fun a hf => oN <| ct <| wq <| wr <| om hf rfl rfl fun a hf => oR hf (r_shr hf rfl rfl (by decide)) rfl fun a hf => oR hf (r_and hf rfl rfl) rfl fun a hf => om hf rfl rfl fun a hf => oR hf (r_and hf rfl rfl) rfl fun a hf => oR hf (r_add hf rfl rfl) rfl fun a hf => oa hf rfl rfl fun a hf => oN <| ct ?_
 refine wq <| wr <| om hf rfl rfl fun a hf => oR hf (r_shr hf rfl rfl (by decide)) rfl fun a hf => oR hf (r_and hf rfl rfl) rfl fun a hf => om hf rfl rfl fun a hf => oR hf (r_and hf rfl rfl) rfl fun a hf => oR hf (r_add hf rfl rfl) rfl fun a hf => oa hf rfl rfl fun a hf => oN <| ct <| wq <| wr <| om hf rfl rfl fun a hf => oR hf (r_shr hf rfl rfl (by decide)) rfl fun a hf => om hf rfl rfl fun a hf => ?_
 refine oR hf (r_add hf rfl rfl) rfl fun a hf => oR hf (r_and hf rfl rfl) rfl fun a hf => oa hf rfl rfl fun a hf => oN <| ct <| wq <| wr <| om hf rfl rfl fun a hf => om hf rfl rfl fun a hf => oR hf (r_shr hf rfl rfl (by decide)) rfl fun a hf => oR hf (r_add hf rfl rfl) rfl fun a hf => oa hf rfl rfl fun a hf => oN <| ct <| wq <| wr ?_
 refine om hf rfl rfl fun a hf => om hf rfl rfl fun a hf => oR hf (r_shr hf rfl rfl (by decide)) rfl fun a hf => oR hf (r_add hf rfl rfl) rfl fun a hf => oa hf rfl rfl fun a hf => oN <| ct <| wq <| wr <| om hf rfl rfl fun a hf => om hf rfl rfl fun a hf => oR hf (r_shr hf rfl rfl (by decide)) rfl fun a hf => oR hf (r_add hf rfl rfl) rfl fun a hf => oa hf rfl rfl fun a hf => oN <| ct ?_
 refine wq <| wr <| om hf rfl rfl fun a hf => oR hf (r_convI hf und_215 und_3 rfl) rfl fun a hf => oR hf (r_and hf rfl rfl) rfl fun a hf => oa hf rfl rfl fun a hf => oN <| ct <| wp_ret ?_
 have ho := oI hp
 subst ho
 exact b_ret1 hf results179 rfl ⟨_, rfl, ⟨rfl, hw⟩⟩

theorem math_bits_OnesCount_ok {E : World} {I : IH} {F : List Atom} {w : World} {a0 : Int} {res0 : Int} (hw : Ok E I (F) w) (hG : Gl I) (hp : math_bits_OnesCount.f a0 = some res0) :
  Calls P 133 ⟨[Value.int .u64 a0]⟩ w fun e w' => ∃ v, e = .returned v ∧ v = Value.int .i64 res0 ∧ Ok E I (F) w' := by
 refine c_enter func133 rfl ntmps133 rfl fun a hf => ?_
 replace hf : Fr 8 [(0, .int .u64 a0)] a := hf
 unfold math_bits_OnesCount.f at hp
 refine wq <| wr <| oa hf rfl rfl fun a hf => oN <| ct <| wq <| wp_cond_false (hf.ev rfl) <| wp_skip <| ct <| wq <| wr <| om hf rfl rfl fun a hf => ?_
 obtain ⟨y1, hy2, hp⟩ := bS hp
 have hc4 := math_bits_OnesCount64_ok hw hG hy2
 refine o_call hf cb_179 rfl rfl hc4 (fun v6 w a hK5 hf => ?_)
 obtain ⟨rfl, hw⟩ := hK5
 refine oa hf rfl rfl fun a hf => oN <| ct <| wp_ret ?_
 have ho := oI hp
 subst ho
 exact b_ret1 hf results133 rfl ⟨_, rfl, ⟨rfl, hw⟩⟩

theorem node_hashes_c1_ok {E : World} {I : IH} {F : List Atom} {w : World} {a0 : ByteArray} {res0 : Bool} (hw : Ok E I (F) w) (hG : Gl I) (hp : node_hashes_c1.f a0 = some res0) :
  Calls P 134 ⟨[Value.string a0]⟩ w fun e w' => ∃ v, e = .returned v ∧ v = Value.bool res0 ∧ Ok E I (F) w' := by
 refine c_enter func134 rfl ntmps134 rfl fun a hf => ?_
 replace hf : Fr 6 [(0, .string a0)] a := hf
 unfold node_hashes_c1.f at hp
 refine wq <| wr <| oa hf rfl rfl fun a hf => oN <| ct <| wq <| wr <| om hf rfl rfl fun a hf => oR hf (r_lenS hf und_9 rfl) rfl fun a hf => oR hf (iC hf rfl rfl rfl) rfl fun a hf => oa hf rfl rfl fun a hf => oN <| ct <| wp_ret ?_
 have ho := oI hp
 subst ho
 exact b_ret1 hf results134 rfl ⟨_, rfl, ⟨rfl, hw⟩⟩

theorem slices_IndexFunc_string_node_hashes_c1_ok {E : World} {I : IH} {F : List Atom} {w : World} {a0 : List ByteArray} {a0v1 : Value} {res0 : Int} (hw : Ok E I (F) w) (hG : Gl I) (hR2 : RS ekS I a0v1 a0) (hp : slices_IndexFunc_string_node_hashes_c1.f a0 = some res0) :
  Calls P 77 ⟨[a0v1, Value.func (.func 134) #[] ⟨[]⟩]⟩ w fun e w' => ∃ v, e = .returned v ∧ v = Value.int .i64 res0 ∧ Ok E I (F) w' := by
 refine c_enter func77 rfl ntmps77 rfl fun a hf => ?_
 replace hf : Fr 19 [(0, a0v1), (1, Value.func (.func 134) #[] ⟨[]⟩)] a := hf
 unfold slices_IndexFunc_string_node_hashes_c1.f at hp
 refine wq <| wr <| oa hf rfl rfl fun a hf => oN <| ct <| wq <| wq <| wr <| om hf rfl rfl fun a hf => oR hf (r_lenL (K := ekS) hf el_28 rfl (hR2.rd hw)) rfl fun a hf => om hf rfl rfl fun a hf => oN <| ct ?_
 obtain ⟨out28, hp, hq29⟩ := bS hp
 refine c_cutX (fun a w => (.inl ()) = out28 ∧ Ok E I (F) w ∧ Fr 19 ([]) a) ?_ ?_
 ·refine wp_block <| c_loop <| c_fuel (slices_IndexFunc_string_node_hashes_c1.l0 a0) out28 (fun (y18 : Int) a w => Ok E I (F) w ∧ Fr 19 ([(0, a0v1), (1, Value.func (.func 134) #[] ⟨[]⟩), (7, .int .i64 (a0.length : Int)), (8, .int .i64 y18)]) a) (fun _ => rfl) ?_ BIG 0 _ _ ⟨hw, hf.to ⟨rfl, rfl, rfl, rfl, trivial⟩⟩ hp
  intro k y18 a w hI hp ih
  obtain ⟨hw, hf⟩ := hI
  rw [slices_IndexFunc_string_node_hashes_c1.l0] at hp
  refine wq <| wr <| oR hf (iC hf rfl rfl rfl) rfl fun a hf => oN <| ct <| wq <| cC hf rfl (fun hb31 => ?_) (fun hb31 => ?_)
  ·replace hp := cond_t hb31 hp
   refine wp_skip <| ct <| wq <| wp_block <| wq <| wr <| om hf rfl rfl fun a hf => oa hf rfl rfl fun a hf => oN <| ct <| wq <| wr <| om hf rfl rfl fun a hf => om hf rfl rfl fun a hf => om hf rfl rfl fun a hf => ?_
   obtain ⟨hg32, hp⟩ := gS hp
   refine oR hf (rI (K := ekS) hf el_28 rfl rfl (hR2.rd hw) hg32) rfl fun a hf => oR hf (r_loadH (K := ekS) hf rfl ty_9 (hR2.rd hw) hg32 rfl (fun cs h => ekS_f0 h)) rfl fun a hf => ?_
   obtain ⟨y33, hy34, hp⟩ := bS hp
   have hc36 := node_hashes_c1_ok hw hG hy34
   refine o_callV hf rfl cb_134 rfl rfl hc36 (fun v38 w a hK37 hf => ?_)
   obtain ⟨rfl, hw⟩ := hK37
   refine oN <| ct <| cC hf rfl (fun hb39 => ?_) (fun hb39 => ?_)
   ·replace hp := cond_t hb39 hp
    refine wq <| wr <| om hf rfl rfl fun a hf => oa hf rfl rfl fun a hf => oN <| ct <| wp_ret <| c_blockR <| c_thenR <| c_thenR <| c_blockR <| c_thenR ?_
    have ho := oI hp
    subst ho
    replace hp := hq29
    refine c_thenR ?_
    have ho := oI hp
    subst ho
    exact b_ret1 hf results77 rfl ⟨_, rfl, ⟨rfl, hw⟩⟩
   ·replace hp := cond_f hb39 hp
    refine wp_skip <| c_blockN <| ct <| wr <| oR hf (r_add hf rfl rfl) rfl fun a hf => om hf rfl rfl fun a hf => oN <| ct ?_
    exact ih (w64 (y18 + 1)) _ _ ⟨hw, hf.to ⟨rfl, rfl, rfl, rfl, trivial⟩⟩ hp
  ·replace hp := cond_f hb31 hp
   refine wp_exit <| c_thenE <| c_thenE <| c_exit <| ct ?_
   have ho := oI hp
   subst ho
   exact ⟨rfl, hw, hf.to trivial⟩
 ·intro a w hM
  obtain ⟨rfl, hw, hf⟩ := hM
  replace hp := hq29
  refine ct <| wq <| wr <| oa hf rfl rfl fun a hf => oN <| ct <| wp_ret ?_
  have ho := oI hp
  subst ho
  exact b_ret1 hf results77 rfl ⟨_, rfl, ⟨rfl, hw⟩⟩

theorem slices_ContainsFunc_string_node_hashes_c1_ok {E : World} {I : IH} {F : List Atom} {w : World} {a0 : List ByteArray} {a0v14 : Value} {res0 : Bool} (hw : Ok E I (F) w) (hG : Gl I) (hR15 : RS ekS I a0v14 a0) (hp : slices_ContainsFunc_string_node_hashes_c1.f a0 = some res0) :
  Calls P 44 ⟨[a0v14, Value.func (.func 134) #[] ⟨[]⟩]⟩ w fun e w' => ∃ v, e = .returned v ∧ v = Value.bool res0 ∧ Ok E I (F) w' := by
 refine c_enter func44 rfl ntmps44 rfl fun a hf => ?_
 replace hf : Fr 9 [(0, a0v14), (1, Value.func (.func 134) #[] ⟨[]⟩)] a := hf
 unfold slices_ContainsFunc_string_node_hashes_c1.f at hp
 refine wq <| wr <| oa hf rfl rfl fun a hf => oN <| ct <| wq <| wr <| om hf rfl rfl fun a hf => om hf rfl rfl fun a hf => ?_
 obtain ⟨y42, hy43, hp⟩ := bS hp
 have hc45 := slices_IndexFunc_string_node_hashes_c1_ok hw hG hR15 hy43
 refine o_call hf cb_77 rfl rfl hc45 (fun v47 w a hK46 hf => ?_)
 obtain ⟨rfl, hw⟩ := hK46
 refine oR hf (iC hf rfl rfl rfl) rfl fun a hf => oa hf rfl rfl fun a hf => oN <| ct <| wp_ret ?_
 have ho := oI hp
 subst ho
 exact b_ret1 hf results44 rfl ⟨_, rfl, ⟨rfl, hw⟩⟩

theorem node_hashes_ok {E : World} {I : IH} {F : List Atom} {w : World} {a0 : Item} {a0v6 : Value} {res0 : Bool} (hw : Ok E I (F) w) (hG : Gl I) (hR7 : RS ekS I a0v6 a0.hashes_) (hp : node_hashes.f a0 = some res0) :
  Calls P 96 ⟨[Value.agg ⟨[Value.int .i64 a0.kind_, Value.string a0.path_, Value.bool a0.has_, Value.string a0.value_, Value.int .i64 a0.mask_, a0v6]⟩]⟩ w fun e w' => ∃ v, e = .returned v ∧ v = Value.bool res0 ∧ Ok E I (F) w' := by
 refine c_enter func96 rfl ntmps96 rfl fun a hf => ?_
 replace hf : Fr 17 [(0, Value.agg ⟨[.int .i64 a0.kind_, .string a0.path_, .bool a0.has_, .string a0.value_, .int .i64 a0.mask_, a0v6]⟩)] a := hf
 unfold node_hashes.f at hp
 refine wq <| wr ?_
 obtain ⟨b1, w, hrun2, hw⟩ := e_box (P := P) hw hf (e := 86) (x := .tmp 0) rfl (cs := [Value.int .i64 a0.kind_, Value.string a0.path_, Value.bool a0.has_, Value.string a0.value_, Value.int .i64 a0.mask_, a0v6]) rfl
 refine o_eff hf (hrun2 ..) rfl fun a hf => oa hf rfl rfl fun a hf => oN <| ct ?_
 obtain ⟨out69, hp, hq70⟩ := bS hp
 refine c_cut (fun a w => ∃ y68 : Bool, y68 = out69 ∧ Ok E I (.blk b1 (.cells ⟨[.int .i64 a0.kind_, .string a0.path_, .bool a0.has_, .string a0.value_, .int .i64 a0.mask_, a0v6]⟩ 86 (0, 0)) :: F) w ∧ Fr 17 ([(2, .bool y68)]) a) ?_ ?_
 ·refine c_drawn mix [] (.rd 0 (.rd 1 (.rd 2 (.rd 4 (.rd 5 (.rd 6 (.ef 3 (.rd 7 (.rd 8 (.rd 9 (.rd 10 (.ef 11 (.rd 12 (.rd 13 (.rd 14 .done))))))))))))))) (by kernel_rfl) hw (fun w => Ok E I (.blk b1 (.cells ⟨[.int .i64 a0.kind_, .string a0.path_, .bool a0.has_, .string a0.value_, .int .i64 a0.mask_, a0v6]⟩ 86 (0, 0)) :: F) w) (fun w hw => ⟨hw.sub (scc sr), ?_⟩)
  refine tR rfl hf (fun w hw => rF hf rfl fd_86_4) rfl fun a hf => tR rfl hf (fun w hw => rL hw hf rfl ty_3 0 rfl rfl) rfl fun a hf => tR rfl hf (fun w hw => r_convI hf und_3 und_160 rfl) rfl fun a hf => tR rfl hf (fun w hw => rF hf rfl fd_86_5) rfl fun a hf => tR rfl hf (fun w hw => rL hw hf rfl ty_28 0 rfl rfl) rfl fun a hf => tR rfl hf (fun w hw => r_lenL (K := ekS) hf el_28 rfl (hR7.rd hw)) rfl fun a hf => t_ef rfl ?_
  obtain ⟨y72, hy73, hp⟩ := bS hp
  have hc75 := math_bits_OnesCount_ok hw hG hy73
  refine t_call hf cb_133 rfl rfl hc75 (fun v77 w a hK76 hf => ?_)
  obtain ⟨rfl, hw⟩ := hK76
  refine ⟨.inr (hw.back (IH.le_refl _) (scc sr)), ?_⟩
  refine tR rfl hf (fun w hw => iC hf rfl rfl rfl) rfl fun a hf => tm rfl hf rfl rfl fun a hf => g_split hf (g := 11) rfl (fun hb78 hf => ?_) (fun hb78 hf => ?_)
  ·replace hp := cond_t hb78 hp
   refine tG rfl rfl hf rfl (fun w hw => rF hf rfl fd_86_5) rfl fun a hf => tG rfl rfl hf rfl (fun w hw => rL hw hf rfl ty_28 0 rfl rfl) rfl fun a hf => t_ef rfl ?_
   obtain ⟨y79, hy80, hp⟩ := bS hp
   have hc82 := slices_ContainsFunc_string_node_hashes_c1_ok hw hG hR7 hy80
   refine t_callG rfl hf rfl cb_44 rfl rfl hc82 (fun v84 w a hK83 hf => ?_)
   obtain ⟨rfl, hw⟩ := hK83
   refine ⟨.inr (hw.back (IH.le_refl _) (scc sr)), ?_⟩
   refine tG rfl rfl hf rfl (fun w hw => r_not hf rfl) rfl fun a hf => tR rfl hf (fun w hw => pT hf rfl rfl) rfl fun a hf => tR rfl hf (fun w hw => r_assign hf rfl) rfl fun a hf => t_done <| ct ?_
   have ho := oI hp
   subst ho
   exact ⟨(!y79), rfl, hw, hf.to ⟨rfl, trivial⟩⟩
  ·replace hp := cond_f hb78 hp
   refine tS rfl rfl hf rfl rfl rfl fun a hf => tS rfl rfl hf rfl rfl rfl fun a hf => t_ef rfl <| t_skipE rfl hf rfl rfl rfl fun a hf => ⟨.inr (hw.back (IH.le_refl _) (scc sr)), ?_⟩
   refine tS rfl rfl hf rfl rfl rfl fun a hf => tR rfl hf (fun w hw => pF hf rfl rfl) rfl fun a hf => tR rfl hf (fun w hw => r_assign hf rfl) rfl fun a hf => t_done <| ct ?_
   have ho := oI hp
   subst ho
   exact ⟨false, rfl, hw, hf.to ⟨rfl, trivial⟩⟩
 ·intro a w hM
  obtain ⟨y68, rfl, hw, hf⟩ := hM
  replace hp := hq70
  refine wp_ret ?_
  replace hw : Ok E I (F) w := hw.sub (sc sr)
  have ho := oI hp
  subst ho
  exact b_ret1 hf results96 rfl ⟨_, rfl, ⟨rfl, hw⟩⟩

theorem nibble_small_ok {E : World} {I : IH} {F : List Atom} {w : World} {a0 : ByteArray} {res0 : Bool} (hw : Ok E I (F) w) (hG : Gl I) (hp : nibble_small.f a0 = some res0) :
  Calls P 135 ⟨[Value.string a0]⟩ w fun e w' => ∃ v, e = .returned v ∧ v = Value.bool res0 ∧ Ok E I (F) w' := by
 refine c_enter func135 rfl ntmps135 rfl fun a hf => ?_
 replace hf : Fr 14 [(0, .string a0)] a := hf
 unfold nibble_small.f at hp
 refine wq <| wr <| oa hf rfl rfl fun a hf => oN <| ct <| wq <| wq <| wr <| om hf rfl rfl fun a hf => oR hf (r_lenS hf und_9 rfl) rfl fun a hf => om hf rfl rfl fun a hf => oN <| ct ?_
 obtain ⟨out12, hp, hq13⟩ := bS hp
 refine c_cutX (fun a w => (.inl ()) = out12 ∧ Ok E I (F) w ∧ Fr 14 ([]) a) ?_ ?_
 ·refine wp_block <| c_loop <| c_fuel (nibble_small.l0 a0) out12 (fun (y8 : Int) a w => Ok E I (F) w ∧ Fr 14 ([(0, .string a0), (5, .int .i64 (a0.size : Int)), (6, .int .i64 y8)]) a) (fun _ => rfl) ?_ BIG 0 _ _ ⟨hw, hf.to ⟨rfl, rfl, rfl, trivial⟩⟩ hp
  intro k y8 a w hI hp ih
  obtain ⟨hw, hf⟩ := hI
  rw [nibble_small.l0] at hp
  refine wq <| wr <| oR hf (iC hf rfl rfl rfl) rfl fun a hf => oN <| ct <| wq <| cC hf rfl (fun hb15 => ?_) (fun hb15 => ?_)
  ·replace hp := cond_t hb15 hp
   refine wp_skip <| ct <| wq <| wp_block <| wq <| wr <| om hf rfl rfl fun a hf => oa hf rfl rfl fun a hf => oN <| ct <| wq <| wr <| om hf rfl rfl fun a hf => om hf rfl rfl fun a hf => ?_
   obtain ⟨hg16, hp⟩ := gS hp
   refine oR hf (r_indexS hf und_9 rfl rfl hg16) rfl fun a hf => oR hf (iC hf rfl rfl rfl) rfl fun a hf => oN <| ct <| cC hf rfl (fun hb17 => ?_) (fun hb17 => ?_)
   ·replace hp := cond_t hb17 hp
    refine wq <| wr <| oa hf rfl rfl fun a hf => oN <| ct <| wp_ret <| c_blockR <| c_thenR <| c_thenR <| c_blockR <| c_thenR ?_
    have ho := oI hp
    subst ho
    replace hp := hq13
    refine c_thenR ?_
    have ho := oI hp
    subst ho
    exact b_ret1 hf results135 rfl ⟨_, rfl, ⟨rfl, hw⟩⟩
   ·replace hp := cond_f hb17 hp
    refine wp_skip <| c_blockN <| ct <| wr <| oR hf (r_add hf rfl rfl) rfl fun a hf => om hf rfl rfl fun a hf => oN <| ct ?_
    exact ih (w64 (y8 + 1)) _ _ ⟨hw, hf.to ⟨rfl, rfl, rfl, trivial⟩⟩ hp
  ·replace hp := cond_f hb15 hp
   refine wp_exit <| c_thenE <| c_thenE <| c_exit <| ct ?_
   have ho := oI hp
   subst ho
   exact ⟨rfl, hw, hf.to trivial⟩
 ·intro a w hM
  obtain ⟨rfl, hw, hf⟩ := hM
  replace hp := hq13
  refine ct <| wq <| wr <| oa hf rfl rfl fun a hf => oN <| ct <| wp_ret ?_
  have ho := oI hp
  subst ho
  exact b_ret1 hf results135 rfl ⟨_, rfl, ⟨rfl, hw⟩⟩

theorem nibble_Good_ok {E : World} {I : IH} {F : List Atom} {w : World} {a0 : ByteArray} {res0 : Bool} (hw : Ok E I (F) w) (hG : Gl I) (hp : nibble_Good.f a0 = some res0) :
  Calls P 97 ⟨[Value.string a0]⟩ w fun e w' => ∃ v, e = .returned v ∧ v = Value.bool res0 ∧ Ok E I (F) w' := by
 refine c_enter func97 rfl ntmps97 rfl fun a hf => ?_
 replace hf : Fr 10 [(0, .string a0)] a := hf
 unfold nibble_Good.f at hp
 refine wq <| wr <| oa hf rfl rfl fun a hf => oN <| ct ?_
 obtain ⟨out34, hp, hq35⟩ := bS hp
 refine c_cut (fun a w => ∃ y33 : Bool, y33 = out34 ∧ Ok E I (F) w ∧ Fr 10 ([(2, .bool y33)]) a) ?_ ?_
 ·refine wr <| om hf rfl rfl fun a hf => oR hf (r_lenS hf und_9 rfl) rfl fun a hf => oR hf (iC hf rfl rfl rfl) rfl fun a hf => om hf rfl rfl fun a hf => g_split hf (g := 6) rfl (fun hb36 hf => ?_) (fun hb36 hf => ?_)
  ·replace hp := cond_t hb36 hp
   refine oW hf (g := 6) rfl rfl <| om hf rfl rfl fun a hf => oW hf (g := 6) rfl rfl ?_
   obtain ⟨y37, hy38, hp⟩ := bS hp
   have hc40 := nibble_small_ok hw hG hy38
   refine o_call hf cb_135 rfl rfl hc40 (fun v42 w a hK41 hf => ?_)
   obtain ⟨rfl, hw⟩ := hK41
   refine oR hf (pT hf rfl rfl) rfl fun a hf => oa hf rfl rfl fun a hf => oN <| ct ?_
   have ho := oI hp
   subst ho
   exact ⟨y37, rfl, hw, hf.to ⟨rfl, trivial⟩⟩
  ·replace hp := cond_f hb36 hp
   refine oQ hf (g := 6) rfl fun a hf => oQ hf (g := 6) rfl fun a hf => oR hf (pF hf rfl rfl) rfl fun a hf => oa hf rfl rfl fun a hf => oN <| ct ?_
   have ho := oI hp
   subst ho
   exact ⟨false, rfl, hw, hf.to ⟨rfl, trivial⟩⟩
 ·intro a w hM
  obtain ⟨y33, rfl, hw, hf⟩ := hM
  replace hp := hq35
  refine wp_ret ?_
  have ho := oI hp
  subst ho
  exact b_ret1 hf results97 rfl ⟨_, rfl, ⟨rfl, hw⟩⟩
end Go.Lf
