import Derived.Test.YtckhmgglgbnaaaaZD
import Derived.Test.YtckhmgglgbnaaaaZF
import Derived.Test.YtckhmgglgbnaaaaUB
import Derived.Test.YtckhmgglgbnaaaaN
import Derived.Test.YtckhmgglgbnaaaaBL
set_option linter.unusedVariables false
set_option linter.unusedSimpArgs false
set_option maxHeartbeats 1000000
set_option maxRecDepth 20000
namespace Go.Lf
open Go Go.Proofs.Try
theorem nibble_small_ok {E : World} {I : IH} {F : List Atom} {w : World} {a0 : ByteArray} {res0 : Bool} (hw : Ok E I (F) w) (hp : nibble_small.f a0 = some res0) :
  Calls P 98 ⟨[Value.string a0]⟩ w fun e w' => ∃ v, e = .returned v ∧ v = Value.bool res0 ∧ Ok E I (F) w' := by
 refine c_enter func98 rfl ntmps98 rfl fun a hf => ?_
 replace hf : Fr 14 [(0, .string a0)] a := hf
 unfold nibble_small.f at hp
 refine wq <| wr <| oa hf rfl rfl fun a hf => oN <| ct <| wq <| wq <| wr <| om hf rfl rfl fun a hf => oR hf (r_lenS hf und_9 rfl) rfl fun a hf => om hf rfl rfl fun a hf => oN <| ct ?_
 obtain ⟨out12, hp, hq13⟩ := bS hp
 refine c_cutX (fun a w => (.inl ()) = out12 ∧ Ok E I (F) w ∧ Fr 14 ([]) a) ?_ ?_
 ·refine wp_block <| c_loop <| c_fuel (nibble_small.l0 a0) out12 (fun (y8 : Int) a w => Ok E I (F) w ∧ Fr 14 ([(0, .string a0), (5, .int .i64 (a0.size : Int)), (6, .int .i64 y8)]) a) (fun _ => rfl) ?_ BIG 0 _ _ ⟨hw, hf.to ⟨rfl, rfl, rfl, trivial⟩⟩ hp
  intro k y8 a w hI hp ih
  obtain ⟨hw, hf⟩ := hI
  rw [nibble_small.l0] at hp
  refine wq <| wr <| oR hf (iC hf rfl rfl rfl) rfl fun a hf => oN <| ct <| wq <| cC hf rfl (fun hb15 => ?_) (fun hb15 => ?_)
  ·replace hp := cond_t hb15 hp
   refine wp_skip <| ct <| wq <| wp_block <| wq <| wr <| om hf rfl rfl fun a hf => oa hf rfl rfl fun a hf => oN <| ct <| wq <| wr <| om hf rfl rfl fun a hf => om hf rfl rfl fun a hf => ?_
   obtain ⟨hg16, hp⟩ := gS hp
   refine oR hf (r_indexS hf und_9 rfl rfl hg16) rfl fun a hf => oR hf (iC hf rfl rfl rfl) rfl fun a hf => oN <| ct <| cC hf rfl (fun hb17 => ?_) (fun hb17 => ?_)
   ·replace hp := cond_t hb17 hp
    refine wq <| wr <| oa hf rfl rfl fun a hf => oN <| ct <| wp_ret <| c_blockR <| c_thenR <| c_thenR <| c_blockR <| c_thenR ?_
    have ho := oI hp
    subst ho
    replace hp := hq13
    refine c_thenR ?_
    have ho := oI hp
    subst ho
    exact b_ret1 hf results98 rfl ⟨_, rfl, ⟨rfl, hw⟩⟩
   ·replace hp := cond_f hb17 hp
    refine wp_skip <| c_blockN <| ct <| wr <| oR hf (r_add hf rfl rfl) rfl fun a hf => om hf rfl rfl fun a hf => oN <| ct ?_
    exact ih (w64 (y8 + 1)) _ _ ⟨hw, hf.to ⟨rfl, rfl, rfl, trivial⟩⟩ hp
  ·replace hp := cond_f hb15 hp
   refine wp_exit <| c_thenE <| c_thenE <| c_exit <| ct ?_
   have ho := oI hp
   subst ho
   exact ⟨rfl, hw, hf.to trivial⟩
 ·intro a w hM
  obtain ⟨rfl, hw, hf⟩ := hM
  replace hp := hq13
  refine ct <| wq <| wr <| oa hf rfl rfl fun a hf => oN <| ct <| wp_ret ?_
  have ho := oI hp
  subst ho
  exact b_ret1 hf results98 rfl ⟨_, rfl, ⟨rfl, hw⟩⟩

theorem nibble_two_ok {E : World} {I : IH} {F : List Atom} {w : World} {a0 : ByteArray} {res0 : ByteArray} (hw : Ok E I (F) w) (hp : nibble_two.f a0 = some res0) :
  Calls P 88 ⟨[Value.string a0]⟩ w fun e w' => ∃ v, e = .returned v ∧ v = Value.string res0 ∧ Ok E I (F) w' := by
 refine c_enter func88 rfl ntmps88 rfl fun a hf => ?_
 replace hf : Fr 35 [(0, .string a0)] a := hf
 unfold nibble_two.f at hp
 refine wq <| wr <| oa hf rfl rfl fun a hf => oN <| ct <| wq <| wr <| om hf rfl rfl fun a hf => oR hf (r_lenS hf und_9 rfl) rfl fun a hf => oR hf (r_add hf rfl rfl) rfl fun a hf => oR hf (r_quo hf rfl rfl (by decide)) rfl fun a hf => ?_
 obtain ⟨hg1, hp⟩ := gS hp
 obtain ⟨w, v2, cs5, hrun3, hw, hRR4⟩ := e_makeSlice (P := P) (K := (ekI .u8)) hw hf (l := .tmp 9) (c := .tmp 9) el_53 ty_5 rfl (by decide) rfl rfl (x := 0) (fun _ => rfl) hg1
 refine o_eff hf (hrun3 ..) rfl fun a hf => oa hf rfl rfl fun a hf => oN <| ct <| wq <| wq <| wr <| om hf rfl rfl fun a hf => oR hf (r_lenS hf und_9 rfl) rfl fun a hf => om hf rfl rfl fun a hf => oN <| ct ?_
 obtain ⟨out54, hp, hq55⟩ := bS hp
 refine c_cutX (fun a w => ∃ y49 : List Int, ∃ yv50 : Value, ∃ m51 : Nat, ∃ cs52 : List Value, y49 = out54 ∧ Ok E I (.row yv50 5 1 m51 cs52 :: F) w ∧ Fr 35 ([(3, yv50)]) a ∧ RowR (ekI .u8) I cs52 y49) ?_ ?_
 ·refine wp_block <| c_loop <| c_fuel (nibble_two.l0 a0) out54 (fun (y33, y38) a w => ∃ yv34 : Value, ∃ m35 : Nat, ∃ cs36 : List Value, Ok E I (.row yv34 5 1 m35 cs36 :: F) w ∧ Fr 35 ([(0, .string a0), (3, yv34), (12, .int .i64 (a0.size : Int)), (13, .int .i64 y38)]) a ∧ RowR (ekI .u8) I cs36 y33) (fun _ => rfl) ?_ BIG (List.replicate (w64 ((w64 ((a0.size : Int) + 1)).tdiv 2)).toNat 0, 0) _ _ ⟨v2, ((w64 ((w64 ((a0.size : Int) + 1)).tdiv 2)).toNat), cs5, hw, hf.to ⟨rfl, rfl, rfl, rfl, trivial⟩, hRR4⟩ hp
  intro k st a w hI hp ih
  obtain ⟨y33, y38⟩ := st
  obtain ⟨yv34, m35, cs36, hw, hf, hRR37⟩ := hI
  rw [nibble_two.l0] at hp
  refine wq <| wr <| oR hf (iC hf rfl rfl rfl) rfl fun a hf => oN <| ct <| wq <| cC hf rfl (fun hb57 => ?_) (fun hb57 => ?_)
  ·replace hp := cond_t hb57 hp
   refine wp_skip <| ct <| wq <| wp_block <| wq <| wr <| om hf rfl rfl fun a hf => oa hf rfl rfl fun a hf => oN <| ct <| wq <| wr <| oR hf (r_buildArr hf el_162 ty_162 rfl rfl rfl (v := (#v[4, 0] : Vector Int 2)) rfl) rfl fun a hf => om hf rfl rfl fun a hf => oR hf (r_rem hf rfl rfl (by decide)) rfl fun a hf => ?_
   obtain ⟨hg58, hp⟩ := gS hp
   refine oR hf (r_indexArr hf el_162 ty_3 rfl rfl hg58) rfl fun a hf => oa hf rfl rfl fun a hf => oN <| ct <| c_drawn mix [12] (.rd 0 (.rd 1 (.rd 2 (.rd 3 (.rd 4 (.rd 5 (.rd 6 (.rd 7 (.rd 8 (.rd 9 (.rd 10 (.rd 11 (.ef 12 .done))))))))))))) (by kernel_rfl) hw (fun w => Ok E I (.row yv34 5 1 m35 cs36 :: F) w) (fun w hw => ⟨hw.sub (scc sr), ?_⟩)
   refine tm rfl hf rfl rfl fun a hf => tm rfl hf rfl rfl fun a hf => tR rfl hf (fun w hw => r_quo hf rfl rfl (by decide)) rfl fun a hf => ?_
   obtain ⟨hg60, hp⟩ := gS hp
   refine tR rfl hf (fun w hw => rI (K := (ekI .u8)) hf el_53 rfl rfl (rR (K := (ekI .u8)) hw (i := 0) rfl hRR37) hg60) rfl fun a hf => tR rfl hf (fun w hw => r_loadH (K := (ekI .u8)) hf rfl ty_5 (rR (K := (ekI .u8)) hw (i := 0) rfl hRR37) hg60 rfl (fun cs h => ekI_f0 h)) rfl fun a hf => tm rfl hf rfl rfl fun a hf => tm rfl hf rfl rfl fun a hf => ?_
   obtain ⟨hg61, hp⟩ := gS hp
   refine tR rfl hf (fun w hw => r_indexS hf und_9 rfl rfl hg61) rfl fun a hf => tm rfl hf rfl rfl fun a hf => ?_
   obtain ⟨hg62, hp⟩ := gS hp
   refine tR rfl hf (fun w hw => r_shl hf rfl rfl hg62) rfl fun a hf => tR rfl hf (fun w hw => r_or hf rfl rfl) rfl fun a hf => ?_
   obtain ⟨hg63, hp⟩ := gS hp
   refine tR rfl hf (fun w hw => rI (K := (ekI .u8)) hf el_53 rfl rfl (rR (K := (ekI .u8)) hw (i := 0) rfl hRR37) hg63) rfl fun a hf => t_ef rfl ?_
   obtain ⟨w, cs65, hrun64, hw, hRR66⟩ := e_storeH (P := P) (K := (ekI .u8)) hw hf (x := .tmp 31) (y := .tmp 30) rfl rfl ty_5 0 rfl hRR37 hg63 rfl (vs := [.int .u8 (bor .u8 (gt y33 (w64 (y38.tdiv 2))) (shl .u8 (bt a0 y38) (vg (#v[4, 0] : Vector Int 2) (y38.tmod 2))))]) (oE rfl) rfl (oC rfl ones_nil) (Nat.le_of_eq (by rfl)) (x' := bor .u8 (gt y33 (w64 (y38.tdiv 2))) (shl .u8 (bt a0 y38) (vg (#v[4, 0] : Vector Int 2) (y38.tmod 2)))) (whole_store rfl)
   replace hw : Ok E I (.row yv34 5 1 m35 cs65 :: F) w := hw
   refine t_effU (hrun64 ..) ⟨.inl rfl, ?_⟩
   refine t_done <| c_blockN <| ct <| wr <| oR hf (r_add hf rfl rfl) rfl fun a hf => om hf rfl rfl fun a hf => oN <| ct ?_
   exact ih (y33.set (w64 (y38.tdiv 2)).toNat (bor .u8 (gt y33 (w64 (y38.tdiv 2))) (shl .u8 (bt a0 y38) (vg (#v[4, 0] : Vector Int 2) (y38.tmod 2)))), w64 (y38 + 1)) _ _ ⟨yv34, m35, cs65, hw, hf.to ⟨rfl, rfl, rfl, rfl, trivial⟩, hRR66⟩ hp
  ·replace hp := cond_f hb57 hp
   refine wp_exit <| c_thenE <| c_thenE <| c_exit <| ct ?_
   have ho := oI hp
   subst ho
   exact ⟨y33, yv34, m35, cs36, rfl, hw, hf.to ⟨rfl, trivial⟩, hRR37⟩
 ·intro a w hM
  obtain ⟨y49, yv50, m51, cs52, rfl, hw, hf, hRR53⟩ := hM
  replace hp := hq55
  refine ct <| wq <| wr <| om hf rfl rfl fun a hf => oR hf (r_convB hf und_53 und_5 und_9 rfl (rR (K := (ekI .u8)) hw (i := 0) rfl hRR53)) rfl fun a hf => oa hf rfl rfl fun a hf => oN <| ct <| wp_ret ?_
  replace hw : Ok E I (F) w := hw.sub (sc sr)
  have ho := oI hp
  subst ho
  exact b_ret1 hf results88 rfl ⟨_, rfl, ⟨rfl, hw⟩⟩

theorem nibble_Key_ok {E : World} {I : IH} {F : List Atom} {w : World} {a0 : ByteArray} {res0 : ByteArray} {res1 : Bool} (hw : Ok E I (F) w) (hp : nibble_Key.f a0 = some (res0, res1)) :
  Calls P 101 ⟨[Value.string a0]⟩ w fun e w' => ∃ v, e = .returned v ∧ v = Value.tuple ⟨[Value.string res0, Value.bool res1]⟩ ∧ Ok E I (F) w' := by
 refine c_enter func101 rfl ntmps101 rfl fun a hf => ?_
 replace hf : Fr 15 [(0, .string a0)] a := hf
 unfold nibble_Key.f at hp
 refine wq <| wr <| oa hf rfl rfl fun a hf => oa hf rfl rfl fun a hf => oN <| ct <| wq ?_
 obtain ⟨out59, hp, hq60⟩ := bS hp
 refine c_cut (fun a w => ∃ y58 : Bool, y58 = out59 ∧ Ok E I (F) w ∧ Fr 15 ([(0, .string a0), (12, .bool y58)]) a) ?_ ?_
 ·refine wr <| om hf rfl rfl fun a hf => oR hf (r_lenS hf und_9 rfl) rfl fun a hf => oR hf (r_rem hf rfl rfl (by decide)) rfl fun a hf => oR hf (iC hf rfl rfl rfl) rfl fun a hf => om hf rfl rfl fun a hf => g_split hf (g := 8) rfl (fun hb61 hf => ?_) (fun hb61 hf => ?_)
  ·replace hp := cond_t hb61 hp
   refine oQ hf (g := 8) rfl fun a hf => oQ hf (g := 8) rfl fun a hf => oQ hf (g := 8) rfl fun a hf => oR hf (pT hf rfl rfl) rfl fun a hf => oN <| ct ?_
   have ho := oI hp
   subst ho
   exact ⟨true, rfl, hw, hf.to ⟨rfl, rfl, trivial⟩⟩
  ·replace hp := cond_f hb61 hp
   refine oW hf (g := 8) rfl rfl <| om hf rfl rfl fun a hf => oW hf (g := 8) rfl rfl ?_
   obtain ⟨y62, hy63, hp⟩ := bS hp
   have hc65 := nibble_small_ok hw hy63
   refine o_call hf cb_98 rfl rfl hc65 (fun v67 w a hK66 hf => ?_)
   obtain ⟨rfl, hw⟩ := hK66
   refine oW hf (g := 8) rfl rfl <| oR hf (r_not hf rfl) rfl fun a hf => oR hf (pF hf rfl rfl) rfl fun a hf => oN <| ct ?_
   have ho := oI hp
   subst ho
   exact ⟨(!y62), rfl, hw, hf.to ⟨rfl, rfl, trivial⟩⟩
 ·intro a w hM
  obtain ⟨y58, rfl, hw, hf⟩ := hM
  replace hp := hq60
  refine cC hf rfl (fun hb68 => ?_) (fun hb68 => ?_)
  ·replace hp := cond_t hb68 hp
   refine wq <| wr <| oa hf rfl rfl fun a hf => oa hf rfl rfl fun a hf => oN <| ct <| wp_ret <| c_thenR ?_
   have ho := oI hp
   simp only [Prod.mk.injEq] at ho
   obtain ⟨rfl, rfl⟩ := ho
   exact b_ret2 hf results101 rfl rfl ⟨_, rfl, ⟨rfl, hw⟩⟩
  ·replace hp := cond_f hb68 hp
   refine wp_skip <| ct <| wq <| wr <| om hf rfl rfl fun a hf => ?_
   obtain ⟨y68, hy69, hp⟩ := bS hp
   have hc71 := nibble_two_ok hw hy69
   refine o_call hf cb_88 rfl rfl hc71 (fun v73 w a hK72 hf => ?_)
   obtain ⟨rfl, hw⟩ := hK72
   refine oa hf rfl rfl fun a hf => oa hf rfl rfl fun a hf => oN <| ct <| wp_ret ?_
   have ho := oI hp
   simp only [Prod.mk.injEq] at ho
   obtain ⟨rfl, rfl⟩ := ho
   exact b_ret2 hf results101 rfl rfl ⟨_, rfl, ⟨rfl, hw⟩⟩

theorem trie_walker_pair_ok {E : World} {I : IH} {F : List Atom} {w : World} {a0b : Nat} {a0_p_t : List Node} {a0_p_tv41 : Value} {a0_p_next : Int} {a0_p_l : List Pair} {a0_p_lv : Value} {a0_p_lm : Nat} {a0_p_lcs : List Value} {a0_p_paths : List ByteArray} {a0_p_pathsv : Value} {a0_p_pathsm : Nat} {a0_p_pathscs : List Value} {a1 : ByteArray} {a2 : ByteArray} {res0 : Bool} {new_a0_p_l : List Pair} (hw : Ok E I (.blk a0b (.cells ⟨[a0_p_tv41, Value.int .i64 a0_p_next, a0_p_lv, a0_p_pathsv]⟩ 120 (0, 0)) :: .row a0_p_lv 55 2 a0_p_lm a0_p_lcs :: .row a0_p_pathsv 9 1 a0_p_pathsm a0_p_pathscs :: F) w) (hR42 : RS ek_Node I a0_p_tv41 a0_p_t) (ha0_p_l : RowR ek_Pair I a0_p_lcs a0_p_l) (ha0_p_paths : RowR ekS I a0_p_pathscs a0_p_paths) (hp : trie_walker_pair.f a0_p_t a0_p_next a0_p_l a0_p_paths a1 a2 = some (res0, new_a0_p_l)) :
  Calls P 94 ⟨[Value.pointer (some ⟨a0b, 0, none⟩), Value.string a1, Value.string a2]⟩ w fun e w' => ∃ v, e = .returned v ∧ ∃ rv14105 : Value, ∃ rm14106 : Nat, ∃ rcs14107 : List Value, v = Value.bool res0 ∧ Ok E I (.blk a0b (.cells ⟨[a0_p_tv41, Value.int .i64 a0_p_next, rv14105, a0_p_pathsv]⟩ 120 (0, 0)) :: .row rv14105 55 2 rm14106 rcs14107 :: .row a0_p_pathsv 9 1 a0_p_pathsm a0_p_pathscs :: F) w' ∧ RowR ek_Pair I rcs14107 new_a0_p_l := by
 refine c_enter func94 rfl ntmps94 rfl fun a hf => ?_
 replace hf : Fr 27 [(0, .pointer (some ⟨a0b, 0, none⟩)), (1, .string a1), (2, .string a2)] a := hf
 unfold trie_walker_pair.f at hp
 refine wq <| wr <| oa hf rfl rfl fun a hf => oN <| ct <| wq <| wr <| om hf rfl rfl fun a hf => ?_
 obtain ⟨y4, hy3, hp⟩ := bS hp
 obtain ⟨y1, y2⟩ := y4
 have hc5 := nibble_Key_ok hw hy3
 refine o_call hf cb_101 rfl rfl hc5 (fun v7 w a hK6 hf => ?_)
 obtain ⟨rfl, hw⟩ := hK6
 refine om hf rfl rfl fun a hf => oR hf (rE hf rfl rfl) rfl fun a hf => oR hf (rE hf rfl rfl) rfl fun a hf => oa hf rfl rfl fun a hf => oa hf rfl rfl fun a hf => oN <| ct <| wq <| wr <| om hf rfl rfl fun a hf => om hf rfl rfl fun a hf => oR hf (nC hf rfl) rfl fun a hf => oR hf (rF hf rfl fd_120_2) rfl fun a hf => oR hf (rL hw hf rfl ty_43 0 rfl rfl) rfl fun a hf => om hf rfl rfl fun a hf => om hf rfl rfl fun a hf => ?_
 refine oR hf (r_build hf bd_55 (vs := [.string y1, .string a2]) rfl ⟨rfl, rfl, trivial⟩ (by decide) (out := [.string y1, .string a2]) rfl) rfl fun a hf => ?_
 obtain ⟨w, v8, hrun9, hw, hRR10⟩ := e_buildSlice (P := P) (K := ek_Pair) (m := 1) hw hf (parts := [(0, .tmp 21)]) el_43 ty_55 rfl rfl rfl (ccs := [[Value.string y1, Value.string a2]]) rfl (xs := [(⟨y1, a2⟩ : Pair)]) ⟨rfl, trivial⟩ rfl
 obtain ⟨cs11, hcs⟩ : ∃ cs, cs = ([[Value.string y1, Value.string a2]] : List (List Value)).flatten := ⟨_, rfl⟩
 rw [← hcs] at hw hRR10; clear hcs
 refine o_eff hf (hrun9 ..) rfl fun a hf => ?_
 obtain ⟨hg13, hp⟩ := gS hp
 obtain ⟨w, v14, m15, cs16, hrun18, hw, hRR17⟩ := e_append (P := P) (K := ek_Pair) (ty := 43) hw hf (s := .tmp 18) (x := .tmp 22) el_43 ty_55 rfl (by decide) 2 rfl rfl rfl ha0_p_l (ys := [(⟨y1, a2⟩ : Pair)]) (rR (K := ek_Pair) hw (i := 0) rfl hRR10) hg13
 replace hw : Ok E I (.row v8 55 2 1 cs11 :: .blk a0b (.cells ⟨[a0_p_tv41, .int .i64 a0_p_next, a0_p_lv, a0_p_pathsv]⟩ 120 (0, 0)) :: .row v14 55 2 m15 cs16 :: .row a0_p_pathsv 9 1 a0_p_pathsm a0_p_pathscs :: F) w := hw
 refine o_eff hf (hrun18 ..) rfl fun a hf => oR hf (nC hf rfl) rfl fun a hf => oR hf (rF hf rfl fd_120_2) rfl fun a hf => ?_
 obtain ⟨w, hrun19, hw⟩ := e_store (P := P) hw hf (x := .tmp 25) (y := .tmp 23) rfl rfl ty_43 1 rfl (vs := [v14]) (oE (row_one hw (i := 2) rfl)) rfl (oC (row_one hw (i := 2) rfl) ones_nil) (by simp [arrC_len]) (cs' := [a0_p_tv41, .int .i64 a0_p_next, v14, a0_p_pathsv]) rfl
 dsimp only [List.set] at hw
 refine o_effU (hrun19 ..) <| oN <| ct <| wq <| wr <| om hf rfl rfl fun a hf => oa hf rfl rfl fun a hf => oN <| ct <| wp_ret ?_
 replace hw : Ok E I (.blk a0b (.cells ⟨[a0_p_tv41, .int .i64 a0_p_next, v14, a0_p_pathsv]⟩ 120 (0, 0)) :: .row v14 55 2 m15 cs16 :: .row a0_p_pathsv 9 1 a0_p_pathsm a0_p_pathscs :: F) w := hw.sub (sc (scc (scc (scc sr))))
 have ho := oI hp
 simp only [Prod.mk.injEq] at ho
 obtain ⟨rfl, rfl⟩ := ho
 exact b_ret1 hf results94 rfl ⟨_, rfl, ⟨v14, m15, cs16, rfl, hw, hRR17⟩⟩

set_option maxHeartbeats 2000000 in
theorem trie_walker_walk_ok (kk : Nat) : ∀ {E : World} {I : IH} {F : List Atom} {w : World} {a0b : Nat} {a0_p_t : List Node} {a0_p_tv5 : Value} {a0_p_next : Int} {a0_p_l : List Pair} {a0_p_lv : Value} {a0_p_lm : Nat} {a0_p_lcs : List Value} {a0_p_paths : List ByteArray} {a0_p_pathsv : Value} {a0_p_pathsm : Nat} {a0_p_pathscs : List Value} {a1 : Int} {a2 : ByteArray} {res0 : Bool} {new_a0_p_next : Int} {new_a0_p_l : List Pair} {new_a0_p_paths : List ByteArray} (hw : Ok E I (.blk a0b (.cells ⟨[a0_p_tv5, Value.int .i64 a0_p_next, a0_p_lv, a0_p_pathsv]⟩ 120 (0, 0)) :: .row a0_p_lv 55 2 a0_p_lm a0_p_lcs :: .row a0_p_pathsv 9 1 a0_p_pathsm a0_p_pathscs :: F) w) (hR6 : RS ek_Node I a0_p_tv5 a0_p_t) (ha0_p_l : RowR ek_Pair I a0_p_lcs a0_p_l) (ha0_p_paths : RowR ekS I a0_p_pathscs a0_p_paths) (hp : trie_walker_walk.f kk a0_p_t a0_p_next a0_p_l a0_p_paths a1 a2 = some (res0, new_a0_p_next, new_a0_p_l, new_a0_p_paths)),
  Calls P 84 ⟨[Value.pointer (some ⟨a0b, 0, none⟩), Value.int .i64 a1, Value.string a2]⟩ w fun e w' => ∃ v, e = .returned v ∧ ∃ rv14109 : Value, ∃ rm14110 : Nat, ∃ rcs14111 : List Value, ∃ rv14113 : Value, ∃ rm14114 : Nat, ∃ rcs14115 : List Value, v = Value.bool res0 ∧ Ok E I (.blk a0b (.cells ⟨[a0_p_tv5, Value.int .i64 new_a0_p_next, rv14109, rv14113]⟩ 120 (0, 0)) :: .row rv14109 55 2 rm14110 rcs14111 :: .row rv14113 9 1 rm14114 rcs14115 :: F) w' ∧ RowR ek_Pair I rcs14111 new_a0_p_l ∧ RowR ekS I rcs14115 new_a0_p_paths := by
 induction kk with
 | zero =>
  intro E I F w a0b a0_p_t a0_p_tv5 a0_p_next a0_p_l a0_p_lv a0_p_lm a0_p_lcs a0_p_paths a0_p_pathsv a0_p_pathsm a0_p_pathscs a1 a2 res0 new_a0_p_next new_a0_p_l new_a0_p_paths hw hR6 ha0_p_l ha0_p_paths hp
  rw [trie_walker_walk.f] at hp
  cases hp
 | succ kk ihr =>
  intro E I F w a0b a0_p_t a0_p_tv5 a0_p_next a0_p_l a0_p_lv a0_p_lm a0_p_lcs a0_p_paths a0_p_pathsv a0_p_pathsm a0_p_pathscs a1 a2 res0 new_a0_p_next new_a0_p_l new_a0_p_paths hw hR6 ha0_p_l ha0_p_paths hp
  refine c_enter func84 rfl ntmps84 rfl fun a hf => ?_
  replace hf : Fr 95 [(0, .pointer (some ⟨a0b, 0, none⟩)), (1, .int .i64 a1), (2, .string a2)] a := hf
  rw [trie_walker_walk.f] at hp
  refine wq <| wr <| oa hf rfl rfl fun a hf => oN <| ct <| wq ?_
  obtain ⟨out16, hp, hq17⟩ := bS hp
  refine c_cut (fun a w => ∃ y15 : Bool, y15 = out16 ∧ Ok E I (.blk a0b (.cells ⟨[a0_p_tv5, .int .i64 a0_p_next, a0_p_lv, a0_p_pathsv]⟩ 120 (0, 0)) :: .row a0_p_lv 55 2 a0_p_lm a0_p_lcs :: .row a0_p_pathsv 9 1 a0_p_pathsm a0_p_pathscs :: F) w ∧ Fr 95 ([(0, .pointer (some ⟨a0b, 0, none⟩)), (1, .int .i64 a1), (2, .string a2), (30, .bool y15)]) a) ?_ ?_
  ·refine wr <| om hf rfl rfl fun a hf => om hf rfl rfl fun a hf => oR hf (nC hf rfl) rfl fun a hf => oR hf (rF hf rfl fd_120_1) rfl fun a hf => oR hf (rL hw hf rfl ty_3 0 rfl rfl) rfl fun a hf => oR hf (iC hf rfl rfl rfl) rfl fun a hf => om hf rfl rfl fun a hf => g_split hf (g := 17) rfl (fun hb18 hf => ?_) (fun hb18 hf => ?_)
   ·replace hp := cond_t hb18 hp
    refine oQ hf (g := 17) rfl fun a hf => oQ hf (g := 17) rfl fun a hf => oQ hf (g := 17) rfl fun a hf => oQ hf (g := 17) rfl fun a hf => oQ hf (g := 17) rfl fun a hf => oQ hf (g := 17) rfl fun a hf => oQ hf (g := 17) rfl fun a hf => oR hf (pT hf rfl rfl) rfl fun a hf => om hf rfl rfl fun a hf => oQ hf (g := 26) rfl fun a hf => oQ hf (g := 26) rfl fun a hf => oQ hf (g := 26) rfl fun a hf => oR hf (pT hf rfl rfl) rfl fun a hf => oN <| ct ?_
    have ho := oI hp
    subst ho
    exact ⟨true, rfl, hw, hf.to ⟨rfl, rfl, rfl, rfl, trivial⟩⟩
   ·replace hp := cond_f hb18 hp
    refine oW hf (g := 17) rfl rfl <| om hf rfl rfl fun a hf => oW hf (g := 17) rfl rfl <| om hf rfl rfl fun a hf => oW hf (g := 17) rfl rfl <| oR hf (nC hf rfl) rfl fun a hf => oW hf (g := 17) rfl rfl <| oR hf (rF hf rfl fd_120_0) rfl fun a hf => oW hf (g := 17) rfl rfl <| oR hf (rL hw hf rfl ty_23 0 rfl rfl) rfl fun a hf => oW hf (g := 17) rfl rfl <| oR hf (r_lenL (K := ek_Node) hf el_23 rfl (hR6.rd hw)) rfl fun a hf => oW hf (g := 17) rfl rfl <| oR hf (iC hf rfl rfl rfl) rfl fun a hf => oR hf (pF hf rfl rfl) rfl fun a hf => om hf rfl rfl fun a hf => ?_
    refine g_split hf (g := 26) rfl (fun hb19 hf => ?_) (fun hb19 hf => ?_)
    ·replace hp := cond_t hb19 hp
     refine oQ hf (g := 26) rfl fun a hf => oQ hf (g := 26) rfl fun a hf => oQ hf (g := 26) rfl fun a hf => oR hf (pT hf rfl rfl) rfl fun a hf => oN <| ct ?_
     have ho := oI hp
     subst ho
     exact ⟨true, rfl, hw, hf.to ⟨rfl, rfl, rfl, rfl, trivial⟩⟩
    ·replace hp := cond_f hb19 hp
     refine oW hf (g := 26) rfl rfl <| om hf rfl rfl fun a hf => oW hf (g := 26) rfl rfl <| oR hf (r_lenS hf und_9 rfl) rfl fun a hf => oW hf (g := 26) rfl rfl <| oR hf (iC hf rfl rfl rfl) rfl fun a hf => oR hf (pF hf rfl rfl) rfl fun a hf => oN <| ct ?_
     have ho := oI hp
     subst ho
     exact ⟨(decide ((a2.size : Int) > 16)), rfl, hw, hf.to ⟨rfl, rfl, rfl, rfl, trivial⟩⟩
  ·intro a w hM
   obtain ⟨y15, rfl, hw, hf⟩ := hM
   replace hp := hq17
   refine cC hf rfl (fun hb20 => ?_) (fun hb20 => ?_)
   ·replace hp := cond_t hb20 hp
    refine wq <| wr <| oa hf rfl rfl fun a hf => oN <| ct <| wp_ret <| c_thenR ?_
    have ho := oI hp
    simp only [Prod.mk.injEq] at ho
    obtain ⟨rfl, rfl, rfl, rfl⟩ := ho
    exact b_ret1 hf results84 rfl ⟨_, rfl, ⟨a0_p_lv, a0_p_lm, a0_p_lcs, a0_p_pathsv, a0_p_pathsm, a0_p_pathscs, rfl, hw, ha0_p_l, ha0_p_paths⟩⟩
   ·replace hp := cond_f hb20 hp
    refine wp_skip <| ct <| wq <| wr <| om hf rfl rfl fun a hf => oR hf (nC hf rfl) rfl fun a hf => oR hf (rF hf rfl fd_120_1) rfl fun a hf => oR hf (rL hw hf rfl ty_3 0 rfl rfl) rfl fun a hf => oR hf (r_add hf rfl rfl) rfl fun a hf => oR hf (nC hf rfl) rfl fun a hf => oR hf (rF hf rfl fd_120_1) rfl fun a hf => ?_
    obtain ⟨w, hrun21, hw⟩ := e_store (P := P) hw hf (x := .tmp 37) (y := .tmp 35) rfl rfl ty_3 0 rfl (vs := [.int .i64 (w64 (a0_p_next + 1))]) (oE rfl) rfl (oC rfl ones_nil) (by simp [arrC_len]) (cs' := [a0_p_tv5, .int .i64 (w64 (a0_p_next + 1)), a0_p_lv, a0_p_pathsv]) rfl
    dsimp only [List.set] at hw
    refine o_effU (hrun21 ..) <| oN <| ct <| wq <| wr <| om hf rfl rfl fun a hf => om hf rfl rfl fun a hf => oR hf (nC hf rfl) rfl fun a hf => oR hf (rF hf rfl fd_120_3) rfl fun a hf => oR hf (rL hw hf rfl ty_45 0 rfl rfl) rfl fun a hf => om hf rfl rfl fun a hf => ?_
    obtain ⟨w, v22, hrun23, hw, hRR24⟩ := e_buildSlice (P := P) (K := ekS) (m := 1) hw hf (parts := [(0, .tmp 43)]) el_45 ty_9 rfl rfl rfl (ccs := [[Value.string a2]]) rfl (xs := [a2]) ⟨rfl, trivial⟩ rfl
    obtain ⟨cs25, hcs⟩ : ∃ cs, cs = ([[Value.string a2]] : List (List Value)).flatten := ⟨_, rfl⟩
    rw [← hcs] at hw hRR24; clear hcs
    refine o_eff hf (hrun23 ..) rfl fun a hf => ?_
    obtain ⟨hg27, hp⟩ := gS hp
    obtain ⟨w, v28, m29, cs30, hrun32, hw, hRR31⟩ := e_append (P := P) (K := ekS) (ty := 45) hw hf (s := .tmp 42) (x := .tmp 44) el_45 ty_9 rfl (by decide) 3 rfl rfl rfl ha0_p_paths (ys := [a2]) (rR (K := ekS) hw (i := 0) rfl hRR24) hg27
    replace hw : Ok E I (.row v22 9 1 1 cs25 :: .blk a0b (.cells ⟨[a0_p_tv5, .int .i64 (w64 (a0_p_next + 1)), a0_p_lv, a0_p_pathsv]⟩ 120 (0, 0)) :: .row a0_p_lv 55 2 a0_p_lm a0_p_lcs :: .row v28 9 1 m29 cs30 :: F) w := hw
    refine o_eff hf (hrun32 ..) rfl fun a hf => oR hf (nC hf rfl) rfl fun a hf => oR hf (rF hf rfl fd_120_3) rfl fun a hf => ?_
    obtain ⟨w, hrun33, hw⟩ := e_store (P := P) hw hf (x := .tmp 47) (y := .tmp 45) rfl rfl ty_45 1 rfl (vs := [v28]) (oE (row_one hw (i := 3) rfl)) rfl (oC (row_one hw (i := 3) rfl) ones_nil) (by simp [arrC_len]) (cs' := [a0_p_tv5, .int .i64 (w64 (a0_p_next + 1)), a0_p_lv, v28]) rfl
    dsimp only [List.set] at hw
    refine o_effU (hrun33 ..) <| oN <| ct <| wq <| wr <| om hf rfl rfl fun a hf => oR hf (nC hf rfl) rfl fun a hf => oR hf (rF hf rfl fd_120_0) rfl fun a hf => oR hf (rL hw hf rfl ty_23 1 rfl rfl) rfl fun a hf => om hf rfl rfl fun a hf => ?_
    obtain ⟨hg34, hp⟩ := gS hp
    refine oR hf (rI (K := ek_Node) hf el_23 rfl rfl (hR6.rd hw) hg34) rfl fun a hf => oR hf (r_loadHP (K := ek_Node) hf rfl ty_51 (hR6.rd hw) hg34 rfl (vs := (.int .i64 ((gt a0_p_t a1).kind_) :: .string ((gt a0_p_t a1).path_) :: .bool ((gt a0_p_t a1).has_) :: .string ((gt a0_p_t a1).value_) :: arrC .i64 ((gt a0_p_t a1).kids_))) (fun cs h => Node_all h) (by simp [arrC_len])) rfl fun a hf => ?_
    obtain ⟨b35, w, hrun36, hw⟩ := e_alloc (P := P) (a := a) hw ty_51
    refine o_eff hf (hrun36 ..) rfl fun a hf => ?_
    obtain ⟨w, hrun38, hw⟩ := e_store (P := P) hw hf (x := .tmp 7) (y := .tmp 54) rfl rfl ty_51 0 rfl (vs := (.int .i64 ((gt a0_p_t a1).kind_) :: .string ((gt a0_p_t a1).path_) :: .bool ((gt a0_p_t a1).has_) :: .string ((gt a0_p_t a1).value_) :: arrC .i64 ((gt a0_p_t a1).kids_))) rfl (by simp [arrC_len]) (oC rfl (oC rfl (oC rfl (oC rfl (arrC_one _ _))))) (by simp [arrC_len]) (cs' := (.int .i64 ((gt a0_p_t a1).kind_) :: .string ((gt a0_p_t a1).path_) :: .bool ((gt a0_p_t a1).has_) :: .string ((gt a0_p_t a1).value_) :: arrC .i64 ((gt a0_p_t a1).kids_))) (by simp [arrC_len])
    dsimp only [List.set] at hw
    refine o_effU (hrun38 ..) <| oN <| ct <| wq <| wr <| om hf rfl rfl fun a hf => oR hf (rF hf rfl fd_51_1) rfl fun a hf => oR hf (rL hw hf rfl ty_9 0 rfl rfl) rfl fun a hf => ?_
    obtain ⟨hg39, hp⟩ := gS hp
    refine oR hf (r_sadd hf rfl rfl hg39) rfl fun a hf => oa hf rfl rfl fun a hf => oN <| ct <| wq ?_
    obtain ⟨out115, hp, hq116⟩ := bS hp
    refine c_cut (fun a w => ∃ y109 : List Pair, ∃ y114 : Bool, ∃ yv110 : Value, ∃ m111 : Nat, ∃ cs112 : List Value, (y109, y114) = out115 ∧ Ok E I (.blk b35 (.cells ⟨.int .i64 ((gt a0_p_t a1).kind_) :: .string ((gt a0_p_t a1).path_) :: .bool ((gt a0_p_t a1).has_) :: .string ((gt a0_p_t a1).value_) :: arrC .i64 ((gt a0_p_t a1).kids_)⟩ 51 (0, 0)) :: .row v22 9 1 1 cs25 :: .blk a0b (.cells ⟨[a0_p_tv5, .int .i64 (w64 (a0_p_next + 1)), yv110, v28]⟩ 120 (0, 0)) :: .row yv110 55 2 m111 cs112 :: .row v28 9 1 m29 cs30 :: F) w ∧ Fr 95 ([(0, .pointer (some ⟨a0b, 0, none⟩)), (2, .string (a2 ++ ((gt a0_p_t a1).path_))), (7, .pointer (some ⟨b35, 0, none⟩)), (68, .bool y114)]) a ∧ RowR ek_Pair I cs112 y109) ?_ ?_
    ·refine wr <| oR hf (rF hf rfl fd_51_2) rfl fun a hf => oR hf (rL hw hf rfl ty_4 0 rfl rfl) rfl fun a hf => om hf rfl rfl fun a hf => g_split hf (g := 61) rfl (fun hb117 hf => ?_) (fun hb117 hf => ?_)
     ·replace hp := cond_t hb117 hp
      refine oW hf (g := 61) rfl rfl <| om hf rfl rfl fun a hf => oW hf (g := 61) rfl rfl <| om hf rfl rfl fun a hf => oW hf (g := 61) rfl rfl <| oR hf (rF hf rfl fd_51_3) rfl fun a hf => oW hf (g := 61) rfl rfl <| oR hf (rL hw hf rfl ty_9 0 rfl rfl) rfl fun a hf => oW hf (g := 61) rfl rfl ?_
      replace hw : Ok E I (.blk a0b (.cells ⟨[a0_p_tv5, .int .i64 (w64 (a0_p_next + 1)), a0_p_lv, v28]⟩ 120 (0, 0)) :: .row a0_p_lv 55 2 a0_p_lm a0_p_lcs :: .row v28 9 1 m29 cs30 :: .blk b35 (.cells ⟨.int .i64 ((gt a0_p_t a1).kind_) :: .string ((gt a0_p_t a1).path_) :: .bool ((gt a0_p_t a1).has_) :: .string ((gt a0_p_t a1).value_) :: arrC .i64 ((gt a0_p_t a1).kids_)⟩ 51 (0, 0)) :: .row v22 9 1 1 cs25 :: F) w := ((hw.front (i := 4) rfl).front (i := 4) rfl).front (i := 4) rfl
      obtain ⟨y121, hy120, hp⟩ := bS hp
      obtain ⟨y118, y119⟩ := y121
      have hc122 := trie_walker_pair_ok hw hR6 ha0_p_l hRR31 hy120
      refine o_call hf cb_94 rfl rfl hc122 (fun v128 w a hK123 hf => ?_)
      obtain ⟨rv124, rm125, rcs126, rfl, hw, hRR127⟩ := hK123
      refine oW hf (g := 61) rfl rfl <| oR hf (r_not hf rfl) rfl fun a hf => oR hf (pT hf rfl rfl) rfl fun a hf => oN <| ct ?_
      have ho := oI hp
      subst ho
      replace hw : Ok E I (.blk b35 (.cells ⟨.int .i64 ((gt a0_p_t a1).kind_) :: .string ((gt a0_p_t a1).path_) :: .bool ((gt a0_p_t a1).has_) :: .string ((gt a0_p_t a1).value_) :: arrC .i64 ((gt a0_p_t a1).kids_)⟩ 51 (0, 0)) :: .row v22 9 1 1 cs25 :: .blk a0b (.cells ⟨[a0_p_tv5, .int .i64 (w64 (a0_p_next + 1)), rv124, v28]⟩ 120 (0, 0)) :: .row rv124 55 2 rm125 rcs126 :: .row v28 9 1 m29 cs30 :: F) w := ((((hw.front (i := 2) rfl).front (i := 2) rfl).front (i := 2) rfl).front (i := 4) rfl).front (i := 4) rfl
      exact ⟨y119, (!y118), rv124, rm125, rcs126, rfl, hw, hf.to ⟨rfl, rfl, rfl, rfl, trivial⟩, hRR127⟩
     ·replace hp := cond_f hb117 hp
      refine oQ hf (g := 61) rfl fun a hf => oQ hf (g := 61) rfl fun a hf => oQ hf (g := 61) rfl fun a hf => oQ hf (g := 61) rfl fun a hf => oQ hf (g := 61) rfl fun a hf => oQ hf (g := 61) rfl fun a hf => oR hf (pF hf rfl rfl) rfl fun a hf => oN <| ct ?_
      have ho := oI hp
      subst ho
      exact ⟨a0_p_l, false, a0_p_lv, a0_p_lm, a0_p_lcs, rfl, hw, hf.to ⟨rfl, rfl, rfl, rfl, trivial⟩, ha0_p_l⟩
    ·intro a w hM
     obtain ⟨y109, y114, yv110, m111, cs112, rfl, hw, hf, hRR113⟩ := hM
     replace hp := hq116
     refine cC hf rfl (fun hb129 => ?_) (fun hb129 => ?_)
     ·replace hp := cond_t hb129 hp
      refine wq <| wr <| oa hf rfl rfl fun a hf => oN <| ct <| wp_ret <| c_thenR ?_
      replace hw : Ok E I (.blk a0b (.cells ⟨[a0_p_tv5, .int .i64 (w64 (a0_p_next + 1)), yv110, v28]⟩ 120 (0, 0)) :: .row yv110 55 2 m111 cs112 :: .row v28 9 1 m29 cs30 :: F) w := hw.sub (sc (sc (scc (scc (scc sr)))))
      have ho := oI hp
      simp only [Prod.mk.injEq] at ho
      obtain ⟨rfl, rfl, rfl, rfl⟩ := ho
      exact b_ret1 hf results84 rfl ⟨_, rfl, ⟨yv110, m111, cs112, v28, m29, cs30, rfl, hw, hRR113, hRR31⟩⟩
     ·replace hp := cond_f hb129 hp
      refine wp_skip <| ct <| wq <| wq <| wr <| oR hf (rF hf rfl fd_51_4) rfl fun a hf => oR hf (r_loadA hw hf rfl ty_49 0 rfl (vs := (arrC .i64 ((gt a0_p_t a1).kids_))) (take_all (by simp [arrC_len])) (by simp [arrC_len])) rfl fun a hf => om hf rfl rfl fun a hf => oN <| ct ?_
      obtain ⟨out732, hp, hq733⟩ := bS hp
      refine c_cutX (fun a w => ∃ y721 : List Pair, ∃ y726 : List ByteArray, ∃ y731 : Int, ∃ yv722 : Value, ∃ m723 : Nat, ∃ cs724 : List Value, ∃ yv727 : Value, ∃ m728 : Nat, ∃ cs729 : List Value, (.inl (y721, y726, y731)) = out732 ∧ Ok E I (.blk b35 (.cells ⟨.int .i64 ((gt a0_p_t a1).kind_) :: .string ((gt a0_p_t a1).path_) :: .bool ((gt a0_p_t a1).has_) :: .string ((gt a0_p_t a1).value_) :: arrC .i64 ((gt a0_p_t a1).kids_)⟩ 51 (0, 0)) :: .row v22 9 1 1 cs25 :: .blk a0b (.cells ⟨[a0_p_tv5, .int .i64 y731, yv722, yv727]⟩ 120 (0, 0)) :: .row yv722 55 2 m723 cs724 :: .row yv727 9 1 m728 cs729 :: F) w ∧ Fr 95 ([]) a ∧ RowR ek_Pair I cs724 y721 ∧ RowR ekS I cs729 y726) ?_ ?_
      ·refine wp_block <| c_loop <| c_fuel (trie_walker_walk.l0 a0_p_t a1 a2 (trie_walker_walk.f kk)) out732 (fun (y520, y525, y530, y531) a w => ∃ yv521 : Value, ∃ m522 : Nat, ∃ cs523 : List Value, ∃ yv526 : Value, ∃ m527 : Nat, ∃ cs528 : List Value, Ok E I (.blk b35 (.cells ⟨.int .i64 ((gt a0_p_t a1).kind_) :: .string ((gt a0_p_t a1).path_) :: .bool ((gt a0_p_t a1).has_) :: .string ((gt a0_p_t a1).value_) :: arrC .i64 ((gt a0_p_t a1).kids_)⟩ 51 (0, 0)) :: .row v22 9 1 1 cs25 :: .blk a0b (.cells ⟨[a0_p_tv5, .int .i64 y530, yv521, yv526]⟩ 120 (0, 0)) :: .row yv521 55 2 m522 cs523 :: .row yv526 9 1 m527 cs528 :: F) w ∧ Fr 95 ([(0, .pointer (some ⟨a0b, 0, none⟩)), (2, .string (a2 ++ ((gt a0_p_t a1).path_))), (7, .pointer (some ⟨b35, 0, none⟩)), (70, Value.agg ⟨arrC .i64 ((gt a0_p_t a1).kids_)⟩), (71, .int .i64 y531)]) a ∧ RowR ek_Pair I cs523 y520 ∧ RowR ekS I cs528 y525) (fun _ => rfl) ?_ BIG (y109, a0_p_paths ++ [a2], w64 (a0_p_next + 1), 0) _ _ ⟨yv110, m111, cs112, v28, m29, cs30, hw, hf.to ⟨rfl, rfl, rfl, rfl, rfl, trivial⟩, hRR113, hRR31⟩ hp
       intro k st a w hI hp ih
       obtain ⟨y520, y525, y530, y531⟩ := st
       obtain ⟨yv521, m522, cs523, yv526, m527, cs528, hw, hf, hRR524, hRR529⟩ := hI
       rw [trie_walker_walk.l0] at hp
       refine wq <| wr <| oR hf (iC hf rfl rfl rfl) rfl fun a hf => oN <| ct <| wq <| cC hf rfl (fun hb735 => ?_) (fun hb735 => ?_)
       ·replace hp := cond_t hb735 hp
        refine wp_skip <| ct <| wq <| wp_block <| wq <| wr <| om hf rfl rfl fun a hf => ?_
        obtain ⟨hg830, hp⟩ := gS hp
        refine oR hf (r_indexArr hf el_49 ty_3 rfl rfl hg830) rfl fun a hf => oa hf rfl rfl fun a hf => oa hf rfl rfl fun a hf => oN <| ct <| wq <| wr <| om hf rfl rfl fun a hf => oa hf rfl rfl fun a hf => oN <| ct ?_
        obtain ⟨out846, hp, hq847⟩ := bS hp
        refine c_cut (fun a w => ∃ y845 : ByteArray, y845 = out846 ∧ Ok E I (.blk b35 (.cells ⟨.int .i64 ((gt a0_p_t a1).kind_) :: .string ((gt a0_p_t a1).path_) :: .bool ((gt a0_p_t a1).has_) :: .string ((gt a0_p_t a1).value_) :: arrC .i64 ((gt a0_p_t a1).kids_)⟩ 51 (0, 0)) :: .row v22 9 1 1 cs25 :: .blk a0b (.cells ⟨[a0_p_tv5, .int .i64 y530, yv521, yv526]⟩ 120 (0, 0)) :: .row yv521 55 2 m522 cs523 :: .row yv526 9 1 m527 cs528 :: F) w ∧ Fr 95 ([(0, .pointer (some ⟨a0b, 0, none⟩)), (2, .string (a2 ++ ((gt a0_p_t a1).path_))), (7, .pointer (some ⟨b35, 0, none⟩)), (9, .int .i64 (vg ((gt a0_p_t a1).kids_) y531)), (10, .string y845), (70, Value.agg ⟨arrC .i64 ((gt a0_p_t a1).kids_)⟩), (71, .int .i64 y531)]) a) ?_ ?_
        ·refine wq <| wr <| oR hf (rF hf rfl fd_51_0) rfl fun a hf => oR hf (rL hw hf rfl ty_3 0 rfl rfl) rfl fun a hf => oR hf (iC hf rfl rfl rfl) rfl fun a hf => oN <| ct <| cC hf rfl (fun hb848 => ?_) (fun hb848 => ?_)
         ·replace hp := cond_t hb848 hp
          refine wr <| om hf rfl rfl fun a hf => om hf rfl rfl fun a hf => oR hf (r_convI hf und_3 und_5 rfl) rfl fun a hf => ?_
          obtain ⟨w, v849, hrun850, hw, hRR851⟩ := e_buildSlice (P := P) (K := (ekI .u8)) (m := 1) hw hf (parts := [(0, .tmp 81)]) el_53 ty_5 rfl rfl rfl (ccs := [[Value.int .u8 (wu8 y531)]]) rfl (xs := [wu8 y531]) ⟨rfl, trivial⟩ rfl
          obtain ⟨cs852, hcs⟩ : ∃ cs, cs = ([[Value.int .u8 (wu8 y531)]] : List (List Value)).flatten := ⟨_, rfl⟩
          rw [← hcs] at hw hRR851; clear hcs
          refine o_eff hf (hrun850 ..) rfl fun a hf => oR hf (r_convB hf und_53 und_5 und_9 rfl (rR (K := (ekI .u8)) hw (i := 0) rfl hRR851)) rfl fun a hf => ?_
          obtain ⟨hg854, hp⟩ := gS hp
          refine oR hf (r_sadd hf rfl rfl hg854) rfl fun a hf => oa hf rfl rfl fun a hf => oN <| ct ?_
          have ho := oI hp
          subst ho
          replace hw : Ok E I (.blk b35 (.cells ⟨.int .i64 ((gt a0_p_t a1).kind_) :: .string ((gt a0_p_t a1).path_) :: .bool ((gt a0_p_t a1).has_) :: .string ((gt a0_p_t a1).value_) :: arrC .i64 ((gt a0_p_t a1).kids_)⟩ 51 (0, 0)) :: .row v22 9 1 1 cs25 :: .blk a0b (.cells ⟨[a0_p_tv5, .int .i64 y530, yv521, yv526]⟩ 120 (0, 0)) :: .row yv521 55 2 m522 cs523 :: .row yv526 9 1 m527 cs528 :: F) w := hw.sub (sc (scc (scc (scc (scc (scc sr))))))
          exact ⟨((a2 ++ ((gt a0_p_t a1).path_)) ++ (strOfNums [wu8 y531])), rfl, hw, hf.to ⟨rfl, rfl, rfl, rfl, rfl, rfl, rfl, trivial⟩⟩
         ·replace hp := cond_f hb848 hp
          refine wp_skip <| ct ?_
          have ho := oI hp
          subst ho
          exact ⟨(a2 ++ ((gt a0_p_t a1).path_)), rfl, hw, hf.to ⟨rfl, rfl, rfl, rfl, rfl, rfl, rfl, trivial⟩⟩
        ·intro a w hM
         obtain ⟨y845, rfl, hw, hf⟩ := hM
         replace hp := hq847
         obtain ⟨out903, hp, hq904⟩ := bS hp
         refine c_cut (fun a w => ∃ y891 : List Pair, ∃ y896 : List ByteArray, ∃ y901 : Int, ∃ y902 : Bool, ∃ yv892 : Value, ∃ m893 : Nat, ∃ cs894 : List Value, ∃ yv897 : Value, ∃ m898 : Nat, ∃ cs899 : List Value, (y891, y896, y901, y902) = out903 ∧ Ok E I (.blk b35 (.cells ⟨.int .i64 ((gt a0_p_t a1).kind_) :: .string ((gt a0_p_t a1).path_) :: .bool ((gt a0_p_t a1).has_) :: .string ((gt a0_p_t a1).value_) :: arrC .i64 ((gt a0_p_t a1).kids_)⟩ 51 (0, 0)) :: .row v22 9 1 1 cs25 :: .blk a0b (.cells ⟨[a0_p_tv5, .int .i64 y901, yv892, yv897]⟩ 120 (0, 0)) :: .row yv892 55 2 m893 cs894 :: .row yv897 9 1 m898 cs899 :: F) w ∧ Fr 95 ([(0, .pointer (some ⟨a0b, 0, none⟩)), (2, .string (a2 ++ ((gt a0_p_t a1).path_))), (7, .pointer (some ⟨b35, 0, none⟩)), (70, Value.agg ⟨arrC .i64 ((gt a0_p_t a1).kids_)⟩), (71, .int .i64 y531), (93, .bool y902)]) a ∧ RowR ek_Pair I cs894 y891 ∧ RowR ekS I cs899 y896) ?_ ?_
         ·refine wr <| om hf rfl rfl fun a hf => oR hf (iC hf rfl rfl rfl) rfl fun a hf => om hf rfl rfl fun a hf => g_split hf (g := 87) rfl (fun hb905 hf => ?_) (fun hb905 hf => ?_)
          ·replace hp := cond_t hb905 hp
           refine oW hf (g := 87) rfl rfl <| om hf rfl rfl fun a hf => oW hf (g := 87) rfl rfl <| om hf rfl rfl fun a hf => oW hf (g := 87) rfl rfl <| om hf rfl rfl fun a hf => oW hf (g := 87) rfl rfl ?_
           replace hw : Ok E I (.blk a0b (.cells ⟨[a0_p_tv5, .int .i64 y530, yv521, yv526]⟩ 120 (0, 0)) :: .row yv521 55 2 m522 cs523 :: .row yv526 9 1 m527 cs528 :: .blk b35 (.cells ⟨.int .i64 ((gt a0_p_t a1).kind_) :: .string ((gt a0_p_t a1).path_) :: .bool ((gt a0_p_t a1).has_) :: .string ((gt a0_p_t a1).value_) :: arrC .i64 ((gt a0_p_t a1).kids_)⟩ 51 (0, 0)) :: .row v22 9 1 1 cs25 :: F) w := ((hw.front (i := 4) rfl).front (i := 4) rfl).front (i := 4) rfl
           obtain ⟨y911, hy910, hp⟩ := bS hp
           obtain ⟨y906, y907, y908, y909⟩ := y911
           have hc912 := ihr hw hR6 hRR524 hRR529 hy910
           refine o_call hf cb_84 rfl rfl hc912 (fun v922 w a hK913 hf => ?_)
           obtain ⟨rv914, rm915, rcs916, rv918, rm919, rcs920, rfl, hw, hRR917, hRR921⟩ := hK913
           refine oW hf (g := 87) rfl rfl <| oR hf (r_not hf rfl) rfl fun a hf => oR hf (pT hf rfl rfl) rfl fun a hf => oN <| ct ?_
           have ho := oI hp
           subst ho
           replace hw : Ok E I (.blk b35 (.cells ⟨.int .i64 ((gt a0_p_t a1).kind_) :: .string ((gt a0_p_t a1).path_) :: .bool ((gt a0_p_t a1).has_) :: .string ((gt a0_p_t a1).value_) :: arrC .i64 ((gt a0_p_t a1).kids_)⟩ 51 (0, 0)) :: .row v22 9 1 1 cs25 :: .blk a0b (.cells ⟨[a0_p_tv5, .int .i64 y907, rv914, rv918]⟩ 120 (0, 0)) :: .row rv914 55 2 rm915 rcs916 :: .row rv918 9 1 rm919 rcs920 :: F) w := ((((hw.front (i := 2) rfl).front (i := 2) rfl).front (i := 2) rfl).front (i := 4) rfl).front (i := 4) rfl
           exact ⟨y908, y909, y907, (!y906), rv914, rm915, rcs916, rv918, rm919, rcs920, rfl, hw, hf.to ⟨rfl, rfl, rfl, rfl, rfl, rfl, trivial⟩, hRR917, hRR921⟩
          ·replace hp := cond_f hb905 hp
           refine oQ hf (g := 87) rfl fun a hf => oQ hf (g := 87) rfl fun a hf => oQ hf (g := 87) rfl fun a hf => oQ hf (g := 87) rfl fun a hf => oQ hf (g := 87) rfl fun a hf => oR hf (pF hf rfl rfl) rfl fun a hf => oN <| ct ?_
           have ho := oI hp
           subst ho
           exact ⟨y520, y525, y530, false, yv521, m522, cs523, yv526, m527, cs528, rfl, hw, hf.to ⟨rfl, rfl, rfl, rfl, rfl, rfl, trivial⟩, hRR524, hRR529⟩
         ·intro a w hM
          obtain ⟨y891, y896, y901, y902, yv892, m893, cs894, yv897, m898, cs899, rfl, hw, hf, hRR895, hRR900⟩ := hM
          replace hp := hq904
          refine cC hf rfl (fun hb923 => ?_) (fun hb923 => ?_)
          ·replace hp := cond_t hb923 hp
           refine wq <| wr <| oa hf rfl rfl fun a hf => oN <| ct <| wp_ret <| c_blockR <| c_thenR <| c_thenR <| c_blockR <| c_thenR ?_
           have ho := oI hp
           subst ho
           replace hp := hq733
           refine c_thenR ?_
           replace hw : Ok E I (.blk a0b (.cells ⟨[a0_p_tv5, .int .i64 y901, yv892, yv897]⟩ 120 (0, 0)) :: .row yv892 55 2 m893 cs894 :: .row yv897 9 1 m898 cs899 :: F) w := hw.sub (sc (sc (scc (scc (scc sr)))))
           have ho := oI hp
           simp only [Prod.mk.injEq] at ho
           obtain ⟨rfl, rfl, rfl, rfl⟩ := ho
           exact b_ret1 hf results84 rfl ⟨_, rfl, ⟨yv892, m893, cs894, yv897, m898, cs899, rfl, hw, hRR895, hRR900⟩⟩
          ·replace hp := cond_f hb923 hp
           refine wp_skip <| c_blockN <| ct <| wr <| oR hf (r_add hf rfl rfl) rfl fun a hf => om hf rfl rfl fun a hf => oN <| ct ?_
           exact ih (y891, y896, y901, w64 (y531 + 1)) _ _ ⟨yv892, m893, cs894, yv897, m898, cs899, hw, hf.to ⟨rfl, rfl, rfl, rfl, rfl, trivial⟩, hRR895, hRR900⟩ hp
       ·replace hp := cond_f hb735 hp
        refine wp_exit <| c_thenE <| c_thenE <| c_exit <| ct ?_
        have ho := oI hp
        subst ho
        exact ⟨y520, y525, y530, yv521, m522, cs523, yv526, m527, cs528, rfl, hw, hf.to trivial, hRR524, hRR529⟩
      ·intro a w hM
       obtain ⟨y721, y726, y731, yv722, m723, cs724, yv727, m728, cs729, rfl, hw, hf, hRR725, hRR730⟩ := hM
       replace hp := hq733
       refine ct <| wq <| wr <| oa hf rfl rfl fun a hf => oN <| ct <| wp_ret ?_
       replace hw : Ok E I (.blk a0b (.cells ⟨[a0_p_tv5, .int .i64 y731, yv722, yv727]⟩ 120 (0, 0)) :: .row yv722 55 2 m723 cs724 :: .row yv727 9 1 m728 cs729 :: F) w := hw.sub (sc (sc (scc (scc (scc sr)))))
       have ho := oI hp
       simp only [Prod.mk.injEq] at ho
       obtain ⟨rfl, rfl, rfl, rfl⟩ := ho
       exact b_ret1 hf results84 rfl ⟨_, rfl, ⟨yv722, m723, cs724, yv727, m728, cs729, rfl, hw, hRR725, hRR730⟩⟩
end Go.Lf
