import Derived.Test.YtckhmgglgbnaaaaZD
import Derived.Test.YtckhmgglgbnaaaaZF
import Derived.Test.YtckhmgglgbnaaaaUB
import Derived.Test.YtckhmgglgbnaaaaN
import Derived.Test.YtckhmgglgbnaaaaBL
import Derived.Test.YtckhmgglgbnaaaaZK14
import Derived.Test.YtckhmgglgbnaaaaZK15
set_option linter.unusedVariables false
set_option linter.unusedSimpArgs false
set_option maxHeartbeats 1000000
set_option maxRecDepth 20000
namespace Go.Lf
open Go Go.Proofs.Try
theorem law20_SlotStrict_ok {E : World} {I : IH} {F : List Atom} {w : World} {a0 : ByteArray} {a1 : Int} {res0 : Bool} (hw : Ok E I (F) w) (hp : law20_SlotStrict.f a0 a1 = some res0) :
  Calls P 9 ⟨[Value.string a0, Value.int .u8 a1]⟩ w fun e w' => ∃ v, e = .returned v ∧ v = Value.bool res0 ∧ Ok E I (F) w' := by
 refine c_enter func9 rfl ntmps9 rfl fun a hf => ?_
 replace hf : Fr 209 [(0, .string a0), (1, .int .u8 a1)] a := hf
 unfold law20_SlotStrict.f at hp
 refine wq <| wr <| oa hf rfl rfl fun a hf => oN <| ct <| wq <| wq <| wr <| om hf rfl rfl fun a hf => oR hf (r_lenS hf und_9 rfl) rfl fun a hf => oR hf (iC hf rfl rfl rfl) rfl fun a hf => oN <| ct <| cC hf rfl (fun hb1 => ?_) (fun hb1 => ?_)
 ·replace hp := cond_t hb1 hp
  refine wq <| wr ?_
  obtain ⟨y196, hy197, hp⟩ := bS hp
  have hc199 := law20_wakes_ok hw hy197
  refine o_call hf cb_26 rfl rfl hc199 (fun v201 w a hK200 hf => ?_)
  obtain ⟨rfl, hw⟩ := hK200
  refine oa hf rfl rfl fun a hf => oN <| ct <| wp_ret <| c_thenR ?_
  have ho := oI hp
  subst ho
  exact b_ret1 hf results9 rfl ⟨_, rfl, ⟨rfl, hw⟩⟩
 ·replace hp := cond_f hb1 hp
  refine wp_skip <| ct <| wq <| wr <| om hf rfl rfl fun a hf => ?_
  obtain ⟨y205, hy204, hp⟩ := bS hp
  obtain ⟨y202, y203⟩ := y205
  have hc206 := slot_Decode_ok hw hy204
  refine o_call hf cb_29 rfl rfl hc206 (fun v210 w a hK207 hf => ?_)
  obtain ⟨I2_207, rvv208, rfl, hle211, hw, hR209⟩ := hK207
  refine om hf rfl rfl fun a hf => oR hf (rE hf rfl rfl) rfl fun a hf => oR hf (rE hf rfl rfl) rfl fun a hf => oa hf rfl rfl fun a hf => oa hf rfl rfl fun a hf => oN <| ct <| wq <| wq <| wr <| om hf rfl rfl fun a hf => oR hf (r_not hf rfl) rfl fun a hf => oN <| ct <| cC hf rfl (fun hb212 => ?_) (fun hb212 => ?_)
  ·replace hp := cond_t hb212 hp
   obtain ⟨out228, hp, hq229⟩ := bS hp
   refine c_cut (fun a w => ∃ y227 : Bool, y227 = out228 ∧ Ok E I2_207 (F) w ∧ Fr 209 ([(4, .bool y227)]) a) ?_ ?_
   ·refine wr <| om hf rfl rfl fun a hf => oR hf (r_lenL (K := ek_Slot) hf el_62 rfl (hR209.rd hw)) rfl fun a hf => oR hf (iC hf rfl rfl rfl) rfl fun a hf => om hf rfl rfl fun a hf => g_split hf (g := 33) rfl (fun hb230 hf => ?_) (fun hb230 hf => ?_)
    ·replace hp := cond_t hb230 hp
     refine oW hf (g := 33) rfl rfl ?_
     obtain ⟨y231, hy232, hp⟩ := bS hp
     have hc234 := law20_wakes_ok hw hy232
     refine o_call hf cb_26 rfl rfl hc234 (fun v236 w a hK235 hf => ?_)
     obtain ⟨rfl, hw⟩ := hK235
     refine oR hf (pT hf rfl rfl) rfl fun a hf => oa hf rfl rfl fun a hf => oN <| ct ?_
     have ho := oI hp
     subst ho
     exact ⟨y231, rfl, hw, hf.to ⟨rfl, trivial⟩⟩
    ·replace hp := cond_f hb230 hp
     refine oQ hf (g := 33) rfl fun a hf => oR hf (pF hf rfl rfl) rfl fun a hf => oa hf rfl rfl fun a hf => oN <| ct ?_
     have ho := oI hp
     subst ho
     exact ⟨false, rfl, hw, hf.to ⟨rfl, trivial⟩⟩
   ·intro a w hM
    obtain ⟨y227, rfl, hw, hf⟩ := hM
    replace hp := hq229
    refine wp_ret <| c_thenR ?_
    have ho := oI hp
    subst ho
    exact b_ret1 hf results9 rfl ⟨_, rfl, ⟨rfl, (hw.back hle211 sr)⟩⟩
  ·replace hp := cond_f hb212 hp
   refine wp_skip <| ct <| wq <| wr <| om hf rfl rfl fun a hf => om hf rfl rfl fun a hf => ?_
   obtain ⟨w, v237, hrun238, hw, hRR239⟩ := e_buildSlice (P := P) (K := (ekI .u8)) (m := 1) hw hf (parts := [(0, .tmp 38)]) el_53 ty_5 rfl rfl rfl (ccs := [[Value.int .u8 a1]]) rfl (xs := [a1]) ⟨rfl, trivial⟩ rfl
   obtain ⟨cs240, hcs⟩ : ∃ cs, cs = ([[Value.int .u8 a1]] : List (List Value)).flatten := ⟨_, rfl⟩
   rw [← hcs] at hw hRR239; clear hcs
   refine o_eff hf (hrun238 ..) rfl fun a hf => oR hf (r_convB hf und_53 und_5 und_9 rfl (rR (K := (ekI .u8)) hw (i := 0) rfl hRR239)) rfl fun a hf => ?_
   obtain ⟨hg242, hp⟩ := gS hp
   refine oR hf (r_sadd hf rfl rfl hg242) rfl fun a hf => ?_
   obtain ⟨y246, hy245, hp⟩ := bS hp
   obtain ⟨y243, y244⟩ := y246
   have hc247 := slot_Decode_ok hw hy245
   refine o_call hf cb_29 rfl rfl hc247 (fun v251 w a hK248 hf => ?_)
   obtain ⟨I2_248, rvv249, rfl, hle252, hw, hR250⟩ := hK248
   replace hR209 := hR209.mono hle252
   replace hRR239 := hRR239.mono hle252
   refine om hf rfl rfl fun a hf => oR hf (rE hf rfl rfl) rfl fun a hf => oR hf (rE hf rfl rfl) rfl fun a hf => oa hf rfl rfl fun a hf => oa hf rfl rfl fun a hf => oN <| ct <| wq <| wr <| om hf rfl rfl fun a hf => om hf rfl rfl fun a hf => oR hf (r_lenS hf und_9 rfl) rfl fun a hf => oR hf (r_sub hf rfl rfl) rfl fun a hf => ?_
   obtain ⟨hg253, hp⟩ := gS hp
   refine oR hf (r_sliceSh hf und_9 rfl rfl hg253) rfl fun a hf => ?_
   obtain ⟨y257, hy256, hp⟩ := bS hp
   obtain ⟨y254, y255⟩ := y257
   have hc258 := slot_Decode_ok hw hy256
   refine o_call hf cb_29 rfl rfl hc258 (fun v262 w a hK259 hf => ?_)
   obtain ⟨I2_259, rvv260, rfl, hle263, hw, hR261⟩ := hK259
   replace hR209 := hR209.mono hle263
   replace hR250 := hR250.mono hle263
   replace hRR239 := hRR239.mono hle263
   refine om hf rfl rfl fun a hf => oR hf (rE hf rfl rfl) rfl fun a hf => oR hf (rE hf rfl rfl) rfl fun a hf => oa hf rfl rfl fun a hf => oa hf rfl rfl fun a hf => oN <| ct <| wq ?_
   obtain ⟨out279, hp, hq280⟩ := bS hp
   refine c_cut (fun a w => ∃ y278 : Bool, y278 = out279 ∧ Ok E I2_259 (.row v237 5 1 1 cs240 :: F) w ∧ Fr 209 ([(5, rvv208), (62, .bool y278)]) a) ?_ ?_
   ·refine wr <| om hf rfl rfl fun a hf => om hf rfl rfl fun a hf => g_split hf (g := 55) rfl (fun hb281 hf => ?_) (fun hb281 hf => ?_)
    ·replace hp := cond_t hb281 hp
     refine oQ hf (g := 55) rfl fun a hf => oR hf (pT hf rfl rfl) rfl fun a hf => om hf rfl rfl fun a hf => oQ hf (g := 58) rfl fun a hf => oQ hf (g := 58) rfl fun a hf => oQ hf (g := 58) rfl fun a hf => oR hf (pT hf rfl rfl) rfl fun a hf => oN <| ct ?_
     have ho := oI hp
     subst ho
     exact ⟨true, rfl, hw, hf.to ⟨rfl, rfl, trivial⟩⟩
    ·replace hp := cond_f hb281 hp
     refine oW hf (g := 55) rfl rfl <| om hf rfl rfl fun a hf => oR hf (pF hf rfl rfl) rfl fun a hf => om hf rfl rfl fun a hf => g_split hf (g := 58) rfl (fun hb282 hf => ?_) (fun hb282 hf => ?_)
     ·replace hp := cond_t hb282 hp
      refine oQ hf (g := 58) rfl fun a hf => oQ hf (g := 58) rfl fun a hf => oQ hf (g := 58) rfl fun a hf => oR hf (pT hf rfl rfl) rfl fun a hf => oN <| ct ?_
      have ho := oI hp
      subst ho
      exact ⟨true, rfl, hw, hf.to ⟨rfl, rfl, trivial⟩⟩
     ·replace hp := cond_f hb282 hp
      refine oW hf (g := 58) rfl rfl <| om hf rfl rfl fun a hf => oW hf (g := 58) rfl rfl <| oR hf (r_lenL (K := ek_Slot) hf el_62 rfl (hR209.rd hw)) rfl fun a hf => oW hf (g := 58) rfl rfl <| oR hf (iC hf rfl rfl rfl) rfl fun a hf => oR hf (pF hf rfl rfl) rfl fun a hf => oN <| ct ?_
      have ho := oI hp
      subst ho
      exact ⟨((y202.length : Int) == 0), rfl, hw, hf.to ⟨rfl, rfl, trivial⟩⟩
   ·intro a w hM
    obtain ⟨y278, rfl, hw, hf⟩ := hM
    replace hp := hq280
    refine cC hf rfl (fun hb283 => ?_) (fun hb283 => ?_)
    ·replace hp := cond_t hb283 hp
     refine wq <| wr <| oa hf rfl rfl fun a hf => oN <| ct <| wp_ret <| c_thenR ?_
     replace hw : Ok E I2_259 (F) w := hw.sub (sc sr)
     have ho := oI hp
     subst ho
     exact b_ret1 hf results9 rfl ⟨_, rfl, ⟨rfl, (hw.back (IH.le_trans (IH.le_trans hle211 hle252) hle263) sr)⟩⟩
    ·replace hp := cond_f hb283 hp
     refine wp_skip <| ct <| wq <| wr <| om hf rfl rfl fun a hf => oR hf (r_lenL (K := ek_Slot) hf el_62 rfl (hR209.rd hw)) rfl fun a hf => ?_
     obtain ⟨hg284, hp⟩ := gS hp
     obtain ⟨w, v285, cs288, hrun286, hw, hRR287⟩ := e_makeSlice (P := P) (K := (ekI .i64)) hw hf (l := .tmp 64) (c := .tmp 64) el_24 ty_3 rfl (by decide) rfl rfl (x := 0) (fun _ => rfl) hg284
     refine o_eff hf (hrun286 ..) rfl fun a hf => oa hf rfl rfl fun a hf => oN <| ct <| wq <| wq <| wr <| oa hf rfl rfl fun a hf => oN <| ct ?_
     obtain ⟨out10542, hp, hq10543⟩ := bS hp
     refine c_cutX (fun a w => ∃ y10537 : List Int, ∃ yv10538 : Value, ∃ m10539 : Nat, ∃ cs10540 : List Value, (.inl y10537) = out10542 ∧ Ok E I2_259 (.row yv10538 3 1 m10539 cs10540 :: .row v237 5 1 1 cs240 :: F) w ∧ Fr 209 ([(11, yv10538)]) a ∧ RowR (ekI .i64) I2_259 cs10540 y10537) ?_ ?_
     ·refine wp_block <| c_loop <| c_fuel (law20_SlotStrict.l0 y202) out10542 (fun (y7022, y7027) a w => ∃ yv7023 : Value, ∃ m7024 : Nat, ∃ cs7025 : List Value, Ok E I2_259 (.row yv7023 3 1 m7024 cs7025 :: .row v237 5 1 1 cs240 :: F) w ∧ Fr 209 ([(5, rvv208), (11, yv7023), (12, .int .i64 y7027)]) a ∧ RowR (ekI .i64) I2_259 cs7025 y7022) (fun _ => rfl) ?_ BIG (List.replicate (y202.length : Int).toNat 0, 0) _ _ ⟨v285, (((y202.length : Int)).toNat), cs288, hw, hf.to ⟨rfl, rfl, rfl, trivial⟩, hRR287⟩ hp
      intro k st a w hI hp ih
      obtain ⟨y7022, y7027⟩ := st
      obtain ⟨yv7023, m7024, cs7025, hw, hf, hRR7026⟩ := hI
      rw [law20_SlotStrict.l0] at hp
      refine wq <| wq <| wr <| om hf rfl rfl fun a hf => om hf rfl rfl fun a hf => oR hf (r_lenL (K := ek_Slot) hf el_62 rfl (hR209.rd hw)) rfl fun a hf => oR hf (iC hf rfl rfl rfl) rfl fun a hf => oN <| ct <| cC hf rfl (fun hb10545 => ?_) (fun hb10545 => ?_)
      ·replace hp := cond_t hb10545 hp
       refine wp_skip <| ct <| wq <| wp_block <| wq <| wr <| oa hf rfl rfl fun a hf => oN <| ct <| wq <| wq <| wr <| oa hf rfl rfl fun a hf => oN <| ct ?_
       obtain ⟨out13421, hp, hq13422⟩ := bS hp
       refine c_cutX (fun a w => ∃ y13415 : List Int, ∃ y13420 : Int, ∃ yv13416 : Value, ∃ m13417 : Nat, ∃ cs13418 : List Value, (.inl (y13415, y13420)) = out13421 ∧ Ok E I2_259 (.row yv13416 3 1 m13417 cs13418 :: .row v237 5 1 1 cs240 :: F) w ∧ Fr 209 ([(5, rvv208), (11, yv13416), (12, .int .i64 y7027), (13, .int .i64 y13420)]) a ∧ RowR (ekI .i64) I2_259 cs13418 y13415) ?_ ?_
       ·refine wp_block <| c_loop <| c_fuel (law20_SlotStrict.l1 y202 y7027) out13421 (fun (y13041, y13046, y13047) a w => ∃ yv13042 : Value, ∃ m13043 : Nat, ∃ cs13044 : List Value, Ok E I2_259 (.row yv13042 3 1 m13043 cs13044 :: .row v237 5 1 1 cs240 :: F) w ∧ Fr 209 ([(5, rvv208), (11, yv13042), (12, .int .i64 y7027), (13, .int .i64 y13046), (14, .int .i64 y13047)]) a ∧ RowR (ekI .i64) I2_259 cs13044 y13041) (fun _ => rfl) ?_ BIG (y7022, 0, 0) _ _ ⟨yv7023, m7024, cs7025, hw, hf.to ⟨rfl, rfl, rfl, rfl, rfl, trivial⟩, hRR7026⟩ hp
        intro k st a w hI hp ih
        obtain ⟨y13041, y13046, y13047⟩ := st
        obtain ⟨yv13042, m13043, cs13044, hw, hf, hRR13045⟩ := hI
        rw [law20_SlotStrict.l1] at hp
        refine wq <| wq <| wr <| om hf rfl rfl fun a hf => oR hf (iC hf rfl rfl rfl) rfl fun a hf => oN <| ct <| cC hf rfl (fun hb13424 => ?_) (fun hb13424 => ?_)
        ·replace hp := cond_t hb13424 hp
         refine wp_skip <| ct ?_
         obtain ⟨out13669, hp, hq13670⟩ := bS hp
         refine c_cut (fun a w => ∃ y13663 : List Int, ∃ y13668 : Int, ∃ yv13664 : Value, ∃ m13665 : Nat, ∃ cs13666 : List Value, (.inl (y13663, y13668)) = out13669 ∧ Ok E I2_259 (.row yv13664 3 1 m13665 cs13666 :: .row v237 5 1 1 cs240 :: F) w ∧ Fr 209 ([(5, rvv208), (11, yv13664), (12, .int .i64 y7027), (13, .int .i64 y13668), (14, .int .i64 y13047)]) a ∧ RowR (ekI .i64) I2_259 cs13666 y13663) ?_ ?_
         ·refine wp_block <| wq <| wr <| om hf rfl rfl fun a hf => om hf rfl rfl fun a hf => om hf rfl rfl fun a hf => ?_
          obtain ⟨hg13671, hp⟩ := gS hp
          refine oR hf (rI (K := ek_Slot) hf el_62 rfl rfl (hR209.rd hw) hg13671) rfl fun a hf => oR hf (r_fieldAddrH hf rfl fd_70_4) rfl fun a hf => ?_
          obtain ⟨hg13672, hp⟩ := gS hp
          refine oR hf (r_indexAddrAH hf el_49 rfl rfl hg13672) rfl fun a hf => oR hf (r_loadH (K := ek_Slot) hf rfl ty_3 (hR209.rd hw) hg13671 (Nat.add_assoc ..) (fun cs h => Slot_at h hg13672)) rfl fun a hf => oa hf rfl rfl fun a hf => oN <| ct <| wq <| wq <| wr <| om hf rfl rfl fun a hf => oR hf (iC hf rfl rfl rfl) rfl fun a hf => oN <| ct <| cC hf rfl (fun hb13673 => ?_) (fun hb13673 => ?_)
          ·replace hp := cond_t hb13673 hp
           refine wp_exit <| c_thenE <| c_exit <| ct ?_
           have ho := oI hp
           subst ho
           exact ⟨y13041, y13046, yv13042, m13043, cs13044, rfl, hw, hf.to ⟨rfl, rfl, rfl, rfl, rfl, trivial⟩, hRR13045⟩
          ·replace hp := cond_f hb13673 hp
           refine wp_skip <| ct <| wq <| wr <| om hf rfl rfl fun a hf => oR hf (r_add hf rfl rfl) rfl fun a hf => oa hf rfl rfl fun a hf => oN <| ct <| wq ?_
           obtain ⟨out13764, hp, hq13765⟩ := bS hp
           refine c_cut (fun a w => ∃ y13763 : Bool, y13763 = out13764 ∧ Ok E I2_259 (.row yv13042 3 1 m13043 cs13044 :: .row v237 5 1 1 cs240 :: F) w ∧ Fr 209 ([(5, rvv208), (11, yv13042), (12, .int .i64 y7027), (13, .int .i64 (w64 (y13046 + 1))), (14, .int .i64 y13047), (15, .int .i64 (vg (gt y202 y7027).kids_ y13047)), (109, .bool y13763)]) a) ?_ ?_
           ·refine wr <| om hf rfl rfl fun a hf => oR hf (iC hf rfl rfl rfl) rfl fun a hf => om hf rfl rfl fun a hf => g_split hf (g := 89) rfl (fun hb13766 hf => ?_) (fun hb13766 hf => ?_)
            ·replace hp := cond_t hb13766 hp
             refine oW hf (g := 89) rfl rfl <| om hf rfl rfl fun a hf => oW hf (g := 89) rfl rfl <| om hf rfl rfl fun a hf => oW hf (g := 89) rfl rfl <| oR hf (iC hf rfl rfl rfl) rfl fun a hf => oW hf (g := 89) rfl rfl <| om hf rfl rfl fun a hf => g_split hf (g := 93) rfl (fun hb13767 hf => ?_) (fun hb13767 hf => ?_)
             ·replace hp := cond_t hb13767 hp
              refine oQ hf (g := 93) rfl fun a hf => oQ hf (g := 93) rfl fun a hf => oQ hf (g := 93) rfl fun a hf => oQ hf (g := 93) rfl fun a hf => oW hf (g := 89) rfl rfl <| oR hf (pT hf rfl rfl) rfl fun a hf => oR hf (pT hf rfl rfl) rfl fun a hf => om hf rfl rfl fun a hf => oQ hf (g := 100) rfl fun a hf => oQ hf (g := 100) rfl fun a hf => oQ hf (g := 100) rfl fun a hf => o_skipU hf (g := 103) rfl rfl rfl rfl rfl fun a hf => o_skipU hf (g := 103) rfl rfl rfl rfl rfl fun a hf => o_skipU hf (g := 103) rfl rfl rfl rfl rfl fun a hf => o_skipU hf (g := 103) rfl rfl rfl rfl rfl fun a hf => oQ hf (g := 100) rfl fun a hf => ?_
              refine oR hf (pT hf rfl rfl) rfl fun a hf => oN <| ct ?_
              have ho := oI hp
              subst ho
              exact ⟨true, rfl, hw, hf.to ⟨rfl, rfl, rfl, rfl, rfl, rfl, rfl, trivial⟩⟩
             ·replace hp := cond_f hb13767 hp
              refine oW hf (g := 93) rfl rfl <| om hf rfl rfl fun a hf => oW hf (g := 93) rfl rfl <| om hf rfl rfl fun a hf => oW hf (g := 93) rfl rfl <| oR hf (r_lenL (K := ek_Slot) hf el_62 rfl (hR209.rd hw)) rfl fun a hf => oW hf (g := 93) rfl rfl <| oR hf (iC hf rfl rfl rfl) rfl fun a hf => oW hf (g := 89) rfl rfl <| oR hf (pF hf rfl rfl) rfl fun a hf => oR hf (pT hf rfl rfl) rfl fun a hf => om hf rfl rfl fun a hf => g_split hf (g := 100) rfl (fun hb13768 hf => ?_) (fun hb13768 hf => ?_)
              ·replace hp := cond_t hb13768 hp
               refine oQ hf (g := 100) rfl fun a hf => oQ hf (g := 100) rfl fun a hf => oQ hf (g := 100) rfl fun a hf => o_skipU hf (g := 103) rfl rfl rfl rfl rfl fun a hf => o_skipU hf (g := 103) rfl rfl rfl rfl rfl fun a hf => o_skipU hf (g := 103) rfl rfl rfl rfl rfl fun a hf => o_skipU hf (g := 103) rfl rfl rfl rfl rfl fun a hf => oQ hf (g := 100) rfl fun a hf => oR hf (pT hf rfl rfl) rfl fun a hf => oN <| ct ?_
               have ho := oI hp
               subst ho
               exact ⟨true, rfl, hw, hf.to ⟨rfl, rfl, rfl, rfl, rfl, rfl, rfl, trivial⟩⟩
              ·replace hp := cond_f hb13768 hp
               refine oW hf (g := 100) rfl rfl <| om hf rfl rfl fun a hf => oW hf (g := 100) rfl rfl <| oR hf (iC hf rfl rfl rfl) rfl fun a hf => oW hf (g := 100) rfl rfl <| om hf rfl rfl fun a hf => g_split hf (g := 103) rfl (fun hb13769 hf => ?_) (fun hb13769 hf => ?_)
               ·replace hp := cond_t hb13769 hp
                refine oW hf (g := 103) rfl rfl <| om hf rfl rfl fun a hf => oW hf (g := 103) rfl rfl <| oR hf (r_neg hf rfl) rfl fun a hf => oW hf (g := 103) rfl rfl ?_
                obtain ⟨y13770, hy13771, hp⟩ := bS hp
                have hc13773 := ref20_Page_ok hw hy13771
                refine o_call hf cb_32 rfl rfl hc13773 (fun v13775 w a hK13774 hf => ?_)
                obtain ⟨rfl, hw⟩ := hK13774
                refine oW hf (g := 103) rfl rfl <| oR hf (r_not hf rfl) rfl fun a hf => oW hf (g := 100) rfl rfl <| oR hf (pT hf rfl rfl) rfl fun a hf => oR hf (pF hf rfl rfl) rfl fun a hf => oN <| ct ?_
                have ho := oI hp
                subst ho
                exact ⟨(!y13770), rfl, hw, hf.to ⟨rfl, rfl, rfl, rfl, rfl, rfl, rfl, trivial⟩⟩
               ·replace hp := cond_f hb13769 hp
                refine oQ hf (g := 103) rfl fun a hf => oQ hf (g := 103) rfl fun a hf => oQ hf (g := 103) rfl fun a hf => oQ hf (g := 103) rfl fun a hf => oW hf (g := 100) rfl rfl <| oR hf (pF hf rfl rfl) rfl fun a hf => oR hf (pF hf rfl rfl) rfl fun a hf => oN <| ct ?_
                have ho := oI hp
                subst ho
                exact ⟨false, rfl, hw, hf.to ⟨rfl, rfl, rfl, rfl, rfl, rfl, rfl, trivial⟩⟩
            ·replace hp := cond_f hb13766 hp
             refine oQ hf (g := 89) rfl fun a hf => oQ hf (g := 89) rfl fun a hf => oQ hf (g := 89) rfl fun a hf => oQ hf (g := 89) rfl fun a hf => o_skipU hf (g := 93) rfl rfl rfl rfl rfl fun a hf => o_skipU hf (g := 93) rfl rfl rfl rfl rfl fun a hf => o_skipU hf (g := 93) rfl rfl rfl rfl rfl fun a hf => o_skipU hf (g := 93) rfl rfl rfl rfl rfl fun a hf => oQ hf (g := 89) rfl fun a hf => oR hf (pF hf rfl rfl) rfl fun a hf => om hf rfl rfl fun a hf => oW hf (g := 100) rfl rfl <| om hf rfl rfl fun a hf => oW hf (g := 100) rfl rfl <| oR hf (iC hf rfl rfl rfl) rfl fun a hf => oW hf (g := 100) rfl rfl ?_
             refine om hf rfl rfl fun a hf => g_split hf (g := 103) rfl (fun hb13776 hf => ?_) (fun hb13776 hf => ?_)
             ·replace hp := cond_t hb13776 hp
              refine oW hf (g := 103) rfl rfl <| om hf rfl rfl fun a hf => oW hf (g := 103) rfl rfl <| oR hf (r_neg hf rfl) rfl fun a hf => oW hf (g := 103) rfl rfl ?_
              obtain ⟨y13777, hy13778, hp⟩ := bS hp
              have hc13780 := ref20_Page_ok hw hy13778
              refine o_call hf cb_32 rfl rfl hc13780 (fun v13782 w a hK13781 hf => ?_)
              obtain ⟨rfl, hw⟩ := hK13781
              refine oW hf (g := 103) rfl rfl <| oR hf (r_not hf rfl) rfl fun a hf => oW hf (g := 100) rfl rfl <| oR hf (pT hf rfl rfl) rfl fun a hf => oR hf (pF hf rfl rfl) rfl fun a hf => oN <| ct ?_
              have ho := oI hp
              subst ho
              exact ⟨(!y13777), rfl, hw, hf.to ⟨rfl, rfl, rfl, rfl, rfl, rfl, rfl, trivial⟩⟩
             ·replace hp := cond_f hb13776 hp
              refine oQ hf (g := 103) rfl fun a hf => oQ hf (g := 103) rfl fun a hf => oQ hf (g := 103) rfl fun a hf => oQ hf (g := 103) rfl fun a hf => oW hf (g := 100) rfl rfl <| oR hf (pF hf rfl rfl) rfl fun a hf => oR hf (pF hf rfl rfl) rfl fun a hf => oN <| ct ?_
              have ho := oI hp
              subst ho
              exact ⟨false, rfl, hw, hf.to ⟨rfl, rfl, rfl, rfl, rfl, rfl, rfl, trivial⟩⟩
           ·intro a w hM
            obtain ⟨y13763, rfl, hw, hf⟩ := hM
            replace hp := hq13765
            refine cC hf rfl (fun hb13783 => ?_) (fun hb13783 => ?_)
            ·replace hp := cond_t hb13783 hp
             refine wq <| wr <| oa hf rfl rfl fun a hf => oN <| ct <| wp_ret <| c_thenR <| c_blockR <| c_thenR ?_
             have ho := oI hp
             subst ho
             replace hp := hq13670
             refine c_thenR <| c_blockR <| c_thenR ?_
             have ho := oI hp
             subst ho
             replace hp := hq13422
             refine c_thenR <| c_blockR <| c_thenR <| c_thenR <| c_blockR <| c_thenR ?_
             have ho := oI hp
             subst ho
             replace hp := hq10543
             refine c_thenR ?_
             replace hw : Ok E I2_259 (F) w := hw.sub (sc (sc sr))
             have ho := oI hp
             subst ho
             exact b_ret1 hf results9 rfl ⟨_, rfl, ⟨rfl, (hw.back (IH.le_trans (IH.le_trans hle211 hle252) hle263) sr)⟩⟩
            ·replace hp := cond_f hb13783 hp
             refine wp_skip <| ct <| wq <| wr <| om hf rfl rfl fun a hf => oR hf (iC hf rfl rfl rfl) rfl fun a hf => oN <| ct <| cC hf rfl (fun hb13784 => ?_) (fun hb13784 => ?_)
             ·replace hp := cond_t hb13784 hp
              refine wr <| om hf rfl rfl fun a hf => om hf rfl rfl fun a hf => ?_
              obtain ⟨hg13785, hp⟩ := gS hp
              refine oR hf (rI (K := (ekI .i64)) hf el_24 rfl rfl (rR (K := (ekI .i64)) hw (i := 0) rfl hRR13045) hg13785) rfl fun a hf => oR hf (r_loadH (K := (ekI .i64)) hf rfl ty_3 (rR (K := (ekI .i64)) hw (i := 0) rfl hRR13045) hg13785 rfl (fun cs h => ekI_f0 h)) rfl fun a hf => oR hf (r_add hf rfl rfl) rfl fun a hf => ?_
              obtain ⟨hg13786, hp⟩ := gS hp
              refine oR hf (rI (K := (ekI .i64)) hf el_24 rfl rfl (rR (K := (ekI .i64)) hw (i := 0) rfl hRR13045) hg13786) rfl fun a hf => ?_
              obtain ⟨w, cs13788, hrun13787, hw, hRR13789⟩ := e_storeH (P := P) (K := (ekI .i64)) hw hf (x := .tmp 117) (y := .tmp 116) rfl rfl ty_3 0 rfl hRR13045 hg13786 rfl (vs := [.int .i64 (w64 ((gt y13041 (vg (gt y202 y7027).kids_ y13047)) + 1))]) (oE rfl) rfl (oC rfl ones_nil) (Nat.le_of_eq (by rfl)) (x' := w64 ((gt y13041 (vg (gt y202 y7027).kids_ y13047)) + 1)) (whole_store rfl)
              replace hw : Ok E I2_259 (.row yv13042 3 1 m13043 cs13788 :: .row v237 5 1 1 cs240 :: F) w := hw
              refine o_effU (hrun13787 ..) <| oN <| c_blockN <| ct ?_
              have ho := oI hp
              subst ho
              exact ⟨(y13041.set (vg (gt y202 y7027).kids_ y13047).toNat (w64 ((gt y13041 (vg (gt y202 y7027).kids_ y13047)) + 1))), (w64 (y13046 + 1)), yv13042, m13043, cs13788, rfl, hw, hf.to ⟨rfl, rfl, rfl, rfl, rfl, trivial⟩, hRR13789⟩
             ·replace hp := cond_f hb13784 hp
              refine wp_skip <| c_blockN <| ct ?_
              have ho := oI hp
              subst ho
              exact ⟨y13041, (w64 (y13046 + 1)), yv13042, m13043, cs13044, rfl, hw, hf.to ⟨rfl, rfl, rfl, rfl, rfl, trivial⟩, hRR13045⟩
         ·intro a w hM
          obtain ⟨y13663, y13668, yv13664, m13665, cs13666, rfl, hw, hf, hRR13667⟩ := hM
          replace hp := hq13670
          refine wr <| om hf rfl rfl fun a hf => oR hf (r_add hf rfl rfl) rfl fun a hf => oa hf rfl rfl fun a hf => oN <| ct ?_
          exact ih (y13663, y13668, w64 (y13047 + 1)) _ _ ⟨yv13664, m13665, cs13666, hw, hf.to ⟨rfl, rfl, rfl, rfl, rfl, trivial⟩, hRR13667⟩ hp
        ·replace hp := cond_f hb13424 hp
         refine wp_exit <| c_thenE <| c_thenE <| c_exit <| ct ?_
         have ho := oI hp
         subst ho
         exact ⟨y13041, y13046, yv13042, m13043, cs13044, rfl, hw, hf.to ⟨rfl, rfl, rfl, rfl, trivial⟩, hRR13045⟩
       ·intro a w hM
        obtain ⟨y13415, y13420, yv13416, m13417, cs13418, rfl, hw, hf, hRR13419⟩ := hM
        replace hp := hq13422
        refine ct <| wq <| wr <| om hf rfl rfl fun a hf => om hf rfl rfl fun a hf => ?_
        obtain ⟨hg13792, hp⟩ := gS hp
        refine oR hf (rI (K := ek_Slot) hf el_62 rfl rfl (hR209.rd hw) hg13792) rfl fun a hf => oR hf (r_loadHP (K := ek_Slot) hf rfl ty_70 (hR209.rd hw) hg13792 rfl (vs := (.int .i64 ((gt y202 y7027).kind_) :: .string ((gt y202 y7027).path_) :: .bool ((gt y202 y7027).has_) :: .string ((gt y202 y7027).value_) :: arrC .i64 ((gt y202 y7027).kids_))) (fun cs h => Slot_all h) (by simp [arrC_len])) rfl fun a hf => ?_
        obtain ⟨b13793, w, hrun13794, hw⟩ := e_alloc (P := P) (a := a) hw ty_70
        replace hw : Ok E I2_259 (.blk b13793 (.cells ⟨.int .i64 0 :: .string e0 :: .bool false :: .string e0 :: arrC .i64 (Vector.replicate 16 0 : Vector Int 16)⟩ 70 (0, 0)) :: .row yv13416 3 1 m13417 cs13418 :: .row v237 5 1 1 cs240 :: F) w := hw
        refine o_eff hf (hrun13794 ..) rfl fun a hf => ?_
        obtain ⟨w, hrun13796, hw⟩ := e_store (P := P) hw hf (x := .tmp 16) (y := .tmp 121) rfl rfl ty_70 0 rfl (vs := (.int .i64 ((gt y202 y7027).kind_) :: .string ((gt y202 y7027).path_) :: .bool ((gt y202 y7027).has_) :: .string ((gt y202 y7027).value_) :: arrC .i64 ((gt y202 y7027).kids_))) rfl (by simp [arrC_len]) (oC rfl (oC rfl (oC rfl (oC rfl (arrC_one _ _))))) (by simp [arrC_len]) (cs' := (.int .i64 ((gt y202 y7027).kind_) :: .string ((gt y202 y7027).path_) :: .bool ((gt y202 y7027).has_) :: .string ((gt y202 y7027).value_) :: arrC .i64 ((gt y202 y7027).kids_))) (by simp [arrC_len])
        replace hw : Ok E I2_259 (.blk b13793 (.cells ⟨.int .i64 ((gt y202 y7027).kind_) :: .string ((gt y202 y7027).path_) :: .bool ((gt y202 y7027).has_) :: .string ((gt y202 y7027).value_) :: arrC .i64 ((gt y202 y7027).kids_)⟩ 70 (0, 0)) :: .row yv13416 3 1 m13417 cs13418 :: .row v237 5 1 1 cs240 :: F) w := hw
        refine o_effU (hrun13796 ..) <| oN <| ct ?_
        obtain ⟨out13960, hp, hq13961⟩ := bS hp
        refine c_cut (fun a w => ∃ y13959 : Bool, y13959 = out13960 ∧ Ok E I2_259 (.blk b13793 (.cells ⟨.int .i64 ((gt y202 y7027).kind_) :: .string ((gt y202 y7027).path_) :: .bool ((gt y202 y7027).has_) :: .string ((gt y202 y7027).value_) :: arrC .i64 ((gt y202 y7027).kids_)⟩ 70 (0, 0)) :: .row yv13416 3 1 m13417 cs13418 :: .row v237 5 1 1 cs240 :: F) w ∧ Fr 209 ([(5, rvv208), (11, yv13416), (12, .int .i64 y7027), (16, .pointer (some ⟨b13793, 0, none⟩)), (17, .bool y13959)]) a) ?_ ?_
        ·refine wr <| oR hf (rF hf rfl fd_70_0) rfl fun a hf => oR hf (rL hw hf rfl ty_3 0 rfl rfl) rfl fun a hf => oR hf (iC hf rfl rfl rfl) rfl fun a hf => om hf rfl rfl fun a hf => g_split hf (g := 125) rfl (fun hb13962 hf => ?_) (fun hb13962 hf => ?_)
         ·replace hp := cond_t hb13962 hp
          refine oW hf (g := 125) rfl rfl <| om hf rfl rfl fun a hf => oW hf (g := 125) rfl rfl <| oR hf (iC hf rfl rfl rfl) rfl fun a hf => oR hf (pT hf rfl rfl) rfl fun a hf => om hf rfl rfl fun a hf => g_split hf (g := 129) rfl (fun hb13963 hf => ?_) (fun hb13963 hf => ?_)
          ·replace hp := cond_t hb13963 hp
           refine oW hf (g := 129) rfl rfl <| oR hf (rF hf rfl fd_70_2) rfl fun a hf => oW hf (g := 129) rfl rfl <| oR hf (rL hw hf rfl ty_4 0 rfl rfl) rfl fun a hf => oR hf (pT hf rfl rfl) rfl fun a hf => om hf rfl rfl fun a hf => g_split hf (g := 133) rfl (fun hb13964 hf => ?_) (fun hb13964 hf => ?_)
           ·replace hp := cond_t hb13964 hp
            refine oQ hf (g := 133) rfl fun a hf => oQ hf (g := 133) rfl fun a hf => oQ hf (g := 133) rfl fun a hf => oQ hf (g := 133) rfl fun a hf => o_skipU hf (g := 137) rfl rfl rfl rfl rfl fun a hf => o_skipU hf (g := 137) rfl rfl rfl rfl rfl fun a hf => oQ hf (g := 133) rfl fun a hf => oQ hf (g := 133) rfl fun a hf => o_skipU hf (g := 141) rfl rfl rfl rfl rfl fun a hf => o_skipU hf (g := 141) rfl rfl rfl rfl rfl fun a hf => o_skipU hf (g := 141) rfl rfl rfl rfl rfl fun a hf => o_skipU hf (g := 141) rfl rfl rfl rfl rfl fun a hf => oQ hf (g := 133) rfl fun a hf => oQ hf (g := 133) rfl fun a hf => o_skipU hf (g := 147) rfl rfl rfl rfl rfl fun a hf => o_skipU hf (g := 147) rfl rfl rfl rfl rfl fun a hf => ?_
            refine o_skipU hf (g := 147) rfl rfl rfl rfl rfl fun a hf => oQ hf (g := 133) rfl fun a hf => oQ hf (g := 133) rfl fun a hf => o_skipU hf (g := 152) rfl rfl rfl rfl rfl fun a hf => o_skipU hf (g := 152) rfl rfl rfl rfl rfl fun a hf => o_skipU hf (g := 152) rfl rfl rfl rfl rfl fun a hf => oQ hf (g := 133) rfl fun a hf => oR hf (pT hf rfl rfl) rfl fun a hf => om hf rfl rfl fun a hf => oQ hf (g := 158) rfl fun a hf => oQ hf (g := 158) rfl fun a hf => oQ hf (g := 158) rfl fun a hf => oQ hf (g := 158) rfl fun a hf => o_skipU hf (g := 162) rfl rfl rfl rfl rfl fun a hf => o_skipU hf (g := 162) rfl rfl rfl rfl rfl fun a hf => o_skipU hf (g := 162) rfl rfl rfl rfl rfl fun a hf => ?_
            refine oQ hf (g := 158) rfl fun a hf => oQ hf (g := 158) rfl fun a hf => o_skipU hf (g := 167) rfl rfl rfl rfl rfl fun a hf => o_skipU hf (g := 167) rfl rfl rfl rfl rfl fun a hf => o_skipU hf (g := 167) rfl rfl rfl rfl rfl fun a hf => o_skipU hf (g := 170) rfl rfl rfl rfl rfl fun a hf => o_skipU hf (g := 170) rfl rfl rfl rfl rfl fun a hf => o_skipU hf (g := 170) rfl rfl rfl rfl rfl fun a hf => o_skipU hf (g := 173) rfl rfl rfl rfl rfl fun a hf => o_skipU hf (g := 173) rfl rfl rfl rfl rfl fun a hf => o_skipU hf (g := 170) rfl rfl rfl rfl rfl fun a hf => o_skipU hf (g := 167) rfl rfl rfl rfl rfl fun a hf => oQ hf (g := 158) rfl fun a hf => oR hf (pT hf rfl rfl) rfl fun a hf => oa hf rfl rfl fun a hf => oN ?_
            refine ct ?_
            have ho := oI hp
            subst ho
            exact ⟨true, rfl, hw, hf.to ⟨rfl, rfl, rfl, rfl, rfl, trivial⟩⟩
           ·replace hp := cond_f hb13964 hp
            refine oW hf (g := 133) rfl rfl <| oR hf (rF hf rfl fd_70_0) rfl fun a hf => oW hf (g := 133) rfl rfl <| oR hf (rL hw hf rfl ty_3 0 rfl rfl) rfl fun a hf => oW hf (g := 133) rfl rfl <| oR hf (iC hf rfl rfl rfl) rfl fun a hf => oW hf (g := 133) rfl rfl <| om hf rfl rfl fun a hf => g_split hf (g := 137) rfl (fun hb13965 hf => ?_) (fun hb13965 hf => ?_)
            ·replace hp := cond_t hb13965 hp
             refine oW hf (g := 137) rfl rfl <| om hf rfl rfl fun a hf => oW hf (g := 137) rfl rfl <| oR hf (iC hf rfl rfl rfl) rfl fun a hf => oW hf (g := 133) rfl rfl <| oR hf (pT hf rfl rfl) rfl fun a hf => oW hf (g := 133) rfl rfl <| om hf rfl rfl fun a hf => g_split hf (g := 141) rfl (fun hb13966 hf => ?_) (fun hb13966 hf => ?_)
             ·replace hp := cond_t hb13966 hp
              refine oW hf (g := 141) rfl rfl <| oR hf (rF hf rfl fd_70_4) rfl fun a hf => ?_
              obtain ⟨hg13967, hp⟩ := gS hp
              refine oW hf (g := 141) rfl rfl <| oR hf (r_indexAddrA hf el_49 rfl rfl hg13967) rfl fun a hf => oW hf (g := 141) rfl rfl <| oR hf (rL hw hf rfl ty_3 0 rfl (arr_at (k := .i64) (v := (gt y202 y7027).kids_) rfl hg13967)) rfl fun a hf => oW hf (g := 141) rfl rfl <| oR hf (iC hf rfl rfl rfl) rfl fun a hf => oW hf (g := 133) rfl rfl <| oR hf (pT hf rfl rfl) rfl fun a hf => oW hf (g := 133) rfl rfl <| om hf rfl rfl fun a hf => g_split hf (g := 147) rfl (fun hb13968 hf => ?_) (fun hb13968 hf => ?_)
              ·replace hp := cond_t hb13968 hp
               refine oW hf (g := 147) rfl rfl <| oR hf (rF hf rfl fd_70_2) rfl fun a hf => oW hf (g := 147) rfl rfl <| oR hf (rL hw hf rfl ty_4 0 rfl rfl) rfl fun a hf => oW hf (g := 147) rfl rfl <| oR hf (r_not hf rfl) rfl fun a hf => oW hf (g := 133) rfl rfl <| oR hf (pT hf rfl rfl) rfl fun a hf => oW hf (g := 133) rfl rfl <| om hf rfl rfl fun a hf => g_split hf (g := 152) rfl (fun hb13969 hf => ?_) (fun hb13969 hf => ?_)
               ·replace hp := cond_t hb13969 hp
                refine oW hf (g := 152) rfl rfl <| oR hf (rF hf rfl fd_70_1) rfl fun a hf => oW hf (g := 152) rfl rfl <| oR hf (rL hw hf rfl ty_9 0 rfl rfl) rfl fun a hf => oW hf (g := 152) rfl rfl <| oR hf (r_scmp hf rfl rfl rfl) rfl fun a hf => oW hf (g := 133) rfl rfl <| oR hf (pT hf rfl rfl) rfl fun a hf => oR hf (pF hf rfl rfl) rfl fun a hf => om hf rfl rfl fun a hf => g_split hf (g := 158) rfl (fun hb13970 hf => ?_) (fun hb13970 hf => ?_)
                ·replace hp := cond_t hb13970 hp
                 refine oQ hf (g := 158) rfl fun a hf => oQ hf (g := 158) rfl fun a hf => oQ hf (g := 158) rfl fun a hf => oQ hf (g := 158) rfl fun a hf => o_skipU hf (g := 162) rfl rfl rfl rfl rfl fun a hf => o_skipU hf (g := 162) rfl rfl rfl rfl rfl fun a hf => o_skipU hf (g := 162) rfl rfl rfl rfl rfl fun a hf => oQ hf (g := 158) rfl fun a hf => oQ hf (g := 158) rfl fun a hf => o_skipU hf (g := 167) rfl rfl rfl rfl rfl fun a hf => o_skipU hf (g := 167) rfl rfl rfl rfl rfl fun a hf => o_skipU hf (g := 167) rfl rfl rfl rfl rfl fun a hf => o_skipU hf (g := 170) rfl rfl rfl rfl rfl fun a hf => o_skipU hf (g := 170) rfl rfl rfl rfl rfl fun a hf => o_skipU hf (g := 170) rfl rfl rfl rfl rfl fun a hf => o_skipU hf (g := 173) rfl rfl rfl rfl rfl fun a hf => ?_
                 refine o_skipU hf (g := 173) rfl rfl rfl rfl rfl fun a hf => o_skipU hf (g := 170) rfl rfl rfl rfl rfl fun a hf => o_skipU hf (g := 167) rfl rfl rfl rfl rfl fun a hf => oQ hf (g := 158) rfl fun a hf => oR hf (pT hf rfl rfl) rfl fun a hf => oa hf rfl rfl fun a hf => oN <| ct ?_
                 have ho := oI hp
                 subst ho
                 exact ⟨true, rfl, hw, hf.to ⟨rfl, rfl, rfl, rfl, rfl, trivial⟩⟩
                ·replace hp := cond_f hb13970 hp
                 refine oW hf (g := 158) rfl rfl <| oR hf (rF hf rfl fd_70_0) rfl fun a hf => oW hf (g := 158) rfl rfl <| oR hf (rL hw hf rfl ty_3 0 rfl rfl) rfl fun a hf => oW hf (g := 158) rfl rfl <| oR hf (iC hf rfl rfl rfl) rfl fun a hf => oW hf (g := 158) rfl rfl <| om hf rfl rfl fun a hf => g_split hf (g := 162) rfl (fun hb13971 hf => ?_) (fun hb13971 hf => ?_)
                 ·replace hp := cond_t hb13971 hp
                  refine oW hf (g := 162) rfl rfl <| oR hf (rF hf rfl fd_70_1) rfl fun a hf => oW hf (g := 162) rfl rfl <| oR hf (rL hw hf rfl ty_9 0 rfl rfl) rfl fun a hf => oW hf (g := 162) rfl rfl <| oR hf (r_scmp hf rfl rfl rfl) rfl fun a hf => oW hf (g := 158) rfl rfl <| oR hf (pT hf rfl rfl) rfl fun a hf => oW hf (g := 158) rfl rfl <| om hf rfl rfl fun a hf => g_split hf (g := 167) rfl (fun hb13972 hf => ?_) (fun hb13972 hf => ?_)
                  ·replace hp := cond_t hb13972 hp
                   refine oW hf (g := 167) rfl rfl <| om hf rfl rfl fun a hf => oW hf (g := 167) rfl rfl <| oR hf (iC hf rfl rfl rfl) rfl fun a hf => oW hf (g := 167) rfl rfl <| om hf rfl rfl fun a hf => g_split hf (g := 170) rfl (fun hb13973 hf => ?_) (fun hb13973 hf => ?_)
                   ·replace hp := cond_t hb13973 hp
                    refine oQ hf (g := 170) rfl fun a hf => oQ hf (g := 170) rfl fun a hf => oQ hf (g := 170) rfl fun a hf => o_skipU hf (g := 173) rfl rfl rfl rfl rfl fun a hf => o_skipU hf (g := 173) rfl rfl rfl rfl rfl fun a hf => oQ hf (g := 170) rfl fun a hf => oW hf (g := 167) rfl rfl <| oR hf (pT hf rfl rfl) rfl fun a hf => oW hf (g := 158) rfl rfl <| oR hf (pT hf rfl rfl) rfl fun a hf => oR hf (pF hf rfl rfl) rfl fun a hf => oa hf rfl rfl fun a hf => oN <| ct ?_
                    have ho := oI hp
                    subst ho
                    exact ⟨true, rfl, hw, hf.to ⟨rfl, rfl, rfl, rfl, rfl, trivial⟩⟩
                   ·replace hp := cond_f hb13973 hp
                    refine oW hf (g := 170) rfl rfl <| om hf rfl rfl fun a hf => oW hf (g := 170) rfl rfl <| oR hf (iC hf rfl rfl rfl) rfl fun a hf => oW hf (g := 170) rfl rfl <| om hf rfl rfl fun a hf => g_split hf (g := 173) rfl (fun hb13974 hf => ?_) (fun hb13974 hf => ?_)
                    ·replace hp := cond_t hb13974 hp
                     refine oW hf (g := 173) rfl rfl <| oR hf (rF hf rfl fd_70_2) rfl fun a hf => oW hf (g := 173) rfl rfl <| oR hf (rL hw hf rfl ty_4 0 rfl rfl) rfl fun a hf => oW hf (g := 170) rfl rfl <| oR hf (pT hf rfl rfl) rfl fun a hf => oW hf (g := 167) rfl rfl <| oR hf (pF hf rfl rfl) rfl fun a hf => oW hf (g := 158) rfl rfl <| oR hf (pT hf rfl rfl) rfl fun a hf => oR hf (pF hf rfl rfl) rfl fun a hf => oa hf rfl rfl fun a hf => oN <| ct ?_
                     have ho := oI hp
                     subst ho
                     exact ⟨((gt y202 y7027).has_), rfl, hw, hf.to ⟨rfl, rfl, rfl, rfl, rfl, trivial⟩⟩
                    ·replace hp := cond_f hb13974 hp
                     refine oQ hf (g := 173) rfl fun a hf => oQ hf (g := 173) rfl fun a hf => oW hf (g := 170) rfl rfl <| oR hf (pF hf rfl rfl) rfl fun a hf => oW hf (g := 167) rfl rfl <| oR hf (pF hf rfl rfl) rfl fun a hf => oW hf (g := 158) rfl rfl <| oR hf (pT hf rfl rfl) rfl fun a hf => oR hf (pF hf rfl rfl) rfl fun a hf => oa hf rfl rfl fun a hf => oN <| ct ?_
                     have ho := oI hp
                     subst ho
                     exact ⟨false, rfl, hw, hf.to ⟨rfl, rfl, rfl, rfl, rfl, trivial⟩⟩
                  ·replace hp := cond_f hb13972 hp
                   refine oQ hf (g := 167) rfl fun a hf => oQ hf (g := 167) rfl fun a hf => oQ hf (g := 167) rfl fun a hf => o_skipU hf (g := 170) rfl rfl rfl rfl rfl fun a hf => o_skipU hf (g := 170) rfl rfl rfl rfl rfl fun a hf => o_skipU hf (g := 170) rfl rfl rfl rfl rfl fun a hf => o_skipU hf (g := 173) rfl rfl rfl rfl rfl fun a hf => o_skipU hf (g := 173) rfl rfl rfl rfl rfl fun a hf => o_skipU hf (g := 170) rfl rfl rfl rfl rfl fun a hf => oQ hf (g := 167) rfl fun a hf => oW hf (g := 158) rfl rfl <| oR hf (pF hf rfl rfl) rfl fun a hf => oR hf (pF hf rfl rfl) rfl fun a hf => oa hf rfl rfl fun a hf => oN <| ct ?_
                   have ho := oI hp
                   subst ho
                   exact ⟨false, rfl, hw, hf.to ⟨rfl, rfl, rfl, rfl, rfl, trivial⟩⟩
                 ·replace hp := cond_f hb13971 hp
                  refine oQ hf (g := 162) rfl fun a hf => oQ hf (g := 162) rfl fun a hf => oQ hf (g := 162) rfl fun a hf => oW hf (g := 158) rfl rfl <| oR hf (pF hf rfl rfl) rfl fun a hf => oW hf (g := 158) rfl rfl <| om hf rfl rfl fun a hf => oQ hf (g := 167) rfl fun a hf => oQ hf (g := 167) rfl fun a hf => oQ hf (g := 167) rfl fun a hf => o_skipU hf (g := 170) rfl rfl rfl rfl rfl fun a hf => o_skipU hf (g := 170) rfl rfl rfl rfl rfl fun a hf => o_skipU hf (g := 170) rfl rfl rfl rfl rfl fun a hf => o_skipU hf (g := 173) rfl rfl rfl rfl rfl fun a hf => o_skipU hf (g := 173) rfl rfl rfl rfl rfl fun a hf => o_skipU hf (g := 170) rfl rfl rfl rfl rfl fun a hf => ?_
                  refine oQ hf (g := 167) rfl fun a hf => oW hf (g := 158) rfl rfl <| oR hf (pF hf rfl rfl) rfl fun a hf => oR hf (pF hf rfl rfl) rfl fun a hf => oa hf rfl rfl fun a hf => oN <| ct ?_
                  have ho := oI hp
                  subst ho
                  exact ⟨false, rfl, hw, hf.to ⟨rfl, rfl, rfl, rfl, rfl, trivial⟩⟩
               ·replace hp := cond_f hb13969 hp
                refine oQ hf (g := 152) rfl fun a hf => oQ hf (g := 152) rfl fun a hf => oQ hf (g := 152) rfl fun a hf => oW hf (g := 133) rfl rfl <| oR hf (pF hf rfl rfl) rfl fun a hf => oR hf (pF hf rfl rfl) rfl fun a hf => om hf rfl rfl fun a hf => oW hf (g := 158) rfl rfl <| oR hf (rF hf rfl fd_70_0) rfl fun a hf => oW hf (g := 158) rfl rfl <| oR hf (rL hw hf rfl ty_3 0 rfl rfl) rfl fun a hf => oW hf (g := 158) rfl rfl <| oR hf (iC hf rfl rfl rfl) rfl fun a hf => oW hf (g := 158) rfl rfl <| om hf rfl rfl fun a hf => g_split hf (g := 162) rfl (fun hb13975 hf => ?_) (fun hb13975 hf => ?_)
                ·replace hp := cond_t hb13975 hp
                 refine oW hf (g := 162) rfl rfl <| oR hf (rF hf rfl fd_70_1) rfl fun a hf => oW hf (g := 162) rfl rfl <| oR hf (rL hw hf rfl ty_9 0 rfl rfl) rfl fun a hf => oW hf (g := 162) rfl rfl <| oR hf (r_scmp hf rfl rfl rfl) rfl fun a hf => oW hf (g := 158) rfl rfl <| oR hf (pT hf rfl rfl) rfl fun a hf => oW hf (g := 158) rfl rfl <| om hf rfl rfl fun a hf => g_split hf (g := 167) rfl (fun hb13976 hf => ?_) (fun hb13976 hf => ?_)
                 ·replace hp := cond_t hb13976 hp
                  refine oW hf (g := 167) rfl rfl <| om hf rfl rfl fun a hf => oW hf (g := 167) rfl rfl <| oR hf (iC hf rfl rfl rfl) rfl fun a hf => oW hf (g := 167) rfl rfl <| om hf rfl rfl fun a hf => g_split hf (g := 170) rfl (fun hb13977 hf => ?_) (fun hb13977 hf => ?_)
                  ·replace hp := cond_t hb13977 hp
                   refine oQ hf (g := 170) rfl fun a hf => oQ hf (g := 170) rfl fun a hf => oQ hf (g := 170) rfl fun a hf => o_skipU hf (g := 173) rfl rfl rfl rfl rfl fun a hf => o_skipU hf (g := 173) rfl rfl rfl rfl rfl fun a hf => oQ hf (g := 170) rfl fun a hf => oW hf (g := 167) rfl rfl <| oR hf (pT hf rfl rfl) rfl fun a hf => oW hf (g := 158) rfl rfl <| oR hf (pT hf rfl rfl) rfl fun a hf => oR hf (pF hf rfl rfl) rfl fun a hf => oa hf rfl rfl fun a hf => oN <| ct ?_
                   have ho := oI hp
                   subst ho
                   exact ⟨true, rfl, hw, hf.to ⟨rfl, rfl, rfl, rfl, rfl, trivial⟩⟩
                  ·replace hp := cond_f hb13977 hp
                   refine oW hf (g := 170) rfl rfl <| om hf rfl rfl fun a hf => oW hf (g := 170) rfl rfl <| oR hf (iC hf rfl rfl rfl) rfl fun a hf => oW hf (g := 170) rfl rfl <| om hf rfl rfl fun a hf => g_split hf (g := 173) rfl (fun hb13978 hf => ?_) (fun hb13978 hf => ?_)
                   ·replace hp := cond_t hb13978 hp
                    refine oW hf (g := 173) rfl rfl <| oR hf (rF hf rfl fd_70_2) rfl fun a hf => oW hf (g := 173) rfl rfl <| oR hf (rL hw hf rfl ty_4 0 rfl rfl) rfl fun a hf => oW hf (g := 170) rfl rfl <| oR hf (pT hf rfl rfl) rfl fun a hf => oW hf (g := 167) rfl rfl <| oR hf (pF hf rfl rfl) rfl fun a hf => oW hf (g := 158) rfl rfl <| oR hf (pT hf rfl rfl) rfl fun a hf => oR hf (pF hf rfl rfl) rfl fun a hf => oa hf rfl rfl fun a hf => oN <| ct ?_
                    have ho := oI hp
                    subst ho
                    exact ⟨((gt y202 y7027).has_), rfl, hw, hf.to ⟨rfl, rfl, rfl, rfl, rfl, trivial⟩⟩
                   ·replace hp := cond_f hb13978 hp
                    refine oQ hf (g := 173) rfl fun a hf => oQ hf (g := 173) rfl fun a hf => oW hf (g := 170) rfl rfl <| oR hf (pF hf rfl rfl) rfl fun a hf => oW hf (g := 167) rfl rfl <| oR hf (pF hf rfl rfl) rfl fun a hf => oW hf (g := 158) rfl rfl <| oR hf (pT hf rfl rfl) rfl fun a hf => oR hf (pF hf rfl rfl) rfl fun a hf => oa hf rfl rfl fun a hf => oN <| ct ?_
                    have ho := oI hp
                    subst ho
                    exact ⟨false, rfl, hw, hf.to ⟨rfl, rfl, rfl, rfl, rfl, trivial⟩⟩
                 ·replace hp := cond_f hb13976 hp
                  refine oQ hf (g := 167) rfl fun a hf => oQ hf (g := 167) rfl fun a hf => oQ hf (g := 167) rfl fun a hf => o_skipU hf (g := 170) rfl rfl rfl rfl rfl fun a hf => o_skipU hf (g := 170) rfl rfl rfl rfl rfl fun a hf => o_skipU hf (g := 170) rfl rfl rfl rfl rfl fun a hf => o_skipU hf (g := 173) rfl rfl rfl rfl rfl fun a hf => o_skipU hf (g := 173) rfl rfl rfl rfl rfl fun a hf => o_skipU hf (g := 170) rfl rfl rfl rfl rfl fun a hf => oQ hf (g := 167) rfl fun a hf => oW hf (g := 158) rfl rfl <| oR hf (pF hf rfl rfl) rfl fun a hf => oR hf (pF hf rfl rfl) rfl fun a hf => oa hf rfl rfl fun a hf => oN <| ct ?_
                  have ho := oI hp
                  subst ho
                  exact ⟨false, rfl, hw, hf.to ⟨rfl, rfl, rfl, rfl, rfl, trivial⟩⟩
                ·replace hp := cond_f hb13975 hp
                 refine oQ hf (g := 162) rfl fun a hf => oQ hf (g := 162) rfl fun a hf => oQ hf (g := 162) rfl fun a hf => oW hf (g := 158) rfl rfl <| oR hf (pF hf rfl rfl) rfl fun a hf => oW hf (g := 158) rfl rfl <| om hf rfl rfl fun a hf => oQ hf (g := 167) rfl fun a hf => oQ hf (g := 167) rfl fun a hf => oQ hf (g := 167) rfl fun a hf => o_skipU hf (g := 170) rfl rfl rfl rfl rfl fun a hf => o_skipU hf (g := 170) rfl rfl rfl rfl rfl fun a hf => o_skipU hf (g := 170) rfl rfl rfl rfl rfl fun a hf => o_skipU hf (g := 173) rfl rfl rfl rfl rfl fun a hf => o_skipU hf (g := 173) rfl rfl rfl rfl rfl fun a hf => o_skipU hf (g := 170) rfl rfl rfl rfl rfl fun a hf => ?_
                 refine oQ hf (g := 167) rfl fun a hf => oW hf (g := 158) rfl rfl <| oR hf (pF hf rfl rfl) rfl fun a hf => oR hf (pF hf rfl rfl) rfl fun a hf => oa hf rfl rfl fun a hf => oN <| ct ?_
                 have ho := oI hp
                 subst ho
                 exact ⟨false, rfl, hw, hf.to ⟨rfl, rfl, rfl, rfl, rfl, trivial⟩⟩
              ·replace hp := cond_f hb13968 hp
               refine oQ hf (g := 147) rfl fun a hf => oQ hf (g := 147) rfl fun a hf => oQ hf (g := 147) rfl fun a hf => oW hf (g := 133) rfl rfl <| oR hf (pF hf rfl rfl) rfl fun a hf => oW hf (g := 133) rfl rfl <| om hf rfl rfl fun a hf => oQ hf (g := 152) rfl fun a hf => oQ hf (g := 152) rfl fun a hf => oQ hf (g := 152) rfl fun a hf => oW hf (g := 133) rfl rfl <| oR hf (pF hf rfl rfl) rfl fun a hf => oR hf (pF hf rfl rfl) rfl fun a hf => om hf rfl rfl fun a hf => oW hf (g := 158) rfl rfl <| oR hf (rF hf rfl fd_70_0) rfl fun a hf => ?_
               refine oW hf (g := 158) rfl rfl <| oR hf (rL hw hf rfl ty_3 0 rfl rfl) rfl fun a hf => oW hf (g := 158) rfl rfl <| oR hf (iC hf rfl rfl rfl) rfl fun a hf => oW hf (g := 158) rfl rfl <| om hf rfl rfl fun a hf => g_split hf (g := 162) rfl (fun hb13979 hf => ?_) (fun hb13979 hf => ?_)
               ·replace hp := cond_t hb13979 hp
                refine oW hf (g := 162) rfl rfl <| oR hf (rF hf rfl fd_70_1) rfl fun a hf => oW hf (g := 162) rfl rfl <| oR hf (rL hw hf rfl ty_9 0 rfl rfl) rfl fun a hf => oW hf (g := 162) rfl rfl <| oR hf (r_scmp hf rfl rfl rfl) rfl fun a hf => oW hf (g := 158) rfl rfl <| oR hf (pT hf rfl rfl) rfl fun a hf => oW hf (g := 158) rfl rfl <| om hf rfl rfl fun a hf => g_split hf (g := 167) rfl (fun hb13980 hf => ?_) (fun hb13980 hf => ?_)
                ·replace hp := cond_t hb13980 hp
                 refine oW hf (g := 167) rfl rfl <| om hf rfl rfl fun a hf => oW hf (g := 167) rfl rfl <| oR hf (iC hf rfl rfl rfl) rfl fun a hf => oW hf (g := 167) rfl rfl <| om hf rfl rfl fun a hf => g_split hf (g := 170) rfl (fun hb13981 hf => ?_) (fun hb13981 hf => ?_)
                 ·replace hp := cond_t hb13981 hp
                  refine oQ hf (g := 170) rfl fun a hf => oQ hf (g := 170) rfl fun a hf => oQ hf (g := 170) rfl fun a hf => o_skipU hf (g := 173) rfl rfl rfl rfl rfl fun a hf => o_skipU hf (g := 173) rfl rfl rfl rfl rfl fun a hf => oQ hf (g := 170) rfl fun a hf => oW hf (g := 167) rfl rfl <| oR hf (pT hf rfl rfl) rfl fun a hf => oW hf (g := 158) rfl rfl <| oR hf (pT hf rfl rfl) rfl fun a hf => oR hf (pF hf rfl rfl) rfl fun a hf => oa hf rfl rfl fun a hf => oN <| ct ?_
                  have ho := oI hp
                  subst ho
                  exact ⟨true, rfl, hw, hf.to ⟨rfl, rfl, rfl, rfl, rfl, trivial⟩⟩
                 ·replace hp := cond_f hb13981 hp
                  refine oW hf (g := 170) rfl rfl <| om hf rfl rfl fun a hf => oW hf (g := 170) rfl rfl <| oR hf (iC hf rfl rfl rfl) rfl fun a hf => oW hf (g := 170) rfl rfl <| om hf rfl rfl fun a hf => g_split hf (g := 173) rfl (fun hb13982 hf => ?_) (fun hb13982 hf => ?_)
                  ·replace hp := cond_t hb13982 hp
                   refine oW hf (g := 173) rfl rfl <| oR hf (rF hf rfl fd_70_2) rfl fun a hf => oW hf (g := 173) rfl rfl <| oR hf (rL hw hf rfl ty_4 0 rfl rfl) rfl fun a hf => oW hf (g := 170) rfl rfl <| oR hf (pT hf rfl rfl) rfl fun a hf => oW hf (g := 167) rfl rfl <| oR hf (pF hf rfl rfl) rfl fun a hf => oW hf (g := 158) rfl rfl <| oR hf (pT hf rfl rfl) rfl fun a hf => oR hf (pF hf rfl rfl) rfl fun a hf => oa hf rfl rfl fun a hf => oN <| ct ?_
                   have ho := oI hp
                   subst ho
                   exact ⟨((gt y202 y7027).has_), rfl, hw, hf.to ⟨rfl, rfl, rfl, rfl, rfl, trivial⟩⟩
                  ·replace hp := cond_f hb13982 hp
                   refine oQ hf (g := 173) rfl fun a hf => oQ hf (g := 173) rfl fun a hf => oW hf (g := 170) rfl rfl <| oR hf (pF hf rfl rfl) rfl fun a hf => oW hf (g := 167) rfl rfl <| oR hf (pF hf rfl rfl) rfl fun a hf => oW hf (g := 158) rfl rfl <| oR hf (pT hf rfl rfl) rfl fun a hf => oR hf (pF hf rfl rfl) rfl fun a hf => oa hf rfl rfl fun a hf => oN <| ct ?_
                   have ho := oI hp
                   subst ho
                   exact ⟨false, rfl, hw, hf.to ⟨rfl, rfl, rfl, rfl, rfl, trivial⟩⟩
                ·replace hp := cond_f hb13980 hp
                 refine oQ hf (g := 167) rfl fun a hf => oQ hf (g := 167) rfl fun a hf => oQ hf (g := 167) rfl fun a hf => o_skipU hf (g := 170) rfl rfl rfl rfl rfl fun a hf => o_skipU hf (g := 170) rfl rfl rfl rfl rfl fun a hf => o_skipU hf (g := 170) rfl rfl rfl rfl rfl fun a hf => o_skipU hf (g := 173) rfl rfl rfl rfl rfl fun a hf => o_skipU hf (g := 173) rfl rfl rfl rfl rfl fun a hf => o_skipU hf (g := 170) rfl rfl rfl rfl rfl fun a hf => oQ hf (g := 167) rfl fun a hf => oW hf (g := 158) rfl rfl <| oR hf (pF hf rfl rfl) rfl fun a hf => oR hf (pF hf rfl rfl) rfl fun a hf => oa hf rfl rfl fun a hf => oN <| ct ?_
                 have ho := oI hp
                 subst ho
                 exact ⟨false, rfl, hw, hf.to ⟨rfl, rfl, rfl, rfl, rfl, trivial⟩⟩
               ·replace hp := cond_f hb13979 hp
                refine oQ hf (g := 162) rfl fun a hf => oQ hf (g := 162) rfl fun a hf => oQ hf (g := 162) rfl fun a hf => oW hf (g := 158) rfl rfl <| oR hf (pF hf rfl rfl) rfl fun a hf => oW hf (g := 158) rfl rfl <| om hf rfl rfl fun a hf => oQ hf (g := 167) rfl fun a hf => oQ hf (g := 167) rfl fun a hf => oQ hf (g := 167) rfl fun a hf => o_skipU hf (g := 170) rfl rfl rfl rfl rfl fun a hf => o_skipU hf (g := 170) rfl rfl rfl rfl rfl fun a hf => o_skipU hf (g := 170) rfl rfl rfl rfl rfl fun a hf => o_skipU hf (g := 173) rfl rfl rfl rfl rfl fun a hf => o_skipU hf (g := 173) rfl rfl rfl rfl rfl fun a hf => o_skipU hf (g := 170) rfl rfl rfl rfl rfl fun a hf => ?_
                refine oQ hf (g := 167) rfl fun a hf => oW hf (g := 158) rfl rfl <| oR hf (pF hf rfl rfl) rfl fun a hf => oR hf (pF hf rfl rfl) rfl fun a hf => oa hf rfl rfl fun a hf => oN <| ct ?_
                have ho := oI hp
                subst ho
                exact ⟨false, rfl, hw, hf.to ⟨rfl, rfl, rfl, rfl, rfl, trivial⟩⟩
             ·replace hp := cond_f hb13966 hp
              refine oQ hf (g := 141) rfl fun a hf => oQ hf (g := 141) rfl fun a hf => oQ hf (g := 141) rfl fun a hf => oQ hf (g := 141) rfl fun a hf => oW hf (g := 133) rfl rfl <| oR hf (pF hf rfl rfl) rfl fun a hf => oW hf (g := 133) rfl rfl <| om hf rfl rfl fun a hf => oQ hf (g := 147) rfl fun a hf => oQ hf (g := 147) rfl fun a hf => oQ hf (g := 147) rfl fun a hf => oW hf (g := 133) rfl rfl <| oR hf (pF hf rfl rfl) rfl fun a hf => oW hf (g := 133) rfl rfl <| om hf rfl rfl fun a hf => oQ hf (g := 152) rfl fun a hf => ?_
              refine oQ hf (g := 152) rfl fun a hf => oQ hf (g := 152) rfl fun a hf => oW hf (g := 133) rfl rfl <| oR hf (pF hf rfl rfl) rfl fun a hf => oR hf (pF hf rfl rfl) rfl fun a hf => om hf rfl rfl fun a hf => oW hf (g := 158) rfl rfl <| oR hf (rF hf rfl fd_70_0) rfl fun a hf => oW hf (g := 158) rfl rfl <| oR hf (rL hw hf rfl ty_3 0 rfl rfl) rfl fun a hf => oW hf (g := 158) rfl rfl <| oR hf (iC hf rfl rfl rfl) rfl fun a hf => oW hf (g := 158) rfl rfl <| om hf rfl rfl fun a hf => g_split hf (g := 162) rfl (fun hb13983 hf => ?_) (fun hb13983 hf => ?_)
              ·replace hp := cond_t hb13983 hp
               refine oW hf (g := 162) rfl rfl <| oR hf (rF hf rfl fd_70_1) rfl fun a hf => oW hf (g := 162) rfl rfl <| oR hf (rL hw hf rfl ty_9 0 rfl rfl) rfl fun a hf => oW hf (g := 162) rfl rfl <| oR hf (r_scmp hf rfl rfl rfl) rfl fun a hf => oW hf (g := 158) rfl rfl <| oR hf (pT hf rfl rfl) rfl fun a hf => oW hf (g := 158) rfl rfl <| om hf rfl rfl fun a hf => g_split hf (g := 167) rfl (fun hb13984 hf => ?_) (fun hb13984 hf => ?_)
               ·replace hp := cond_t hb13984 hp
                refine oW hf (g := 167) rfl rfl <| om hf rfl rfl fun a hf => oW hf (g := 167) rfl rfl <| oR hf (iC hf rfl rfl rfl) rfl fun a hf => oW hf (g := 167) rfl rfl <| om hf rfl rfl fun a hf => g_split hf (g := 170) rfl (fun hb13985 hf => ?_) (fun hb13985 hf => ?_)
                ·replace hp := cond_t hb13985 hp
                 refine oQ hf (g := 170) rfl fun a hf => oQ hf (g := 170) rfl fun a hf => oQ hf (g := 170) rfl fun a hf => o_skipU hf (g := 173) rfl rfl rfl rfl rfl fun a hf => o_skipU hf (g := 173) rfl rfl rfl rfl rfl fun a hf => oQ hf (g := 170) rfl fun a hf => oW hf (g := 167) rfl rfl <| oR hf (pT hf rfl rfl) rfl fun a hf => oW hf (g := 158) rfl rfl <| oR hf (pT hf rfl rfl) rfl fun a hf => oR hf (pF hf rfl rfl) rfl fun a hf => oa hf rfl rfl fun a hf => oN <| ct ?_
                 have ho := oI hp
                 subst ho
                 exact ⟨true, rfl, hw, hf.to ⟨rfl, rfl, rfl, rfl, rfl, trivial⟩⟩
                ·replace hp := cond_f hb13985 hp
                 refine oW hf (g := 170) rfl rfl <| om hf rfl rfl fun a hf => oW hf (g := 170) rfl rfl <| oR hf (iC hf rfl rfl rfl) rfl fun a hf => oW hf (g := 170) rfl rfl <| om hf rfl rfl fun a hf => g_split hf (g := 173) rfl (fun hb13986 hf => ?_) (fun hb13986 hf => ?_)
                 ·replace hp := cond_t hb13986 hp
                  refine oW hf (g := 173) rfl rfl <| oR hf (rF hf rfl fd_70_2) rfl fun a hf => oW hf (g := 173) rfl rfl <| oR hf (rL hw hf rfl ty_4 0 rfl rfl) rfl fun a hf => oW hf (g := 170) rfl rfl <| oR hf (pT hf rfl rfl) rfl fun a hf => oW hf (g := 167) rfl rfl <| oR hf (pF hf rfl rfl) rfl fun a hf => oW hf (g := 158) rfl rfl <| oR hf (pT hf rfl rfl) rfl fun a hf => oR hf (pF hf rfl rfl) rfl fun a hf => oa hf rfl rfl fun a hf => oN <| ct ?_
                  have ho := oI hp
                  subst ho
                  exact ⟨((gt y202 y7027).has_), rfl, hw, hf.to ⟨rfl, rfl, rfl, rfl, rfl, trivial⟩⟩
                 ·replace hp := cond_f hb13986 hp
                  refine oQ hf (g := 173) rfl fun a hf => oQ hf (g := 173) rfl fun a hf => oW hf (g := 170) rfl rfl <| oR hf (pF hf rfl rfl) rfl fun a hf => oW hf (g := 167) rfl rfl <| oR hf (pF hf rfl rfl) rfl fun a hf => oW hf (g := 158) rfl rfl <| oR hf (pT hf rfl rfl) rfl fun a hf => oR hf (pF hf rfl rfl) rfl fun a hf => oa hf rfl rfl fun a hf => oN <| ct ?_
                  have ho := oI hp
                  subst ho
                  exact ⟨false, rfl, hw, hf.to ⟨rfl, rfl, rfl, rfl, rfl, trivial⟩⟩
               ·replace hp := cond_f hb13984 hp
                refine oQ hf (g := 167) rfl fun a hf => oQ hf (g := 167) rfl fun a hf => oQ hf (g := 167) rfl fun a hf => o_skipU hf (g := 170) rfl rfl rfl rfl rfl fun a hf => o_skipU hf (g := 170) rfl rfl rfl rfl rfl fun a hf => o_skipU hf (g := 170) rfl rfl rfl rfl rfl fun a hf => o_skipU hf (g := 173) rfl rfl rfl rfl rfl fun a hf => o_skipU hf (g := 173) rfl rfl rfl rfl rfl fun a hf => o_skipU hf (g := 170) rfl rfl rfl rfl rfl fun a hf => oQ hf (g := 167) rfl fun a hf => oW hf (g := 158) rfl rfl <| oR hf (pF hf rfl rfl) rfl fun a hf => oR hf (pF hf rfl rfl) rfl fun a hf => oa hf rfl rfl fun a hf => oN <| ct ?_
                have ho := oI hp
                subst ho
                exact ⟨false, rfl, hw, hf.to ⟨rfl, rfl, rfl, rfl, rfl, trivial⟩⟩
              ·replace hp := cond_f hb13983 hp
               refine oQ hf (g := 162) rfl fun a hf => oQ hf (g := 162) rfl fun a hf => oQ hf (g := 162) rfl fun a hf => oW hf (g := 158) rfl rfl <| oR hf (pF hf rfl rfl) rfl fun a hf => oW hf (g := 158) rfl rfl <| om hf rfl rfl fun a hf => oQ hf (g := 167) rfl fun a hf => oQ hf (g := 167) rfl fun a hf => oQ hf (g := 167) rfl fun a hf => o_skipU hf (g := 170) rfl rfl rfl rfl rfl fun a hf => o_skipU hf (g := 170) rfl rfl rfl rfl rfl fun a hf => o_skipU hf (g := 170) rfl rfl rfl rfl rfl fun a hf => o_skipU hf (g := 173) rfl rfl rfl rfl rfl fun a hf => o_skipU hf (g := 173) rfl rfl rfl rfl rfl fun a hf => o_skipU hf (g := 170) rfl rfl rfl rfl rfl fun a hf => ?_
               refine oQ hf (g := 167) rfl fun a hf => oW hf (g := 158) rfl rfl <| oR hf (pF hf rfl rfl) rfl fun a hf => oR hf (pF hf rfl rfl) rfl fun a hf => oa hf rfl rfl fun a hf => oN <| ct ?_
               have ho := oI hp
               subst ho
               exact ⟨false, rfl, hw, hf.to ⟨rfl, rfl, rfl, rfl, rfl, trivial⟩⟩
            ·replace hp := cond_f hb13965 hp
             refine oQ hf (g := 137) rfl fun a hf => oQ hf (g := 137) rfl fun a hf => oW hf (g := 133) rfl rfl <| oR hf (pF hf rfl rfl) rfl fun a hf => oW hf (g := 133) rfl rfl <| om hf rfl rfl fun a hf => oQ hf (g := 141) rfl fun a hf => oQ hf (g := 141) rfl fun a hf => oQ hf (g := 141) rfl fun a hf => oQ hf (g := 141) rfl fun a hf => oW hf (g := 133) rfl rfl <| oR hf (pF hf rfl rfl) rfl fun a hf => oW hf (g := 133) rfl rfl <| om hf rfl rfl fun a hf => oQ hf (g := 147) rfl fun a hf => oQ hf (g := 147) rfl fun a hf => ?_
             refine oQ hf (g := 147) rfl fun a hf => oW hf (g := 133) rfl rfl <| oR hf (pF hf rfl rfl) rfl fun a hf => oW hf (g := 133) rfl rfl <| om hf rfl rfl fun a hf => oQ hf (g := 152) rfl fun a hf => oQ hf (g := 152) rfl fun a hf => oQ hf (g := 152) rfl fun a hf => oW hf (g := 133) rfl rfl <| oR hf (pF hf rfl rfl) rfl fun a hf => oR hf (pF hf rfl rfl) rfl fun a hf => om hf rfl rfl fun a hf => oW hf (g := 158) rfl rfl <| oR hf (rF hf rfl fd_70_0) rfl fun a hf => oW hf (g := 158) rfl rfl <| oR hf (rL hw hf rfl ty_3 0 rfl rfl) rfl fun a hf => ?_
             refine oW hf (g := 158) rfl rfl <| oR hf (iC hf rfl rfl rfl) rfl fun a hf => oW hf (g := 158) rfl rfl <| om hf rfl rfl fun a hf => g_split hf (g := 162) rfl (fun hb13987 hf => ?_) (fun hb13987 hf => ?_)
             ·replace hp := cond_t hb13987 hp
              refine oW hf (g := 162) rfl rfl <| oR hf (rF hf rfl fd_70_1) rfl fun a hf => oW hf (g := 162) rfl rfl <| oR hf (rL hw hf rfl ty_9 0 rfl rfl) rfl fun a hf => oW hf (g := 162) rfl rfl <| oR hf (r_scmp hf rfl rfl rfl) rfl fun a hf => oW hf (g := 158) rfl rfl <| oR hf (pT hf rfl rfl) rfl fun a hf => oW hf (g := 158) rfl rfl <| om hf rfl rfl fun a hf => g_split hf (g := 167) rfl (fun hb13988 hf => ?_) (fun hb13988 hf => ?_)
              ·replace hp := cond_t hb13988 hp
               refine oW hf (g := 167) rfl rfl <| om hf rfl rfl fun a hf => oW hf (g := 167) rfl rfl <| oR hf (iC hf rfl rfl rfl) rfl fun a hf => oW hf (g := 167) rfl rfl <| om hf rfl rfl fun a hf => g_split hf (g := 170) rfl (fun hb13989 hf => ?_) (fun hb13989 hf => ?_)
               ·replace hp := cond_t hb13989 hp
                refine oQ hf (g := 170) rfl fun a hf => oQ hf (g := 170) rfl fun a hf => oQ hf (g := 170) rfl fun a hf => o_skipU hf (g := 173) rfl rfl rfl rfl rfl fun a hf => o_skipU hf (g := 173) rfl rfl rfl rfl rfl fun a hf => oQ hf (g := 170) rfl fun a hf => oW hf (g := 167) rfl rfl <| oR hf (pT hf rfl rfl) rfl fun a hf => oW hf (g := 158) rfl rfl <| oR hf (pT hf rfl rfl) rfl fun a hf => oR hf (pF hf rfl rfl) rfl fun a hf => oa hf rfl rfl fun a hf => oN <| ct ?_
                have ho := oI hp
                subst ho
                exact ⟨true, rfl, hw, hf.to ⟨rfl, rfl, rfl, rfl, rfl, trivial⟩⟩
               ·replace hp := cond_f hb13989 hp
                refine oW hf (g := 170) rfl rfl <| om hf rfl rfl fun a hf => oW hf (g := 170) rfl rfl <| oR hf (iC hf rfl rfl rfl) rfl fun a hf => oW hf (g := 170) rfl rfl <| om hf rfl rfl fun a hf => g_split hf (g := 173) rfl (fun hb13990 hf => ?_) (fun hb13990 hf => ?_)
                ·replace hp := cond_t hb13990 hp
                 refine oW hf (g := 173) rfl rfl <| oR hf (rF hf rfl fd_70_2) rfl fun a hf => oW hf (g := 173) rfl rfl <| oR hf (rL hw hf rfl ty_4 0 rfl rfl) rfl fun a hf => oW hf (g := 170) rfl rfl <| oR hf (pT hf rfl rfl) rfl fun a hf => oW hf (g := 167) rfl rfl <| oR hf (pF hf rfl rfl) rfl fun a hf => oW hf (g := 158) rfl rfl <| oR hf (pT hf rfl rfl) rfl fun a hf => oR hf (pF hf rfl rfl) rfl fun a hf => oa hf rfl rfl fun a hf => oN <| ct ?_
                 have ho := oI hp
                 subst ho
                 exact ⟨((gt y202 y7027).has_), rfl, hw, hf.to ⟨rfl, rfl, rfl, rfl, rfl, trivial⟩⟩
                ·replace hp := cond_f hb13990 hp
                 refine oQ hf (g := 173) rfl fun a hf => oQ hf (g := 173) rfl fun a hf => oW hf (g := 170) rfl rfl <| oR hf (pF hf rfl rfl) rfl fun a hf => oW hf (g := 167) rfl rfl <| oR hf (pF hf rfl rfl) rfl fun a hf => oW hf (g := 158) rfl rfl <| oR hf (pT hf rfl rfl) rfl fun a hf => oR hf (pF hf rfl rfl) rfl fun a hf => oa hf rfl rfl fun a hf => oN <| ct ?_
                 have ho := oI hp
                 subst ho
                 exact ⟨false, rfl, hw, hf.to ⟨rfl, rfl, rfl, rfl, rfl, trivial⟩⟩
              ·replace hp := cond_f hb13988 hp
               refine oQ hf (g := 167) rfl fun a hf => oQ hf (g := 167) rfl fun a hf => oQ hf (g := 167) rfl fun a hf => o_skipU hf (g := 170) rfl rfl rfl rfl rfl fun a hf => o_skipU hf (g := 170) rfl rfl rfl rfl rfl fun a hf => o_skipU hf (g := 170) rfl rfl rfl rfl rfl fun a hf => o_skipU hf (g := 173) rfl rfl rfl rfl rfl fun a hf => o_skipU hf (g := 173) rfl rfl rfl rfl rfl fun a hf => o_skipU hf (g := 170) rfl rfl rfl rfl rfl fun a hf => oQ hf (g := 167) rfl fun a hf => oW hf (g := 158) rfl rfl <| oR hf (pF hf rfl rfl) rfl fun a hf => oR hf (pF hf rfl rfl) rfl fun a hf => oa hf rfl rfl fun a hf => oN <| ct ?_
               have ho := oI hp
               subst ho
               exact ⟨false, rfl, hw, hf.to ⟨rfl, rfl, rfl, rfl, rfl, trivial⟩⟩
             ·replace hp := cond_f hb13987 hp
              refine oQ hf (g := 162) rfl fun a hf => oQ hf (g := 162) rfl fun a hf => oQ hf (g := 162) rfl fun a hf => oW hf (g := 158) rfl rfl <| oR hf (pF hf rfl rfl) rfl fun a hf => oW hf (g := 158) rfl rfl <| om hf rfl rfl fun a hf => oQ hf (g := 167) rfl fun a hf => oQ hf (g := 167) rfl fun a hf => oQ hf (g := 167) rfl fun a hf => o_skipU hf (g := 170) rfl rfl rfl rfl rfl fun a hf => o_skipU hf (g := 170) rfl rfl rfl rfl rfl fun a hf => o_skipU hf (g := 170) rfl rfl rfl rfl rfl fun a hf => o_skipU hf (g := 173) rfl rfl rfl rfl rfl fun a hf => o_skipU hf (g := 173) rfl rfl rfl rfl rfl fun a hf => o_skipU hf (g := 170) rfl rfl rfl rfl rfl fun a hf => ?_
              refine oQ hf (g := 167) rfl fun a hf => oW hf (g := 158) rfl rfl <| oR hf (pF hf rfl rfl) rfl fun a hf => oR hf (pF hf rfl rfl) rfl fun a hf => oa hf rfl rfl fun a hf => oN <| ct ?_
              have ho := oI hp
              subst ho
              exact ⟨false, rfl, hw, hf.to ⟨rfl, rfl, rfl, rfl, rfl, trivial⟩⟩
          ·replace hp := cond_f hb13963 hp
           refine oQ hf (g := 129) rfl fun a hf => oQ hf (g := 129) rfl fun a hf => oR hf (pF hf rfl rfl) rfl fun a hf => om hf rfl rfl fun a hf => oW hf (g := 133) rfl rfl <| oR hf (rF hf rfl fd_70_0) rfl fun a hf => oW hf (g := 133) rfl rfl <| oR hf (rL hw hf rfl ty_3 0 rfl rfl) rfl fun a hf => oW hf (g := 133) rfl rfl <| oR hf (iC hf rfl rfl rfl) rfl fun a hf => oW hf (g := 133) rfl rfl <| om hf rfl rfl fun a hf => g_split hf (g := 137) rfl (fun hb13991 hf => ?_) (fun hb13991 hf => ?_)
           ·replace hp := cond_t hb13991 hp
            refine oW hf (g := 137) rfl rfl <| om hf rfl rfl fun a hf => oW hf (g := 137) rfl rfl <| oR hf (iC hf rfl rfl rfl) rfl fun a hf => oW hf (g := 133) rfl rfl <| oR hf (pT hf rfl rfl) rfl fun a hf => oW hf (g := 133) rfl rfl <| om hf rfl rfl fun a hf => g_split hf (g := 141) rfl (fun hb13992 hf => ?_) (fun hb13992 hf => ?_)
            ·replace hp := cond_t hb13992 hp
             refine oW hf (g := 141) rfl rfl <| oR hf (rF hf rfl fd_70_4) rfl fun a hf => ?_
             obtain ⟨hg13993, hp⟩ := gS hp
             refine oW hf (g := 141) rfl rfl <| oR hf (r_indexAddrA hf el_49 rfl rfl hg13993) rfl fun a hf => oW hf (g := 141) rfl rfl <| oR hf (rL hw hf rfl ty_3 0 rfl (arr_at (k := .i64) (v := (gt y202 y7027).kids_) rfl hg13993)) rfl fun a hf => oW hf (g := 141) rfl rfl <| oR hf (iC hf rfl rfl rfl) rfl fun a hf => oW hf (g := 133) rfl rfl <| oR hf (pT hf rfl rfl) rfl fun a hf => oW hf (g := 133) rfl rfl <| om hf rfl rfl fun a hf => g_split hf (g := 147) rfl (fun hb13994 hf => ?_) (fun hb13994 hf => ?_)
             ·replace hp := cond_t hb13994 hp
              refine oW hf (g := 147) rfl rfl <| oR hf (rF hf rfl fd_70_2) rfl fun a hf => oW hf (g := 147) rfl rfl <| oR hf (rL hw hf rfl ty_4 0 rfl rfl) rfl fun a hf => oW hf (g := 147) rfl rfl <| oR hf (r_not hf rfl) rfl fun a hf => oW hf (g := 133) rfl rfl <| oR hf (pT hf rfl rfl) rfl fun a hf => oW hf (g := 133) rfl rfl <| om hf rfl rfl fun a hf => g_split hf (g := 152) rfl (fun hb13995 hf => ?_) (fun hb13995 hf => ?_)
              ·replace hp := cond_t hb13995 hp
               refine oW hf (g := 152) rfl rfl <| oR hf (rF hf rfl fd_70_1) rfl fun a hf => oW hf (g := 152) rfl rfl <| oR hf (rL hw hf rfl ty_9 0 rfl rfl) rfl fun a hf => oW hf (g := 152) rfl rfl <| oR hf (r_scmp hf rfl rfl rfl) rfl fun a hf => oW hf (g := 133) rfl rfl <| oR hf (pT hf rfl rfl) rfl fun a hf => oR hf (pF hf rfl rfl) rfl fun a hf => om hf rfl rfl fun a hf => g_split hf (g := 158) rfl (fun hb13996 hf => ?_) (fun hb13996 hf => ?_)
               ·replace hp := cond_t hb13996 hp
                refine oQ hf (g := 158) rfl fun a hf => oQ hf (g := 158) rfl fun a hf => oQ hf (g := 158) rfl fun a hf => oQ hf (g := 158) rfl fun a hf => o_skipU hf (g := 162) rfl rfl rfl rfl rfl fun a hf => o_skipU hf (g := 162) rfl rfl rfl rfl rfl fun a hf => o_skipU hf (g := 162) rfl rfl rfl rfl rfl fun a hf => oQ hf (g := 158) rfl fun a hf => oQ hf (g := 158) rfl fun a hf => o_skipU hf (g := 167) rfl rfl rfl rfl rfl fun a hf => o_skipU hf (g := 167) rfl rfl rfl rfl rfl fun a hf => o_skipU hf (g := 167) rfl rfl rfl rfl rfl fun a hf => o_skipU hf (g := 170) rfl rfl rfl rfl rfl fun a hf => o_skipU hf (g := 170) rfl rfl rfl rfl rfl fun a hf => o_skipU hf (g := 170) rfl rfl rfl rfl rfl fun a hf => o_skipU hf (g := 173) rfl rfl rfl rfl rfl fun a hf => ?_
                refine o_skipU hf (g := 173) rfl rfl rfl rfl rfl fun a hf => o_skipU hf (g := 170) rfl rfl rfl rfl rfl fun a hf => o_skipU hf (g := 167) rfl rfl rfl rfl rfl fun a hf => oQ hf (g := 158) rfl fun a hf => oR hf (pT hf rfl rfl) rfl fun a hf => oa hf rfl rfl fun a hf => oN <| ct ?_
                have ho := oI hp
                subst ho
                exact ⟨true, rfl, hw, hf.to ⟨rfl, rfl, rfl, rfl, rfl, trivial⟩⟩
               ·replace hp := cond_f hb13996 hp
                refine oW hf (g := 158) rfl rfl <| oR hf (rF hf rfl fd_70_0) rfl fun a hf => oW hf (g := 158) rfl rfl <| oR hf (rL hw hf rfl ty_3 0 rfl rfl) rfl fun a hf => oW hf (g := 158) rfl rfl <| oR hf (iC hf rfl rfl rfl) rfl fun a hf => oW hf (g := 158) rfl rfl <| om hf rfl rfl fun a hf => g_split hf (g := 162) rfl (fun hb13997 hf => ?_) (fun hb13997 hf => ?_)
                ·replace hp := cond_t hb13997 hp
                 refine oW hf (g := 162) rfl rfl <| oR hf (rF hf rfl fd_70_1) rfl fun a hf => oW hf (g := 162) rfl rfl <| oR hf (rL hw hf rfl ty_9 0 rfl rfl) rfl fun a hf => oW hf (g := 162) rfl rfl <| oR hf (r_scmp hf rfl rfl rfl) rfl fun a hf => oW hf (g := 158) rfl rfl <| oR hf (pT hf rfl rfl) rfl fun a hf => oW hf (g := 158) rfl rfl <| om hf rfl rfl fun a hf => g_split hf (g := 167) rfl (fun hb13998 hf => ?_) (fun hb13998 hf => ?_)
                 ·replace hp := cond_t hb13998 hp
                  refine oW hf (g := 167) rfl rfl <| om hf rfl rfl fun a hf => oW hf (g := 167) rfl rfl <| oR hf (iC hf rfl rfl rfl) rfl fun a hf => oW hf (g := 167) rfl rfl <| om hf rfl rfl fun a hf => g_split hf (g := 170) rfl (fun hb13999 hf => ?_) (fun hb13999 hf => ?_)
                  ·replace hp := cond_t hb13999 hp
                   refine oQ hf (g := 170) rfl fun a hf => oQ hf (g := 170) rfl fun a hf => oQ hf (g := 170) rfl fun a hf => o_skipU hf (g := 173) rfl rfl rfl rfl rfl fun a hf => o_skipU hf (g := 173) rfl rfl rfl rfl rfl fun a hf => oQ hf (g := 170) rfl fun a hf => oW hf (g := 167) rfl rfl <| oR hf (pT hf rfl rfl) rfl fun a hf => oW hf (g := 158) rfl rfl <| oR hf (pT hf rfl rfl) rfl fun a hf => oR hf (pF hf rfl rfl) rfl fun a hf => oa hf rfl rfl fun a hf => oN <| ct ?_
                   have ho := oI hp
                   subst ho
                   exact ⟨true, rfl, hw, hf.to ⟨rfl, rfl, rfl, rfl, rfl, trivial⟩⟩
                  ·replace hp := cond_f hb13999 hp
                   refine oW hf (g := 170) rfl rfl <| om hf rfl rfl fun a hf => oW hf (g := 170) rfl rfl <| oR hf (iC hf rfl rfl rfl) rfl fun a hf => oW hf (g := 170) rfl rfl <| om hf rfl rfl fun a hf => g_split hf (g := 173) rfl (fun hb14000 hf => ?_) (fun hb14000 hf => ?_)
                   ·replace hp := cond_t hb14000 hp
                    refine oW hf (g := 173) rfl rfl <| oR hf (rF hf rfl fd_70_2) rfl fun a hf => oW hf (g := 173) rfl rfl <| oR hf (rL hw hf rfl ty_4 0 rfl rfl) rfl fun a hf => oW hf (g := 170) rfl rfl <| oR hf (pT hf rfl rfl) rfl fun a hf => oW hf (g := 167) rfl rfl <| oR hf (pF hf rfl rfl) rfl fun a hf => oW hf (g := 158) rfl rfl <| oR hf (pT hf rfl rfl) rfl fun a hf => oR hf (pF hf rfl rfl) rfl fun a hf => oa hf rfl rfl fun a hf => oN <| ct ?_
                    have ho := oI hp
                    subst ho
                    exact ⟨((gt y202 y7027).has_), rfl, hw, hf.to ⟨rfl, rfl, rfl, rfl, rfl, trivial⟩⟩
                   ·replace hp := cond_f hb14000 hp
                    refine oQ hf (g := 173) rfl fun a hf => oQ hf (g := 173) rfl fun a hf => oW hf (g := 170) rfl rfl <| oR hf (pF hf rfl rfl) rfl fun a hf => oW hf (g := 167) rfl rfl <| oR hf (pF hf rfl rfl) rfl fun a hf => oW hf (g := 158) rfl rfl <| oR hf (pT hf rfl rfl) rfl fun a hf => oR hf (pF hf rfl rfl) rfl fun a hf => oa hf rfl rfl fun a hf => oN <| ct ?_
                    have ho := oI hp
                    subst ho
                    exact ⟨false, rfl, hw, hf.to ⟨rfl, rfl, rfl, rfl, rfl, trivial⟩⟩
                 ·replace hp := cond_f hb13998 hp
                  refine oQ hf (g := 167) rfl fun a hf => oQ hf (g := 167) rfl fun a hf => oQ hf (g := 167) rfl fun a hf => o_skipU hf (g := 170) rfl rfl rfl rfl rfl fun a hf => o_skipU hf (g := 170) rfl rfl rfl rfl rfl fun a hf => o_skipU hf (g := 170) rfl rfl rfl rfl rfl fun a hf => o_skipU hf (g := 173) rfl rfl rfl rfl rfl fun a hf => o_skipU hf (g := 173) rfl rfl rfl rfl rfl fun a hf => o_skipU hf (g := 170) rfl rfl rfl rfl rfl fun a hf => oQ hf (g := 167) rfl fun a hf => oW hf (g := 158) rfl rfl <| oR hf (pF hf rfl rfl) rfl fun a hf => oR hf (pF hf rfl rfl) rfl fun a hf => oa hf rfl rfl fun a hf => oN <| ct ?_
                  have ho := oI hp
                  subst ho
                  exact ⟨false, rfl, hw, hf.to ⟨rfl, rfl, rfl, rfl, rfl, trivial⟩⟩
                ·replace hp := cond_f hb13997 hp
                 refine oQ hf (g := 162) rfl fun a hf => oQ hf (g := 162) rfl fun a hf => oQ hf (g := 162) rfl fun a hf => oW hf (g := 158) rfl rfl <| oR hf (pF hf rfl rfl) rfl fun a hf => oW hf (g := 158) rfl rfl <| om hf rfl rfl fun a hf => oQ hf (g := 167) rfl fun a hf => oQ hf (g := 167) rfl fun a hf => oQ hf (g := 167) rfl fun a hf => o_skipU hf (g := 170) rfl rfl rfl rfl rfl fun a hf => o_skipU hf (g := 170) rfl rfl rfl rfl rfl fun a hf => o_skipU hf (g := 170) rfl rfl rfl rfl rfl fun a hf => o_skipU hf (g := 173) rfl rfl rfl rfl rfl fun a hf => o_skipU hf (g := 173) rfl rfl rfl rfl rfl fun a hf => o_skipU hf (g := 170) rfl rfl rfl rfl rfl fun a hf => ?_
                 refine oQ hf (g := 167) rfl fun a hf => oW hf (g := 158) rfl rfl <| oR hf (pF hf rfl rfl) rfl fun a hf => oR hf (pF hf rfl rfl) rfl fun a hf => oa hf rfl rfl fun a hf => oN <| ct ?_
                 have ho := oI hp
                 subst ho
                 exact ⟨false, rfl, hw, hf.to ⟨rfl, rfl, rfl, rfl, rfl, trivial⟩⟩
              ·replace hp := cond_f hb13995 hp
               refine oQ hf (g := 152) rfl fun a hf => oQ hf (g := 152) rfl fun a hf => oQ hf (g := 152) rfl fun a hf => oW hf (g := 133) rfl rfl <| oR hf (pF hf rfl rfl) rfl fun a hf => oR hf (pF hf rfl rfl) rfl fun a hf => om hf rfl rfl fun a hf => oW hf (g := 158) rfl rfl <| oR hf (rF hf rfl fd_70_0) rfl fun a hf => oW hf (g := 158) rfl rfl <| oR hf (rL hw hf rfl ty_3 0 rfl rfl) rfl fun a hf => oW hf (g := 158) rfl rfl <| oR hf (iC hf rfl rfl rfl) rfl fun a hf => oW hf (g := 158) rfl rfl <| om hf rfl rfl fun a hf => g_split hf (g := 162) rfl (fun hb14001 hf => ?_) (fun hb14001 hf => ?_)
               ·replace hp := cond_t hb14001 hp
                refine oW hf (g := 162) rfl rfl <| oR hf (rF hf rfl fd_70_1) rfl fun a hf => oW hf (g := 162) rfl rfl <| oR hf (rL hw hf rfl ty_9 0 rfl rfl) rfl fun a hf => oW hf (g := 162) rfl rfl <| oR hf (r_scmp hf rfl rfl rfl) rfl fun a hf => oW hf (g := 158) rfl rfl <| oR hf (pT hf rfl rfl) rfl fun a hf => oW hf (g := 158) rfl rfl <| om hf rfl rfl fun a hf => g_split hf (g := 167) rfl (fun hb14002 hf => ?_) (fun hb14002 hf => ?_)
                ·replace hp := cond_t hb14002 hp
                 refine oW hf (g := 167) rfl rfl <| om hf rfl rfl fun a hf => oW hf (g := 167) rfl rfl <| oR hf (iC hf rfl rfl rfl) rfl fun a hf => oW hf (g := 167) rfl rfl <| om hf rfl rfl fun a hf => g_split hf (g := 170) rfl (fun hb14003 hf => ?_) (fun hb14003 hf => ?_)
                 ·replace hp := cond_t hb14003 hp
                  refine oQ hf (g := 170) rfl fun a hf => oQ hf (g := 170) rfl fun a hf => oQ hf (g := 170) rfl fun a hf => o_skipU hf (g := 173) rfl rfl rfl rfl rfl fun a hf => o_skipU hf (g := 173) rfl rfl rfl rfl rfl fun a hf => oQ hf (g := 170) rfl fun a hf => oW hf (g := 167) rfl rfl <| oR hf (pT hf rfl rfl) rfl fun a hf => oW hf (g := 158) rfl rfl <| oR hf (pT hf rfl rfl) rfl fun a hf => oR hf (pF hf rfl rfl) rfl fun a hf => oa hf rfl rfl fun a hf => oN <| ct ?_
                  have ho := oI hp
                  subst ho
                  exact ⟨true, rfl, hw, hf.to ⟨rfl, rfl, rfl, rfl, rfl, trivial⟩⟩
                 ·replace hp := cond_f hb14003 hp
                  refine oW hf (g := 170) rfl rfl <| om hf rfl rfl fun a hf => oW hf (g := 170) rfl rfl <| oR hf (iC hf rfl rfl rfl) rfl fun a hf => oW hf (g := 170) rfl rfl <| om hf rfl rfl fun a hf => g_split hf (g := 173) rfl (fun hb14004 hf => ?_) (fun hb14004 hf => ?_)
                  ·replace hp := cond_t hb14004 hp
                   refine oW hf (g := 173) rfl rfl <| oR hf (rF hf rfl fd_70_2) rfl fun a hf => oW hf (g := 173) rfl rfl <| oR hf (rL hw hf rfl ty_4 0 rfl rfl) rfl fun a hf => oW hf (g := 170) rfl rfl <| oR hf (pT hf rfl rfl) rfl fun a hf => oW hf (g := 167) rfl rfl <| oR hf (pF hf rfl rfl) rfl fun a hf => oW hf (g := 158) rfl rfl <| oR hf (pT hf rfl rfl) rfl fun a hf => oR hf (pF hf rfl rfl) rfl fun a hf => oa hf rfl rfl fun a hf => oN <| ct ?_
                   have ho := oI hp
                   subst ho
                   exact ⟨((gt y202 y7027).has_), rfl, hw, hf.to ⟨rfl, rfl, rfl, rfl, rfl, trivial⟩⟩
                  ·replace hp := cond_f hb14004 hp
                   refine oQ hf (g := 173) rfl fun a hf => oQ hf (g := 173) rfl fun a hf => oW hf (g := 170) rfl rfl <| oR hf (pF hf rfl rfl) rfl fun a hf => oW hf (g := 167) rfl rfl <| oR hf (pF hf rfl rfl) rfl fun a hf => oW hf (g := 158) rfl rfl <| oR hf (pT hf rfl rfl) rfl fun a hf => oR hf (pF hf rfl rfl) rfl fun a hf => oa hf rfl rfl fun a hf => oN <| ct ?_
                   have ho := oI hp
                   subst ho
                   exact ⟨false, rfl, hw, hf.to ⟨rfl, rfl, rfl, rfl, rfl, trivial⟩⟩
                ·replace hp := cond_f hb14002 hp
                 refine oQ hf (g := 167) rfl fun a hf => oQ hf (g := 167) rfl fun a hf => oQ hf (g := 167) rfl fun a hf => o_skipU hf (g := 170) rfl rfl rfl rfl rfl fun a hf => o_skipU hf (g := 170) rfl rfl rfl rfl rfl fun a hf => o_skipU hf (g := 170) rfl rfl rfl rfl rfl fun a hf => o_skipU hf (g := 173) rfl rfl rfl rfl rfl fun a hf => o_skipU hf (g := 173) rfl rfl rfl rfl rfl fun a hf => o_skipU hf (g := 170) rfl rfl rfl rfl rfl fun a hf => oQ hf (g := 167) rfl fun a hf => oW hf (g := 158) rfl rfl <| oR hf (pF hf rfl rfl) rfl fun a hf => oR hf (pF hf rfl rfl) rfl fun a hf => oa hf rfl rfl fun a hf => oN <| ct ?_
                 have ho := oI hp
                 subst ho
                 exact ⟨false, rfl, hw, hf.to ⟨rfl, rfl, rfl, rfl, rfl, trivial⟩⟩
               ·replace hp := cond_f hb14001 hp
                refine oQ hf (g := 162) rfl fun a hf => oQ hf (g := 162) rfl fun a hf => oQ hf (g := 162) rfl fun a hf => oW hf (g := 158) rfl rfl <| oR hf (pF hf rfl rfl) rfl fun a hf => oW hf (g := 158) rfl rfl <| om hf rfl rfl fun a hf => oQ hf (g := 167) rfl fun a hf => oQ hf (g := 167) rfl fun a hf => oQ hf (g := 167) rfl fun a hf => o_skipU hf (g := 170) rfl rfl rfl rfl rfl fun a hf => o_skipU hf (g := 170) rfl rfl rfl rfl rfl fun a hf => o_skipU hf (g := 170) rfl rfl rfl rfl rfl fun a hf => o_skipU hf (g := 173) rfl rfl rfl rfl rfl fun a hf => o_skipU hf (g := 173) rfl rfl rfl rfl rfl fun a hf => o_skipU hf (g := 170) rfl rfl rfl rfl rfl fun a hf => ?_
                refine oQ hf (g := 167) rfl fun a hf => oW hf (g := 158) rfl rfl <| oR hf (pF hf rfl rfl) rfl fun a hf => oR hf (pF hf rfl rfl) rfl fun a hf => oa hf rfl rfl fun a hf => oN <| ct ?_
                have ho := oI hp
                subst ho
                exact ⟨false, rfl, hw, hf.to ⟨rfl, rfl, rfl, rfl, rfl, trivial⟩⟩
             ·replace hp := cond_f hb13994 hp
              refine oQ hf (g := 147) rfl fun a hf => oQ hf (g := 147) rfl fun a hf => oQ hf (g := 147) rfl fun a hf => oW hf (g := 133) rfl rfl <| oR hf (pF hf rfl rfl) rfl fun a hf => oW hf (g := 133) rfl rfl <| om hf rfl rfl fun a hf => oQ hf (g := 152) rfl fun a hf => oQ hf (g := 152) rfl fun a hf => oQ hf (g := 152) rfl fun a hf => oW hf (g := 133) rfl rfl <| oR hf (pF hf rfl rfl) rfl fun a hf => oR hf (pF hf rfl rfl) rfl fun a hf => om hf rfl rfl fun a hf => oW hf (g := 158) rfl rfl <| oR hf (rF hf rfl fd_70_0) rfl fun a hf => ?_
              refine oW hf (g := 158) rfl rfl <| oR hf (rL hw hf rfl ty_3 0 rfl rfl) rfl fun a hf => oW hf (g := 158) rfl rfl <| oR hf (iC hf rfl rfl rfl) rfl fun a hf => oW hf (g := 158) rfl rfl <| om hf rfl rfl fun a hf => g_split hf (g := 162) rfl (fun hb14005 hf => ?_) (fun hb14005 hf => ?_)
              ·replace hp := cond_t hb14005 hp
               refine oW hf (g := 162) rfl rfl <| oR hf (rF hf rfl fd_70_1) rfl fun a hf => oW hf (g := 162) rfl rfl <| oR hf (rL hw hf rfl ty_9 0 rfl rfl) rfl fun a hf => oW hf (g := 162) rfl rfl <| oR hf (r_scmp hf rfl rfl rfl) rfl fun a hf => oW hf (g := 158) rfl rfl <| oR hf (pT hf rfl rfl) rfl fun a hf => oW hf (g := 158) rfl rfl <| om hf rfl rfl fun a hf => g_split hf (g := 167) rfl (fun hb14006 hf => ?_) (fun hb14006 hf => ?_)
               ·replace hp := cond_t hb14006 hp
                refine oW hf (g := 167) rfl rfl <| om hf rfl rfl fun a hf => oW hf (g := 167) rfl rfl <| oR hf (iC hf rfl rfl rfl) rfl fun a hf => oW hf (g := 167) rfl rfl <| om hf rfl rfl fun a hf => g_split hf (g := 170) rfl (fun hb14007 hf => ?_) (fun hb14007 hf => ?_)
                ·replace hp := cond_t hb14007 hp
                 refine oQ hf (g := 170) rfl fun a hf => oQ hf (g := 170) rfl fun a hf => oQ hf (g := 170) rfl fun a hf => o_skipU hf (g := 173) rfl rfl rfl rfl rfl fun a hf => o_skipU hf (g := 173) rfl rfl rfl rfl rfl fun a hf => oQ hf (g := 170) rfl fun a hf => oW hf (g := 167) rfl rfl <| oR hf (pT hf rfl rfl) rfl fun a hf => oW hf (g := 158) rfl rfl <| oR hf (pT hf rfl rfl) rfl fun a hf => oR hf (pF hf rfl rfl) rfl fun a hf => oa hf rfl rfl fun a hf => oN <| ct ?_
                 have ho := oI hp
                 subst ho
                 exact ⟨true, rfl, hw, hf.to ⟨rfl, rfl, rfl, rfl, rfl, trivial⟩⟩
                ·replace hp := cond_f hb14007 hp
                 refine oW hf (g := 170) rfl rfl <| om hf rfl rfl fun a hf => oW hf (g := 170) rfl rfl <| oR hf (iC hf rfl rfl rfl) rfl fun a hf => oW hf (g := 170) rfl rfl <| om hf rfl rfl fun a hf => g_split hf (g := 173) rfl (fun hb14008 hf => ?_) (fun hb14008 hf => ?_)
                 ·replace hp := cond_t hb14008 hp
                  refine oW hf (g := 173) rfl rfl <| oR hf (rF hf rfl fd_70_2) rfl fun a hf => oW hf (g := 173) rfl rfl <| oR hf (rL hw hf rfl ty_4 0 rfl rfl) rfl fun a hf => oW hf (g := 170) rfl rfl <| oR hf (pT hf rfl rfl) rfl fun a hf => oW hf (g := 167) rfl rfl <| oR hf (pF hf rfl rfl) rfl fun a hf => oW hf (g := 158) rfl rfl <| oR hf (pT hf rfl rfl) rfl fun a hf => oR hf (pF hf rfl rfl) rfl fun a hf => oa hf rfl rfl fun a hf => oN <| ct ?_
                  have ho := oI hp
                  subst ho
                  exact ⟨((gt y202 y7027).has_), rfl, hw, hf.to ⟨rfl, rfl, rfl, rfl, rfl, trivial⟩⟩
                 ·replace hp := cond_f hb14008 hp
                  refine oQ hf (g := 173) rfl fun a hf => oQ hf (g := 173) rfl fun a hf => oW hf (g := 170) rfl rfl <| oR hf (pF hf rfl rfl) rfl fun a hf => oW hf (g := 167) rfl rfl <| oR hf (pF hf rfl rfl) rfl fun a hf => oW hf (g := 158) rfl rfl <| oR hf (pT hf rfl rfl) rfl fun a hf => oR hf (pF hf rfl rfl) rfl fun a hf => oa hf rfl rfl fun a hf => oN <| ct ?_
                  have ho := oI hp
                  subst ho
                  exact ⟨false, rfl, hw, hf.to ⟨rfl, rfl, rfl, rfl, rfl, trivial⟩⟩
               ·replace hp := cond_f hb14006 hp
                refine oQ hf (g := 167) rfl fun a hf => oQ hf (g := 167) rfl fun a hf => oQ hf (g := 167) rfl fun a hf => o_skipU hf (g := 170) rfl rfl rfl rfl rfl fun a hf => o_skipU hf (g := 170) rfl rfl rfl rfl rfl fun a hf => o_skipU hf (g := 170) rfl rfl rfl rfl rfl fun a hf => o_skipU hf (g := 173) rfl rfl rfl rfl rfl fun a hf => o_skipU hf (g := 173) rfl rfl rfl rfl rfl fun a hf => o_skipU hf (g := 170) rfl rfl rfl rfl rfl fun a hf => oQ hf (g := 167) rfl fun a hf => oW hf (g := 158) rfl rfl <| oR hf (pF hf rfl rfl) rfl fun a hf => oR hf (pF hf rfl rfl) rfl fun a hf => oa hf rfl rfl fun a hf => oN <| ct ?_
                have ho := oI hp
                subst ho
                exact ⟨false, rfl, hw, hf.to ⟨rfl, rfl, rfl, rfl, rfl, trivial⟩⟩
              ·replace hp := cond_f hb14005 hp
               refine oQ hf (g := 162) rfl fun a hf => oQ hf (g := 162) rfl fun a hf => oQ hf (g := 162) rfl fun a hf => oW hf (g := 158) rfl rfl <| oR hf (pF hf rfl rfl) rfl fun a hf => oW hf (g := 158) rfl rfl <| om hf rfl rfl fun a hf => oQ hf (g := 167) rfl fun a hf => oQ hf (g := 167) rfl fun a hf => oQ hf (g := 167) rfl fun a hf => o_skipU hf (g := 170) rfl rfl rfl rfl rfl fun a hf => o_skipU hf (g := 170) rfl rfl rfl rfl rfl fun a hf => o_skipU hf (g := 170) rfl rfl rfl rfl rfl fun a hf => o_skipU hf (g := 173) rfl rfl rfl rfl rfl fun a hf => o_skipU hf (g := 173) rfl rfl rfl rfl rfl fun a hf => o_skipU hf (g := 170) rfl rfl rfl rfl rfl fun a hf => ?_
               refine oQ hf (g := 167) rfl fun a hf => oW hf (g := 158) rfl rfl <| oR hf (pF hf rfl rfl) rfl fun a hf => oR hf (pF hf rfl rfl) rfl fun a hf => oa hf rfl rfl fun a hf => oN <| ct ?_
               have ho := oI hp
               subst ho
               exact ⟨false, rfl, hw, hf.to ⟨rfl, rfl, rfl, rfl, rfl, trivial⟩⟩
            ·replace hp := cond_f hb13992 hp
             refine oQ hf (g := 141) rfl fun a hf => oQ hf (g := 141) rfl fun a hf => oQ hf (g := 141) rfl fun a hf => oQ hf (g := 141) rfl fun a hf => oW hf (g := 133) rfl rfl <| oR hf (pF hf rfl rfl) rfl fun a hf => oW hf (g := 133) rfl rfl <| om hf rfl rfl fun a hf => oQ hf (g := 147) rfl fun a hf => oQ hf (g := 147) rfl fun a hf => oQ hf (g := 147) rfl fun a hf => oW hf (g := 133) rfl rfl <| oR hf (pF hf rfl rfl) rfl fun a hf => oW hf (g := 133) rfl rfl <| om hf rfl rfl fun a hf => oQ hf (g := 152) rfl fun a hf => ?_
             refine oQ hf (g := 152) rfl fun a hf => oQ hf (g := 152) rfl fun a hf => oW hf (g := 133) rfl rfl <| oR hf (pF hf rfl rfl) rfl fun a hf => oR hf (pF hf rfl rfl) rfl fun a hf => om hf rfl rfl fun a hf => oW hf (g := 158) rfl rfl <| oR hf (rF hf rfl fd_70_0) rfl fun a hf => oW hf (g := 158) rfl rfl <| oR hf (rL hw hf rfl ty_3 0 rfl rfl) rfl fun a hf => oW hf (g := 158) rfl rfl <| oR hf (iC hf rfl rfl rfl) rfl fun a hf => oW hf (g := 158) rfl rfl <| om hf rfl rfl fun a hf => g_split hf (g := 162) rfl (fun hb14009 hf => ?_) (fun hb14009 hf => ?_)
             ·replace hp := cond_t hb14009 hp
              refine oW hf (g := 162) rfl rfl <| oR hf (rF hf rfl fd_70_1) rfl fun a hf => oW hf (g := 162) rfl rfl <| oR hf (rL hw hf rfl ty_9 0 rfl rfl) rfl fun a hf => oW hf (g := 162) rfl rfl <| oR hf (r_scmp hf rfl rfl rfl) rfl fun a hf => oW hf (g := 158) rfl rfl <| oR hf (pT hf rfl rfl) rfl fun a hf => oW hf (g := 158) rfl rfl <| om hf rfl rfl fun a hf => g_split hf (g := 167) rfl (fun hb14010 hf => ?_) (fun hb14010 hf => ?_)
              ·replace hp := cond_t hb14010 hp
               refine oW hf (g := 167) rfl rfl <| om hf rfl rfl fun a hf => oW hf (g := 167) rfl rfl <| oR hf (iC hf rfl rfl rfl) rfl fun a hf => oW hf (g := 167) rfl rfl <| om hf rfl rfl fun a hf => g_split hf (g := 170) rfl (fun hb14011 hf => ?_) (fun hb14011 hf => ?_)
               ·replace hp := cond_t hb14011 hp
                refine oQ hf (g := 170) rfl fun a hf => oQ hf (g := 170) rfl fun a hf => oQ hf (g := 170) rfl fun a hf => o_skipU hf (g := 173) rfl rfl rfl rfl rfl fun a hf => o_skipU hf (g := 173) rfl rfl rfl rfl rfl fun a hf => oQ hf (g := 170) rfl fun a hf => oW hf (g := 167) rfl rfl <| oR hf (pT hf rfl rfl) rfl fun a hf => oW hf (g := 158) rfl rfl <| oR hf (pT hf rfl rfl) rfl fun a hf => oR hf (pF hf rfl rfl) rfl fun a hf => oa hf rfl rfl fun a hf => oN <| ct ?_
                have ho := oI hp
                subst ho
                exact ⟨true, rfl, hw, hf.to ⟨rfl, rfl, rfl, rfl, rfl, trivial⟩⟩
               ·replace hp := cond_f hb14011 hp
                refine oW hf (g := 170) rfl rfl <| om hf rfl rfl fun a hf => oW hf (g := 170) rfl rfl <| oR hf (iC hf rfl rfl rfl) rfl fun a hf => oW hf (g := 170) rfl rfl <| om hf rfl rfl fun a hf => g_split hf (g := 173) rfl (fun hb14012 hf => ?_) (fun hb14012 hf => ?_)
                ·replace hp := cond_t hb14012 hp
                 refine oW hf (g := 173) rfl rfl <| oR hf (rF hf rfl fd_70_2) rfl fun a hf => oW hf (g := 173) rfl rfl <| oR hf (rL hw hf rfl ty_4 0 rfl rfl) rfl fun a hf => oW hf (g := 170) rfl rfl <| oR hf (pT hf rfl rfl) rfl fun a hf => oW hf (g := 167) rfl rfl <| oR hf (pF hf rfl rfl) rfl fun a hf => oW hf (g := 158) rfl rfl <| oR hf (pT hf rfl rfl) rfl fun a hf => oR hf (pF hf rfl rfl) rfl fun a hf => oa hf rfl rfl fun a hf => oN <| ct ?_
                 have ho := oI hp
                 subst ho
                 exact ⟨((gt y202 y7027).has_), rfl, hw, hf.to ⟨rfl, rfl, rfl, rfl, rfl, trivial⟩⟩
                ·replace hp := cond_f hb14012 hp
                 refine oQ hf (g := 173) rfl fun a hf => oQ hf (g := 173) rfl fun a hf => oW hf (g := 170) rfl rfl <| oR hf (pF hf rfl rfl) rfl fun a hf => oW hf (g := 167) rfl rfl <| oR hf (pF hf rfl rfl) rfl fun a hf => oW hf (g := 158) rfl rfl <| oR hf (pT hf rfl rfl) rfl fun a hf => oR hf (pF hf rfl rfl) rfl fun a hf => oa hf rfl rfl fun a hf => oN <| ct ?_
                 have ho := oI hp
                 subst ho
                 exact ⟨false, rfl, hw, hf.to ⟨rfl, rfl, rfl, rfl, rfl, trivial⟩⟩
              ·replace hp := cond_f hb14010 hp
               refine oQ hf (g := 167) rfl fun a hf => oQ hf (g := 167) rfl fun a hf => oQ hf (g := 167) rfl fun a hf => o_skipU hf (g := 170) rfl rfl rfl rfl rfl fun a hf => o_skipU hf (g := 170) rfl rfl rfl rfl rfl fun a hf => o_skipU hf (g := 170) rfl rfl rfl rfl rfl fun a hf => o_skipU hf (g := 173) rfl rfl rfl rfl rfl fun a hf => o_skipU hf (g := 173) rfl rfl rfl rfl rfl fun a hf => o_skipU hf (g := 170) rfl rfl rfl rfl rfl fun a hf => oQ hf (g := 167) rfl fun a hf => oW hf (g := 158) rfl rfl <| oR hf (pF hf rfl rfl) rfl fun a hf => oR hf (pF hf rfl rfl) rfl fun a hf => oa hf rfl rfl fun a hf => oN <| ct ?_
               have ho := oI hp
               subst ho
               exact ⟨false, rfl, hw, hf.to ⟨rfl, rfl, rfl, rfl, rfl, trivial⟩⟩
             ·replace hp := cond_f hb14009 hp
              refine oQ hf (g := 162) rfl fun a hf => oQ hf (g := 162) rfl fun a hf => oQ hf (g := 162) rfl fun a hf => oW hf (g := 158) rfl rfl <| oR hf (pF hf rfl rfl) rfl fun a hf => oW hf (g := 158) rfl rfl <| om hf rfl rfl fun a hf => oQ hf (g := 167) rfl fun a hf => oQ hf (g := 167) rfl fun a hf => oQ hf (g := 167) rfl fun a hf => o_skipU hf (g := 170) rfl rfl rfl rfl rfl fun a hf => o_skipU hf (g := 170) rfl rfl rfl rfl rfl fun a hf => o_skipU hf (g := 170) rfl rfl rfl rfl rfl fun a hf => o_skipU hf (g := 173) rfl rfl rfl rfl rfl fun a hf => o_skipU hf (g := 173) rfl rfl rfl rfl rfl fun a hf => o_skipU hf (g := 170) rfl rfl rfl rfl rfl fun a hf => ?_
              refine oQ hf (g := 167) rfl fun a hf => oW hf (g := 158) rfl rfl <| oR hf (pF hf rfl rfl) rfl fun a hf => oR hf (pF hf rfl rfl) rfl fun a hf => oa hf rfl rfl fun a hf => oN <| ct ?_
              have ho := oI hp
              subst ho
              exact ⟨false, rfl, hw, hf.to ⟨rfl, rfl, rfl, rfl, rfl, trivial⟩⟩
           ·replace hp := cond_f hb13991 hp
            refine oQ hf (g := 137) rfl fun a hf => oQ hf (g := 137) rfl fun a hf => oW hf (g := 133) rfl rfl <| oR hf (pF hf rfl rfl) rfl fun a hf => oW hf (g := 133) rfl rfl <| om hf rfl rfl fun a hf => oQ hf (g := 141) rfl fun a hf => oQ hf (g := 141) rfl fun a hf => oQ hf (g := 141) rfl fun a hf => oQ hf (g := 141) rfl fun a hf => oW hf (g := 133) rfl rfl <| oR hf (pF hf rfl rfl) rfl fun a hf => oW hf (g := 133) rfl rfl <| om hf rfl rfl fun a hf => oQ hf (g := 147) rfl fun a hf => oQ hf (g := 147) rfl fun a hf => ?_
            refine oQ hf (g := 147) rfl fun a hf => oW hf (g := 133) rfl rfl <| oR hf (pF hf rfl rfl) rfl fun a hf => oW hf (g := 133) rfl rfl <| om hf rfl rfl fun a hf => oQ hf (g := 152) rfl fun a hf => oQ hf (g := 152) rfl fun a hf => oQ hf (g := 152) rfl fun a hf => oW hf (g := 133) rfl rfl <| oR hf (pF hf rfl rfl) rfl fun a hf => oR hf (pF hf rfl rfl) rfl fun a hf => om hf rfl rfl fun a hf => oW hf (g := 158) rfl rfl <| oR hf (rF hf rfl fd_70_0) rfl fun a hf => oW hf (g := 158) rfl rfl <| oR hf (rL hw hf rfl ty_3 0 rfl rfl) rfl fun a hf => ?_
            refine oW hf (g := 158) rfl rfl <| oR hf (iC hf rfl rfl rfl) rfl fun a hf => oW hf (g := 158) rfl rfl <| om hf rfl rfl fun a hf => g_split hf (g := 162) rfl (fun hb14013 hf => ?_) (fun hb14013 hf => ?_)
            ·replace hp := cond_t hb14013 hp
             refine oW hf (g := 162) rfl rfl <| oR hf (rF hf rfl fd_70_1) rfl fun a hf => oW hf (g := 162) rfl rfl <| oR hf (rL hw hf rfl ty_9 0 rfl rfl) rfl fun a hf => oW hf (g := 162) rfl rfl <| oR hf (r_scmp hf rfl rfl rfl) rfl fun a hf => oW hf (g := 158) rfl rfl <| oR hf (pT hf rfl rfl) rfl fun a hf => oW hf (g := 158) rfl rfl <| om hf rfl rfl fun a hf => g_split hf (g := 167) rfl (fun hb14014 hf => ?_) (fun hb14014 hf => ?_)
             ·replace hp := cond_t hb14014 hp
              refine oW hf (g := 167) rfl rfl <| om hf rfl rfl fun a hf => oW hf (g := 167) rfl rfl <| oR hf (iC hf rfl rfl rfl) rfl fun a hf => oW hf (g := 167) rfl rfl <| om hf rfl rfl fun a hf => g_split hf (g := 170) rfl (fun hb14015 hf => ?_) (fun hb14015 hf => ?_)
              ·replace hp := cond_t hb14015 hp
               refine oQ hf (g := 170) rfl fun a hf => oQ hf (g := 170) rfl fun a hf => oQ hf (g := 170) rfl fun a hf => o_skipU hf (g := 173) rfl rfl rfl rfl rfl fun a hf => o_skipU hf (g := 173) rfl rfl rfl rfl rfl fun a hf => oQ hf (g := 170) rfl fun a hf => oW hf (g := 167) rfl rfl <| oR hf (pT hf rfl rfl) rfl fun a hf => oW hf (g := 158) rfl rfl <| oR hf (pT hf rfl rfl) rfl fun a hf => oR hf (pF hf rfl rfl) rfl fun a hf => oa hf rfl rfl fun a hf => oN <| ct ?_
               have ho := oI hp
               subst ho
               exact ⟨true, rfl, hw, hf.to ⟨rfl, rfl, rfl, rfl, rfl, trivial⟩⟩
              ·replace hp := cond_f hb14015 hp
               refine oW hf (g := 170) rfl rfl <| om hf rfl rfl fun a hf => oW hf (g := 170) rfl rfl <| oR hf (iC hf rfl rfl rfl) rfl fun a hf => oW hf (g := 170) rfl rfl <| om hf rfl rfl fun a hf => g_split hf (g := 173) rfl (fun hb14016 hf => ?_) (fun hb14016 hf => ?_)
               ·replace hp := cond_t hb14016 hp
                refine oW hf (g := 173) rfl rfl <| oR hf (rF hf rfl fd_70_2) rfl fun a hf => oW hf (g := 173) rfl rfl <| oR hf (rL hw hf rfl ty_4 0 rfl rfl) rfl fun a hf => oW hf (g := 170) rfl rfl <| oR hf (pT hf rfl rfl) rfl fun a hf => oW hf (g := 167) rfl rfl <| oR hf (pF hf rfl rfl) rfl fun a hf => oW hf (g := 158) rfl rfl <| oR hf (pT hf rfl rfl) rfl fun a hf => oR hf (pF hf rfl rfl) rfl fun a hf => oa hf rfl rfl fun a hf => oN <| ct ?_
                have ho := oI hp
                subst ho
                exact ⟨((gt y202 y7027).has_), rfl, hw, hf.to ⟨rfl, rfl, rfl, rfl, rfl, trivial⟩⟩
               ·replace hp := cond_f hb14016 hp
                refine oQ hf (g := 173) rfl fun a hf => oQ hf (g := 173) rfl fun a hf => oW hf (g := 170) rfl rfl <| oR hf (pF hf rfl rfl) rfl fun a hf => oW hf (g := 167) rfl rfl <| oR hf (pF hf rfl rfl) rfl fun a hf => oW hf (g := 158) rfl rfl <| oR hf (pT hf rfl rfl) rfl fun a hf => oR hf (pF hf rfl rfl) rfl fun a hf => oa hf rfl rfl fun a hf => oN <| ct ?_
                have ho := oI hp
                subst ho
                exact ⟨false, rfl, hw, hf.to ⟨rfl, rfl, rfl, rfl, rfl, trivial⟩⟩
             ·replace hp := cond_f hb14014 hp
              refine oQ hf (g := 167) rfl fun a hf => oQ hf (g := 167) rfl fun a hf => oQ hf (g := 167) rfl fun a hf => o_skipU hf (g := 170) rfl rfl rfl rfl rfl fun a hf => o_skipU hf (g := 170) rfl rfl rfl rfl rfl fun a hf => o_skipU hf (g := 170) rfl rfl rfl rfl rfl fun a hf => o_skipU hf (g := 173) rfl rfl rfl rfl rfl fun a hf => o_skipU hf (g := 173) rfl rfl rfl rfl rfl fun a hf => o_skipU hf (g := 170) rfl rfl rfl rfl rfl fun a hf => oQ hf (g := 167) rfl fun a hf => oW hf (g := 158) rfl rfl <| oR hf (pF hf rfl rfl) rfl fun a hf => oR hf (pF hf rfl rfl) rfl fun a hf => oa hf rfl rfl fun a hf => oN <| ct ?_
              have ho := oI hp
              subst ho
              exact ⟨false, rfl, hw, hf.to ⟨rfl, rfl, rfl, rfl, rfl, trivial⟩⟩
            ·replace hp := cond_f hb14013 hp
             refine oQ hf (g := 162) rfl fun a hf => oQ hf (g := 162) rfl fun a hf => oQ hf (g := 162) rfl fun a hf => oW hf (g := 158) rfl rfl <| oR hf (pF hf rfl rfl) rfl fun a hf => oW hf (g := 158) rfl rfl <| om hf rfl rfl fun a hf => oQ hf (g := 167) rfl fun a hf => oQ hf (g := 167) rfl fun a hf => oQ hf (g := 167) rfl fun a hf => o_skipU hf (g := 170) rfl rfl rfl rfl rfl fun a hf => o_skipU hf (g := 170) rfl rfl rfl rfl rfl fun a hf => o_skipU hf (g := 170) rfl rfl rfl rfl rfl fun a hf => o_skipU hf (g := 173) rfl rfl rfl rfl rfl fun a hf => o_skipU hf (g := 173) rfl rfl rfl rfl rfl fun a hf => o_skipU hf (g := 170) rfl rfl rfl rfl rfl fun a hf => ?_
             refine oQ hf (g := 167) rfl fun a hf => oW hf (g := 158) rfl rfl <| oR hf (pF hf rfl rfl) rfl fun a hf => oR hf (pF hf rfl rfl) rfl fun a hf => oa hf rfl rfl fun a hf => oN <| ct ?_
             have ho := oI hp
             subst ho
             exact ⟨false, rfl, hw, hf.to ⟨rfl, rfl, rfl, rfl, rfl, trivial⟩⟩
         ·replace hp := cond_f hb13962 hp
          refine oQ hf (g := 125) rfl fun a hf => oQ hf (g := 125) rfl fun a hf => oR hf (pF hf rfl rfl) rfl fun a hf => om hf rfl rfl fun a hf => oQ hf (g := 129) rfl fun a hf => oQ hf (g := 129) rfl fun a hf => oR hf (pF hf rfl rfl) rfl fun a hf => om hf rfl rfl fun a hf => oW hf (g := 133) rfl rfl <| oR hf (rF hf rfl fd_70_0) rfl fun a hf => oW hf (g := 133) rfl rfl <| oR hf (rL hw hf rfl ty_3 0 rfl rfl) rfl fun a hf => oW hf (g := 133) rfl rfl <| oR hf (iC hf rfl rfl rfl) rfl fun a hf => oW hf (g := 133) rfl rfl <| om hf rfl rfl fun a hf => ?_
          refine g_split hf (g := 137) rfl (fun hb14017 hf => ?_) (fun hb14017 hf => ?_)
          ·replace hp := cond_t hb14017 hp
           refine oW hf (g := 137) rfl rfl <| om hf rfl rfl fun a hf => oW hf (g := 137) rfl rfl <| oR hf (iC hf rfl rfl rfl) rfl fun a hf => oW hf (g := 133) rfl rfl <| oR hf (pT hf rfl rfl) rfl fun a hf => oW hf (g := 133) rfl rfl <| om hf rfl rfl fun a hf => g_split hf (g := 141) rfl (fun hb14018 hf => ?_) (fun hb14018 hf => ?_)
           ·replace hp := cond_t hb14018 hp
            refine oW hf (g := 141) rfl rfl <| oR hf (rF hf rfl fd_70_4) rfl fun a hf => ?_
            obtain ⟨hg14019, hp⟩ := gS hp
            refine oW hf (g := 141) rfl rfl <| oR hf (r_indexAddrA hf el_49 rfl rfl hg14019) rfl fun a hf => oW hf (g := 141) rfl rfl <| oR hf (rL hw hf rfl ty_3 0 rfl (arr_at (k := .i64) (v := (gt y202 y7027).kids_) rfl hg14019)) rfl fun a hf => oW hf (g := 141) rfl rfl <| oR hf (iC hf rfl rfl rfl) rfl fun a hf => oW hf (g := 133) rfl rfl <| oR hf (pT hf rfl rfl) rfl fun a hf => oW hf (g := 133) rfl rfl <| om hf rfl rfl fun a hf => g_split hf (g := 147) rfl (fun hb14020 hf => ?_) (fun hb14020 hf => ?_)
            ·replace hp := cond_t hb14020 hp
             refine oW hf (g := 147) rfl rfl <| oR hf (rF hf rfl fd_70_2) rfl fun a hf => oW hf (g := 147) rfl rfl <| oR hf (rL hw hf rfl ty_4 0 rfl rfl) rfl fun a hf => oW hf (g := 147) rfl rfl <| oR hf (r_not hf rfl) rfl fun a hf => oW hf (g := 133) rfl rfl <| oR hf (pT hf rfl rfl) rfl fun a hf => oW hf (g := 133) rfl rfl <| om hf rfl rfl fun a hf => g_split hf (g := 152) rfl (fun hb14021 hf => ?_) (fun hb14021 hf => ?_)
             ·replace hp := cond_t hb14021 hp
              refine oW hf (g := 152) rfl rfl <| oR hf (rF hf rfl fd_70_1) rfl fun a hf => oW hf (g := 152) rfl rfl <| oR hf (rL hw hf rfl ty_9 0 rfl rfl) rfl fun a hf => oW hf (g := 152) rfl rfl <| oR hf (r_scmp hf rfl rfl rfl) rfl fun a hf => oW hf (g := 133) rfl rfl <| oR hf (pT hf rfl rfl) rfl fun a hf => oR hf (pF hf rfl rfl) rfl fun a hf => om hf rfl rfl fun a hf => g_split hf (g := 158) rfl (fun hb14022 hf => ?_) (fun hb14022 hf => ?_)
              ·replace hp := cond_t hb14022 hp
               refine oQ hf (g := 158) rfl fun a hf => oQ hf (g := 158) rfl fun a hf => oQ hf (g := 158) rfl fun a hf => oQ hf (g := 158) rfl fun a hf => o_skipU hf (g := 162) rfl rfl rfl rfl rfl fun a hf => o_skipU hf (g := 162) rfl rfl rfl rfl rfl fun a hf => o_skipU hf (g := 162) rfl rfl rfl rfl rfl fun a hf => oQ hf (g := 158) rfl fun a hf => oQ hf (g := 158) rfl fun a hf => o_skipU hf (g := 167) rfl rfl rfl rfl rfl fun a hf => o_skipU hf (g := 167) rfl rfl rfl rfl rfl fun a hf => o_skipU hf (g := 167) rfl rfl rfl rfl rfl fun a hf => o_skipU hf (g := 170) rfl rfl rfl rfl rfl fun a hf => o_skipU hf (g := 170) rfl rfl rfl rfl rfl fun a hf => o_skipU hf (g := 170) rfl rfl rfl rfl rfl fun a hf => o_skipU hf (g := 173) rfl rfl rfl rfl rfl fun a hf => ?_
               refine o_skipU hf (g := 173) rfl rfl rfl rfl rfl fun a hf => o_skipU hf (g := 170) rfl rfl rfl rfl rfl fun a hf => o_skipU hf (g := 167) rfl rfl rfl rfl rfl fun a hf => oQ hf (g := 158) rfl fun a hf => oR hf (pT hf rfl rfl) rfl fun a hf => oa hf rfl rfl fun a hf => oN <| ct ?_
               have ho := oI hp
               subst ho
               exact ⟨true, rfl, hw, hf.to ⟨rfl, rfl, rfl, rfl, rfl, trivial⟩⟩
              ·replace hp := cond_f hb14022 hp
               refine oW hf (g := 158) rfl rfl <| oR hf (rF hf rfl fd_70_0) rfl fun a hf => oW hf (g := 158) rfl rfl <| oR hf (rL hw hf rfl ty_3 0 rfl rfl) rfl fun a hf => oW hf (g := 158) rfl rfl <| oR hf (iC hf rfl rfl rfl) rfl fun a hf => oW hf (g := 158) rfl rfl <| om hf rfl rfl fun a hf => g_split hf (g := 162) rfl (fun hb14023 hf => ?_) (fun hb14023 hf => ?_)
               ·replace hp := cond_t hb14023 hp
                refine oW hf (g := 162) rfl rfl <| oR hf (rF hf rfl fd_70_1) rfl fun a hf => oW hf (g := 162) rfl rfl <| oR hf (rL hw hf rfl ty_9 0 rfl rfl) rfl fun a hf => oW hf (g := 162) rfl rfl <| oR hf (r_scmp hf rfl rfl rfl) rfl fun a hf => oW hf (g := 158) rfl rfl <| oR hf (pT hf rfl rfl) rfl fun a hf => oW hf (g := 158) rfl rfl <| om hf rfl rfl fun a hf => g_split hf (g := 167) rfl (fun hb14024 hf => ?_) (fun hb14024 hf => ?_)
                ·replace hp := cond_t hb14024 hp
                 refine oW hf (g := 167) rfl rfl <| om hf rfl rfl fun a hf => oW hf (g := 167) rfl rfl <| oR hf (iC hf rfl rfl rfl) rfl fun a hf => oW hf (g := 167) rfl rfl <| om hf rfl rfl fun a hf => g_split hf (g := 170) rfl (fun hb14025 hf => ?_) (fun hb14025 hf => ?_)
                 ·replace hp := cond_t hb14025 hp
                  refine oQ hf (g := 170) rfl fun a hf => oQ hf (g := 170) rfl fun a hf => oQ hf (g := 170) rfl fun a hf => o_skipU hf (g := 173) rfl rfl rfl rfl rfl fun a hf => o_skipU hf (g := 173) rfl rfl rfl rfl rfl fun a hf => oQ hf (g := 170) rfl fun a hf => oW hf (g := 167) rfl rfl <| oR hf (pT hf rfl rfl) rfl fun a hf => oW hf (g := 158) rfl rfl <| oR hf (pT hf rfl rfl) rfl fun a hf => oR hf (pF hf rfl rfl) rfl fun a hf => oa hf rfl rfl fun a hf => oN <| ct ?_
                  have ho := oI hp
                  subst ho
                  exact ⟨true, rfl, hw, hf.to ⟨rfl, rfl, rfl, rfl, rfl, trivial⟩⟩
                 ·replace hp := cond_f hb14025 hp
                  refine oW hf (g := 170) rfl rfl <| om hf rfl rfl fun a hf => oW hf (g := 170) rfl rfl <| oR hf (iC hf rfl rfl rfl) rfl fun a hf => oW hf (g := 170) rfl rfl <| om hf rfl rfl fun a hf => g_split hf (g := 173) rfl (fun hb14026 hf => ?_) (fun hb14026 hf => ?_)
                  ·replace hp := cond_t hb14026 hp
                   refine oW hf (g := 173) rfl rfl <| oR hf (rF hf rfl fd_70_2) rfl fun a hf => oW hf (g := 173) rfl rfl <| oR hf (rL hw hf rfl ty_4 0 rfl rfl) rfl fun a hf => oW hf (g := 170) rfl rfl <| oR hf (pT hf rfl rfl) rfl fun a hf => oW hf (g := 167) rfl rfl <| oR hf (pF hf rfl rfl) rfl fun a hf => oW hf (g := 158) rfl rfl <| oR hf (pT hf rfl rfl) rfl fun a hf => oR hf (pF hf rfl rfl) rfl fun a hf => oa hf rfl rfl fun a hf => oN <| ct ?_
                   have ho := oI hp
                   subst ho
                   exact ⟨((gt y202 y7027).has_), rfl, hw, hf.to ⟨rfl, rfl, rfl, rfl, rfl, trivial⟩⟩
                  ·replace hp := cond_f hb14026 hp
                   refine oQ hf (g := 173) rfl fun a hf => oQ hf (g := 173) rfl fun a hf => oW hf (g := 170) rfl rfl <| oR hf (pF hf rfl rfl) rfl fun a hf => oW hf (g := 167) rfl rfl <| oR hf (pF hf rfl rfl) rfl fun a hf => oW hf (g := 158) rfl rfl <| oR hf (pT hf rfl rfl) rfl fun a hf => oR hf (pF hf rfl rfl) rfl fun a hf => oa hf rfl rfl fun a hf => oN <| ct ?_
                   have ho := oI hp
                   subst ho
                   exact ⟨false, rfl, hw, hf.to ⟨rfl, rfl, rfl, rfl, rfl, trivial⟩⟩
                ·replace hp := cond_f hb14024 hp
                 refine oQ hf (g := 167) rfl fun a hf => oQ hf (g := 167) rfl fun a hf => oQ hf (g := 167) rfl fun a hf => o_skipU hf (g := 170) rfl rfl rfl rfl rfl fun a hf => o_skipU hf (g := 170) rfl rfl rfl rfl rfl fun a hf => o_skipU hf (g := 170) rfl rfl rfl rfl rfl fun a hf => o_skipU hf (g := 173) rfl rfl rfl rfl rfl fun a hf => o_skipU hf (g := 173) rfl rfl rfl rfl rfl fun a hf => o_skipU hf (g := 170) rfl rfl rfl rfl rfl fun a hf => oQ hf (g := 167) rfl fun a hf => oW hf (g := 158) rfl rfl <| oR hf (pF hf rfl rfl) rfl fun a hf => oR hf (pF hf rfl rfl) rfl fun a hf => oa hf rfl rfl fun a hf => oN <| ct ?_
                 have ho := oI hp
                 subst ho
                 exact ⟨false, rfl, hw, hf.to ⟨rfl, rfl, rfl, rfl, rfl, trivial⟩⟩
               ·replace hp := cond_f hb14023 hp
                refine oQ hf (g := 162) rfl fun a hf => oQ hf (g := 162) rfl fun a hf => oQ hf (g := 162) rfl fun a hf => oW hf (g := 158) rfl rfl <| oR hf (pF hf rfl rfl) rfl fun a hf => oW hf (g := 158) rfl rfl <| om hf rfl rfl fun a hf => oQ hf (g := 167) rfl fun a hf => oQ hf (g := 167) rfl fun a hf => oQ hf (g := 167) rfl fun a hf => o_skipU hf (g := 170) rfl rfl rfl rfl rfl fun a hf => o_skipU hf (g := 170) rfl rfl rfl rfl rfl fun a hf => o_skipU hf (g := 170) rfl rfl rfl rfl rfl fun a hf => o_skipU hf (g := 173) rfl rfl rfl rfl rfl fun a hf => o_skipU hf (g := 173) rfl rfl rfl rfl rfl fun a hf => o_skipU hf (g := 170) rfl rfl rfl rfl rfl fun a hf => ?_
                refine oQ hf (g := 167) rfl fun a hf => oW hf (g := 158) rfl rfl <| oR hf (pF hf rfl rfl) rfl fun a hf => oR hf (pF hf rfl rfl) rfl fun a hf => oa hf rfl rfl fun a hf => oN <| ct ?_
                have ho := oI hp
                subst ho
                exact ⟨false, rfl, hw, hf.to ⟨rfl, rfl, rfl, rfl, rfl, trivial⟩⟩
             ·replace hp := cond_f hb14021 hp
              refine oQ hf (g := 152) rfl fun a hf => oQ hf (g := 152) rfl fun a hf => oQ hf (g := 152) rfl fun a hf => oW hf (g := 133) rfl rfl <| oR hf (pF hf rfl rfl) rfl fun a hf => oR hf (pF hf rfl rfl) rfl fun a hf => om hf rfl rfl fun a hf => oW hf (g := 158) rfl rfl <| oR hf (rF hf rfl fd_70_0) rfl fun a hf => oW hf (g := 158) rfl rfl <| oR hf (rL hw hf rfl ty_3 0 rfl rfl) rfl fun a hf => oW hf (g := 158) rfl rfl <| oR hf (iC hf rfl rfl rfl) rfl fun a hf => oW hf (g := 158) rfl rfl <| om hf rfl rfl fun a hf => g_split hf (g := 162) rfl (fun hb14027 hf => ?_) (fun hb14027 hf => ?_)
              ·replace hp := cond_t hb14027 hp
               refine oW hf (g := 162) rfl rfl <| oR hf (rF hf rfl fd_70_1) rfl fun a hf => oW hf (g := 162) rfl rfl <| oR hf (rL hw hf rfl ty_9 0 rfl rfl) rfl fun a hf => oW hf (g := 162) rfl rfl <| oR hf (r_scmp hf rfl rfl rfl) rfl fun a hf => oW hf (g := 158) rfl rfl <| oR hf (pT hf rfl rfl) rfl fun a hf => oW hf (g := 158) rfl rfl <| om hf rfl rfl fun a hf => g_split hf (g := 167) rfl (fun hb14028 hf => ?_) (fun hb14028 hf => ?_)
               ·replace hp := cond_t hb14028 hp
                refine oW hf (g := 167) rfl rfl <| om hf rfl rfl fun a hf => oW hf (g := 167) rfl rfl <| oR hf (iC hf rfl rfl rfl) rfl fun a hf => oW hf (g := 167) rfl rfl <| om hf rfl rfl fun a hf => g_split hf (g := 170) rfl (fun hb14029 hf => ?_) (fun hb14029 hf => ?_)
                ·replace hp := cond_t hb14029 hp
                 refine oQ hf (g := 170) rfl fun a hf => oQ hf (g := 170) rfl fun a hf => oQ hf (g := 170) rfl fun a hf => o_skipU hf (g := 173) rfl rfl rfl rfl rfl fun a hf => o_skipU hf (g := 173) rfl rfl rfl rfl rfl fun a hf => oQ hf (g := 170) rfl fun a hf => oW hf (g := 167) rfl rfl <| oR hf (pT hf rfl rfl) rfl fun a hf => oW hf (g := 158) rfl rfl <| oR hf (pT hf rfl rfl) rfl fun a hf => oR hf (pF hf rfl rfl) rfl fun a hf => oa hf rfl rfl fun a hf => oN <| ct ?_
                 have ho := oI hp
                 subst ho
                 exact ⟨true, rfl, hw, hf.to ⟨rfl, rfl, rfl, rfl, rfl, trivial⟩⟩
                ·replace hp := cond_f hb14029 hp
                 refine oW hf (g := 170) rfl rfl <| om hf rfl rfl fun a hf => oW hf (g := 170) rfl rfl <| oR hf (iC hf rfl rfl rfl) rfl fun a hf => oW hf (g := 170) rfl rfl <| om hf rfl rfl fun a hf => g_split hf (g := 173) rfl (fun hb14030 hf => ?_) (fun hb14030 hf => ?_)
                 ·replace hp := cond_t hb14030 hp
                  refine oW hf (g := 173) rfl rfl <| oR hf (rF hf rfl fd_70_2) rfl fun a hf => oW hf (g := 173) rfl rfl <| oR hf (rL hw hf rfl ty_4 0 rfl rfl) rfl fun a hf => oW hf (g := 170) rfl rfl <| oR hf (pT hf rfl rfl) rfl fun a hf => oW hf (g := 167) rfl rfl <| oR hf (pF hf rfl rfl) rfl fun a hf => oW hf (g := 158) rfl rfl <| oR hf (pT hf rfl rfl) rfl fun a hf => oR hf (pF hf rfl rfl) rfl fun a hf => oa hf rfl rfl fun a hf => oN <| ct ?_
                  have ho := oI hp
                  subst ho
                  exact ⟨((gt y202 y7027).has_), rfl, hw, hf.to ⟨rfl, rfl, rfl, rfl, rfl, trivial⟩⟩
                 ·replace hp := cond_f hb14030 hp
                  refine oQ hf (g := 173) rfl fun a hf => oQ hf (g := 173) rfl fun a hf => oW hf (g := 170) rfl rfl <| oR hf (pF hf rfl rfl) rfl fun a hf => oW hf (g := 167) rfl rfl <| oR hf (pF hf rfl rfl) rfl fun a hf => oW hf (g := 158) rfl rfl <| oR hf (pT hf rfl rfl) rfl fun a hf => oR hf (pF hf rfl rfl) rfl fun a hf => oa hf rfl rfl fun a hf => oN <| ct ?_
                  have ho := oI hp
                  subst ho
                  exact ⟨false, rfl, hw, hf.to ⟨rfl, rfl, rfl, rfl, rfl, trivial⟩⟩
               ·replace hp := cond_f hb14028 hp
                refine oQ hf (g := 167) rfl fun a hf => oQ hf (g := 167) rfl fun a hf => oQ hf (g := 167) rfl fun a hf => o_skipU hf (g := 170) rfl rfl rfl rfl rfl fun a hf => o_skipU hf (g := 170) rfl rfl rfl rfl rfl fun a hf => o_skipU hf (g := 170) rfl rfl rfl rfl rfl fun a hf => o_skipU hf (g := 173) rfl rfl rfl rfl rfl fun a hf => o_skipU hf (g := 173) rfl rfl rfl rfl rfl fun a hf => o_skipU hf (g := 170) rfl rfl rfl rfl rfl fun a hf => oQ hf (g := 167) rfl fun a hf => oW hf (g := 158) rfl rfl <| oR hf (pF hf rfl rfl) rfl fun a hf => oR hf (pF hf rfl rfl) rfl fun a hf => oa hf rfl rfl fun a hf => oN <| ct ?_
                have ho := oI hp
                subst ho
                exact ⟨false, rfl, hw, hf.to ⟨rfl, rfl, rfl, rfl, rfl, trivial⟩⟩
              ·replace hp := cond_f hb14027 hp
               refine oQ hf (g := 162) rfl fun a hf => oQ hf (g := 162) rfl fun a hf => oQ hf (g := 162) rfl fun a hf => oW hf (g := 158) rfl rfl <| oR hf (pF hf rfl rfl) rfl fun a hf => oW hf (g := 158) rfl rfl <| om hf rfl rfl fun a hf => oQ hf (g := 167) rfl fun a hf => oQ hf (g := 167) rfl fun a hf => oQ hf (g := 167) rfl fun a hf => o_skipU hf (g := 170) rfl rfl rfl rfl rfl fun a hf => o_skipU hf (g := 170) rfl rfl rfl rfl rfl fun a hf => o_skipU hf (g := 170) rfl rfl rfl rfl rfl fun a hf => o_skipU hf (g := 173) rfl rfl rfl rfl rfl fun a hf => o_skipU hf (g := 173) rfl rfl rfl rfl rfl fun a hf => o_skipU hf (g := 170) rfl rfl rfl rfl rfl fun a hf => ?_
               refine oQ hf (g := 167) rfl fun a hf => oW hf (g := 158) rfl rfl <| oR hf (pF hf rfl rfl) rfl fun a hf => oR hf (pF hf rfl rfl) rfl fun a hf => oa hf rfl rfl fun a hf => oN <| ct ?_
               have ho := oI hp
               subst ho
               exact ⟨false, rfl, hw, hf.to ⟨rfl, rfl, rfl, rfl, rfl, trivial⟩⟩
            ·replace hp := cond_f hb14020 hp
             refine oQ hf (g := 147) rfl fun a hf => oQ hf (g := 147) rfl fun a hf => oQ hf (g := 147) rfl fun a hf => oW hf (g := 133) rfl rfl <| oR hf (pF hf rfl rfl) rfl fun a hf => oW hf (g := 133) rfl rfl <| om hf rfl rfl fun a hf => oQ hf (g := 152) rfl fun a hf => oQ hf (g := 152) rfl fun a hf => oQ hf (g := 152) rfl fun a hf => oW hf (g := 133) rfl rfl <| oR hf (pF hf rfl rfl) rfl fun a hf => oR hf (pF hf rfl rfl) rfl fun a hf => om hf rfl rfl fun a hf => oW hf (g := 158) rfl rfl <| oR hf (rF hf rfl fd_70_0) rfl fun a hf => ?_
             refine oW hf (g := 158) rfl rfl <| oR hf (rL hw hf rfl ty_3 0 rfl rfl) rfl fun a hf => oW hf (g := 158) rfl rfl <| oR hf (iC hf rfl rfl rfl) rfl fun a hf => oW hf (g := 158) rfl rfl <| om hf rfl rfl fun a hf => g_split hf (g := 162) rfl (fun hb14031 hf => ?_) (fun hb14031 hf => ?_)
             ·replace hp := cond_t hb14031 hp
              refine oW hf (g := 162) rfl rfl <| oR hf (rF hf rfl fd_70_1) rfl fun a hf => oW hf (g := 162) rfl rfl <| oR hf (rL hw hf rfl ty_9 0 rfl rfl) rfl fun a hf => oW hf (g := 162) rfl rfl <| oR hf (r_scmp hf rfl rfl rfl) rfl fun a hf => oW hf (g := 158) rfl rfl <| oR hf (pT hf rfl rfl) rfl fun a hf => oW hf (g := 158) rfl rfl <| om hf rfl rfl fun a hf => g_split hf (g := 167) rfl (fun hb14032 hf => ?_) (fun hb14032 hf => ?_)
              ·replace hp := cond_t hb14032 hp
               refine oW hf (g := 167) rfl rfl <| om hf rfl rfl fun a hf => oW hf (g := 167) rfl rfl <| oR hf (iC hf rfl rfl rfl) rfl fun a hf => oW hf (g := 167) rfl rfl <| om hf rfl rfl fun a hf => g_split hf (g := 170) rfl (fun hb14033 hf => ?_) (fun hb14033 hf => ?_)
               ·replace hp := cond_t hb14033 hp
                refine oQ hf (g := 170) rfl fun a hf => oQ hf (g := 170) rfl fun a hf => oQ hf (g := 170) rfl fun a hf => o_skipU hf (g := 173) rfl rfl rfl rfl rfl fun a hf => o_skipU hf (g := 173) rfl rfl rfl rfl rfl fun a hf => oQ hf (g := 170) rfl fun a hf => oW hf (g := 167) rfl rfl <| oR hf (pT hf rfl rfl) rfl fun a hf => oW hf (g := 158) rfl rfl <| oR hf (pT hf rfl rfl) rfl fun a hf => oR hf (pF hf rfl rfl) rfl fun a hf => oa hf rfl rfl fun a hf => oN <| ct ?_
                have ho := oI hp
                subst ho
                exact ⟨true, rfl, hw, hf.to ⟨rfl, rfl, rfl, rfl, rfl, trivial⟩⟩
               ·replace hp := cond_f hb14033 hp
                refine oW hf (g := 170) rfl rfl <| om hf rfl rfl fun a hf => oW hf (g := 170) rfl rfl <| oR hf (iC hf rfl rfl rfl) rfl fun a hf => oW hf (g := 170) rfl rfl <| om hf rfl rfl fun a hf => g_split hf (g := 173) rfl (fun hb14034 hf => ?_) (fun hb14034 hf => ?_)
                ·replace hp := cond_t hb14034 hp
                 refine oW hf (g := 173) rfl rfl <| oR hf (rF hf rfl fd_70_2) rfl fun a hf => oW hf (g := 173) rfl rfl <| oR hf (rL hw hf rfl ty_4 0 rfl rfl) rfl fun a hf => oW hf (g := 170) rfl rfl <| oR hf (pT hf rfl rfl) rfl fun a hf => oW hf (g := 167) rfl rfl <| oR hf (pF hf rfl rfl) rfl fun a hf => oW hf (g := 158) rfl rfl <| oR hf (pT hf rfl rfl) rfl fun a hf => oR hf (pF hf rfl rfl) rfl fun a hf => oa hf rfl rfl fun a hf => oN <| ct ?_
                 have ho := oI hp
                 subst ho
                 exact ⟨((gt y202 y7027).has_), rfl, hw, hf.to ⟨rfl, rfl, rfl, rfl, rfl, trivial⟩⟩
                ·replace hp := cond_f hb14034 hp
                 refine oQ hf (g := 173) rfl fun a hf => oQ hf (g := 173) rfl fun a hf => oW hf (g := 170) rfl rfl <| oR hf (pF hf rfl rfl) rfl fun a hf => oW hf (g := 167) rfl rfl <| oR hf (pF hf rfl rfl) rfl fun a hf => oW hf (g := 158) rfl rfl <| oR hf (pT hf rfl rfl) rfl fun a hf => oR hf (pF hf rfl rfl) rfl fun a hf => oa hf rfl rfl fun a hf => oN <| ct ?_
                 have ho := oI hp
                 subst ho
                 exact ⟨false, rfl, hw, hf.to ⟨rfl, rfl, rfl, rfl, rfl, trivial⟩⟩
              ·replace hp := cond_f hb14032 hp
               refine oQ hf (g := 167) rfl fun a hf => oQ hf (g := 167) rfl fun a hf => oQ hf (g := 167) rfl fun a hf => o_skipU hf (g := 170) rfl rfl rfl rfl rfl fun a hf => o_skipU hf (g := 170) rfl rfl rfl rfl rfl fun a hf => o_skipU hf (g := 170) rfl rfl rfl rfl rfl fun a hf => o_skipU hf (g := 173) rfl rfl rfl rfl rfl fun a hf => o_skipU hf (g := 173) rfl rfl rfl rfl rfl fun a hf => o_skipU hf (g := 170) rfl rfl rfl rfl rfl fun a hf => oQ hf (g := 167) rfl fun a hf => oW hf (g := 158) rfl rfl <| oR hf (pF hf rfl rfl) rfl fun a hf => oR hf (pF hf rfl rfl) rfl fun a hf => oa hf rfl rfl fun a hf => oN <| ct ?_
               have ho := oI hp
               subst ho
               exact ⟨false, rfl, hw, hf.to ⟨rfl, rfl, rfl, rfl, rfl, trivial⟩⟩
             ·replace hp := cond_f hb14031 hp
              refine oQ hf (g := 162) rfl fun a hf => oQ hf (g := 162) rfl fun a hf => oQ hf (g := 162) rfl fun a hf => oW hf (g := 158) rfl rfl <| oR hf (pF hf rfl rfl) rfl fun a hf => oW hf (g := 158) rfl rfl <| om hf rfl rfl fun a hf => oQ hf (g := 167) rfl fun a hf => oQ hf (g := 167) rfl fun a hf => oQ hf (g := 167) rfl fun a hf => o_skipU hf (g := 170) rfl rfl rfl rfl rfl fun a hf => o_skipU hf (g := 170) rfl rfl rfl rfl rfl fun a hf => o_skipU hf (g := 170) rfl rfl rfl rfl rfl fun a hf => o_skipU hf (g := 173) rfl rfl rfl rfl rfl fun a hf => o_skipU hf (g := 173) rfl rfl rfl rfl rfl fun a hf => o_skipU hf (g := 170) rfl rfl rfl rfl rfl fun a hf => ?_
              refine oQ hf (g := 167) rfl fun a hf => oW hf (g := 158) rfl rfl <| oR hf (pF hf rfl rfl) rfl fun a hf => oR hf (pF hf rfl rfl) rfl fun a hf => oa hf rfl rfl fun a hf => oN <| ct ?_
              have ho := oI hp
              subst ho
              exact ⟨false, rfl, hw, hf.to ⟨rfl, rfl, rfl, rfl, rfl, trivial⟩⟩
           ·replace hp := cond_f hb14018 hp
            refine oQ hf (g := 141) rfl fun a hf => oQ hf (g := 141) rfl fun a hf => oQ hf (g := 141) rfl fun a hf => oQ hf (g := 141) rfl fun a hf => oW hf (g := 133) rfl rfl <| oR hf (pF hf rfl rfl) rfl fun a hf => oW hf (g := 133) rfl rfl <| om hf rfl rfl fun a hf => oQ hf (g := 147) rfl fun a hf => oQ hf (g := 147) rfl fun a hf => oQ hf (g := 147) rfl fun a hf => oW hf (g := 133) rfl rfl <| oR hf (pF hf rfl rfl) rfl fun a hf => oW hf (g := 133) rfl rfl <| om hf rfl rfl fun a hf => oQ hf (g := 152) rfl fun a hf => ?_
            refine oQ hf (g := 152) rfl fun a hf => oQ hf (g := 152) rfl fun a hf => oW hf (g := 133) rfl rfl <| oR hf (pF hf rfl rfl) rfl fun a hf => oR hf (pF hf rfl rfl) rfl fun a hf => om hf rfl rfl fun a hf => oW hf (g := 158) rfl rfl <| oR hf (rF hf rfl fd_70_0) rfl fun a hf => oW hf (g := 158) rfl rfl <| oR hf (rL hw hf rfl ty_3 0 rfl rfl) rfl fun a hf => oW hf (g := 158) rfl rfl <| oR hf (iC hf rfl rfl rfl) rfl fun a hf => oW hf (g := 158) rfl rfl <| om hf rfl rfl fun a hf => g_split hf (g := 162) rfl (fun hb14035 hf => ?_) (fun hb14035 hf => ?_)
            ·replace hp := cond_t hb14035 hp
             refine oW hf (g := 162) rfl rfl <| oR hf (rF hf rfl fd_70_1) rfl fun a hf => oW hf (g := 162) rfl rfl <| oR hf (rL hw hf rfl ty_9 0 rfl rfl) rfl fun a hf => oW hf (g := 162) rfl rfl <| oR hf (r_scmp hf rfl rfl rfl) rfl fun a hf => oW hf (g := 158) rfl rfl <| oR hf (pT hf rfl rfl) rfl fun a hf => oW hf (g := 158) rfl rfl <| om hf rfl rfl fun a hf => g_split hf (g := 167) rfl (fun hb14036 hf => ?_) (fun hb14036 hf => ?_)
             ·replace hp := cond_t hb14036 hp
              refine oW hf (g := 167) rfl rfl <| om hf rfl rfl fun a hf => oW hf (g := 167) rfl rfl <| oR hf (iC hf rfl rfl rfl) rfl fun a hf => oW hf (g := 167) rfl rfl <| om hf rfl rfl fun a hf => g_split hf (g := 170) rfl (fun hb14037 hf => ?_) (fun hb14037 hf => ?_)
              ·replace hp := cond_t hb14037 hp
               refine oQ hf (g := 170) rfl fun a hf => oQ hf (g := 170) rfl fun a hf => oQ hf (g := 170) rfl fun a hf => o_skipU hf (g := 173) rfl rfl rfl rfl rfl fun a hf => o_skipU hf (g := 173) rfl rfl rfl rfl rfl fun a hf => oQ hf (g := 170) rfl fun a hf => oW hf (g := 167) rfl rfl <| oR hf (pT hf rfl rfl) rfl fun a hf => oW hf (g := 158) rfl rfl <| oR hf (pT hf rfl rfl) rfl fun a hf => oR hf (pF hf rfl rfl) rfl fun a hf => oa hf rfl rfl fun a hf => oN <| ct ?_
               have ho := oI hp
               subst ho
               exact ⟨true, rfl, hw, hf.to ⟨rfl, rfl, rfl, rfl, rfl, trivial⟩⟩
              ·replace hp := cond_f hb14037 hp
               refine oW hf (g := 170) rfl rfl <| om hf rfl rfl fun a hf => oW hf (g := 170) rfl rfl <| oR hf (iC hf rfl rfl rfl) rfl fun a hf => oW hf (g := 170) rfl rfl <| om hf rfl rfl fun a hf => g_split hf (g := 173) rfl (fun hb14038 hf => ?_) (fun hb14038 hf => ?_)
               ·replace hp := cond_t hb14038 hp
                refine oW hf (g := 173) rfl rfl <| oR hf (rF hf rfl fd_70_2) rfl fun a hf => oW hf (g := 173) rfl rfl <| oR hf (rL hw hf rfl ty_4 0 rfl rfl) rfl fun a hf => oW hf (g := 170) rfl rfl <| oR hf (pT hf rfl rfl) rfl fun a hf => oW hf (g := 167) rfl rfl <| oR hf (pF hf rfl rfl) rfl fun a hf => oW hf (g := 158) rfl rfl <| oR hf (pT hf rfl rfl) rfl fun a hf => oR hf (pF hf rfl rfl) rfl fun a hf => oa hf rfl rfl fun a hf => oN <| ct ?_
                have ho := oI hp
                subst ho
                exact ⟨((gt y202 y7027).has_), rfl, hw, hf.to ⟨rfl, rfl, rfl, rfl, rfl, trivial⟩⟩
               ·replace hp := cond_f hb14038 hp
                refine oQ hf (g := 173) rfl fun a hf => oQ hf (g := 173) rfl fun a hf => oW hf (g := 170) rfl rfl <| oR hf (pF hf rfl rfl) rfl fun a hf => oW hf (g := 167) rfl rfl <| oR hf (pF hf rfl rfl) rfl fun a hf => oW hf (g := 158) rfl rfl <| oR hf (pT hf rfl rfl) rfl fun a hf => oR hf (pF hf rfl rfl) rfl fun a hf => oa hf rfl rfl fun a hf => oN <| ct ?_
                have ho := oI hp
                subst ho
                exact ⟨false, rfl, hw, hf.to ⟨rfl, rfl, rfl, rfl, rfl, trivial⟩⟩
             ·replace hp := cond_f hb14036 hp
              refine oQ hf (g := 167) rfl fun a hf => oQ hf (g := 167) rfl fun a hf => oQ hf (g := 167) rfl fun a hf => o_skipU hf (g := 170) rfl rfl rfl rfl rfl fun a hf => o_skipU hf (g := 170) rfl rfl rfl rfl rfl fun a hf => o_skipU hf (g := 170) rfl rfl rfl rfl rfl fun a hf => o_skipU hf (g := 173) rfl rfl rfl rfl rfl fun a hf => o_skipU hf (g := 173) rfl rfl rfl rfl rfl fun a hf => o_skipU hf (g := 170) rfl rfl rfl rfl rfl fun a hf => oQ hf (g := 167) rfl fun a hf => oW hf (g := 158) rfl rfl <| oR hf (pF hf rfl rfl) rfl fun a hf => oR hf (pF hf rfl rfl) rfl fun a hf => oa hf rfl rfl fun a hf => oN <| ct ?_
              have ho := oI hp
              subst ho
              exact ⟨false, rfl, hw, hf.to ⟨rfl, rfl, rfl, rfl, rfl, trivial⟩⟩
            ·replace hp := cond_f hb14035 hp
             refine oQ hf (g := 162) rfl fun a hf => oQ hf (g := 162) rfl fun a hf => oQ hf (g := 162) rfl fun a hf => oW hf (g := 158) rfl rfl <| oR hf (pF hf rfl rfl) rfl fun a hf => oW hf (g := 158) rfl rfl <| om hf rfl rfl fun a hf => oQ hf (g := 167) rfl fun a hf => oQ hf (g := 167) rfl fun a hf => oQ hf (g := 167) rfl fun a hf => o_skipU hf (g := 170) rfl rfl rfl rfl rfl fun a hf => o_skipU hf (g := 170) rfl rfl rfl rfl rfl fun a hf => o_skipU hf (g := 170) rfl rfl rfl rfl rfl fun a hf => o_skipU hf (g := 173) rfl rfl rfl rfl rfl fun a hf => o_skipU hf (g := 173) rfl rfl rfl rfl rfl fun a hf => o_skipU hf (g := 170) rfl rfl rfl rfl rfl fun a hf => ?_
             refine oQ hf (g := 167) rfl fun a hf => oW hf (g := 158) rfl rfl <| oR hf (pF hf rfl rfl) rfl fun a hf => oR hf (pF hf rfl rfl) rfl fun a hf => oa hf rfl rfl fun a hf => oN <| ct ?_
             have ho := oI hp
             subst ho
             exact ⟨false, rfl, hw, hf.to ⟨rfl, rfl, rfl, rfl, rfl, trivial⟩⟩
          ·replace hp := cond_f hb14017 hp
           refine oQ hf (g := 137) rfl fun a hf => oQ hf (g := 137) rfl fun a hf => oW hf (g := 133) rfl rfl <| oR hf (pF hf rfl rfl) rfl fun a hf => oW hf (g := 133) rfl rfl <| om hf rfl rfl fun a hf => oQ hf (g := 141) rfl fun a hf => oQ hf (g := 141) rfl fun a hf => oQ hf (g := 141) rfl fun a hf => oQ hf (g := 141) rfl fun a hf => oW hf (g := 133) rfl rfl <| oR hf (pF hf rfl rfl) rfl fun a hf => oW hf (g := 133) rfl rfl <| om hf rfl rfl fun a hf => oQ hf (g := 147) rfl fun a hf => oQ hf (g := 147) rfl fun a hf => ?_
           refine oQ hf (g := 147) rfl fun a hf => oW hf (g := 133) rfl rfl <| oR hf (pF hf rfl rfl) rfl fun a hf => oW hf (g := 133) rfl rfl <| om hf rfl rfl fun a hf => oQ hf (g := 152) rfl fun a hf => oQ hf (g := 152) rfl fun a hf => oQ hf (g := 152) rfl fun a hf => oW hf (g := 133) rfl rfl <| oR hf (pF hf rfl rfl) rfl fun a hf => oR hf (pF hf rfl rfl) rfl fun a hf => om hf rfl rfl fun a hf => oW hf (g := 158) rfl rfl <| oR hf (rF hf rfl fd_70_0) rfl fun a hf => oW hf (g := 158) rfl rfl <| oR hf (rL hw hf rfl ty_3 0 rfl rfl) rfl fun a hf => ?_
           refine oW hf (g := 158) rfl rfl <| oR hf (iC hf rfl rfl rfl) rfl fun a hf => oW hf (g := 158) rfl rfl <| om hf rfl rfl fun a hf => g_split hf (g := 162) rfl (fun hb14039 hf => ?_) (fun hb14039 hf => ?_)
           ·replace hp := cond_t hb14039 hp
            refine oW hf (g := 162) rfl rfl <| oR hf (rF hf rfl fd_70_1) rfl fun a hf => oW hf (g := 162) rfl rfl <| oR hf (rL hw hf rfl ty_9 0 rfl rfl) rfl fun a hf => oW hf (g := 162) rfl rfl <| oR hf (r_scmp hf rfl rfl rfl) rfl fun a hf => oW hf (g := 158) rfl rfl <| oR hf (pT hf rfl rfl) rfl fun a hf => oW hf (g := 158) rfl rfl <| om hf rfl rfl fun a hf => g_split hf (g := 167) rfl (fun hb14040 hf => ?_) (fun hb14040 hf => ?_)
            ·replace hp := cond_t hb14040 hp
             refine oW hf (g := 167) rfl rfl <| om hf rfl rfl fun a hf => oW hf (g := 167) rfl rfl <| oR hf (iC hf rfl rfl rfl) rfl fun a hf => oW hf (g := 167) rfl rfl <| om hf rfl rfl fun a hf => g_split hf (g := 170) rfl (fun hb14041 hf => ?_) (fun hb14041 hf => ?_)
             ·replace hp := cond_t hb14041 hp
              refine oQ hf (g := 170) rfl fun a hf => oQ hf (g := 170) rfl fun a hf => oQ hf (g := 170) rfl fun a hf => o_skipU hf (g := 173) rfl rfl rfl rfl rfl fun a hf => o_skipU hf (g := 173) rfl rfl rfl rfl rfl fun a hf => oQ hf (g := 170) rfl fun a hf => oW hf (g := 167) rfl rfl <| oR hf (pT hf rfl rfl) rfl fun a hf => oW hf (g := 158) rfl rfl <| oR hf (pT hf rfl rfl) rfl fun a hf => oR hf (pF hf rfl rfl) rfl fun a hf => oa hf rfl rfl fun a hf => oN <| ct ?_
              have ho := oI hp
              subst ho
              exact ⟨true, rfl, hw, hf.to ⟨rfl, rfl, rfl, rfl, rfl, trivial⟩⟩
             ·replace hp := cond_f hb14041 hp
              refine oW hf (g := 170) rfl rfl <| om hf rfl rfl fun a hf => oW hf (g := 170) rfl rfl <| oR hf (iC hf rfl rfl rfl) rfl fun a hf => oW hf (g := 170) rfl rfl <| om hf rfl rfl fun a hf => g_split hf (g := 173) rfl (fun hb14042 hf => ?_) (fun hb14042 hf => ?_)
              ·replace hp := cond_t hb14042 hp
               refine oW hf (g := 173) rfl rfl <| oR hf (rF hf rfl fd_70_2) rfl fun a hf => oW hf (g := 173) rfl rfl <| oR hf (rL hw hf rfl ty_4 0 rfl rfl) rfl fun a hf => oW hf (g := 170) rfl rfl <| oR hf (pT hf rfl rfl) rfl fun a hf => oW hf (g := 167) rfl rfl <| oR hf (pF hf rfl rfl) rfl fun a hf => oW hf (g := 158) rfl rfl <| oR hf (pT hf rfl rfl) rfl fun a hf => oR hf (pF hf rfl rfl) rfl fun a hf => oa hf rfl rfl fun a hf => oN <| ct ?_
               have ho := oI hp
               subst ho
               exact ⟨((gt y202 y7027).has_), rfl, hw, hf.to ⟨rfl, rfl, rfl, rfl, rfl, trivial⟩⟩
              ·replace hp := cond_f hb14042 hp
               refine oQ hf (g := 173) rfl fun a hf => oQ hf (g := 173) rfl fun a hf => oW hf (g := 170) rfl rfl <| oR hf (pF hf rfl rfl) rfl fun a hf => oW hf (g := 167) rfl rfl <| oR hf (pF hf rfl rfl) rfl fun a hf => oW hf (g := 158) rfl rfl <| oR hf (pT hf rfl rfl) rfl fun a hf => oR hf (pF hf rfl rfl) rfl fun a hf => oa hf rfl rfl fun a hf => oN <| ct ?_
               have ho := oI hp
               subst ho
               exact ⟨false, rfl, hw, hf.to ⟨rfl, rfl, rfl, rfl, rfl, trivial⟩⟩
            ·replace hp := cond_f hb14040 hp
             refine oQ hf (g := 167) rfl fun a hf => oQ hf (g := 167) rfl fun a hf => oQ hf (g := 167) rfl fun a hf => o_skipU hf (g := 170) rfl rfl rfl rfl rfl fun a hf => o_skipU hf (g := 170) rfl rfl rfl rfl rfl fun a hf => o_skipU hf (g := 170) rfl rfl rfl rfl rfl fun a hf => o_skipU hf (g := 173) rfl rfl rfl rfl rfl fun a hf => o_skipU hf (g := 173) rfl rfl rfl rfl rfl fun a hf => o_skipU hf (g := 170) rfl rfl rfl rfl rfl fun a hf => oQ hf (g := 167) rfl fun a hf => oW hf (g := 158) rfl rfl <| oR hf (pF hf rfl rfl) rfl fun a hf => oR hf (pF hf rfl rfl) rfl fun a hf => oa hf rfl rfl fun a hf => oN <| ct ?_
             have ho := oI hp
             subst ho
             exact ⟨false, rfl, hw, hf.to ⟨rfl, rfl, rfl, rfl, rfl, trivial⟩⟩
           ·replace hp := cond_f hb14039 hp
            refine oQ hf (g := 162) rfl fun a hf => oQ hf (g := 162) rfl fun a hf => oQ hf (g := 162) rfl fun a hf => oW hf (g := 158) rfl rfl <| oR hf (pF hf rfl rfl) rfl fun a hf => oW hf (g := 158) rfl rfl <| om hf rfl rfl fun a hf => oQ hf (g := 167) rfl fun a hf => oQ hf (g := 167) rfl fun a hf => oQ hf (g := 167) rfl fun a hf => o_skipU hf (g := 170) rfl rfl rfl rfl rfl fun a hf => o_skipU hf (g := 170) rfl rfl rfl rfl rfl fun a hf => o_skipU hf (g := 170) rfl rfl rfl rfl rfl fun a hf => o_skipU hf (g := 173) rfl rfl rfl rfl rfl fun a hf => o_skipU hf (g := 173) rfl rfl rfl rfl rfl fun a hf => o_skipU hf (g := 170) rfl rfl rfl rfl rfl fun a hf => ?_
            refine oQ hf (g := 167) rfl fun a hf => oW hf (g := 158) rfl rfl <| oR hf (pF hf rfl rfl) rfl fun a hf => oR hf (pF hf rfl rfl) rfl fun a hf => oa hf rfl rfl fun a hf => oN <| ct ?_
            have ho := oI hp
            subst ho
            exact ⟨false, rfl, hw, hf.to ⟨rfl, rfl, rfl, rfl, rfl, trivial⟩⟩
        ·intro a w hM
         obtain ⟨y13959, rfl, hw, hf⟩ := hM
         replace hp := hq13961
         obtain ⟨out14048, hp, hq14049⟩ := bS hp
         refine c_cut (fun a w => ∃ y14047 : Bool, y14047 = out14048 ∧ Ok E I2_259 (.blk b13793 (.cells ⟨.int .i64 ((gt y202 y7027).kind_) :: .string ((gt y202 y7027).path_) :: .bool ((gt y202 y7027).has_) :: .string ((gt y202 y7027).value_) :: arrC .i64 ((gt y202 y7027).kids_)⟩ 70 (0, 0)) :: .row yv13416 3 1 m13417 cs13418 :: .row v237 5 1 1 cs240 :: F) w ∧ Fr 209 ([(5, rvv208), (11, yv13416), (12, .int .i64 y7027), (193, .bool y14047)]) a) ?_ ?_
         ·refine wr <| om hf rfl rfl fun a hf => oR hf (r_not hf rfl) rfl fun a hf => om hf rfl rfl fun a hf => g_split hf (g := 182) rfl (fun hb14050 hf => ?_) (fun hb14050 hf => ?_)
          ·replace hp := cond_t hb14050 hp
           refine oQ hf (g := 182) rfl fun a hf => oQ hf (g := 182) rfl fun a hf => oQ hf (g := 182) rfl fun a hf => oQ hf (g := 182) rfl fun a hf => oR hf (pT hf rfl rfl) rfl fun a hf => om hf rfl rfl fun a hf => oQ hf (g := 188) rfl fun a hf => oQ hf (g := 188) rfl fun a hf => oQ hf (g := 188) rfl fun a hf => oQ hf (g := 188) rfl fun a hf => oR hf (pT hf rfl rfl) rfl fun a hf => oN <| ct ?_
           have ho := oI hp
           subst ho
           exact ⟨true, rfl, hw, hf.to ⟨rfl, rfl, rfl, rfl, trivial⟩⟩
          ·replace hp := cond_f hb14050 hp
           refine oW hf (g := 182) rfl rfl <| oR hf (rF hf rfl fd_70_3) rfl fun a hf => oW hf (g := 182) rfl rfl <| oR hf (rL hw hf rfl ty_9 0 rfl rfl) rfl fun a hf => oW hf (g := 182) rfl rfl <| oR hf (r_lenS hf und_9 rfl) rfl fun a hf => oW hf (g := 182) rfl rfl <| oR hf (iC hf rfl rfl rfl) rfl fun a hf => oR hf (pF hf rfl rfl) rfl fun a hf => om hf rfl rfl fun a hf => g_split hf (g := 188) rfl (fun hb14051 hf => ?_) (fun hb14051 hf => ?_)
           ·replace hp := cond_t hb14051 hp
            refine oQ hf (g := 188) rfl fun a hf => oQ hf (g := 188) rfl fun a hf => oQ hf (g := 188) rfl fun a hf => oQ hf (g := 188) rfl fun a hf => oR hf (pT hf rfl rfl) rfl fun a hf => oN <| ct ?_
            have ho := oI hp
            subst ho
            exact ⟨true, rfl, hw, hf.to ⟨rfl, rfl, rfl, rfl, trivial⟩⟩
           ·replace hp := cond_f hb14051 hp
            refine oW hf (g := 188) rfl rfl <| oR hf (rF hf rfl fd_70_1) rfl fun a hf => oW hf (g := 188) rfl rfl <| oR hf (rL hw hf rfl ty_9 0 rfl rfl) rfl fun a hf => oW hf (g := 188) rfl rfl <| oR hf (r_lenS hf und_9 rfl) rfl fun a hf => oW hf (g := 188) rfl rfl <| oR hf (iC hf rfl rfl rfl) rfl fun a hf => oR hf (pF hf rfl rfl) rfl fun a hf => oN <| ct ?_
            have ho := oI hp
            subst ho
            exact ⟨(decide ((((gt y202 y7027).path_).size : Int) > 16)), rfl, hw, hf.to ⟨rfl, rfl, rfl, rfl, trivial⟩⟩
         ·intro a w hM
          obtain ⟨y14047, rfl, hw, hf⟩ := hM
          replace hp := hq14049
          refine cC hf rfl (fun hb14052 => ?_) (fun hb14052 => ?_)
          ·replace hp := cond_t hb14052 hp
           refine wq <| wr <| oa hf rfl rfl fun a hf => oN <| ct <| wp_ret <| c_blockR <| c_thenR <| c_thenR <| c_blockR <| c_thenR ?_
           have ho := oI hp
           subst ho
           replace hp := hq10543
           refine c_thenR ?_
           replace hw : Ok E I2_259 (F) w := hw.sub (sc (sc (sc sr)))
           have ho := oI hp
           subst ho
           exact b_ret1 hf results9 rfl ⟨_, rfl, ⟨rfl, (hw.back (IH.le_trans (IH.le_trans hle211 hle252) hle263) sr)⟩⟩
          ·replace hp := cond_f hb14052 hp
           refine wp_skip <| c_blockN <| ct <| wr <| om hf rfl rfl fun a hf => oR hf (r_add hf rfl rfl) rfl fun a hf => oa hf rfl rfl fun a hf => oN <| ct ?_
           replace hw : Ok E I2_259 (.row yv13416 3 1 m13417 cs13418 :: .row v237 5 1 1 cs240 :: F) w := hw.sub (sc (scc (scc sr)))
           exact ih (y13415, w64 (y7027 + 1)) _ _ ⟨yv13416, m13417, cs13418, hw, hf.to ⟨rfl, rfl, rfl, trivial⟩, hRR13419⟩ hp
      ·replace hp := cond_f hb10545 hp
       refine wp_exit <| c_thenE <| c_thenE <| c_exit <| ct ?_
       have ho := oI hp
       subst ho
       exact ⟨y7022, yv7023, m7024, cs7025, rfl, hw, hf.to ⟨rfl, trivial⟩, hRR7026⟩
     ·intro a w hM
      obtain ⟨y10537, yv10538, m10539, cs10540, rfl, hw, hf, hRR10541⟩ := hM
      replace hp := hq10543
      refine ct <| wq <| wq <| wr <| oa hf rfl rfl fun a hf => oN <| ct ?_
      obtain ⟨out14066, hp, hq14067⟩ := bS hp
      refine c_cutX (fun a w => (.inl ()) = out14066 ∧ Ok E I2_259 (.row yv10538 3 1 m10539 cs10540 :: .row v237 5 1 1 cs240 :: F) w ∧ Fr 209 ([]) a) ?_ ?_
      ·refine wp_block <| c_loop <| c_fuel (law20_SlotStrict.l2 y10537) out14066 (fun (y14062 : Int) a w => Ok E I2_259 (.row yv10538 3 1 m10539 cs10540 :: .row v237 5 1 1 cs240 :: F) w ∧ Fr 209 ([(11, yv10538), (18, .int .i64 y14062)]) a) (fun _ => rfl) ?_ BIG 0 _ _ ⟨hw, hf.to ⟨rfl, rfl, trivial⟩⟩ hp
       intro k y14062 a w hI hp ih
       obtain ⟨hw, hf⟩ := hI
       rw [law20_SlotStrict.l2] at hp
       refine wq <| wq <| wr <| om hf rfl rfl fun a hf => om hf rfl rfl fun a hf => oR hf (r_lenL (K := (ekI .i64)) hf el_24 rfl (rR (K := (ekI .i64)) hw (i := 0) rfl hRR10541)) rfl fun a hf => oR hf (iC hf rfl rfl rfl) rfl fun a hf => oN <| ct <| cC hf rfl (fun hb14069 => ?_) (fun hb14069 => ?_)
       ·replace hp := cond_t hb14069 hp
        refine wp_skip <| ct <| wq <| wp_block <| wq <| wr <| om hf rfl rfl fun a hf => om hf rfl rfl fun a hf => ?_
        obtain ⟨hg14070, hp⟩ := gS hp
        refine oR hf (rI (K := (ekI .i64)) hf el_24 rfl rfl (rR (K := (ekI .i64)) hw (i := 0) rfl hRR10541) hg14070) rfl fun a hf => oR hf (r_loadH (K := (ekI .i64)) hf rfl ty_3 (rR (K := (ekI .i64)) hw (i := 0) rfl hRR10541) hg14070 rfl (fun cs h => ekI_f0 h)) rfl fun a hf => oR hf (iC hf rfl rfl rfl) rfl fun a hf => om hf rfl rfl fun a hf => oR hf (iC hf rfl rfl rfl) rfl fun a hf => oR hf (r_bne hf und_4 rfl rfl) rfl fun a hf => oN <| ct <| cC hf rfl (fun hb14071 => ?_) (fun hb14071 => ?_)
        ·replace hp := cond_t hb14071 hp
         refine wq <| wr <| oa hf rfl rfl fun a hf => oN <| ct <| wp_ret <| c_blockR <| c_thenR <| c_thenR <| c_blockR <| c_thenR ?_
         have ho := oI hp
         subst ho
         replace hp := hq14067
         refine c_thenR ?_
         replace hw : Ok E I2_259 (F) w := hw.sub (sc (sc sr))
         have ho := oI hp
         subst ho
         exact b_ret1 hf results9 rfl ⟨_, rfl, ⟨rfl, (hw.back (IH.le_trans (IH.le_trans hle211 hle252) hle263) sr)⟩⟩
        ·replace hp := cond_f hb14071 hp
         refine wp_skip <| c_blockN <| ct <| wr <| om hf rfl rfl fun a hf => oR hf (r_add hf rfl rfl) rfl fun a hf => oa hf rfl rfl fun a hf => oN <| ct ?_
         exact ih (w64 (y14062 + 1)) _ _ ⟨hw, hf.to ⟨rfl, rfl, trivial⟩⟩ hp
       ·replace hp := cond_f hb14069 hp
        refine wp_exit <| c_thenE <| c_thenE <| c_exit <| ct ?_
        have ho := oI hp
        subst ho
        exact ⟨rfl, hw, hf.to trivial⟩
      ·intro a w hM
       obtain ⟨rfl, hw, hf⟩ := hM
       replace hp := hq14067
       refine ct <| wq <| wr ?_
       obtain ⟨y14073, hy14074, hp⟩ := bS hp
       have hc14076 := law20_wakes_ok hw hy14074
       refine o_call hf cb_26 rfl rfl hc14076 (fun v14078 w a hK14077 hf => ?_)
       obtain ⟨rfl, hw⟩ := hK14077
       refine oa hf rfl rfl fun a hf => oN <| ct <| wp_ret ?_
       replace hw : Ok E I2_259 (F) w := hw.sub (sc (sc sr))
       have ho := oI hp
       subst ho
       exact b_ret1 hf results9 rfl ⟨_, rfl, ⟨rfl, (hw.back (IH.le_trans (IH.le_trans hle211 hle252) hle263) sr)⟩⟩
end Go.Lf
