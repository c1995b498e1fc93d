import Derived.Test.YtckhmgglgbnaaaaGreatDoorZD
import Derived.Test.YtckhmgglgbnaaaaGreatDoorZF
import Derived.Test.YtckhmgglgbnaaaaGreatDoorJ
import Derived.Test.YtckhmgglgbnaaaaGreatDoorUB
set_option linter.unusedVariables false
set_option linter.unusedSimpArgs false
set_option maxHeartbeats 1000000
set_option maxRecDepth 20000
namespace Go.Lf
open Go Go.Proofs.Tryz
theorem ref04_primes_ok {E : World} {I : IH} {F : List Atom} {w : World} {a0 : Int} {res0 : List Int} (hw : Ok E I (F) w) (hG : Gl I) (hp : ref04_primes.f a0 = some res0) :
  Calls P 108 ⟨[Value.int .i64 a0]⟩ w fun e w' => ∃ v, e = .returned v ∧ ∃ I2 : IH, ∃ rvv171 : Value, v = rvv171 ∧ IH.le I I2 ∧ Ok E I2 (F) w' ∧ RS (ekI .u64) I2 rvv171 res0 := by
 refine c_enter func108 rfl ntmps108 rfl fun a hf => ?_
 replace hf : Fr 35 [(0, .int .i64 a0)] a := hf
 unfold ref04_primes.f at hp
 refine wq <| wr <| oa hf rfl rfl fun a hf => oN <| ct <| wq <| wr <| oa hf rfl rfl fun a hf => oN <| ct <| wq <| wq <| wr <| oa hf rfl rfl fun a hf => oN <| ct ?_
 replace hw := hw.nilrow 215 1
 have hRR127 : RowR (ekI .u64) I [] [] := RowR.nil
 obtain ⟨out934, hp, hq935⟩ := bS hp
 refine c_cutX (fun a w => ∃ y929 : List Int, ∃ yv930 : Value, ∃ m931 : Nat, ∃ cs932 : List Value, y929 = out934 ∧ Ok E I (.row yv930 215 1 m931 cs932 :: F) w ∧ Fr 35 ([(3, yv930)]) a ∧ RowR (ekI .u64) I cs932 y929) ?_ ?_
 ·refine wp_block <| c_loop <| c_fuel (ref04_primes.l0 a0) out934 (fun (y660, y665) a w => ∃ yv661 : Value, ∃ m662 : Nat, ∃ cs663 : List Value, Ok E I (.row yv661 215 1 m662 cs663 :: F) w ∧ Fr 35 ([(0, .int .i64 a0), (3, yv661), (4, .int .u64 y665)]) a ∧ RowR (ekI .u64) I cs663 y660) (fun _ => rfl) ?_ BIG (([] : List Int), 2) _ _ ⟨(.slice none 0 0), 0, [], hw, hf.to ⟨rfl, rfl, rfl, trivial⟩, hRR127⟩ hp
  intro k st a w hI hp ih
  obtain ⟨y660, y665⟩ := st
  obtain ⟨yv661, m662, cs663, hw, hf, hRR664⟩ := hI
  rw [ref04_primes.l0] at hp
  refine wq <| wq <| wr <| om hf rfl rfl fun a hf => oR hf (r_lenL (K := (ekI .u64)) hf el_212 rfl (rR (K := (ekI .u64)) hw (i := 0) rfl hRR664)) rfl fun a hf => om hf rfl rfl fun a hf => oR hf (iC hf rfl rfl rfl) rfl fun a hf => oN <| ct <| cC hf rfl (fun hb937 => ?_) (fun hb937 => ?_)
  ·replace hp := cond_t hb937 hp
   refine wp_skip <| ct ?_
   obtain ⟨out1113, hp, hq1114⟩ := bS hp
   refine c_cut (fun a w => ∃ y1108 : List Int, ∃ yv1109 : Value, ∃ m1110 : Nat, ∃ cs1111 : List Value, y1108 = out1113 ∧ Ok E I (.row yv1109 215 1 m1110 cs1111 :: F) w ∧ Fr 35 ([(0, .int .i64 a0), (3, yv1109), (4, .int .u64 y665)]) a ∧ RowR (ekI .u64) I cs1111 y1108) ?_ ?_
   ·refine wp_block <| wq <| wr <| oa hf rfl rfl fun a hf => oN <| ct <| wq <| wq <| wr <| oa hf rfl rfl fun a hf => oN <| ct ?_
    obtain ⟨out1168, hp, hq1169⟩ := bS hp
    refine c_cutX (fun a w => ∃ y1167 : Bool, y1167 = out1168 ∧ Ok E I (.row yv661 215 1 m662 cs663 :: F) w ∧ Fr 35 ([(0, .int .i64 a0), (3, yv661), (4, .int .u64 y665), (5, .bool y1167)]) a) ?_ ?_
    ·refine wp_block <| c_loop <| c_fuel (ref04_primes.l1 y660 y665) out1168 (fun (y1149, y1150) a w => Ok E I (.row yv661 215 1 m662 cs663 :: F) w ∧ Fr 35 ([(0, .int .i64 a0), (3, yv661), (4, .int .u64 y665), (5, .bool y1149), (6, .int .i64 y1150)]) a) (fun _ => rfl) ?_ BIG (true, 0) _ _ ⟨hw, hf.to ⟨rfl, rfl, rfl, rfl, rfl, trivial⟩⟩ hp
     intro k st a w hI hp ih
     obtain ⟨y1149, y1150⟩ := st
     obtain ⟨hw, hf⟩ := hI
     rw [ref04_primes.l1] at hp
     refine wq ?_
     obtain ⟨out1181, hp, hq1182⟩ := bS hp
     refine c_cut (fun a w => ∃ y1180 : Bool, y1180 = out1181 ∧ Ok E I (.row yv661 215 1 m662 cs663 :: F) w ∧ Fr 35 ([(0, .int .i64 a0), (3, yv661), (4, .int .u64 y665), (5, .bool y1149), (6, .int .i64 y1150), (19, .bool y1180)]) a) ?_ ?_
     ·refine wr <| om hf rfl rfl fun a hf => om hf rfl rfl fun a hf => oR hf (r_lenL (K := (ekI .u64)) hf el_212 rfl (rR (K := (ekI .u64)) hw (i := 0) rfl hRR664)) rfl fun a hf => oR hf (iC hf rfl rfl rfl) rfl fun a hf => om hf rfl rfl fun a hf => g_split hf (g := 17) rfl (fun hb1183 hf => ?_) (fun hb1183 hf => ?_)
      ·replace hp := cond_t hb1183 hp
       refine oW hf (g := 17) rfl rfl <| om hf rfl rfl fun a hf => oR hf (pT hf rfl rfl) rfl fun a hf => oN <| ct ?_
       have ho := oI hp
       subst ho
       exact ⟨y1149, rfl, hw, hf.to ⟨rfl, rfl, rfl, rfl, rfl, rfl, trivial⟩⟩
      ·replace hp := cond_f hb1183 hp
       refine oQ hf (g := 17) rfl fun a hf => oR hf (pF hf rfl rfl) rfl fun a hf => oN <| ct ?_
       have ho := oI hp
       subst ho
       exact ⟨false, rfl, hw, hf.to ⟨rfl, rfl, rfl, rfl, rfl, rfl, trivial⟩⟩
     ·intro a w hM
      obtain ⟨y1180, rfl, hw, hf⟩ := hM
      replace hp := hq1182
      refine cC hf rfl (fun hb1184 => ?_) (fun hb1184 => ?_)
      ·replace hp := cond_t hb1184 hp
       refine wp_skip <| ct <| wq <| wp_block <| wr <| om hf rfl rfl fun a hf => om hf rfl rfl fun a hf => om hf rfl rfl fun a hf => ?_
       obtain ⟨hg1185, hp⟩ := gS hp
       refine oR hf (rI (K := (ekI .u64)) hf el_212 rfl rfl (rR (K := (ekI .u64)) hw (i := 0) rfl hRR664) hg1185) rfl fun a hf => oR hf (r_loadH (K := (ekI .u64)) hf rfl ty_215 (rR (K := (ekI .u64)) hw (i := 0) rfl hRR664) hg1185 rfl (fun cs h => ekI_f0 h)) rfl fun a hf => ?_
       obtain ⟨hg1186, hp⟩ := gS hp
       refine oR hf (r_rem hf rfl rfl hg1186) rfl fun a hf => oR hf (iC hf rfl rfl rfl) rfl fun a hf => oa hf rfl rfl fun a hf => oN <| c_blockN <| ct <| wr <| om hf rfl rfl fun a hf => oR hf (r_add hf rfl rfl) rfl fun a hf => oa hf rfl rfl fun a hf => oN <| ct ?_
       exact ih ((y665.tmod (gt y660 y1150)) != 0, w64 (y1150 + 1)) _ _ ⟨hw, hf.to ⟨rfl, rfl, rfl, rfl, rfl, trivial⟩⟩ hp
      ·replace hp := cond_f hb1184 hp
       refine wp_exit <| c_thenE <| c_thenE <| c_exit <| ct ?_
       have ho := oI hp
       subst ho
       exact ⟨y1149, rfl, hw, hf.to ⟨rfl, rfl, rfl, rfl, trivial⟩⟩
    ·intro a w hM
     obtain ⟨y1167, rfl, hw, hf⟩ := hM
     replace hp := hq1169
     refine ct <| wq <| wr <| om hf rfl rfl fun a hf => oN <| ct <| cC hf rfl (fun hb1188 => ?_) (fun hb1188 => ?_)
     ·replace hp := cond_t hb1188 hp
      refine wr <| om hf rfl rfl fun a hf => om hf rfl rfl fun a hf => ?_
      obtain ⟨w, v1189, hrun1190, hw, hRR1191⟩ := e_buildSlice (P := P) (K := (ekI .u64)) (m := 1) hw hf (parts := [(0, .tmp 31)]) el_212 ty_215 rfl rfl rfl (ccs := [[Value.int .u64 y665]]) rfl (xs := [y665]) ⟨rfl, trivial⟩ rfl
      obtain ⟨cs1192, hcs⟩ : ∃ cs, cs = ([[Value.int .u64 y665]] : List (List Value)).flatten := ⟨_, rfl⟩
      rw [← hcs] at hw hRR1191; clear hcs
      refine o_eff hf (hrun1190 ..) rfl fun a hf => ?_
      obtain ⟨hg1194, hp⟩ := gS hp
      obtain ⟨w, v1195, m1196, cs1197, hrun1199, hw, hRR1198⟩ := e_append (P := P) (K := (ekI .u64)) (ty := 212) hw hf (s := .tmp 30) (x := .tmp 32) el_212 ty_215 rfl (by decide) 1 rfl rfl rfl hRR664 (ys := [y665]) (rR (K := (ekI .u64)) hw (i := 0) rfl hRR1191) hg1194
      replace hw : Ok E I (.row v1189 215 1 1 cs1192 :: .row v1195 215 1 m1196 cs1197 :: F) w := hw
      refine o_eff hf (hrun1199 ..) rfl fun a hf => oa hf rfl rfl fun a hf => oN <| c_blockN <| ct ?_
      have ho := oI hp
      subst ho
      replace hw : Ok E I (.row v1195 215 1 m1196 cs1197 :: F) w := hw.sub (sc (scc sr))
      exact ⟨(y660 ++ [y665]), v1195, m1196, cs1197, rfl, hw, hf.to ⟨rfl, rfl, rfl, trivial⟩, hRR1198⟩
     ·replace hp := cond_f hb1188 hp
      refine wp_skip <| c_blockN <| ct ?_
      have ho := oI hp
      subst ho
      exact ⟨y660, yv661, m662, cs663, rfl, hw, hf.to ⟨rfl, rfl, rfl, trivial⟩, hRR664⟩
   ·intro a w hM
    obtain ⟨y1108, yv1109, m1110, cs1111, rfl, hw, hf, hRR1112⟩ := hM
    replace hp := hq1114
    refine wr <| om hf rfl rfl fun a hf => oR hf (r_add hf rfl rfl) rfl fun a hf => oa hf rfl rfl fun a hf => oN <| ct ?_
    exact ih (y1108, wu64 (y665 + 1)) _ _ ⟨yv1109, m1110, cs1111, hw, hf.to ⟨rfl, rfl, rfl, trivial⟩, hRR1112⟩ hp
  ·replace hp := cond_f hb937 hp
   refine wp_exit <| c_thenE <| c_thenE <| c_exit <| ct ?_
   have ho := oI hp
   subst ho
   exact ⟨y660, yv661, m662, cs663, rfl, hw, hf.to ⟨rfl, trivial⟩, hRR664⟩
 ·intro a w hM
  obtain ⟨y929, yv930, m931, cs932, rfl, hw, hf, hRR933⟩ := hM
  replace hp := hq935
  refine ct <| wq <| wr <| om hf rfl rfl fun a hf => oa hf rfl rfl fun a hf => oN <| ct <| wp_ret ?_
  have hw : Ok E I (.row yv930 215 1 m931 cs932 :: F) w := hw.front (i := 0) rfl
  obtain ⟨I1201, hle1202, hw, hR1203⟩ := row_freeze (K := (ekI .u64)) hw hRR933
  replace hG := hG.mono hle1202
  have ho := oI hp
  subst ho
  exact b_ret1 hf results108 rfl ⟨_, rfl, ⟨I1201, yv930, rfl, hle1202, hw, hR1203⟩⟩

theorem ref04_times_ok {E : World} {I : IH} {F : List Atom} {w : World} {a0 : Int} {a1 : Int} {res0 : Int} {res1 : Int} (hw : Ok E I (F) w) (hG : Gl I) (hp : ref04_times.f a0 a1 = some (res0, res1)) :
  Calls P 145 ⟨[Value.int .u64 a0, Value.int .u64 a1]⟩ w fun e w' => ∃ v, e = .returned v ∧ v = Value.tuple ⟨[Value.int .u64 res0, Value.int .u64 res1]⟩ ∧ Ok E I (F) w' := by
 refine c_enter func145 rfl ntmps145 rfl fun a hf => ?_
 replace hf : Fr 58 [(0, .int .u64 a0), (1, .int .u64 a1)] a := hf
 unfold ref04_times.f at hp
 refine wq <| wr <| oa hf rfl rfl fun a hf => oa hf rfl rfl fun a hf => oN <| ct <| wq <| wr <| om hf rfl rfl fun a hf => oR hf (r_and hf rfl rfl) rfl fun a hf => om hf rfl rfl fun a hf => oR hf (r_shr hf rfl rfl (by decide)) rfl fun a hf => om hf rfl rfl fun a hf => oR hf (r_and hf rfl rfl) rfl fun a hf => om hf rfl rfl fun a hf => oR hf (r_shr hf rfl rfl (by decide)) rfl fun a hf => ?_
 refine oa hf rfl rfl fun a hf => oa hf rfl rfl fun a hf => oa hf rfl rfl fun a hf => oa hf rfl rfl fun a hf => oN <| ct <| wq <| wr <| om hf rfl rfl fun a hf => om hf rfl rfl fun a hf => oR hf (r_mul hf rfl rfl) rfl fun a hf => om hf rfl rfl fun a hf => om hf rfl rfl fun a hf => oR hf (r_mul hf rfl rfl) rfl fun a hf => om hf rfl rfl fun a hf => om hf rfl rfl fun a hf => ?_
 refine oR hf (r_mul hf rfl rfl) rfl fun a hf => om hf rfl rfl fun a hf => om hf rfl rfl fun a hf => oR hf (r_mul hf rfl rfl) rfl fun a hf => oa hf rfl rfl fun a hf => oa hf rfl rfl fun a hf => oa hf rfl rfl fun a hf => oa hf rfl rfl fun a hf => oN <| ct <| wq <| wr <| om hf rfl rfl fun a hf => oR hf (r_shr hf rfl rfl (by decide)) rfl fun a hf => om hf rfl rfl fun a hf => oR hf (r_and hf rfl rfl) rfl fun a hf => ?_
 refine oR hf (r_add hf rfl rfl) rfl fun a hf => om hf rfl rfl fun a hf => oR hf (r_and hf rfl rfl) rfl fun a hf => oR hf (r_add hf rfl rfl) rfl fun a hf => oa hf rfl rfl fun a hf => oN <| ct <| wq <| wr <| om hf rfl rfl fun a hf => om hf rfl rfl fun a hf => oR hf (r_shr hf rfl rfl (by decide)) rfl fun a hf => oR hf (r_add hf rfl rfl) rfl fun a hf => om hf rfl rfl fun a hf => oR hf (r_shr hf rfl rfl (by decide)) rfl fun a hf => oR hf (r_add hf rfl rfl) rfl fun a hf => ?_
 refine om hf rfl rfl fun a hf => oR hf (r_shr hf rfl rfl (by decide)) rfl fun a hf => oR hf (r_add hf rfl rfl) rfl fun a hf => om hf rfl rfl fun a hf => oR hf (r_and hf rfl rfl) rfl fun a hf => om hf rfl rfl fun a hf => oR hf (r_shl hf rfl rfl (by decide)) rfl fun a hf => oR hf (r_or hf rfl rfl) rfl fun a hf => oa hf rfl rfl fun a hf => oa hf rfl rfl fun a hf => oN <| ct <| wp_ret ?_
 have ho := oI hp
 simp only [Prod.mk.injEq] at ho
 obtain ⟨rfl, rfl⟩ := ho
 exact b_ret2 hf results145 rfl rfl ⟨_, rfl, ⟨rfl, hw⟩⟩

theorem ref04_square_ok {E : World} {I : IH} {F : List Atom} {w : World} {a0 : Int} {res0 : Int} (hw : Ok E I (F) w) (hG : Gl I) (hp : ref04_square.f a0 = some res0) :
  Calls P 109 ⟨[Value.int .u64 a0]⟩ w fun e w' => ∃ v, e = .returned v ∧ v = Value.int .u32 res0 ∧ Ok E I (F) w' := by
 refine c_enter func109 rfl ntmps109 rfl fun a hf => ?_
 replace hf : Fr 38 [(0, .int .u64 a0)] a := hf
 unfold ref04_square.f at hp
 refine wq <| wr <| oa hf rfl rfl fun a hf => oN <| ct <| wq <| wr <| oa hf rfl rfl fun a hf => oN <| ct <| wq <| wq <| wr <| oa hf rfl rfl fun a hf => oN <| ct ?_
 obtain ⟨out178, hp, hq179⟩ := bS hp
 refine c_cutX (fun a w => ∃ y177 : Int, y177 = out178 ∧ Ok E I (F) w ∧ Fr 38 ([(3, .int .u64 y177)]) a) ?_ ?_
 ·refine wp_block <| c_loop <| c_fuel (ref04_square.l0 a0) out178 (fun (y117, y118) a w => Ok E I (F) w ∧ Fr 38 ([(0, .int .u64 a0), (3, .int .u64 y117), (4, .int .i64 y118)]) a) (fun _ => rfl) ?_ BIG (0, 36) _ _ ⟨hw, hf.to ⟨rfl, rfl, rfl, trivial⟩⟩ hp
  intro k st a w hI hp ih
  obtain ⟨y117, y118⟩ := st
  obtain ⟨hw, hf⟩ := hI
  rw [ref04_square.l0] at hp
  refine wq <| wq <| wr <| om hf rfl rfl fun a hf => oR hf (iC hf rfl rfl rfl) rfl fun a hf => oN <| ct <| cC hf rfl (fun hb181 => ?_) (fun hb181 => ?_)
  ·replace hp := cond_t hb181 hp
   refine wp_skip <| ct ?_
   obtain ⟨out219, hp, hq220⟩ := bS hp
   refine c_cut (fun a w => ∃ y218 : Int, y218 = out219 ∧ Ok E I (F) w ∧ Fr 38 ([(0, .int .u64 a0), (3, .int .u64 y218), (4, .int .i64 y118)]) a) ?_ ?_
   ·refine wp_block <| wq <| wr <| om hf rfl rfl fun a hf => om hf rfl rfl fun a hf => oR hf (r_convI hf und_3 und_160 rfl) rfl fun a hf => ?_
    obtain ⟨hg221, hp⟩ := gS hp
    refine oR hf (r_shl hf rfl rfl hg221) rfl fun a hf => oR hf (r_or hf rfl rfl) rfl fun a hf => oa hf rfl rfl fun a hf => oN <| ct <| wq <| wr <| om hf rfl rfl fun a hf => om hf rfl rfl fun a hf => ?_
    obtain ⟨y225, hy224, hp⟩ := bS hp
    obtain ⟨y222, y223⟩ := y225
    have hc226 := ref04_times_ok hw hG hy224
    refine o_call hf cb_145 rfl rfl hc226 (fun v228 w a hK227 hf => ?_)
    obtain ⟨rfl, hw⟩ := hK227
    refine om hf rfl rfl fun a hf => oR hf (rE hf rfl rfl) rfl fun a hf => oR hf (rE hf rfl rfl) rfl fun a hf => oa hf rfl rfl fun a hf => oa hf rfl rfl fun a hf => oN <| ct ?_
    obtain ⟨out234, hp, hq235⟩ := bS hp
    refine c_cut (fun a w => ∃ y233 : Bool, y233 = out234 ∧ Ok E I (F) w ∧ Fr 38 ([(0, .int .u64 a0), (3, .int .u64 y117), (4, .int .i64 y118), (5, .int .u64 (bor .u64 y117 (shl .u64 1 (wu64 y118)))), (34, .bool y233)]) a) ?_ ?_
    ·refine wr <| om hf rfl rfl fun a hf => om hf rfl rfl fun a hf => oR hf (iC hf rfl rfl rfl) rfl fun a hf => om hf rfl rfl fun a hf => g_split hf (g := 26) rfl (fun hb236 hf => ?_) (fun hb236 hf => ?_)
     ·replace hp := cond_t hb236 hp
      refine oQ hf (g := 26) rfl fun a hf => oQ hf (g := 26) rfl fun a hf => oQ hf (g := 26) rfl fun a hf => oQ hf (g := 26) rfl fun a hf => o_skipU hf (g := 30) rfl rfl rfl rfl rfl fun a hf => o_skipU hf (g := 30) rfl rfl rfl rfl rfl fun a hf => oQ hf (g := 26) rfl fun a hf => oR hf (pT hf rfl rfl) rfl fun a hf => oN <| ct ?_
      have ho := oI hp
      subst ho
      exact ⟨true, rfl, hw, hf.to ⟨rfl, rfl, rfl, rfl, rfl, trivial⟩⟩
     ·replace hp := cond_f hb236 hp
      refine oW hf (g := 26) rfl rfl <| om hf rfl rfl fun a hf => oW hf (g := 26) rfl rfl <| om hf rfl rfl fun a hf => oW hf (g := 26) rfl rfl <| oR hf (iC hf rfl rfl rfl) rfl fun a hf => oW hf (g := 26) rfl rfl <| om hf rfl rfl fun a hf => g_split hf (g := 30) rfl (fun hb237 hf => ?_) (fun hb237 hf => ?_)
      ·replace hp := cond_t hb237 hp
       refine oW hf (g := 30) rfl rfl <| om hf rfl rfl fun a hf => oW hf (g := 30) rfl rfl <| oR hf (iC hf rfl rfl rfl) rfl fun a hf => oW hf (g := 26) rfl rfl <| oR hf (pT hf rfl rfl) rfl fun a hf => oR hf (pF hf rfl rfl) rfl fun a hf => oN <| ct ?_
       have ho := oI hp
       subst ho
       exact ⟨(y223 == 0), rfl, hw, hf.to ⟨rfl, rfl, rfl, rfl, rfl, trivial⟩⟩
      ·replace hp := cond_f hb237 hp
       refine oQ hf (g := 30) rfl fun a hf => oQ hf (g := 30) rfl fun a hf => oW hf (g := 26) rfl rfl <| oR hf (pF hf rfl rfl) rfl fun a hf => oR hf (pF hf rfl rfl) rfl fun a hf => oN <| ct ?_
       have ho := oI hp
       subst ho
       exact ⟨false, rfl, hw, hf.to ⟨rfl, rfl, rfl, rfl, rfl, trivial⟩⟩
    ·intro a w hM
     obtain ⟨y233, rfl, hw, hf⟩ := hM
     replace hp := hq235
     refine cC hf rfl (fun hb238 => ?_) (fun hb238 => ?_)
     ·replace hp := cond_t hb238 hp
      refine wr <| om hf rfl rfl fun a hf => oa hf rfl rfl fun a hf => oN <| c_blockN <| ct ?_
      have ho := oI hp
      subst ho
      exact ⟨(bor .u64 y117 (shl .u64 1 (wu64 y118))), rfl, hw, hf.to ⟨rfl, rfl, rfl, trivial⟩⟩
     ·replace hp := cond_f hb238 hp
      refine wp_skip <| c_blockN <| ct ?_
      have ho := oI hp
      subst ho
      exact ⟨y117, rfl, hw, hf.to ⟨rfl, rfl, rfl, trivial⟩⟩
   ·intro a w hM
    obtain ⟨y218, rfl, hw, hf⟩ := hM
    replace hp := hq220
    refine wr <| om hf rfl rfl fun a hf => oR hf (r_sub hf rfl rfl) rfl fun a hf => oa hf rfl rfl fun a hf => oN <| ct ?_
    exact ih (y218, w64 (y118 - 1)) _ _ ⟨hw, hf.to ⟨rfl, rfl, rfl, trivial⟩⟩ hp
  ·replace hp := cond_f hb181 hp
   refine wp_exit <| c_thenE <| c_thenE <| c_exit <| ct ?_
   have ho := oI hp
   subst ho
   exact ⟨y117, rfl, hw, hf.to ⟨rfl, trivial⟩⟩
 ·intro a w hM
  obtain ⟨y177, rfl, hw, hf⟩ := hM
  replace hp := hq179
  refine ct <| wq <| wr <| om hf rfl rfl fun a hf => oR hf (r_convI hf und_215 und_109 rfl) rfl fun a hf => oa hf rfl rfl fun a hf => oN <| ct <| wp_ret ?_
  have ho := oI hp
  subst ho
  exact b_ret1 hf results109 rfl ⟨_, rfl, ⟨rfl, hw⟩⟩

theorem ref04_Start_ok {E : World} {I : IH} {F : List Atom} {w : World} {res0 : Vector Int 8} (hw : Ok E I (F) w) (hG : Gl I) (hp : ref04_Start.f = some res0) :
  Calls P 73 ⟨[]⟩ w fun e w' => ∃ v, e = .returned v ∧ v = Value.agg ⟨arrC .u32 res0⟩ ∧ Ok E I (F) w' := by
 refine c_enter func73 rfl ntmps73 rfl fun a hf => ?_
 replace hf : Fr 17 [] a := hf
 unfold ref04_Start.f at hp
 refine wq <| wr ?_
 obtain ⟨b1, w, hrun2, hw⟩ := e_alloc (P := P) (a := a) hw ty_163
 refine o_eff hf (hrun2 ..) rfl fun a hf => oN <| ct <| wq <| wr ?_
 obtain ⟨b4, w, hrun5, hw⟩ := e_alloc (P := P) (a := a) hw ty_163
 refine o_eff hf (hrun5 ..) rfl fun a hf => oN <| ct <| wq <| wr ?_
 obtain ⟨y1204, hy1205, hp⟩ := bS hp
 have hc1207 := ref04_primes_ok hw hG hy1205
 refine o_call hf cb_108 rfl rfl hc1207 (fun v1211 w a hK1208 hf => ?_)
 obtain ⟨I2_1208, rvv1209, hv0, hle1212, hw, hR1210⟩ := hK1208
 subst v1211
 replace hG := hG.mono hle1212
 refine oa hf rfl rfl fun a hf => oN <| ct <| wq <| wq <| wr <| oa hf rfl rfl fun a hf => oN <| ct ?_
 obtain ⟨out273, hp, hq274⟩ := bS hp
 refine c_cutX (fun a w => ∃ y272 : Vector Int 8, y272 = out273 ∧ Ok E I2_1208 (.blk b4 (.cells ⟨arrC .u32 y272⟩ 163 (0, 0)) :: .blk b1 (.cells ⟨arrC .u32 (Vector.replicate 8 0 : Vector Int 8)⟩ 163 (0, 0)) :: F) w ∧ Fr 17 ([(0, .pointer (some ⟨b1, 0, none⟩)), (1, .pointer (some ⟨b4, 0, none⟩))]) a) ?_ ?_
 ·refine wp_block <| c_loop <| c_fuel (ref04_Start.l0 y1204) out273 (fun (y260, y261) a w => Ok E I2_1208 (.blk b4 (.cells ⟨arrC .u32 y260⟩ 163 (0, 0)) :: .blk b1 (.cells ⟨arrC .u32 (Vector.replicate 8 0 : Vector Int 8)⟩ 163 (0, 0)) :: F) w ∧ Fr 17 ([(0, .pointer (some ⟨b1, 0, none⟩)), (1, .pointer (some ⟨b4, 0, none⟩)), (2, rvv1209), (3, .int .i64 y261)]) a) (fun _ => rfl) ?_ BIG ((Vector.replicate 8 0 : Vector Int 8), 0) _ _ ⟨hw, hf.to ⟨rfl, rfl, rfl, rfl, trivial⟩⟩ hp
  intro k st a w hI hp ih
  obtain ⟨y260, y261⟩ := st
  obtain ⟨hw, hf⟩ := hI
  rw [ref04_Start.l0] at hp
  refine wq <| wq <| wr <| om hf rfl rfl fun a hf => oR hf (iC hf rfl rfl rfl) rfl fun a hf => oN <| ct <| cC hf rfl (fun hb276 => ?_) (fun hb276 => ?_)
  ·replace hp := cond_t hb276 hp
   refine wp_skip <| ct <| wq <| wp_block <| wr <| om hf rfl rfl fun a hf => om hf rfl rfl fun a hf => om hf rfl rfl fun a hf => ?_
   obtain ⟨hg277, hp⟩ := gS hp
   refine oR hf (rI (K := (ekI .u64)) hf el_212 rfl rfl (hR1210.rd hw) hg277) rfl fun a hf => oR hf (r_loadH (K := (ekI .u64)) hf rfl ty_215 (hR1210.rd hw) hg277 rfl (fun cs h => ekI_f0 h)) rfl fun a hf => ?_
   obtain ⟨y278, hy279, hp⟩ := bS hp
   have hc281 := ref04_square_ok hw hG hy279
   refine o_call hf cb_109 rfl rfl hc281 (fun v283 w a hK282 hf => ?_)
   obtain ⟨rfl, hw⟩ := hK282
   obtain ⟨hg284, hp⟩ := gS hp
   refine oR hf (r_indexAddrA hf el_163 rfl rfl hg284) rfl fun a hf => ?_
   obtain ⟨w, hrun285, hw⟩ := e_store (P := P) hw hf (x := .tmp 15) (y := .tmp 14) rfl rfl ty_109 0 rfl (vs := [.int .u32 y278]) rfl rfl (oC rfl ones_nil) (by first | (simp [arrC_len] <;> omega) | (have h := hg284; try (simp only [w64, wu8, wu16, wu32, wu64] at h); simp only [List.length_cons, arrC_len]; omega)) (cs' := (arrC .u32 (vset y260 y261 y278))) (arr_store (pre := ([] : List Value)) (v := y260) rfl rfl rfl hg284)
   replace hw : Ok E I2_1208 (.blk b4 (.cells ⟨arrC .u32 (vset y260 y261 y278)⟩ 163 (0, 0)) :: .blk b1 (.cells ⟨arrC .u32 (Vector.replicate 8 0 : Vector Int 8)⟩ 163 (0, 0)) :: F) w := hw
   refine o_effU (hrun285 ..) <| oN <| c_blockN <| ct <| wr <| om hf rfl rfl fun a hf => oR hf (r_add hf rfl rfl) rfl fun a hf => oa hf rfl rfl fun a hf => oN <| ct ?_
   exact ih (vset y260 y261 y278, w64 (y261 + 1)) _ _ ⟨hw, hf.to ⟨rfl, rfl, rfl, rfl, trivial⟩⟩ hp
  ·replace hp := cond_f hb276 hp
   refine wp_exit <| c_thenE <| c_thenE <| c_exit <| ct ?_
   have ho := oI hp
   subst ho
   exact ⟨y260, rfl, hw, hf.to ⟨rfl, rfl, trivial⟩⟩
 ·intro a w hM
  obtain ⟨y272, rfl, hw, hf⟩ := hM
  replace hp := hq274
  refine ct <| wq <| wr <| oR hf (r_loadA hw hf rfl ty_163 0 rfl (vs := (arrC .u32 y272)) (take_all (by simp [arrC_len])) (by simp [arrC_len])) rfl fun a hf => ?_
  obtain ⟨w, hrun287, hw⟩ := e_store (P := P) hw hf (x := .tmp 0) (y := .tmp 16) rfl rfl ty_163 1 rfl (vs := (arrC .u32 y272)) rfl (by simp [arrC_len]) (arrC_one _ _) (by simp [arrC_len]) (cs' := (arrC .u32 y272)) (by simp [arrC_len])
  replace hw : Ok E I2_1208 (.blk b4 (.cells ⟨arrC .u32 y272⟩ 163 (0, 0)) :: .blk b1 (.cells ⟨arrC .u32 y272⟩ 163 (0, 0)) :: F) w := hw
  refine o_effU (hrun287 ..) <| oN <| ct <| wp_ret ?_
  replace hw : Ok E I2_1208 (.blk b1 (.cells ⟨arrC .u32 y272⟩ 163 (0, 0)) :: F) w := hw.sub (sc (scc sr))
  have ho := oI hp
  subst ho
  exact b_retC hw hf results73 ty_163 rfl 0 rfl (vs := (arrC .u32 y272)) (take_all (by simp [arrC_len])) (by simp [arrC_len]) ⟨_, rfl, ⟨rfl, (hw.tail.back hle1212 sr)⟩⟩

theorem ref04_cube_ok {E : World} {I : IH} {F : List Atom} {w : World} {a0 : Int} {res0 : Int} (hw : Ok E I (F) w) (hG : Gl I) (hp : ref04_cube.f a0 = some res0) :
  Calls P 110 ⟨[Value.int .u64 a0]⟩ w fun e w' => ∃ v, e = .returned v ∧ v = Value.int .u32 res0 ∧ Ok E I (F) w' := by
 refine c_enter func110 rfl ntmps110 rfl fun a hf => ?_
 replace hf : Fr 61 [(0, .int .u64 a0)] a := hf
 unfold ref04_cube.f at hp
 refine wq <| wr <| oa hf rfl rfl fun a hf => oN <| ct <| wq <| wr <| oa hf rfl rfl fun a hf => oN <| ct <| wq <| wq <| wr <| oa hf rfl rfl fun a hf => oN <| ct ?_
 obtain ⟨out306, hp, hq307⟩ := bS hp
 refine c_cutX (fun a w => ∃ y305 : Int, y305 = out306 ∧ Ok E I (F) w ∧ Fr 61 ([(3, .int .u64 y305)]) a) ?_ ?_
 ·refine wp_block <| c_loop <| c_fuel (ref04_cube.l0 a0) out306 (fun (y203, y204) a w => Ok E I (F) w ∧ Fr 61 ([(0, .int .u64 a0), (3, .int .u64 y203), (4, .int .i64 y204)]) a) (fun _ => rfl) ?_ BIG (0, 35) _ _ ⟨hw, hf.to ⟨rfl, rfl, rfl, trivial⟩⟩ hp
  intro k st a w hI hp ih
  obtain ⟨y203, y204⟩ := st
  obtain ⟨hw, hf⟩ := hI
  rw [ref04_cube.l0] at hp
  refine wq <| wq <| wr <| om hf rfl rfl fun a hf => oR hf (iC hf rfl rfl rfl) rfl fun a hf => oN <| ct <| cC hf rfl (fun hb309 => ?_) (fun hb309 => ?_)
  ·replace hp := cond_t hb309 hp
   refine wp_skip <| ct ?_
   obtain ⟨out375, hp, hq376⟩ := bS hp
   refine c_cut (fun a w => ∃ y374 : Int, y374 = out375 ∧ Ok E I (F) w ∧ Fr 61 ([(0, .int .u64 a0), (3, .int .u64 y374), (4, .int .i64 y204)]) a) ?_ ?_
   ·refine wp_block <| wq <| wr <| om hf rfl rfl fun a hf => om hf rfl rfl fun a hf => oR hf (r_convI hf und_3 und_160 rfl) rfl fun a hf => ?_
    obtain ⟨hg377, hp⟩ := gS hp
    refine oR hf (r_shl hf rfl rfl hg377) rfl fun a hf => oR hf (r_or hf rfl rfl) rfl fun a hf => oa hf rfl rfl fun a hf => oN <| ct <| wq <| wr <| om hf rfl rfl fun a hf => om hf rfl rfl fun a hf => ?_
    obtain ⟨y381, hy380, hp⟩ := bS hp
    obtain ⟨y378, y379⟩ := y381
    have hc382 := ref04_times_ok hw hG hy380
    refine o_call hf cb_145 rfl rfl hc382 (fun v384 w a hK383 hf => ?_)
    obtain ⟨rfl, hw⟩ := hK383
    refine om hf rfl rfl fun a hf => oR hf (rE hf rfl rfl) rfl fun a hf => oR hf (rE hf rfl rfl) rfl fun a hf => oa hf rfl rfl fun a hf => oa hf rfl rfl fun a hf => oN <| ct <| wq <| wr <| om hf rfl rfl fun a hf => om hf rfl rfl fun a hf => ?_
    obtain ⟨y388, hy387, hp⟩ := bS hp
    obtain ⟨y385, y386⟩ := y388
    have hc389 := ref04_times_ok hw hG hy387
    refine o_call hf cb_145 rfl rfl hc389 (fun v391 w a hK390 hf => ?_)
    obtain ⟨rfl, hw⟩ := hK390
    refine om hf rfl rfl fun a hf => oR hf (rE hf rfl rfl) rfl fun a hf => oR hf (rE hf rfl rfl) rfl fun a hf => oa hf rfl rfl fun a hf => oa hf rfl rfl fun a hf => oN <| ct <| wq <| wr <| om hf rfl rfl fun a hf => om hf rfl rfl fun a hf => ?_
    obtain ⟨y395, hy394, hp⟩ := bS hp
    obtain ⟨y392, y393⟩ := y395
    have hc396 := ref04_times_ok hw hG hy394
    refine o_call hf cb_145 rfl rfl hc396 (fun v398 w a hK397 hf => ?_)
    obtain ⟨rfl, hw⟩ := hK397
    refine om hf rfl rfl fun a hf => oR hf (rE hf rfl rfl) rfl fun a hf => oR hf (rE hf rfl rfl) rfl fun a hf => oa hf rfl rfl fun a hf => oa hf rfl rfl fun a hf => oN <| ct <| wq <| wr <| om hf rfl rfl fun a hf => om hf rfl rfl fun a hf => oR hf (r_add hf rfl rfl) rfl fun a hf => oa hf rfl rfl fun a hf => oN <| ct <| wq ?_
    refine wr <| om hf rfl rfl fun a hf => oR hf (r_shl hf rfl rfl (by decide)) rfl fun a hf => oa hf rfl rfl fun a hf => oN <| ct ?_
    obtain ⟨out404, hp, hq405⟩ := bS hp
    refine c_cut (fun a w => ∃ y403 : Bool, y403 = out404 ∧ Ok E I (F) w ∧ Fr 61 ([(0, .int .u64 a0), (3, .int .u64 y203), (4, .int .i64 y204), (5, .int .u64 (bor .u64 y203 (shl .u64 1 (wu64 y204)))), (57, .bool y403)]) a) ?_ ?_
    ·refine wr <| om hf rfl rfl fun a hf => om hf rfl rfl fun a hf => oR hf (iC hf rfl rfl rfl) rfl fun a hf => om hf rfl rfl fun a hf => g_split hf (g := 49) rfl (fun hb406 hf => ?_) (fun hb406 hf => ?_)
     ·replace hp := cond_t hb406 hp
      refine oQ hf (g := 49) rfl fun a hf => oQ hf (g := 49) rfl fun a hf => oQ hf (g := 49) rfl fun a hf => oQ hf (g := 49) rfl fun a hf => o_skipU hf (g := 53) rfl rfl rfl rfl rfl fun a hf => o_skipU hf (g := 53) rfl rfl rfl rfl rfl fun a hf => oQ hf (g := 49) rfl fun a hf => oR hf (pT hf rfl rfl) rfl fun a hf => oN <| ct ?_
      have ho := oI hp
      subst ho
      exact ⟨true, rfl, hw, hf.to ⟨rfl, rfl, rfl, rfl, rfl, trivial⟩⟩
     ·replace hp := cond_f hb406 hp
      refine oW hf (g := 49) rfl rfl <| om hf rfl rfl fun a hf => oW hf (g := 49) rfl rfl <| om hf rfl rfl fun a hf => oW hf (g := 49) rfl rfl <| oR hf (iC hf rfl rfl rfl) rfl fun a hf => oW hf (g := 49) rfl rfl <| om hf rfl rfl fun a hf => g_split hf (g := 53) rfl (fun hb407 hf => ?_) (fun hb407 hf => ?_)
      ·replace hp := cond_t hb407 hp
       refine oW hf (g := 53) rfl rfl <| om hf rfl rfl fun a hf => oW hf (g := 53) rfl rfl <| oR hf (iC hf rfl rfl rfl) rfl fun a hf => oW hf (g := 49) rfl rfl <| oR hf (pT hf rfl rfl) rfl fun a hf => oR hf (pF hf rfl rfl) rfl fun a hf => oN <| ct ?_
       have ho := oI hp
       subst ho
       exact ⟨(y386 == 0), rfl, hw, hf.to ⟨rfl, rfl, rfl, rfl, rfl, trivial⟩⟩
      ·replace hp := cond_f hb407 hp
       refine oQ hf (g := 53) rfl fun a hf => oQ hf (g := 53) rfl fun a hf => oW hf (g := 49) rfl rfl <| oR hf (pF hf rfl rfl) rfl fun a hf => oR hf (pF hf rfl rfl) rfl fun a hf => oN <| ct ?_
       have ho := oI hp
       subst ho
       exact ⟨false, rfl, hw, hf.to ⟨rfl, rfl, rfl, rfl, rfl, trivial⟩⟩
    ·intro a w hM
     obtain ⟨y403, rfl, hw, hf⟩ := hM
     replace hp := hq405
     refine cC hf rfl (fun hb408 => ?_) (fun hb408 => ?_)
     ·replace hp := cond_t hb408 hp
      refine wr <| om hf rfl rfl fun a hf => oa hf rfl rfl fun a hf => oN <| c_blockN <| ct ?_
      have ho := oI hp
      subst ho
      exact ⟨(bor .u64 y203 (shl .u64 1 (wu64 y204))), rfl, hw, hf.to ⟨rfl, rfl, rfl, trivial⟩⟩
     ·replace hp := cond_f hb408 hp
      refine wp_skip <| c_blockN <| ct ?_
      have ho := oI hp
      subst ho
      exact ⟨y203, rfl, hw, hf.to ⟨rfl, rfl, rfl, trivial⟩⟩
   ·intro a w hM
    obtain ⟨y374, rfl, hw, hf⟩ := hM
    replace hp := hq376
    refine wr <| om hf rfl rfl fun a hf => oR hf (r_sub hf rfl rfl) rfl fun a hf => oa hf rfl rfl fun a hf => oN <| ct ?_
    exact ih (y374, w64 (y204 - 1)) _ _ ⟨hw, hf.to ⟨rfl, rfl, rfl, trivial⟩⟩ hp
  ·replace hp := cond_f hb309 hp
   refine wp_exit <| c_thenE <| c_thenE <| c_exit <| ct ?_
   have ho := oI hp
   subst ho
   exact ⟨y203, rfl, hw, hf.to ⟨rfl, trivial⟩⟩
 ·intro a w hM
  obtain ⟨y305, rfl, hw, hf⟩ := hM
  replace hp := hq307
  refine ct <| wq <| wr <| om hf rfl rfl fun a hf => oR hf (r_convI hf und_215 und_109 rfl) rfl fun a hf => oa hf rfl rfl fun a hf => oN <| ct <| wp_ret ?_
  have ho := oI hp
  subst ho
  exact b_ret1 hf results110 rfl ⟨_, rfl, ⟨rfl, hw⟩⟩
end Go.Lf
