import Derived.Test.YtckhmgglgbnaaaaGreatDoorZD
import Derived.Test.YtckhmgglgbnaaaaGreatDoorZF
import Derived.Test.YtckhmgglgbnaaaaGreatDoorJ
import Derived.Test.YtckhmgglgbnaaaaGreatDoorUB
import Derived.Test.YtckhmgglgbnaaaaGreatDoorZK6
set_option linter.unusedVariables false
set_option linter.unusedSimpArgs false
set_option maxHeartbeats 1000000
set_option maxRecDepth 20000
namespace Go.Lf
open Go Go.Proofs.Tryz
theorem ref09_Encode_ok {E : World} {I : IH} {F : List Atom} {w : World} {a0 : Item} {a0v871 : Value} {res0 : ByteArray} (hw : Ok E I (F) w) (hG : Gl I) (hR872 : RS ekS I a0v871 a0.hashes_) (hp : ref09_Encode.f a0 = some res0) :
  Calls P 59 ⟨[Value.agg ⟨[Value.int .i64 a0.kind_, Value.string a0.path_, Value.bool a0.has_, Value.string a0.value_, Value.int .i64 a0.mask_, a0v871]⟩]⟩ w fun e w' => ∃ v, e = .returned v ∧ v = Value.string res0 ∧ Ok E I (F) w' := by
 refine c_enter func59 rfl ntmps59 rfl fun a hf => ?_
 replace hf : Fr 77 [(0, Value.agg ⟨[.int .i64 a0.kind_, .string a0.path_, .bool a0.has_, .string a0.value_, .int .i64 a0.mask_, a0v871]⟩)] a := hf
 unfold ref09_Encode.f at hp
 refine wq <| wr ?_
 obtain ⟨b1, w, hrun2, hw⟩ := e_box (P := P) hw hf (e := 86) (x := .tmp 0) rfl (cs := [Value.int .i64 a0.kind_, Value.string a0.path_, Value.bool a0.has_, Value.string a0.value_, Value.int .i64 a0.mask_, a0v871]) rfl
 refine o_eff hf (hrun2 ..) rfl fun a hf => oa hf rfl rfl fun a hf => oN <| ct <| wq <| wq <| wr <| oR hf (r_loadA hw hf rfl ty_86 0 rfl (vs := [.int .i64 a0.kind_, .string a0.path_, .bool a0.has_, .string a0.value_, .int .i64 a0.mask_, a0v871]) rfl rfl) rfl fun a hf => ?_
 obtain ⟨y51, hy52, hp⟩ := bS hp
 have hc54 := ref09_Good_ok hw hG hR872 hy52
 refine o_call hf cb_93 rfl rfl hc54 (fun v56 w a hK55 hf => ?_)
 obtain ⟨rfl, hw⟩ := hK55
 refine oR hf (r_not hf rfl) rfl fun a hf => oN <| ct <| cC hf rfl (fun hb57 => ?_) (fun hb57 => ?_)
 ·replace hp := cond_t hb57 hp
  refine wq <| wr <| oa hf rfl rfl fun a hf => oN <| ct <| wp_ret <| c_thenR ?_
  replace hw : Ok E I (F) w := hw.sub (sc sr)
  have ho := oI hp
  subst ho
  exact b_ret1 hf results59 rfl ⟨_, rfl, ⟨rfl, hw⟩⟩
 ·replace hp := cond_f hb57 hp
  refine wp_skip <| ct <| wq <| wr <| oR hf (rF hf rfl fd_86_0) rfl fun a hf => oR hf (rL hw hf rfl ty_3 0 rfl rfl) rfl fun a hf => oR hf (r_convI hf und_3 und_5 rfl) rfl fun a hf => ?_
  obtain ⟨w, v58, hrun59, hw, hRR60⟩ := e_buildSlice (P := P) (K := (ekI .u8)) (m := 1) hw hf (parts := [(0, .tmp 10)]) el_45 ty_5 rfl rfl rfl (ccs := [[Value.int .u8 (wu8 a0.kind_)]]) rfl (xs := [wu8 a0.kind_]) ⟨rfl, trivial⟩ rfl
  obtain ⟨cs61, hcs⟩ : ∃ cs, cs = ([[Value.int .u8 (wu8 a0.kind_)]] : List (List Value)).flatten := ⟨_, rfl⟩
  rw [← hcs] at hw hRR60; clear hcs
  refine o_eff hf (hrun59 ..) rfl fun a hf => oR hf (r_convB hf und_45 und_5 und_9 rfl (rR (K := (ekI .u8)) hw (i := 0) rfl hRR60)) rfl fun a hf => oa hf rfl rfl fun a hf => oN <| ct ?_
  obtain ⟨out258, hp, hq259⟩ := bS hp
  refine c_cut (fun a w => ∃ y257 : ByteArray, y257 = out258 ∧ Ok E I (.row v58 5 1 1 cs61 :: .blk b1 (.cells ⟨[.int .i64 a0.kind_, .string a0.path_, .bool a0.has_, .string a0.value_, .int .i64 a0.mask_, a0v871]⟩ 86 (0, 0)) :: F) w ∧ Fr 77 ([(1, .pointer (some ⟨b1, 0, none⟩)), (3, .string y257)]) a) ?_ ?_
  ·refine wq <| wr <| oR hf (rF hf rfl fd_86_0) rfl fun a hf => oR hf (rL hw hf rfl ty_3 1 rfl rfl) rfl fun a hf => oR hf (iC hf rfl rfl rfl) rfl fun a hf => oN <| ct <| cC hf rfl (fun hb260 => ?_) (fun hb260 => ?_)
   ·replace hp := cond_t hb260 hp
    refine wq <| wr <| om hf rfl rfl fun a hf => oR hf (rF hf rfl fd_86_4) rfl fun a hf => oR hf (rL hw hf rfl ty_3 1 rfl rfl) rfl fun a hf => oR hf (r_shr hf rfl rfl (by decide)) rfl fun a hf => oR hf (r_convI hf und_3 und_5 rfl) rfl fun a hf => oR hf (rF hf rfl fd_86_4) rfl fun a hf => oR hf (rL hw hf rfl ty_3 1 rfl rfl) rfl fun a hf => oR hf (r_convI hf und_3 und_5 rfl) rfl fun a hf => ?_
    obtain ⟨w, v261, hrun262, hw, hRR263⟩ := e_buildSlice (P := P) (K := (ekI .u8)) (m := 2) hw hf (parts := [(0, .tmp 20), (1, .tmp 23)]) el_45 ty_5 rfl rfl rfl (ccs := [[Value.int .u8 (wu8 (shr .i64 a0.mask_ 8))], [Value.int .u8 (wu8 a0.mask_)]]) rfl (xs := [wu8 (shr .i64 a0.mask_ 8), wu8 a0.mask_]) ⟨rfl, rfl, trivial⟩ rfl
    obtain ⟨cs264, hcs⟩ : ∃ cs, cs = ([[Value.int .u8 (wu8 (shr .i64 a0.mask_ 8))], [Value.int .u8 (wu8 a0.mask_)]] : List (List Value)).flatten := ⟨_, rfl⟩
    rw [← hcs] at hw hRR263; clear hcs
    refine o_eff hf (hrun262 ..) rfl fun a hf => oR hf (r_convB hf und_45 und_5 und_9 rfl (rR (K := (ekI .u8)) hw (i := 0) rfl hRR263)) rfl fun a hf => ?_
    obtain ⟨hg266, hp⟩ := gS hp
    refine oR hf (r_sadd hf rfl rfl hg266) rfl fun a hf => oa hf rfl rfl fun a hf => oN <| ct <| wq <| wr <| oR hf (rF hf rfl fd_86_2) rfl fun a hf => oR hf (rL hw hf rfl ty_4 2 rfl rfl) rfl fun a hf => oN <| ct <| cC hf rfl (fun hb267 => ?_) (fun hb267 => ?_)
    ·replace hp := cond_t hb267 hp
     refine wr <| om hf rfl rfl fun a hf => oR hf (rF hf rfl fd_86_3) rfl fun a hf => oR hf (rL hw hf rfl ty_9 2 rfl rfl) rfl fun a hf => oR hf (r_lenS hf und_9 rfl) rfl fun a hf => oR hf (r_convI hf und_3 und_5 rfl) rfl fun a hf => ?_
     obtain ⟨w, v268, hrun269, hw, hRR270⟩ := e_buildSlice (P := P) (K := (ekI .u8)) (m := 2) hw hf (parts := [(0, .const (Value.int .u8 1)), (1, .tmp 33)]) el_45 ty_5 rfl rfl rfl (ccs := [[Value.int .u8 1], [Value.int .u8 (wu8 (a0.value_.size : Int))]]) rfl (xs := [1, wu8 (a0.value_.size : Int)]) ⟨rfl, rfl, trivial⟩ rfl
     obtain ⟨cs271, hcs⟩ : ∃ cs, cs = ([[Value.int .u8 1], [Value.int .u8 (wu8 (a0.value_.size : Int))]] : List (List Value)).flatten := ⟨_, rfl⟩
     rw [← hcs] at hw hRR270; clear hcs
     refine o_eff hf (hrun269 ..) rfl fun a hf => oR hf (r_convB hf und_45 und_5 und_9 rfl (rR (K := (ekI .u8)) hw (i := 0) rfl hRR270)) rfl fun a hf => oR hf (rF hf rfl fd_86_3) rfl fun a hf => oR hf (rL hw hf rfl ty_9 3 rfl rfl) rfl fun a hf => ?_
     obtain ⟨hg273, hp⟩ := gS hp
     refine oR hf (r_sadd hf rfl rfl hg273) rfl fun a hf => ?_
     obtain ⟨hg274, hp⟩ := gS hp
     refine oR hf (r_sadd hf rfl rfl hg274) rfl fun a hf => oa hf rfl rfl fun a hf => oN <| ct ?_
     have ho := oI hp
     subst ho
     replace hw : Ok E I (.row v58 5 1 1 cs61 :: .blk b1 (.cells ⟨[.int .i64 a0.kind_, .string a0.path_, .bool a0.has_, .string a0.value_, .int .i64 a0.mask_, a0v871]⟩ 86 (0, 0)) :: F) w := hw.sub (sc (sc (scc (scc sr))))
     exact ⟨(((strOfNums [wu8 a0.kind_]) ++ (strOfNums [wu8 (shr .i64 a0.mask_ 8), wu8 a0.mask_])) ++ ((strOfNums [1, wu8 (a0.value_.size : Int)]) ++ a0.value_)), rfl, hw, hf.to ⟨rfl, rfl, trivial⟩⟩
    ·replace hp := cond_f hb267 hp
     refine wr <| om hf rfl rfl fun a hf => ?_
     obtain ⟨hg275, hp⟩ := gS hp
     refine oR hf (r_sadd hf rfl rfl hg275) rfl fun a hf => oa hf rfl rfl fun a hf => oN <| ct ?_
     have ho := oI hp
     subst ho
     replace hw : Ok E I (.row v58 5 1 1 cs61 :: .blk b1 (.cells ⟨[.int .i64 a0.kind_, .string a0.path_, .bool a0.has_, .string a0.value_, .int .i64 a0.mask_, a0v871]⟩ 86 (0, 0)) :: F) w := hw.sub (sc (scc (scc sr)))
     exact ⟨(((strOfNums [wu8 a0.kind_]) ++ (strOfNums [wu8 (shr .i64 a0.mask_ 8), wu8 a0.mask_])) ++ (⟨#[0]⟩ : ByteArray)), rfl, hw, hf.to ⟨rfl, rfl, trivial⟩⟩
   ·replace hp := cond_f hb260 hp
    refine wq <| wr <| om hf rfl rfl fun a hf => oR hf (rF hf rfl fd_86_1) rfl fun a hf => oR hf (rL hw hf rfl ty_9 1 rfl rfl) rfl fun a hf => ?_
    obtain ⟨y276, hy277, hp⟩ := bS hp
    have hc279 := ref02_Pack_ok hw hG hy277
    refine o_call hf cb_94 rfl rfl hc279 (fun v281 w a hK280 hf => ?_)
    obtain ⟨rfl, hw⟩ := hK280
    refine oR hf (r_field hf rfl fd_187_0 ty_9 rfl) rfl fun a hf => ?_
    obtain ⟨hg282, hp⟩ := gS hp
    refine oR hf (r_sadd hf rfl rfl hg282) rfl fun a hf => oa hf rfl rfl fun a hf => oN <| ct <| wq <| wr <| oR hf (rF hf rfl fd_86_0) rfl fun a hf => oR hf (rL hw hf rfl ty_3 1 rfl rfl) rfl fun a hf => oR hf (iC hf rfl rfl rfl) rfl fun a hf => oN <| ct <| cC hf rfl (fun hb283 => ?_) (fun hb283 => ?_)
    ·replace hp := cond_t hb283 hp
     refine wr <| om hf rfl rfl fun a hf => oR hf (rF hf rfl fd_86_3) rfl fun a hf => oR hf (rL hw hf rfl ty_9 1 rfl rfl) rfl fun a hf => oR hf (r_lenS hf und_9 rfl) rfl fun a hf => oR hf (r_convI hf und_3 und_5 rfl) rfl fun a hf => ?_
     obtain ⟨w, v284, hrun285, hw, hRR286⟩ := e_buildSlice (P := P) (K := (ekI .u8)) (m := 1) hw hf (parts := [(0, .tmp 55)]) el_45 ty_5 rfl rfl rfl (ccs := [[Value.int .u8 (wu8 (a0.value_.size : Int))]]) rfl (xs := [wu8 (a0.value_.size : Int)]) ⟨rfl, trivial⟩ rfl
     obtain ⟨cs287, hcs⟩ : ∃ cs, cs = ([[Value.int .u8 (wu8 (a0.value_.size : Int))]] : List (List Value)).flatten := ⟨_, rfl⟩
     rw [← hcs] at hw hRR286; clear hcs
     refine o_eff hf (hrun285 ..) rfl fun a hf => oR hf (r_convB hf und_45 und_5 und_9 rfl (rR (K := (ekI .u8)) hw (i := 0) rfl hRR286)) rfl fun a hf => oR hf (rF hf rfl fd_86_3) rfl fun a hf => oR hf (rL hw hf rfl ty_9 2 rfl rfl) rfl fun a hf => ?_
     obtain ⟨hg289, hp⟩ := gS hp
     refine oR hf (r_sadd hf rfl rfl hg289) rfl fun a hf => ?_
     obtain ⟨hg290, hp⟩ := gS hp
     refine oR hf (r_sadd hf rfl rfl hg290) rfl fun a hf => oa hf rfl rfl fun a hf => oN <| ct ?_
     have ho := oI hp
     subst ho
     replace hw : Ok E I (.row v58 5 1 1 cs61 :: .blk b1 (.cells ⟨[.int .i64 a0.kind_, .string a0.path_, .bool a0.has_, .string a0.value_, .int .i64 a0.mask_, a0v871]⟩ 86 (0, 0)) :: F) w := hw.sub (sc (scc (scc sr)))
     exact ⟨(((strOfNums [wu8 a0.kind_]) ++ y276.s_) ++ ((strOfNums [wu8 (a0.value_.size : Int)]) ++ a0.value_)), rfl, hw, hf.to ⟨rfl, rfl, trivial⟩⟩
    ·replace hp := cond_f hb283 hp
     refine wp_skip <| ct ?_
     have ho := oI hp
     subst ho
     exact ⟨((strOfNums [wu8 a0.kind_]) ++ y276.s_), rfl, hw, hf.to ⟨rfl, rfl, trivial⟩⟩
  ·intro a w hM
   obtain ⟨y257, rfl, hw, hf⟩ := hM
   replace hp := hq259
   refine wq <| wq <| wr <| oa hf rfl rfl fun a hf => oN <| ct ?_
   obtain ⟨out305, hp, hq306⟩ := bS hp
   refine c_cutX (fun a w => ∃ y304 : ByteArray, y304 = out305 ∧ Ok E I (.row v58 5 1 1 cs61 :: .blk b1 (.cells ⟨[.int .i64 a0.kind_, .string a0.path_, .bool a0.has_, .string a0.value_, .int .i64 a0.mask_, a0v871]⟩ 86 (0, 0)) :: F) w ∧ Fr 77 ([(3, .string y304)]) a) ?_ ?_
   ·refine wp_block <| c_loop <| c_fuel (ref09_Encode.l0 a0) out305 (fun (y299, y300) a w => Ok E I (.row v58 5 1 1 cs61 :: .blk b1 (.cells ⟨[.int .i64 a0.kind_, .string a0.path_, .bool a0.has_, .string a0.value_, .int .i64 a0.mask_, a0v871]⟩ 86 (0, 0)) :: F) w ∧ Fr 77 ([(1, .pointer (some ⟨b1, 0, none⟩)), (3, .string y299), (4, .int .i64 y300)]) a) (fun _ => rfl) ?_ BIG (y257, 0) _ _ ⟨hw, hf.to ⟨rfl, rfl, rfl, trivial⟩⟩ hp
    intro k st a w hI hp ih
    obtain ⟨y299, y300⟩ := st
    obtain ⟨hw, hf⟩ := hI
    rw [ref09_Encode.l0] at hp
    refine wq <| wq <| wr <| om hf rfl rfl fun a hf => oR hf (rF hf rfl fd_86_5) rfl fun a hf => oR hf (rL hw hf rfl ty_28 1 rfl rfl) rfl fun a hf => oR hf (r_lenL (K := ekS) hf el_28 rfl (hR872.rd hw)) rfl fun a hf => oR hf (iC hf rfl rfl rfl) rfl fun a hf => oN <| ct <| cC hf rfl (fun hb308 => ?_) (fun hb308 => ?_)
    ·replace hp := cond_t hb308 hp
     refine wp_skip <| ct <| wq <| wp_block <| wr <| om hf rfl rfl fun a hf => oR hf (rF hf rfl fd_86_5) rfl fun a hf => oR hf (rL hw hf rfl ty_28 1 rfl rfl) rfl fun a hf => om hf rfl rfl fun a hf => ?_
     obtain ⟨hg309, hp⟩ := gS hp
     refine oR hf (rI (K := ekS) hf el_28 rfl rfl (hR872.rd hw) hg309) rfl fun a hf => oR hf (r_loadH (K := ekS) hf rfl ty_9 (hR872.rd hw) hg309 rfl (fun cs h => ekS_f0 h)) rfl fun a hf => ?_
     obtain ⟨hg310, hp⟩ := gS hp
     refine oR hf (r_sadd hf rfl rfl hg310) rfl fun a hf => oa hf rfl rfl fun a hf => oN <| c_blockN <| ct <| wr <| om hf rfl rfl fun a hf => oR hf (r_add hf rfl rfl) rfl fun a hf => oa hf rfl rfl fun a hf => oN <| ct ?_
     exact ih (y299 ++ (gt a0.hashes_ y300), w64 (y300 + 1)) _ _ ⟨hw, hf.to ⟨rfl, rfl, rfl, trivial⟩⟩ hp
    ·replace hp := cond_f hb308 hp
     refine wp_exit <| c_thenE <| c_thenE <| c_exit <| ct ?_
     have ho := oI hp
     subst ho
     exact ⟨y299, rfl, hw, hf.to ⟨rfl, trivial⟩⟩
   ·intro a w hM
    obtain ⟨y304, rfl, hw, hf⟩ := hM
    replace hp := hq306
    refine ct <| wq <| wr <| om hf rfl rfl fun a hf => oa hf rfl rfl fun a hf => oN <| ct <| wp_ret ?_
    replace hw : Ok E I (F) w := hw.sub (sc (sc sr))
    have ho := oI hp
    subst ho
    exact b_ret1 hf results59 rfl ⟨_, rfl, ⟨rfl, hw⟩⟩

theorem ref04_Pad_ok {E : World} {I : IH} {F : List Atom} {w : World} {a0 : Int} {res0 : ByteArray} (hw : Ok E I (F) w) (hG : Gl I) (hp : ref04_Pad.f a0 = some res0) :
  Calls P 111 ⟨[Value.int .i64 a0]⟩ w fun e w' => ∃ v, e = .returned v ∧ v = Value.string res0 ∧ Ok E I (F) w' := by
 refine c_enter func111 rfl ntmps111 rfl fun a hf => ?_
 replace hf : Fr 36 [(0, .int .i64 a0)] a := hf
 unfold ref04_Pad.f at hp
 refine wq <| wr <| oa hf rfl rfl fun a hf => oN <| ct <| wq <| wr <| om hf rfl rfl fun a hf => oR hf (r_max hf rfl rfl) rfl fun a hf => oa hf rfl rfl fun a hf => oN <| ct <| wq <| wr ?_
 obtain ⟨w, v1, hrun2, hw, hRR3⟩ := e_buildSlice (P := P) (K := (ekI .u8)) (m := 1) hw hf (parts := [(0, .const (Value.int .u8 128))]) el_45 ty_5 rfl rfl rfl (ccs := [[Value.int .u8 128]]) rfl (xs := [128]) ⟨rfl, trivial⟩ rfl
 obtain ⟨cs4, hcs⟩ : ∃ cs, cs = ([[Value.int .u8 128]] : List (List Value)).flatten := ⟨_, rfl⟩
 rw [← hcs] at hw hRR3; clear hcs
 refine o_eff hf (hrun2 ..) rfl fun a hf => oa hf rfl rfl fun a hf => oN <| ct <| wq ?_
 obtain ⟨out57, hp, hq58⟩ := bS hp
 refine c_cutX (fun a w => ∃ y52 : List Int, ∃ yv53 : Value, ∃ m54 : Nat, ∃ cs55 : List Value, y52 = out57 ∧ Ok E I (.row yv53 5 1 m54 cs55 :: F) w ∧ Fr 36 ([(0, .int .i64 (if a0 > 0 then a0 else 0)), (3, yv53)]) a ∧ RowR (ekI .u8) I cs55 y52) ?_ ?_
 ·refine wp_block <| c_loop <| c_fuel (ref04_Pad.l0 a0) out57 (fun (y35 : List Int) a w => ∃ yv36 : Value, ∃ m37 : Nat, ∃ cs38 : List Value, Ok E I (.row yv36 5 1 m37 cs38 :: F) w ∧ Fr 36 ([(0, .int .i64 (if a0 > 0 then a0 else 0)), (3, yv36)]) a ∧ RowR (ekI .u8) I cs38 y35) (fun _ => rfl) ?_ BIG [128] _ _ ⟨v1, 1, cs4, hw, hf.to ⟨rfl, rfl, trivial⟩, hRR3⟩ hp
  intro k y35 a w hI hp ih
  obtain ⟨yv36, m37, cs38, hw, hf, hRR39⟩ := hI
  rw [ref04_Pad.l0] at hp
  refine wq <| wq <| wr <| om hf rfl rfl fun a hf => om hf rfl rfl fun a hf => oR hf (r_lenL (K := (ekI .u8)) hf el_45 rfl (rR (K := (ekI .u8)) hw (i := 0) rfl hRR39)) rfl fun a hf => oR hf (r_add hf rfl rfl) rfl fun a hf => oR hf (r_rem hf rfl rfl (by decide)) rfl fun a hf => oR hf (iC hf rfl rfl rfl) rfl fun a hf => oN <| ct <| cC hf rfl (fun hb60 => ?_) (fun hb60 => ?_)
  ·replace hp := cond_t hb60 hp
   refine wp_skip <| ct <| wp_block <| wr <| om hf rfl rfl fun a hf => ?_
   obtain ⟨w, v61, hrun62, hw, hRR63⟩ := e_buildSlice (P := P) (K := (ekI .u8)) (m := 1) hw hf (parts := [(0, .const (Value.int .u8 0))]) el_45 ty_5 rfl rfl rfl (ccs := [[Value.int .u8 0]]) rfl (xs := [0]) ⟨rfl, trivial⟩ rfl
   obtain ⟨cs64, hcs⟩ : ∃ cs, cs = ([[Value.int .u8 0]] : List (List Value)).flatten := ⟨_, rfl⟩
   rw [← hcs] at hw hRR63; clear hcs
   refine o_eff hf (hrun62 ..) rfl fun a hf => ?_
   obtain ⟨hg66, hp⟩ := gS hp
   obtain ⟨w, v67, m68, cs69, hrun71, hw, hRR70⟩ := e_append (P := P) (K := (ekI .u8)) (ty := 45) hw hf (s := .tmp 15) (x := .tmp 16) el_45 ty_5 rfl (by decide) 1 rfl rfl rfl hRR39 (ys := [0]) (rR (K := (ekI .u8)) hw (i := 0) rfl hRR63) hg66
   replace hw : Ok E I (.row v61 5 1 1 cs64 :: .row v67 5 1 m68 cs69 :: F) w := hw
   refine o_eff hf (hrun71 ..) rfl fun a hf => oa hf rfl rfl fun a hf => oN <| c_blockN <| ct ?_
   replace hw : Ok E I (.row v67 5 1 m68 cs69 :: F) w := hw.sub (sc (scc sr))
   exact ih (y35 ++ [0]) _ _ ⟨v67, m68, cs69, hw, hf.to ⟨rfl, rfl, trivial⟩, hRR70⟩ hp
  ·replace hp := cond_f hb60 hp
   refine wp_exit <| c_thenE <| c_thenE <| c_exit <| ct ?_
   have ho := oI hp
   subst ho
   exact ⟨y35, yv36, m37, cs38, rfl, hw, hf.to ⟨rfl, rfl, trivial⟩, hRR39⟩
 ·intro a w hM
  obtain ⟨y52, yv53, m54, cs55, rfl, hw, hf, hRR56⟩ := hM
  replace hp := hq58
  refine ct <| wq <| wr <| om hf rfl rfl fun a hf => oR hf (r_convI hf und_3 und_215 rfl) rfl fun a hf => oR hf (r_mul hf rfl rfl) rfl fun a hf => oa hf rfl rfl fun a hf => oN <| ct <| wq <| wq <| wr <| oa hf rfl rfl fun a hf => oN <| ct ?_
  obtain ⟨out129, hp, hq130⟩ := bS hp
  refine c_cutX (fun a w => ∃ y124 : List Int, ∃ yv125 : Value, ∃ m126 : Nat, ∃ cs127 : List Value, y124 = out129 ∧ Ok E I (.row yv125 5 1 m126 cs127 :: F) w ∧ Fr 36 ([(3, yv125)]) a ∧ RowR (ekI .u8) I cs127 y124) ?_ ?_
  ·refine wp_block <| c_loop <| c_fuel (ref04_Pad.l1 a0) out129 (fun (y105, y110) a w => ∃ yv106 : Value, ∃ m107 : Nat, ∃ cs108 : List Value, Ok E I (.row yv106 5 1 m107 cs108 :: F) w ∧ Fr 36 ([(3, yv106), (4, .int .u64 (wu64 ((wu64 (if a0 > 0 then a0 else 0)) * 8))), (5, .int .i64 y110)]) a ∧ RowR (ekI .u8) I cs108 y105) (fun _ => rfl) ?_ BIG (y52, 7) _ _ ⟨yv53, m54, cs55, hw, hf.to ⟨rfl, rfl, rfl, trivial⟩, hRR56⟩ hp
   intro k st a w hI hp ih
   obtain ⟨y105, y110⟩ := st
   obtain ⟨yv106, m107, cs108, hw, hf, hRR109⟩ := hI
   rw [ref04_Pad.l1] at hp
   refine wq <| wq <| wr <| om hf rfl rfl fun a hf => oR hf (iC hf rfl rfl rfl) rfl fun a hf => oN <| ct <| cC hf rfl (fun hb132 => ?_) (fun hb132 => ?_)
   ·replace hp := cond_t hb132 hp
    refine wp_skip <| ct <| wq <| wp_block <| wr <| om hf rfl rfl fun a hf => om hf rfl rfl fun a hf => om hf rfl rfl fun a hf => oR hf (r_mul hf rfl rfl) rfl fun a hf => oR hf (r_convI hf und_3 und_160 rfl) rfl fun a hf => ?_
    obtain ⟨hg133, hp⟩ := gS hp
    refine oR hf (r_shr hf rfl rfl hg133) rfl fun a hf => oR hf (r_convI hf und_215 und_5 rfl) rfl fun a hf => ?_
    obtain ⟨w, v134, hrun135, hw, hRR136⟩ := e_buildSlice (P := P) (K := (ekI .u8)) (m := 1) hw hf (parts := [(0, .tmp 31)]) el_45 ty_5 rfl rfl rfl (ccs := [[Value.int .u8 (wu8 (shr .u64 (wu64 ((wu64 (if a0 > 0 then a0 else 0)) * 8)) (wu64 (w64 (8 * y110)))))]]) rfl (xs := [wu8 (shr .u64 (wu64 ((wu64 (if a0 > 0 then a0 else 0)) * 8)) (wu64 (w64 (8 * y110))))]) ⟨rfl, trivial⟩ rfl
    obtain ⟨cs137, hcs⟩ : ∃ cs, cs = ([[Value.int .u8 (wu8 (shr .u64 (wu64 ((wu64 (if a0 > 0 then a0 else 0)) * 8)) (wu64 (w64 (8 * y110)))))]] : List (List Value)).flatten := ⟨_, rfl⟩
    rw [← hcs] at hw hRR136; clear hcs
    refine o_eff hf (hrun135 ..) rfl fun a hf => ?_
    obtain ⟨hg139, hp⟩ := gS hp
    obtain ⟨w, v140, m141, cs142, hrun144, hw, hRR143⟩ := e_append (P := P) (K := (ekI .u8)) (ty := 45) hw hf (s := .tmp 25) (x := .tmp 32) el_45 ty_5 rfl (by decide) 1 rfl rfl rfl hRR109 (ys := [wu8 (shr .u64 (wu64 ((wu64 (if a0 > 0 then a0 else 0)) * 8)) (wu64 (w64 (8 * y110))))]) (rR (K := (ekI .u8)) hw (i := 0) rfl hRR136) hg139
    replace hw : Ok E I (.row v134 5 1 1 cs137 :: .row v140 5 1 m141 cs142 :: F) w := hw
    refine o_eff hf (hrun144 ..) rfl fun a hf => oa hf rfl rfl fun a hf => oN <| c_blockN <| ct <| wr <| om hf rfl rfl fun a hf => oR hf (r_sub hf rfl rfl) rfl fun a hf => oa hf rfl rfl fun a hf => oN <| ct ?_
    replace hw : Ok E I (.row v140 5 1 m141 cs142 :: F) w := hw.sub (sc (scc sr))
    exact ih (y105 ++ [wu8 (shr .u64 (wu64 ((wu64 (if a0 > 0 then a0 else 0)) * 8)) (wu64 (w64 (8 * y110))))], w64 (y110 - 1)) _ _ ⟨v140, m141, cs142, hw, hf.to ⟨rfl, rfl, rfl, trivial⟩, hRR143⟩ hp
   ·replace hp := cond_f hb132 hp
    refine wp_exit <| c_thenE <| c_thenE <| c_exit <| ct ?_
    have ho := oI hp
    subst ho
    exact ⟨y105, yv106, m107, cs108, rfl, hw, hf.to ⟨rfl, trivial⟩, hRR109⟩
  ·intro a w hM
   obtain ⟨y124, yv125, m126, cs127, rfl, hw, hf, hRR128⟩ := hM
   replace hp := hq130
   refine ct <| wq <| wr <| om hf rfl rfl fun a hf => oR hf (r_convB hf und_45 und_5 und_9 rfl (rR (K := (ekI .u8)) hw (i := 0) rfl hRR128)) rfl fun a hf => oa hf rfl rfl fun a hf => oN <| ct <| wp_ret ?_
   replace hw : Ok E I (F) w := hw.sub (sc sr)
   have ho := oI hp
   subst ho
   exact b_ret1 hf results111 rfl ⟨_, rfl, ⟨rfl, hw⟩⟩

theorem ref04_turn_ok {E : World} {I : IH} {F : List Atom} {w : World} {a0 : Int} {a1 : Int} {res0 : Int} (hw : Ok E I (F) w) (hG : Gl I) (hp : ref04_turn.f a0 a1 = some res0) :
  Calls P 146 ⟨[Value.int .u32 a0, Value.int .u64 a1]⟩ w fun e w' => ∃ v, e = .returned v ∧ v = Value.int .u32 res0 ∧ Ok E I (F) w' := by
 refine c_enter func146 rfl ntmps146 rfl fun a hf => ?_
 replace hf : Fr 13 [(0, .int .u32 a0), (1, .int .u64 a1)] a := hf
 unfold ref04_turn.f at hp
 refine wq <| wr <| oa hf rfl rfl fun a hf => oN <| ct <| wq <| wr <| om hf rfl rfl fun a hf => om hf rfl rfl fun a hf => ?_
 obtain ⟨hg1, hp⟩ := gS hp
 refine oR hf (r_shr hf rfl rfl hg1) rfl fun a hf => om hf rfl rfl fun a hf => om hf rfl rfl fun a hf => oR hf (r_sub hf rfl rfl) rfl fun a hf => ?_
 obtain ⟨hg2, hp⟩ := gS hp
 refine oR hf (r_shl hf rfl rfl hg2) rfl fun a hf => oR hf (r_or hf rfl rfl) rfl fun a hf => oa hf rfl rfl fun a hf => oN <| ct <| wp_ret ?_
 have ho := oI hp
 subst ho
 exact b_ret1 hf results146 rfl ⟨_, rfl, ⟨rfl, hw⟩⟩
end Go.Lf
