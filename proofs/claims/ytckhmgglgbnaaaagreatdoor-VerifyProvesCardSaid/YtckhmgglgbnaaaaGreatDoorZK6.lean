import Derived.Test.YtckhmgglgbnaaaaGreatDoorZD
import Derived.Test.YtckhmgglgbnaaaaGreatDoorZF
import Derived.Test.YtckhmgglgbnaaaaGreatDoorJ
import Derived.Test.YtckhmgglgbnaaaaGreatDoorUB
import Derived.Test.YtckhmgglgbnaaaaGreatDoorZK5
set_option linter.unusedVariables false
set_option linter.unusedSimpArgs false
set_option maxHeartbeats 1000000
set_option maxRecDepth 20000
namespace Go.Lf
open Go Go.Proofs.Tryz
theorem ref09_Good_ok {E : World} {I : IH} {F : List Atom} {w : World} {a0 : Item} {a0v4 : Value} {res0 : Bool} (hw : Ok E I (F) w) (hG : Gl I) (hR5 : RS ekS I a0v4 a0.hashes_) (hp : ref09_Good.f a0 = some res0) :
  Calls P 93 ⟨[Value.agg ⟨[Value.int .i64 a0.kind_, Value.string a0.path_, Value.bool a0.has_, Value.string a0.value_, Value.int .i64 a0.mask_, a0v4]⟩]⟩ w fun e w' => ∃ v, e = .returned v ∧ v = Value.bool res0 ∧ Ok E I (F) w' := by
 refine c_enter func93 rfl ntmps93 rfl fun a hf => ?_
 replace hf : Fr 117 [(0, Value.agg ⟨[.int .i64 a0.kind_, .string a0.path_, .bool a0.has_, .string a0.value_, .int .i64 a0.mask_, a0v4]⟩)] a := hf
 unfold ref09_Good.f at hp
 refine wq <| wr ?_
 obtain ⟨b1, w, hrun2, hw⟩ := e_box (P := P) hw hf (e := 86) (x := .tmp 0) rfl (cs := [Value.int .i64 a0.kind_, Value.string a0.path_, Value.bool a0.has_, Value.string a0.value_, Value.int .i64 a0.mask_, a0v4]) rfl
 refine o_eff hf (hrun2 ..) rfl fun a hf => oa hf rfl rfl fun a hf => oN <| ct <| wq <| wq <| wr <| oa hf rfl rfl fun a hf => oN <| ct ?_
 obtain ⟨out15, hp, hq16⟩ := bS hp
 refine c_cutX (fun a w => (.inl ()) = out15 ∧ Ok E I (.blk b1 (.cells ⟨[.int .i64 a0.kind_, .string a0.path_, .bool a0.has_, .string a0.value_, .int .i64 a0.mask_, a0v4]⟩ 86 (0, 0)) :: F) w ∧ Fr 117 ([(1, .pointer (some ⟨b1, 0, none⟩))]) a) ?_ ?_
 ·refine wp_block <| c_loop <| c_fuel (ref09_Good.l0 a0) out15 (fun (y11 : Int) a w => Ok E I (.blk b1 (.cells ⟨[.int .i64 a0.kind_, .string a0.path_, .bool a0.has_, .string a0.value_, .int .i64 a0.mask_, a0v4]⟩ 86 (0, 0)) :: F) w ∧ Fr 117 ([(1, .pointer (some ⟨b1, 0, none⟩)), (3, .int .i64 y11)]) a) (fun _ => rfl) ?_ BIG 0 _ _ ⟨hw, hf.to ⟨rfl, rfl, trivial⟩⟩ hp
  intro k y11 a w hI hp ih
  obtain ⟨hw, hf⟩ := hI
  rw [ref09_Good.l0] at hp
  refine wq <| wq <| wr <| om hf rfl rfl fun a hf => oR hf (rF hf rfl fd_86_5) rfl fun a hf => oR hf (rL hw hf rfl ty_28 0 rfl rfl) rfl fun a hf => oR hf (r_lenL (K := ekS) hf el_28 rfl (hR5.rd hw)) rfl fun a hf => oR hf (iC hf rfl rfl rfl) rfl fun a hf => oN <| ct <| cC hf rfl (fun hb18 => ?_) (fun hb18 => ?_)
  ·replace hp := cond_t hb18 hp
   refine wp_skip <| ct <| wq <| wp_block <| wq <| wr <| oR hf (rF hf rfl fd_86_5) rfl fun a hf => oR hf (rL hw hf rfl ty_28 0 rfl rfl) rfl fun a hf => om hf rfl rfl fun a hf => ?_
   obtain ⟨hg19, hp⟩ := gS hp
   refine oR hf (rI (K := ekS) hf el_28 rfl rfl (hR5.rd hw) hg19) rfl fun a hf => oR hf (r_loadH (K := ekS) hf rfl ty_9 (hR5.rd hw) hg19 rfl (fun cs h => ekS_f0 h)) rfl fun a hf => oR hf (r_lenS hf und_9 rfl) rfl fun a hf => oR hf (iC hf rfl rfl rfl) rfl fun a hf => oN <| ct <| cC hf rfl (fun hb20 => ?_) (fun hb20 => ?_)
   ·replace hp := cond_t hb20 hp
    refine wq <| wr <| oa hf rfl rfl fun a hf => oN <| ct <| wp_ret <| c_blockR <| c_thenR <| c_thenR <| c_blockR <| c_thenR ?_
    have ho := oI hp
    subst ho
    replace hp := hq16
    refine c_thenR ?_
    replace hw : Ok E I (F) w := hw.sub (sc sr)
    have ho := oI hp
    subst ho
    exact b_ret1 hf results93 rfl ⟨_, rfl, ⟨rfl, hw⟩⟩
   ·replace hp := cond_f hb20 hp
    refine wp_skip <| c_blockN <| ct <| wr <| om hf rfl rfl fun a hf => oR hf (r_add hf rfl rfl) rfl fun a hf => oa hf rfl rfl fun a hf => oN <| ct ?_
    exact ih (w64 (y11 + 1)) _ _ ⟨hw, hf.to ⟨rfl, rfl, trivial⟩⟩ hp
  ·replace hp := cond_f hb18 hp
   refine wp_exit <| c_thenE <| c_thenE <| c_exit <| ct ?_
   have ho := oI hp
   subst ho
   exact ⟨rfl, hw, hf.to ⟨rfl, trivial⟩⟩
 ·intro a w hM
  obtain ⟨rfl, hw, hf⟩ := hM
  replace hp := hq16
  refine ct <| wq ?_
  obtain ⟨out37, hp, hq38⟩ := bS hp
  refine c_cut (fun a w => ∃ y36 : Bool, y36 = out37 ∧ Ok E I (.blk b1 (.cells ⟨[.int .i64 a0.kind_, .string a0.path_, .bool a0.has_, .string a0.value_, .int .i64 a0.mask_, a0v4]⟩ 86 (0, 0)) :: F) w ∧ Fr 117 ([(1, .pointer (some ⟨b1, 0, none⟩)), (32, .bool y36)]) a) ?_ ?_
  ·refine wr <| oR hf (rF hf rfl fd_86_3) rfl fun a hf => oR hf (rL hw hf rfl ty_9 0 rfl rfl) rfl fun a hf => oR hf (r_lenS hf und_9 rfl) rfl fun a hf => oR hf (iC hf rfl rfl rfl) rfl fun a hf => om hf rfl rfl fun a hf => g_split hf (g := 23) rfl (fun hb39 hf => ?_) (fun hb39 hf => ?_)
   ·replace hp := cond_t hb39 hp
    refine oQ hf (g := 23) rfl fun a hf => oQ hf (g := 23) rfl fun a hf => oQ hf (g := 23) rfl fun a hf => oQ hf (g := 23) rfl fun a hf => o_skipU hf (g := 27) rfl rfl rfl rfl rfl fun a hf => o_skipU hf (g := 27) rfl rfl rfl rfl rfl fun a hf => o_skipU hf (g := 27) rfl rfl rfl rfl rfl fun a hf => oQ hf (g := 23) rfl fun a hf => oR hf (pT hf rfl rfl) rfl fun a hf => oN <| ct ?_
    have ho := oI hp
    subst ho
    exact ⟨true, rfl, hw, hf.to ⟨rfl, rfl, trivial⟩⟩
   ·replace hp := cond_f hb39 hp
    refine oW hf (g := 23) rfl rfl <| oR hf (rF hf rfl fd_86_2) rfl fun a hf => oW hf (g := 23) rfl rfl <| oR hf (rL hw hf rfl ty_4 0 rfl rfl) rfl fun a hf => oW hf (g := 23) rfl rfl <| oR hf (r_not hf rfl) rfl fun a hf => oW hf (g := 23) rfl rfl <| om hf rfl rfl fun a hf => g_split hf (g := 27) rfl (fun hb40 hf => ?_) (fun hb40 hf => ?_)
    ·replace hp := cond_t hb40 hp
     refine oW hf (g := 27) rfl rfl <| oR hf (rF hf rfl fd_86_3) rfl fun a hf => oW hf (g := 27) rfl rfl <| oR hf (rL hw hf rfl ty_9 0 rfl rfl) rfl fun a hf => oW hf (g := 27) rfl rfl <| oR hf (r_scmp hf rfl rfl rfl) rfl fun a hf => oW hf (g := 23) rfl rfl <| oR hf (pT hf rfl rfl) rfl fun a hf => oR hf (pF hf rfl rfl) rfl fun a hf => oN <| ct ?_
     have ho := oI hp
     subst ho
     exact ⟨(!(seq_ a0.value_ e0)), rfl, hw, hf.to ⟨rfl, rfl, trivial⟩⟩
    ·replace hp := cond_f hb40 hp
     refine oQ hf (g := 27) rfl fun a hf => oQ hf (g := 27) rfl fun a hf => oQ hf (g := 27) rfl fun a hf => oW hf (g := 23) rfl rfl <| oR hf (pF hf rfl rfl) rfl fun a hf => oR hf (pF hf rfl rfl) rfl fun a hf => oN <| ct ?_
     have ho := oI hp
     subst ho
     exact ⟨false, rfl, hw, hf.to ⟨rfl, rfl, trivial⟩⟩
  ·intro a w hM
   obtain ⟨y36, rfl, hw, hf⟩ := hM
   replace hp := hq38
   refine cC hf rfl (fun hb41 => ?_) (fun hb41 => ?_)
   ·replace hp := cond_t hb41 hp
    refine wq <| wr <| oa hf rfl rfl fun a hf => oN <| ct <| wp_ret <| c_thenR ?_
    replace hw : Ok E I (F) w := hw.sub (sc sr)
    have ho := oI hp
    subst ho
    exact b_ret1 hf results93 rfl ⟨_, rfl, ⟨rfl, hw⟩⟩
   ·replace hp := cond_f hb41 hp
    refine wp_skip <| ct <| wq <| wq <| wr <| oR hf (rF hf rfl fd_86_0) rfl fun a hf => oR hf (rL hw hf rfl ty_3 0 rfl rfl) rfl fun a hf => oN <| ct <| wp_block <| wq <| wr <| oR hf (iC hf rfl rfl rfl) rfl fun a hf => oa hf rfl rfl fun a hf => oN <| ct ?_
    refine cC hf rfl (fun hb42 => ?_) (fun hb42 => ?_)
    ·replace hp := cond_t hb42 hp
     obtain ⟨out39, hp, hq40⟩ := bS hp
     refine c_cut (fun a w => ∃ y38 : Bool, y38 = out39 ∧ Ok E I (.blk b1 (.cells ⟨[.int .i64 a0.kind_, .string a0.path_, .bool a0.has_, .string a0.value_, .int .i64 a0.mask_, a0v4]⟩ 86 (0, 0)) :: F) w ∧ Fr 117 ([(2, .bool y38)]) a) ?_ ?_
     ·refine wr <| oR hf (rF hf rfl fd_86_1) rfl fun a hf => oR hf (rL hw hf rfl ty_9 0 rfl rfl) rfl fun a hf => ?_
      obtain ⟨y41, hy42, hp⟩ := bS hp
      have hc44 := ref02_Good_ok hw hG hy42
      refine o_call hf cb_131 rfl rfl hc44 (fun v46 w a hK45 hf => ?_)
      obtain ⟨rfl, hw⟩ := hK45
      refine om hf rfl rfl fun a hf => g_split hf (g := 40) rfl (fun hb47 hf => ?_) (fun hb47 hf => ?_)
      ·replace hp := cond_t hb47 hp
       refine oW hf (g := 40) rfl rfl <| oR hf (rF hf rfl fd_86_2) rfl fun a hf => oW hf (g := 40) rfl rfl <| oR hf (rL hw hf rfl ty_4 0 rfl rfl) rfl fun a hf => oR hf (pT hf rfl rfl) rfl fun a hf => om hf rfl rfl fun a hf => g_split hf (g := 44) rfl (fun hb48 hf => ?_) (fun hb48 hf => ?_)
       ·replace hp := cond_t hb48 hp
        refine oW hf (g := 44) rfl rfl <| oR hf (rF hf rfl fd_86_4) rfl fun a hf => oW hf (g := 44) rfl rfl <| oR hf (rL hw hf rfl ty_3 0 rfl rfl) rfl fun a hf => oW hf (g := 44) rfl rfl <| oR hf (iC hf rfl rfl rfl) rfl fun a hf => oR hf (pT hf rfl rfl) rfl fun a hf => om hf rfl rfl fun a hf => g_split hf (g := 49) rfl (fun hb49 hf => ?_) (fun hb49 hf => ?_)
        ·replace hp := cond_t hb49 hp
         refine oW hf (g := 49) rfl rfl <| oR hf (rF hf rfl fd_86_5) rfl fun a hf => oW hf (g := 49) rfl rfl <| oR hf (rL hw hf rfl ty_28 0 rfl rfl) rfl fun a hf => oW hf (g := 49) rfl rfl <| oR hf (r_lenL (K := ekS) hf el_28 rfl (hR5.rd hw)) rfl fun a hf => oW hf (g := 49) rfl rfl <| oR hf (iC hf rfl rfl rfl) rfl fun a hf => oR hf (pT hf rfl rfl) rfl fun a hf => oa hf rfl rfl fun a hf => oN <| ct ?_
         have ho := oI hp
         subst ho
         exact ⟨((a0.hashes_.length : Int) == 0), rfl, hw, hf.to ⟨rfl, trivial⟩⟩
        ·replace hp := cond_f hb49 hp
         refine oQ hf (g := 49) rfl fun a hf => oQ hf (g := 49) rfl fun a hf => oQ hf (g := 49) rfl fun a hf => oQ hf (g := 49) rfl fun a hf => oR hf (pF hf rfl rfl) rfl fun a hf => oa hf rfl rfl fun a hf => oN <| ct ?_
         have ho := oI hp
         subst ho
         exact ⟨false, rfl, hw, hf.to ⟨rfl, trivial⟩⟩
       ·replace hp := cond_f hb48 hp
        refine oQ hf (g := 44) rfl fun a hf => oQ hf (g := 44) rfl fun a hf => oQ hf (g := 44) rfl fun a hf => oR hf (pF hf rfl rfl) rfl fun a hf => om hf rfl rfl fun a hf => oQ hf (g := 49) rfl fun a hf => oQ hf (g := 49) rfl fun a hf => oQ hf (g := 49) rfl fun a hf => oQ hf (g := 49) rfl fun a hf => oR hf (pF hf rfl rfl) rfl fun a hf => oa hf rfl rfl fun a hf => oN <| ct ?_
        have ho := oI hp
        subst ho
        exact ⟨false, rfl, hw, hf.to ⟨rfl, trivial⟩⟩
      ·replace hp := cond_f hb47 hp
       refine oQ hf (g := 40) rfl fun a hf => oQ hf (g := 40) rfl fun a hf => oR hf (pF hf rfl rfl) rfl fun a hf => om hf rfl rfl fun a hf => oQ hf (g := 44) rfl fun a hf => oQ hf (g := 44) rfl fun a hf => oQ hf (g := 44) rfl fun a hf => oR hf (pF hf rfl rfl) rfl fun a hf => om hf rfl rfl fun a hf => oQ hf (g := 49) rfl fun a hf => oQ hf (g := 49) rfl fun a hf => oQ hf (g := 49) rfl fun a hf => oQ hf (g := 49) rfl fun a hf => oR hf (pF hf rfl rfl) rfl fun a hf => oa hf rfl rfl fun a hf => oN ?_
       refine ct ?_
       have ho := oI hp
       subst ho
       exact ⟨false, rfl, hw, hf.to ⟨rfl, trivial⟩⟩
     ·intro a w hM
      obtain ⟨y38, rfl, hw, hf⟩ := hM
      replace hp := hq40
      refine wp_ret <| c_blockR <| c_thenR ?_
      replace hw : Ok E I (F) w := hw.sub (sc sr)
      have ho := oI hp
      subst ho
      exact b_ret1 hf results93 rfl ⟨_, rfl, ⟨rfl, hw⟩⟩
    ·replace hp := cond_f hb42 hp
     refine wq <| wr <| oR hf (iC hf rfl rfl rfl) rfl fun a hf => oa hf rfl rfl fun a hf => oN <| ct <| cC hf rfl (fun hb50 => ?_) (fun hb50 => ?_)
     ·replace hp := cond_t hb50 hp
      obtain ⟨out72, hp, hq73⟩ := bS hp
      refine c_cut (fun a w => ∃ y71 : Bool, y71 = out72 ∧ Ok E I (.blk b1 (.cells ⟨[.int .i64 a0.kind_, .string a0.path_, .bool a0.has_, .string a0.value_, .int .i64 a0.mask_, a0v4]⟩ 86 (0, 0)) :: F) w ∧ Fr 117 ([(2, .bool y71)]) a) ?_ ?_
      ·refine wr <| oR hf (rF hf rfl fd_86_1) rfl fun a hf => oR hf (rL hw hf rfl ty_9 0 rfl rfl) rfl fun a hf => ?_
       obtain ⟨y74, hy75, hp⟩ := bS hp
       have hc77 := ref02_Good_ok hw hG hy75
       refine o_call hf cb_131 rfl rfl hc77 (fun v79 w a hK78 hf => ?_)
       obtain ⟨rfl, hw⟩ := hK78
       refine om hf rfl rfl fun a hf => g_split hf (g := 60) rfl (fun hb80 hf => ?_) (fun hb80 hf => ?_)
       ·replace hp := cond_t hb80 hp
        refine oW hf (g := 60) rfl rfl <| oR hf (rF hf rfl fd_86_1) rfl fun a hf => oW hf (g := 60) rfl rfl <| oR hf (rL hw hf rfl ty_9 0 rfl rfl) rfl fun a hf => oW hf (g := 60) rfl rfl <| oR hf (r_lenS hf und_9 rfl) rfl fun a hf => oW hf (g := 60) rfl rfl <| oR hf (iC hf rfl rfl rfl) rfl fun a hf => oR hf (pT hf rfl rfl) rfl fun a hf => om hf rfl rfl fun a hf => g_split hf (g := 66) rfl (fun hb81 hf => ?_) (fun hb81 hf => ?_)
        ·replace hp := cond_t hb81 hp
         refine oW hf (g := 66) rfl rfl <| oR hf (rF hf rfl fd_86_2) rfl fun a hf => oW hf (g := 66) rfl rfl <| oR hf (rL hw hf rfl ty_4 0 rfl rfl) rfl fun a hf => oW hf (g := 66) rfl rfl <| oR hf (r_not hf rfl) rfl fun a hf => oR hf (pT hf rfl rfl) rfl fun a hf => om hf rfl rfl fun a hf => g_split hf (g := 71) rfl (fun hb82 hf => ?_) (fun hb82 hf => ?_)
         ·replace hp := cond_t hb82 hp
          refine oW hf (g := 71) rfl rfl <| oR hf (rF hf rfl fd_86_4) rfl fun a hf => oW hf (g := 71) rfl rfl <| oR hf (rL hw hf rfl ty_3 0 rfl rfl) rfl fun a hf => oW hf (g := 71) rfl rfl <| oR hf (iC hf rfl rfl rfl) rfl fun a hf => oR hf (pT hf rfl rfl) rfl fun a hf => om hf rfl rfl fun a hf => g_split hf (g := 76) rfl (fun hb83 hf => ?_) (fun hb83 hf => ?_)
          ·replace hp := cond_t hb83 hp
           refine oW hf (g := 76) rfl rfl <| oR hf (rF hf rfl fd_86_5) rfl fun a hf => oW hf (g := 76) rfl rfl <| oR hf (rL hw hf rfl ty_28 0 rfl rfl) rfl fun a hf => oW hf (g := 76) rfl rfl <| oR hf (r_lenL (K := ekS) hf el_28 rfl (hR5.rd hw)) rfl fun a hf => oW hf (g := 76) rfl rfl <| oR hf (iC hf rfl rfl rfl) rfl fun a hf => oR hf (pT hf rfl rfl) rfl fun a hf => oa hf rfl rfl fun a hf => oN <| ct ?_
           have ho := oI hp
           subst ho
           exact ⟨((a0.hashes_.length : Int) == 1), rfl, hw, hf.to ⟨rfl, trivial⟩⟩
          ·replace hp := cond_f hb83 hp
           refine oQ hf (g := 76) rfl fun a hf => oQ hf (g := 76) rfl fun a hf => oQ hf (g := 76) rfl fun a hf => oQ hf (g := 76) rfl fun a hf => oR hf (pF hf rfl rfl) rfl fun a hf => oa hf rfl rfl fun a hf => oN <| ct ?_
           have ho := oI hp
           subst ho
           exact ⟨false, rfl, hw, hf.to ⟨rfl, trivial⟩⟩
         ·replace hp := cond_f hb82 hp
          refine oQ hf (g := 71) rfl fun a hf => oQ hf (g := 71) rfl fun a hf => oQ hf (g := 71) rfl fun a hf => oR hf (pF hf rfl rfl) rfl fun a hf => om hf rfl rfl fun a hf => oQ hf (g := 76) rfl fun a hf => oQ hf (g := 76) rfl fun a hf => oQ hf (g := 76) rfl fun a hf => oQ hf (g := 76) rfl fun a hf => oR hf (pF hf rfl rfl) rfl fun a hf => oa hf rfl rfl fun a hf => oN <| ct ?_
          have ho := oI hp
          subst ho
          exact ⟨false, rfl, hw, hf.to ⟨rfl, trivial⟩⟩
        ·replace hp := cond_f hb81 hp
         refine oQ hf (g := 66) rfl fun a hf => oQ hf (g := 66) rfl fun a hf => oQ hf (g := 66) rfl fun a hf => oR hf (pF hf rfl rfl) rfl fun a hf => om hf rfl rfl fun a hf => oQ hf (g := 71) rfl fun a hf => oQ hf (g := 71) rfl fun a hf => oQ hf (g := 71) rfl fun a hf => oR hf (pF hf rfl rfl) rfl fun a hf => om hf rfl rfl fun a hf => oQ hf (g := 76) rfl fun a hf => oQ hf (g := 76) rfl fun a hf => oQ hf (g := 76) rfl fun a hf => oQ hf (g := 76) rfl fun a hf => oR hf (pF hf rfl rfl) rfl fun a hf => oa hf rfl rfl fun a hf => ?_
         refine oN <| ct ?_
         have ho := oI hp
         subst ho
         exact ⟨false, rfl, hw, hf.to ⟨rfl, trivial⟩⟩
       ·replace hp := cond_f hb80 hp
        refine oQ hf (g := 60) rfl fun a hf => oQ hf (g := 60) rfl fun a hf => oQ hf (g := 60) rfl fun a hf => oQ hf (g := 60) rfl fun a hf => oR hf (pF hf rfl rfl) rfl fun a hf => om hf rfl rfl fun a hf => oQ hf (g := 66) rfl fun a hf => oQ hf (g := 66) rfl fun a hf => oQ hf (g := 66) rfl fun a hf => oR hf (pF hf rfl rfl) rfl fun a hf => om hf rfl rfl fun a hf => oQ hf (g := 71) rfl fun a hf => oQ hf (g := 71) rfl fun a hf => oQ hf (g := 71) rfl fun a hf => oR hf (pF hf rfl rfl) rfl fun a hf => om hf rfl rfl fun a hf => ?_
        refine oQ hf (g := 76) rfl fun a hf => oQ hf (g := 76) rfl fun a hf => oQ hf (g := 76) rfl fun a hf => oQ hf (g := 76) rfl fun a hf => oR hf (pF hf rfl rfl) rfl fun a hf => oa hf rfl rfl fun a hf => oN <| ct ?_
        have ho := oI hp
        subst ho
        exact ⟨false, rfl, hw, hf.to ⟨rfl, trivial⟩⟩
      ·intro a w hM
       obtain ⟨y71, rfl, hw, hf⟩ := hM
       replace hp := hq73
       refine wp_ret <| c_blockR <| c_thenR ?_
       replace hw : Ok E I (F) w := hw.sub (sc sr)
       have ho := oI hp
       subst ho
       exact b_ret1 hf results93 rfl ⟨_, rfl, ⟨rfl, hw⟩⟩
     ·replace hp := cond_f hb50 hp
      refine wq <| wr <| oR hf (iC hf rfl rfl rfl) rfl fun a hf => oa hf rfl rfl fun a hf => oN <| ct <| cC hf rfl (fun hb84 => ?_) (fun hb84 => ?_)
      ·replace hp := cond_t hb84 hp
       refine wq <| wr <| oR hf (rF hf rfl fd_86_5) rfl fun a hf => oR hf (rL hw hf rfl ty_28 0 rfl rfl) rfl fun a hf => oR hf (r_lenL (K := ekS) hf el_28 rfl (hR5.rd hw)) rfl fun a hf => oa hf rfl rfl fun a hf => oN <| ct ?_
       obtain ⟨out88, hp, hq89⟩ := bS hp
       refine c_cut (fun a w => ∃ y87 : Int, y87 = out88 ∧ Ok E I (.blk b1 (.cells ⟨[.int .i64 a0.kind_, .string a0.path_, .bool a0.has_, .string a0.value_, .int .i64 a0.mask_, a0v4]⟩ 86 (0, 0)) :: F) w ∧ Fr 117 ([(1, .pointer (some ⟨b1, 0, none⟩)), (4, .int .i64 y87)]) a) ?_ ?_
       ·refine wq <| wr <| oR hf (rF hf rfl fd_86_2) rfl fun a hf => oR hf (rL hw hf rfl ty_4 0 rfl rfl) rfl fun a hf => oN <| ct <| cC hf rfl (fun hb90 => ?_) (fun hb90 => ?_)
        ·replace hp := cond_t hb90 hp
         refine wr <| om hf rfl rfl fun a hf => oR hf (r_add hf rfl rfl) rfl fun a hf => oa hf rfl rfl fun a hf => oN <| ct ?_
         have ho := oI hp
         subst ho
         exact ⟨(w64 ((a0.hashes_.length : Int) + 1)), rfl, hw, hf.to ⟨rfl, rfl, trivial⟩⟩
        ·replace hp := cond_f hb90 hp
         refine wp_skip <| ct ?_
         have ho := oI hp
         subst ho
         exact ⟨(a0.hashes_.length : Int), rfl, hw, hf.to ⟨rfl, rfl, trivial⟩⟩
       ·intro a w hM
        obtain ⟨y87, rfl, hw, hf⟩ := hM
        replace hp := hq89
        obtain ⟨out37, hp, hq38⟩ := bS hp
        refine c_cut (fun a w => ∃ y36 : Bool, y36 = out37 ∧ Ok E I (.blk b1 (.cells ⟨[.int .i64 a0.kind_, .string a0.path_, .bool a0.has_, .string a0.value_, .int .i64 a0.mask_, a0v4]⟩ 86 (0, 0)) :: F) w ∧ Fr 117 ([(2, .bool y36)]) a) ?_ ?_
        ·refine c_drawn mix [] (.rd 0 (.rd 1 (.rd 2 (.rd 3 (.rd 4 (.rd 5 (.rd 6 (.rd 7 (.rd 8 (.rd 9 (.rd 10 (.rd 11 (.rd 12 (.rd 13 (.rd 14 (.rd 15 (.rd 17 (.rd 18 (.rd 19 (.ef 16 (.rd 20 (.rd 21 (.rd 22 (.rd 23 (.rd 24 (.rd 25 (.rd 26 .done))))))))))))))))))))))))))) (by kernel_rfl) hw (fun w => Ok E I (.blk b1 (.cells ⟨[.int .i64 a0.kind_, .string a0.path_, .bool a0.has_, .string a0.value_, .int .i64 a0.mask_, a0v4]⟩ 86 (0, 0)) :: F) w) (fun w hw => ⟨hw.sub (scc sr), ?_⟩)
         refine tR rfl hf (fun w hw => rF hf rfl fd_86_1) rfl fun a hf => tR rfl hf (fun w hw => rL hw hf rfl ty_9 0 rfl rfl) rfl fun a hf => tR rfl hf (fun w hw => r_scmp hf rfl rfl rfl) rfl fun a hf => tm rfl hf rfl rfl fun a hf => g_split hf (g := 94) rfl (fun hb40 hf => ?_) (fun hb40 hf => ?_)
         ·replace hp := cond_t hb40 hp
          refine tG rfl rfl hf rfl (fun w hw => rF hf rfl fd_86_4) rfl fun a hf => tG rfl rfl hf rfl (fun w hw => rL hw hf rfl ty_3 0 rfl rfl) rfl fun a hf => tG rfl rfl hf rfl (fun w hw => iC hf rfl rfl rfl) rfl fun a hf => tR rfl hf (fun w hw => pT hf rfl rfl) rfl fun a hf => tm rfl hf rfl rfl fun a hf => g_split hf (g := 99) rfl (fun hb41 hf => ?_) (fun hb41 hf => ?_)
          ·replace hp := cond_t hb41 hp
           refine tG rfl rfl hf rfl (fun w hw => rF hf rfl fd_86_4) rfl fun a hf => tG rfl rfl hf rfl (fun w hw => rL hw hf rfl ty_3 0 rfl rfl) rfl fun a hf => tG rfl rfl hf rfl (fun w hw => iC hf rfl rfl rfl) rfl fun a hf => tR rfl hf (fun w hw => pT hf rfl rfl) rfl fun a hf => tm rfl hf rfl rfl fun a hf => g_split hf (g := 104) rfl (fun hb42 hf => ?_) (fun hb42 hf => ?_)
           ·replace hp := cond_t hb42 hp
            refine tG rfl rfl hf rfl (fun w hw => rF hf rfl fd_86_4) rfl fun a hf => tG rfl rfl hf rfl (fun w hw => rL hw hf rfl ty_3 0 rfl rfl) rfl fun a hf => tG rfl rfl hf rfl (fun w hw => rF hf rfl fd_86_5) rfl fun a hf => tG rfl rfl hf rfl (fun w hw => rL hw hf rfl ty_28 0 rfl rfl) rfl fun a hf => tG rfl rfl hf rfl (fun w hw => r_lenL (K := ekS) hf el_28 rfl (hR5.rd hw)) rfl fun a hf => t_ef rfl ?_
            obtain ⟨y43, hy44, hp⟩ := bS hp
            have hc46 := ref09_Bits_ok hw hG hy44
            refine t_callG rfl hf rfl cb_132 rfl rfl hc46 (fun v48 w a hK47 hf => ?_)
            obtain ⟨rfl, hw⟩ := hK47
            refine ⟨.inr (hw.back (IH.le_refl _) (scc sr)), ?_⟩
            refine tG rfl rfl hf rfl (fun w hw => iC hf rfl rfl rfl) rfl fun a hf => tR rfl hf (fun w hw => pT hf rfl rfl) rfl fun a hf => tm rfl hf rfl rfl fun a hf => g_split hf (g := 113) rfl (fun hb49 hf => ?_) (fun hb49 hf => ?_)
            ·replace hp := cond_t hb49 hp
             refine tG rfl rfl hf rfl (fun w hw => r_move hf rfl) rfl fun a hf => tG rfl rfl hf rfl (fun w hw => iC hf rfl rfl rfl) rfl fun a hf => tR rfl hf (fun w hw => pT hf rfl rfl) rfl fun a hf => tR rfl hf (fun w hw => r_assign hf rfl) rfl fun a hf => t_done <| ct ?_
             have ho := oI hp
             subst ho
             exact ⟨(decide (y87 ≥ 2)), rfl, hw, hf.to ⟨rfl, trivial⟩⟩
            ·replace hp := cond_f hb49 hp
             refine tS rfl rfl hf rfl rfl rfl fun a hf => tS rfl rfl hf rfl rfl rfl fun a hf => tR rfl hf (fun w hw => pF hf rfl rfl) rfl fun a hf => tR rfl hf (fun w hw => r_assign hf rfl) rfl fun a hf => t_done <| ct ?_
             have ho := oI hp
             subst ho
             exact ⟨false, rfl, hw, hf.to ⟨rfl, trivial⟩⟩
           ·replace hp := cond_f hb42 hp
            refine tS rfl rfl hf rfl rfl rfl fun a hf => tS rfl rfl hf rfl rfl rfl fun a hf => tS rfl rfl hf rfl rfl rfl fun a hf => tS rfl rfl hf rfl rfl rfl fun a hf => tS rfl rfl hf rfl rfl rfl fun a hf => t_ef rfl <| t_skipE rfl hf rfl rfl rfl fun a hf => ⟨.inr (hw.back (IH.le_refl _) (scc sr)), ?_⟩
            refine tS rfl rfl hf rfl rfl rfl fun a hf => tR rfl hf (fun w hw => pF hf rfl rfl) rfl fun a hf => tm rfl hf rfl rfl fun a hf => tS rfl rfl hf rfl rfl rfl fun a hf => tS rfl rfl hf rfl rfl rfl fun a hf => tR rfl hf (fun w hw => pF hf rfl rfl) rfl fun a hf => tR rfl hf (fun w hw => r_assign hf rfl) rfl fun a hf => t_done <| ct ?_
            have ho := oI hp
            subst ho
            exact ⟨false, rfl, hw, hf.to ⟨rfl, trivial⟩⟩
          ·replace hp := cond_f hb41 hp
           refine tS rfl rfl hf rfl rfl rfl fun a hf => tS rfl rfl hf rfl rfl rfl fun a hf => tS rfl rfl hf rfl rfl rfl fun a hf => tR rfl hf (fun w hw => pF hf rfl rfl) rfl fun a hf => tm rfl hf rfl rfl fun a hf => tS rfl rfl hf rfl rfl rfl fun a hf => tS rfl rfl hf rfl rfl rfl fun a hf => tS rfl rfl hf rfl rfl rfl fun a hf => tS rfl rfl hf rfl rfl rfl fun a hf => tS rfl rfl hf rfl rfl rfl fun a hf => t_ef rfl <| t_skipE rfl hf rfl rfl rfl fun a hf => ⟨.inr (hw.back (IH.le_refl _) (scc sr)), ?_⟩
           refine tS rfl rfl hf rfl rfl rfl fun a hf => tR rfl hf (fun w hw => pF hf rfl rfl) rfl fun a hf => tm rfl hf rfl rfl fun a hf => tS rfl rfl hf rfl rfl rfl fun a hf => tS rfl rfl hf rfl rfl rfl fun a hf => tR rfl hf (fun w hw => pF hf rfl rfl) rfl fun a hf => tR rfl hf (fun w hw => r_assign hf rfl) rfl fun a hf => t_done <| ct ?_
           have ho := oI hp
           subst ho
           exact ⟨false, rfl, hw, hf.to ⟨rfl, trivial⟩⟩
         ·replace hp := cond_f hb40 hp
          refine tS rfl rfl hf rfl rfl rfl fun a hf => tS rfl rfl hf rfl rfl rfl fun a hf => tS rfl rfl hf rfl rfl rfl fun a hf => tR rfl hf (fun w hw => pF hf rfl rfl) rfl fun a hf => tm rfl hf rfl rfl fun a hf => tS rfl rfl hf rfl rfl rfl fun a hf => tS rfl rfl hf rfl rfl rfl fun a hf => tS rfl rfl hf rfl rfl rfl fun a hf => tR rfl hf (fun w hw => pF hf rfl rfl) rfl fun a hf => tm rfl hf rfl rfl fun a hf => tS rfl rfl hf rfl rfl rfl fun a hf => tS rfl rfl hf rfl rfl rfl fun a hf => tS rfl rfl hf rfl rfl rfl fun a hf => tS rfl rfl hf rfl rfl rfl fun a hf => tS rfl rfl hf rfl rfl rfl fun a hf => t_ef rfl ?_
          refine t_skipE rfl hf rfl rfl rfl fun a hf => ⟨.inr (hw.back (IH.le_refl _) (scc sr)), ?_⟩
          refine tS rfl rfl hf rfl rfl rfl fun a hf => tR rfl hf (fun w hw => pF hf rfl rfl) rfl fun a hf => tm rfl hf rfl rfl fun a hf => tS rfl rfl hf rfl rfl rfl fun a hf => tS rfl rfl hf rfl rfl rfl fun a hf => tR rfl hf (fun w hw => pF hf rfl rfl) rfl fun a hf => tR rfl hf (fun w hw => r_assign hf rfl) rfl fun a hf => t_done <| ct ?_
          have ho := oI hp
          subst ho
          exact ⟨false, rfl, hw, hf.to ⟨rfl, trivial⟩⟩
        ·intro a w hM
         obtain ⟨y36, rfl, hw, hf⟩ := hM
         replace hp := hq38
         refine wp_ret <| c_blockR <| c_thenR ?_
         replace hw : Ok E I (F) w := hw.sub (sc sr)
         have ho := oI hp
         subst ho
         exact b_ret1 hf results93 rfl ⟨_, rfl, ⟨rfl, hw⟩⟩
      ·replace hp := cond_f hb84 hp
       refine wp_skip <| c_blockN <| ct <| wq <| wr <| oa hf rfl rfl fun a hf => oN <| ct <| wp_ret ?_
       replace hw : Ok E I (F) w := hw.sub (sc sr)
       have ho := oI hp
       subst ho
       exact b_ret1 hf results93 rfl ⟨_, rfl, ⟨rfl, hw⟩⟩

theorem ref02_Pack_ok {E : World} {I : IH} {F : List Atom} {w : World} {a0 : ByteArray} {res0 : ref02_Text_T} (hw : Ok E I (F) w) (hG : Gl I) (hp : ref02_Pack.f a0 = some res0) :
  Calls P 94 ⟨[Value.string a0]⟩ w fun e w' => ∃ v, e = .returned v ∧ v = Value.agg ⟨[Value.string res0.s_, Value.bool res0.ok_]⟩ ∧ Ok E I (F) w' := by
 refine c_enter func94 rfl ntmps94 rfl fun a hf => ?_
 replace hf : Fr 42 [(0, .string a0)] a := hf
 unfold ref02_Pack.f at hp
 refine wq <| wr ?_
 obtain ⟨b1, w, hrun2, hw⟩ := e_alloc (P := P) (a := a) hw ty_187
 refine o_eff hf (hrun2 ..) rfl fun a hf => oN <| ct <| wq <| wq <| wr <| om hf rfl rfl fun a hf => ?_
 obtain ⟨y4, hy5, hp⟩ := bS hp
 have hc7 := ref02_Good_ok hw hG hy5
 refine o_call hf cb_131 rfl rfl hc7 (fun v9 w a hK8 hf => ?_)
 obtain ⟨rfl, hw⟩ := hK8
 refine oR hf (r_not hf rfl) rfl fun a hf => oN <| ct <| cC hf rfl (fun hb10 => ?_) (fun hb10 => ?_)
 ·replace hp := cond_t hb10 hp
  refine wq <| wr <| oR hf (r_build hf bd_187 (vs := []) rfl trivial (by decide) (out := [.string e0, .bool false]) rfl) rfl fun a hf => ?_
  obtain ⟨w, hrun11, hw⟩ := e_store (P := P) hw hf (x := .tmp 2) (y := .tmp 9) rfl rfl ty_187 0 rfl (vs := [.string e0, .bool false]) rfl rfl (oC rfl (oC rfl ones_nil)) (by simp [arrC_len]) (cs' := [.string e0, .bool false]) rfl
  dsimp only [List.set] at hw
  refine o_effU (hrun11 ..) <| oN <| ct <| wp_ret <| c_thenR ?_
  have ho := oI hp
  subst ho
  exact b_retC hw hf results94 ty_187 rfl 0 rfl (vs := [.string e0, .bool false]) rfl rfl ⟨_, rfl, ⟨rfl, hw.tail⟩⟩
 ·replace hp := cond_f hb10 hp
  refine wp_skip <| ct <| wq <| wr <| om hf rfl rfl fun a hf => oR hf (r_lenS hf und_9 rfl) rfl fun a hf => oR hf (r_convI hf und_3 und_5 rfl) rfl fun a hf => ?_
  obtain ⟨w, v12, hrun13, hw, hRR14⟩ := e_buildSlice (P := P) (K := (ekI .u8)) (m := 1) hw hf (parts := [(0, .tmp 12)]) el_45 ty_5 rfl rfl rfl (ccs := [[Value.int .u8 (wu8 (a0.size : Int))]]) rfl (xs := [wu8 (a0.size : Int)]) ⟨rfl, trivial⟩ rfl
  obtain ⟨cs15, hcs⟩ : ∃ cs, cs = ([[Value.int .u8 (wu8 (a0.size : Int))]] : List (List Value)).flatten := ⟨_, rfl⟩
  rw [← hcs] at hw hRR14; clear hcs
  refine o_eff hf (hrun13 ..) rfl fun a hf => oa hf rfl rfl fun a hf => oN <| ct <| wq <| wq <| wr <| oa hf rfl rfl fun a hf => oN <| ct ?_
  obtain ⟨out163, hp, hq164⟩ := bS hp
  refine c_cutX (fun a w => ∃ y158 : List Int, ∃ yv159 : Value, ∃ m160 : Nat, ∃ cs161 : List Value, y158 = out163 ∧ Ok E I (.row yv159 5 1 m160 cs161 :: .blk b1 (.cells ⟨[.string e0, .bool false]⟩ 187 (0, 0)) :: F) w ∧ Fr 42 ([(2, .pointer (some ⟨b1, 0, none⟩)), (3, yv159)]) a ∧ RowR (ekI .u8) I cs161 y158) ?_ ?_
  ·refine wp_block <| c_loop <| c_fuel (ref02_Pack.l0 a0) out163 (fun (y109, y114) a w => ∃ yv110 : Value, ∃ m111 : Nat, ∃ cs112 : List Value, Ok E I (.row yv110 5 1 m111 cs112 :: .blk b1 (.cells ⟨[.string e0, .bool false]⟩ 187 (0, 0)) :: F) w ∧ Fr 42 ([(0, .string a0), (2, .pointer (some ⟨b1, 0, none⟩)), (3, yv110), (4, .int .i64 y114)]) a ∧ RowR (ekI .u8) I cs112 y109) (fun _ => rfl) ?_ BIG ([wu8 (a0.size : Int)], 0) _ _ ⟨v12, 1, cs15, hw, hf.to ⟨rfl, rfl, rfl, rfl, trivial⟩, hRR14⟩ hp
   intro k st a w hI hp ih
   obtain ⟨y109, y114⟩ := st
   obtain ⟨yv110, m111, cs112, hw, hf, hRR113⟩ := hI
   rw [ref02_Pack.l0] at hp
   refine wq <| wq <| wr <| om hf rfl rfl fun a hf => om hf rfl rfl fun a hf => oR hf (r_lenS hf und_9 rfl) rfl fun a hf => oR hf (iC hf rfl rfl rfl) rfl fun a hf => oN <| ct <| cC hf rfl (fun hb166 => ?_) (fun hb166 => ?_)
   ·replace hp := cond_t hb166 hp
    refine wp_skip <| ct <| wq <| wp_block <| wq <| wr <| om hf rfl rfl fun a hf => om hf rfl rfl fun a hf => ?_
    obtain ⟨hg188, hp⟩ := gS hp
    refine oR hf (r_indexS hf und_9 rfl rfl hg188) rfl fun a hf => oR hf (r_mul hf rfl rfl) rfl fun a hf => oa hf rfl rfl fun a hf => oN <| ct ?_
    obtain ⟨out194, hp, hq195⟩ := bS hp
    refine c_cut (fun a w => ∃ y193 : Int, y193 = out194 ∧ Ok E I (.row yv110 5 1 m111 cs112 :: .blk b1 (.cells ⟨[.string e0, .bool false]⟩ 187 (0, 0)) :: F) w ∧ Fr 42 ([(0, .string a0), (2, .pointer (some ⟨b1, 0, none⟩)), (3, yv110), (4, .int .i64 y114), (5, .int .u8 y193)]) a) ?_ ?_
    ·refine wq <| wr <| om hf rfl rfl fun a hf => oR hf (r_add hf rfl rfl) rfl fun a hf => om hf rfl rfl fun a hf => oR hf (r_lenS hf und_9 rfl) rfl fun a hf => oR hf (iC hf rfl rfl rfl) rfl fun a hf => oN <| ct <| cC hf rfl (fun hb196 => ?_) (fun hb196 => ?_)
     ·replace hp := cond_t hb196 hp
      refine wr <| om hf rfl rfl fun a hf => om hf rfl rfl fun a hf => om hf rfl rfl fun a hf => oR hf (r_add hf rfl rfl) rfl fun a hf => ?_
      obtain ⟨hg197, hp⟩ := gS hp
      refine oR hf (r_indexS hf und_9 rfl rfl hg197) rfl fun a hf => oR hf (r_add hf rfl rfl) rfl fun a hf => oa hf rfl rfl fun a hf => oN <| ct ?_
      have ho := oI hp
      subst ho
      exact ⟨(wu8 ((wu8 ((bt a0 y114) * 16)) + (bt a0 (w64 (y114 + 1))))), rfl, hw, hf.to ⟨rfl, rfl, rfl, rfl, rfl, trivial⟩⟩
     ·replace hp := cond_f hb196 hp
      refine wp_skip <| ct ?_
      have ho := oI hp
      subst ho
      exact ⟨(wu8 ((bt a0 y114) * 16)), rfl, hw, hf.to ⟨rfl, rfl, rfl, rfl, rfl, trivial⟩⟩
    ·intro a w hM
     obtain ⟨y193, rfl, hw, hf⟩ := hM
     replace hp := hq195
     refine wr <| om hf rfl rfl fun a hf => om hf rfl rfl fun a hf => ?_
     obtain ⟨w, v198, hrun199, hw, hRR200⟩ := e_buildSlice (P := P) (K := (ekI .u8)) (m := 1) hw hf (parts := [(0, .tmp 36)]) el_45 ty_5 rfl rfl rfl (ccs := [[Value.int .u8 y193]]) rfl (xs := [y193]) ⟨rfl, trivial⟩ rfl
     obtain ⟨cs201, hcs⟩ : ∃ cs, cs = ([[Value.int .u8 y193]] : List (List Value)).flatten := ⟨_, rfl⟩
     rw [← hcs] at hw hRR200; clear hcs
     refine o_eff hf (hrun199 ..) rfl fun a hf => ?_
     obtain ⟨hg203, hp⟩ := gS hp
     obtain ⟨w, v204, m205, cs206, hrun208, hw, hRR207⟩ := e_append (P := P) (K := (ekI .u8)) (ty := 45) hw hf (s := .tmp 35) (x := .tmp 37) el_45 ty_5 rfl (by decide) 1 rfl rfl rfl hRR113 (ys := [y193]) (rR (K := (ekI .u8)) hw (i := 0) rfl hRR200) hg203
     replace hw : Ok E I (.row v198 5 1 1 cs201 :: .row v204 5 1 m205 cs206 :: .blk b1 (.cells ⟨[.string e0, .bool false]⟩ 187 (0, 0)) :: F) w := hw
     refine o_eff hf (hrun208 ..) rfl fun a hf => oa hf rfl rfl fun a hf => oN <| c_blockN <| ct <| wr <| om hf rfl rfl fun a hf => oR hf (r_add hf rfl rfl) rfl fun a hf => oa hf rfl rfl fun a hf => oN <| ct ?_
     replace hw : Ok E I (.row v204 5 1 m205 cs206 :: .blk b1 (.cells ⟨[.string e0, .bool false]⟩ 187 (0, 0)) :: F) w := hw.sub (sc (scc (scc sr)))
     exact ih (y109 ++ [y193], w64 (y114 + 2)) _ _ ⟨v204, m205, cs206, hw, hf.to ⟨rfl, rfl, rfl, rfl, trivial⟩, hRR207⟩ hp
   ·replace hp := cond_f hb166 hp
    refine wp_exit <| c_thenE <| c_thenE <| c_exit <| ct ?_
    have ho := oI hp
    subst ho
    exact ⟨y109, yv110, m111, cs112, rfl, hw, hf.to ⟨rfl, rfl, trivial⟩, hRR113⟩
  ·intro a w hM
   obtain ⟨y158, yv159, m160, cs161, rfl, hw, hf, hRR162⟩ := hM
   replace hp := hq164
   refine ct <| wq <| wr <| om hf rfl rfl fun a hf => oR hf (r_convB hf und_45 und_5 und_9 rfl (rR (K := (ekI .u8)) hw (i := 0) rfl hRR162)) rfl fun a hf => oR hf (r_build hf bd_187 (vs := [.string (strOfNums y158), .bool true]) rfl ⟨rfl, rfl, trivial⟩ (by decide) (out := [.string (strOfNums y158), .bool true]) rfl) rfl fun a hf => ?_
   obtain ⟨w, hrun210, hw⟩ := e_store (P := P) hw hf (x := .tmp 2) (y := .tmp 41) rfl rfl ty_187 1 rfl (vs := [.string (strOfNums y158), .bool true]) rfl rfl (oC rfl (oC rfl ones_nil)) (by simp [arrC_len]) (cs' := [.string (strOfNums y158), .bool true]) rfl
   dsimp only [List.set] at hw
   refine o_effU (hrun210 ..) <| oN <| ct <| wp_ret ?_
   replace hw : Ok E I (.blk b1 (.cells ⟨[.string (strOfNums y158), .bool true]⟩ 187 (0, 0)) :: F) w := hw.sub (sc (scc sr))
   have ho := oI hp
   subst ho
   exact b_retC hw hf results94 ty_187 rfl 0 rfl (vs := [.string (strOfNums y158), .bool true]) rfl rfl ⟨_, rfl, ⟨rfl, hw.tail⟩⟩
end Go.Lf
