/- The Go functions compute the plain Lean functions (printed by our lift.py). -/
import Derived.Test.YtckhmgglgbnaaaaDoorZD
import Derived.Test.YtckhmgglgbnaaaaDoorZF
import Derived.Test.YtckhmgglgbnaaaaDoorJ
import Derived.Test.YtckhmgglgbnaaaaDoorZK0
import Derived.Test.YtckhmgglgbnaaaaDoorZK10
import Derived.Test.YtckhmgglgbnaaaaDoorZK18
set_option linter.unusedVariables false
set_option linter.unusedSimpArgs false
set_option maxHeartbeats 1000000
set_option maxRecDepth 20000
namespace Go.Lf
open Go
theorem keep_Trie_ok {E : World} {I : IH} {F : List Atom} {w : World} {a0 : List Node} {a0v37 : Value} {a1 : List Node} {a1v39 : Value} {res0 : Bool} (hw : Ok E I (F) w) (hG : Gl I) (hR38 : RS ek_Node I a0v37 a0) (hR40 : RS ek_Node I a1v39 a1) (hp : keep_Trie.f a0 a1 = some res0) :
  Calls P 23 ⟨[a0v37, a1v39]⟩ w fun e w' => ∃ v, e = .returned v ∧ v = Value.bool res0 ∧ Ok E I (F) w' := by
 refine c_enter Go.Proofs.Tryd.func23 rfl Go.Proofs.Tryd.ntmps23 rfl fun a hf => ?_
 replace hf : Fr 26 [(0, a0v37), (1, a1v39)] a := hf
 unfold keep_Trie.f at hp
 refine wq <| wr <| oa hf rfl rfl fun a hf => oN <| ct <| wq <| wq <| wr <| om hf rfl rfl fun a hf => oR hf (r_lenL (K := ek_Node) hf el_23 rfl (hR38.rd hw)) rfl fun a hf => om hf rfl rfl fun a hf => oR hf (r_lenL (K := ek_Node) hf el_23 rfl (hR40.rd hw)) rfl fun a hf => oR hf (iC hf rfl rfl rfl) rfl fun a hf => oN <| ct <| cC hf rfl (fun hb1 => ?_) (fun hb1 => ?_)
 ·replace hp := cond_t hb1 hp
  refine wq <| wr <| oa hf rfl rfl fun a hf => oN <| ct <| wp_ret <| c_thenR ?_
  have ho := oI hp
  subst ho
  exact b_ret1 hf Go.Proofs.Tryd.results23 rfl ⟨_, rfl, ⟨rfl, hw⟩⟩
 ·replace hp := cond_f hb1 hp
  refine wp_skip <| ct <| wq <| wq <| wr <| oa hf rfl rfl fun a hf => oN <| ct ?_
  obtain ⟨out19, hp, hq20⟩ := bS hp
  refine c_cutX (fun a w => (.inl ()) = out19 ∧ Ok E I (F) w ∧ Fr 26 ([]) a) ?_ ?_
  ·refine wp_block <| c_loop <| c_fuel (keep_Trie.l0 a0 a1) out19 (fun (y13 : Int) a w => Ok E I (F) w ∧ Fr 26 ([(0, a0v37), (1, a1v39), (5, .int .i64 y13)]) a) (fun _ => rfl) ?_ BIG 0 _ _ ⟨hw, hf.to ⟨rfl, rfl, rfl, trivial⟩⟩ hp
   intro k y13 a w hI hp ih
   obtain ⟨hw, hf⟩ := hI
   rw [keep_Trie.l0] at hp
   refine wq <| wq <| wr <| om hf rfl rfl fun a hf => om hf rfl rfl fun a hf => oR hf (r_lenL (K := ek_Node) hf el_23 rfl (hR38.rd hw)) rfl fun a hf => oR hf (iC hf rfl rfl rfl) rfl fun a hf => oN <| ct <| cC hf rfl (fun hb22 => ?_) (fun hb22 => ?_)
   ·replace hp := cond_t hb22 hp
    refine wp_skip <| ct <| wq <| wp_block <| wq <| c_drawn mix [] (.rd 0 (.rd 1 (.rd 2 (.rd 3 (.rd 4 (.rd 5 (.rd 6 (.rd 7 (.rd 8 .done))))))))) (by kernel_rfl) hw (fun w => Ok E I (F) w) (fun w hw => ⟨hw.sub sr, ?_⟩)
    refine tm rfl hf rfl rfl fun a hf => tm rfl hf rfl rfl fun a hf => ?_
    obtain ⟨hg24, hp⟩ := gS hp
    refine tR rfl hf (fun w hw => rI (K := ek_Node) hf el_23 rfl rfl (hR38.rd hw) hg24) rfl fun a hf => tR rfl hf (fun w hw => r_loadHP (K := ek_Node) hf rfl ty_55 (hR38.rd hw) hg24 rfl (vs := (Value.int .i64 ((gt a0 y13).kind_) :: Value.string ((gt a0 y13).path_) :: Value.bool ((gt a0 y13).has_) :: Value.string ((gt a0 y13).value_) :: arrC .i64 ((gt a0 y13).kids_))) (fun cs h => Node_all h) (by simp [arrC_len])) rfl fun a hf => tm rfl hf rfl rfl fun a hf => tm rfl hf rfl rfl fun a hf => ?_
    obtain ⟨hg25, hp⟩ := gS hp
    refine tR rfl hf (fun w hw => rI (K := ek_Node) hf el_23 rfl rfl (hR40.rd hw) hg25) rfl fun a hf => tR rfl hf (fun w hw => r_loadHP (K := ek_Node) hf rfl ty_55 (hR40.rd hw) hg25 rfl (vs := (Value.int .i64 ((gt a1 y13).kind_) :: Value.string ((gt a1 y13).path_) :: Value.bool ((gt a1 y13).has_) :: Value.string ((gt a1 y13).value_) :: arrC .i64 ((gt a1 y13).kids_))) (fun cs h => Node_all h) (by simp [arrC_len])) rfl fun a hf => tR rfl hf (fun w hw => r_neq_Node hf (x := (gt a0 y13)) (y := (gt a1 y13)) rfl rfl) rfl fun a hf => t_done <| ct <| cC hf rfl (fun hb26 => ?_) (fun hb26 => ?_)
    ·replace hp := cond_t hb26 hp
     refine wq <| wr <| oa hf rfl rfl fun a hf => oN <| ct <| wp_ret <| c_blockR <| c_thenR <| c_thenR <| c_blockR <| c_thenR ?_
     have ho := oI hp
     subst ho
     replace hp := hq20
     refine c_thenR ?_
     have ho := oI hp
     subst ho
     exact b_ret1 hf Go.Proofs.Tryd.results23 rfl ⟨_, rfl, ⟨rfl, hw⟩⟩
    ·replace hp := cond_f hb26 hp
     refine wp_skip <| c_blockN <| ct <| wr <| om hf rfl rfl fun a hf => oR hf (r_add hf rfl rfl) rfl fun a hf => oa hf rfl rfl fun a hf => oN <| ct ?_
     exact ih (w64 (y13 + 1)) _ _ ⟨hw, hf.to ⟨rfl, rfl, rfl, trivial⟩⟩ hp
   ·replace hp := cond_f hb22 hp
    refine wp_exit <| c_thenE <| c_thenE <| c_exit <| ct ?_
    have ho := oI hp
    subst ho
    exact ⟨rfl, hw, hf.to trivial⟩
  ·intro a w hM
   obtain ⟨rfl, hw, hf⟩ := hM
   replace hp := hq20
   refine ct <| wq <| wr <| oa hf rfl rfl fun a hf => oN <| ct <| wp_ret ?_
   have ho := oI hp
   subst ho
   exact b_ret1 hf Go.Proofs.Tryd.results23 rfl ⟨_, rfl, ⟨rfl, hw⟩⟩

theorem law16_ProveTells_ok {E : World} {I : IH} {F : List Atom} {w : World} {a0 : List Node} {a0v1 : Value} {a1 : ByteArray} {res0 : Bool} (hw : Ok E I (F) w) (hG : Gl I) (hR2 : RS ek_Node I a0v1 a0) (hp : law16_ProveTells.f a0 a1 = some res0) :
  Calls P 8 ⟨[a0v1, Value.string a1]⟩ w fun e w' => ∃ v, e = .returned v ∧ v = Value.bool res0 ∧ Ok E I (F) w' := by
 refine c_enter Go.Proofs.Tryd.func8 rfl Go.Proofs.Tryd.ntmps8 rfl fun a hf => ?_
 replace hf : Fr 50 [(0, a0v1), (1, .string a1)] a := hf
 unfold law16_ProveTells.f at hp
 refine wq <| wr <| oa hf rfl rfl fun a hf => oN <| ct <| wq ?_
 obtain ⟨out673, hp, hq674⟩ := bS hp
 refine c_cut (fun a w => ∃ y672 : Bool, y672 = out673 ∧ Ok E I (F) w ∧ Fr 50 ([(0, a0v1), (1, .string a1), (17, .bool y672)]) a) ?_ ?_
 ·refine wr <| om hf rfl rfl fun a hf => ?_
  obtain ⟨y675, hy676, hp⟩ := bS hp
  have hc678 := law11_Few_ok hw hG hR2 hy676
  refine o_call hf cb_12 rfl rfl hc678 (fun v680 w a hK679 hf => ?_)
  obtain ⟨rfl, hw⟩ := hK679
  refine oR hf (r_not hf rfl) rfl fun a hf => om hf rfl rfl fun a hf => g_split hf (g := 13) rfl (fun hb681 hf => ?_) (fun hb681 hf => ?_)
  ·replace hp := cond_t hb681 hp
   refine oS hf (g := 13) rfl rfl rfl rfl rfl rfl fun a hf => oS hf (g := 13) rfl rfl rfl rfl rfl rfl fun a hf => oS hf (g := 13) rfl rfl rfl rfl rfl rfl fun a hf => oR hf (pT hf rfl rfl) rfl fun a hf => oN <| ct ?_
   have ho := oI hp
   subst ho
   exact ⟨true, rfl, hw, hf.to ⟨rfl, rfl, rfl, trivial⟩⟩
  ·replace hp := cond_f hb681 hp
   refine oW hf (g := 13) rfl rfl <| om hf rfl rfl fun a hf => oW hf (g := 13) rfl rfl <| oR hf (r_lenS hf und_9 rfl) rfl fun a hf => oW hf (g := 13) rfl rfl <| oR hf (iC hf rfl rfl rfl) rfl fun a hf => oR hf (pF hf rfl rfl) rfl fun a hf => oN <| ct ?_
   have ho := oI hp
   subst ho
   exact ⟨(decide ((a1.size : Int) > 100)), rfl, hw, hf.to ⟨rfl, rfl, rfl, trivial⟩⟩
 ·intro a w hM
  obtain ⟨y672, rfl, hw, hf⟩ := hM
  replace hp := hq674
  refine cC hf rfl (fun hb682 => ?_) (fun hb682 => ?_)
  ·replace hp := cond_t hb682 hp
   refine wq <| wr ?_
   obtain ⟨y683, hy684, hp⟩ := bS hp
   have hc686 := law16_wakes_ok hw hG hy684
   refine o_call hf cb_32 rfl rfl hc686 (fun v688 w a hK687 hf => ?_)
   obtain ⟨rfl, hw⟩ := hK687
   refine oa hf rfl rfl fun a hf => oN <| ct <| wp_ret <| c_thenR ?_
   have ho := oI hp
   subst ho
   exact b_ret1 hf Go.Proofs.Tryd.results8 rfl ⟨_, rfl, ⟨rfl, hw⟩⟩
  ·replace hp := cond_f hb682 hp
   refine wp_skip <| ct <| wq <| wr ?_
   obtain ⟨w, v689, hrun690, hw, hRR691⟩ := e_buildSlice (P := P) (K := ek_Node) (m := 0) hw hf (parts := []) el_23 ty_55 rfl rfl rfl (ccs := []) rfl (xs := ([] : List Node)) trivial rfl
   obtain ⟨cs692, hcs⟩ : ∃ cs, cs = ([] : List (List Value)).flatten := ⟨_, rfl⟩
   rw [← hcs] at hw hRR691; clear hcs
   refine o_eff hf (hrun690 ..) rfl fun a hf => om hf rfl rfl fun a hf => ?_
   obtain ⟨hg694, hp⟩ := gS hp
   obtain ⟨w, v695, m696, cs697, hrun699, hw, hRR698⟩ := e_append (P := P) (K := ek_Node) (ty := 23) hw hf (s := .tmp 19) (x := .tmp 20) el_23 ty_55 rfl (by decide) 0 rfl rfl rfl hRR691 (ys := a0) (hR2.rd hw) hg694
   replace hw : Ok E I (.row v695 55 20 m696 cs697 :: F) w := hw
   refine o_eff hf (hrun699 ..) rfl fun a hf => oa hf rfl rfl fun a hf => oN <| ct <| wq <| wr <| om hf rfl rfl fun a hf => om hf rfl rfl fun a hf => ?_
   have hw : Ok E I (.row v695 55 20 m696 cs697 :: F) w := hw.front (i := 0) rfl
   obtain ⟨I700, hle701, hw, hR702⟩ := row_freeze (K := ek_Node) hw hRR698
   replace hG := hG.mono hle701
   replace hR2 := hR2.mono hle701
   obtain ⟨y706, hy705, hp⟩ := bS hp
   obtain ⟨y703, y704⟩ := y706
   have hc707 := prove_Of_ok hw hG hR702 hy705
   refine o_call hf cb_33 rfl rfl hc707 (fun v711 w a hK708 hf => ?_)
   obtain ⟨I2_708, rvv709, rfl, hle712, hw, hR710⟩ := hK708
   replace hG := hG.mono hle712
   replace hR2 := hR2.mono hle712
   replace hR702 := hR702.mono hle712
   refine om hf rfl rfl fun a hf => oR hf (rE hf rfl rfl) rfl fun a hf => oR hf (rE hf rfl rfl) rfl fun a hf => oa hf rfl rfl fun a hf => oa hf rfl rfl fun a hf => oN <| ct <| wq <| wr <| om hf rfl rfl fun a hf => om hf rfl rfl fun a hf => ?_
   obtain ⟨y2488, hy2487, hp⟩ := bS hp
   obtain ⟨y2485, y2486⟩ := y2488
   have hc2489 := ref16_Of_ok hw hG hR2 hy2487
   refine o_call hf cb_34 rfl rfl hc2489 (fun v2493 w a hK2490 hf => ?_)
   obtain ⟨I2_2490, rvv2491, rfl, hle2494, hw, hR2492⟩ := hK2490
   replace hG := hG.mono hle2494
   replace hR2 := hR2.mono hle2494
   replace hR702 := hR702.mono hle2494
   replace hR710 := hR710.mono hle2494
   refine om hf rfl rfl fun a hf => oR hf (rE hf rfl rfl) rfl fun a hf => oR hf (rE hf rfl rfl) rfl fun a hf => oa hf rfl rfl fun a hf => oa hf rfl rfl fun a hf => oN <| ct ?_
   obtain ⟨out64, hp, hq65⟩ := bS hp
   refine c_cut (fun a w => ∃ y63 : Bool, y63 = out64 ∧ Ok E I2_2490 (F) w ∧ Fr 50 ([(4, .bool y63)]) a) ?_ ?_
   ·refine wr <| om hf rfl rfl fun a hf => om hf rfl rfl fun a hf => ?_
    obtain ⟨y66, hy67, hp⟩ := bS hp
    have hc69 := keep_Texts_ok hw hG hR710 hR2492 hy67
    refine o_call hf cb_19 rfl rfl hc69 (fun v71 w a hK70 hf => ?_)
    obtain ⟨rfl, hw⟩ := hK70
    refine om hf rfl rfl fun a hf => g_split hf (g := 37) rfl (fun hb72 hf => ?_) (fun hb72 hf => ?_)
    ·replace hp := cond_t hb72 hp
     refine oW hf (g := 37) rfl rfl <| om hf rfl rfl fun a hf => oW hf (g := 37) rfl rfl <| om hf rfl rfl fun a hf => oW hf (g := 37) rfl rfl <| oR hf (iC hf rfl rfl rfl) rfl fun a hf => oR hf (pT hf rfl rfl) rfl fun a hf => om hf rfl rfl fun a hf => g_split hf (g := 42) rfl (fun hb73 hf => ?_) (fun hb73 hf => ?_)
     ·replace hp := cond_t hb73 hp
      refine oW hf (g := 42) rfl rfl <| om hf rfl rfl fun a hf => oW hf (g := 42) rfl rfl <| om hf rfl rfl fun a hf => oW hf (g := 42) rfl rfl ?_
      obtain ⟨y74, hy75, hp⟩ := bS hp
      have hc77 := keep_Trie_ok hw hG hR702 hR2 hy75
      refine o_call hf cb_23 rfl rfl hc77 (fun v79 w a hK78 hf => ?_)
      obtain ⟨rfl, hw⟩ := hK78
      refine oR hf (pT hf rfl rfl) rfl fun a hf => om hf rfl rfl fun a hf => g_split hf (g := 47) rfl (fun hb80 hf => ?_) (fun hb80 hf => ?_)
      ·replace hp := cond_t hb80 hp
       refine oW hf (g := 47) rfl rfl ?_
       obtain ⟨y81, hy82, hp⟩ := bS hp
       have hc84 := law16_wakes_ok hw hG hy82
       refine o_call hf cb_32 rfl rfl hc84 (fun v86 w a hK85 hf => ?_)
       obtain ⟨rfl, hw⟩ := hK85
       refine oR hf (pT hf rfl rfl) rfl fun a hf => oa hf rfl rfl fun a hf => oN <| ct ?_
       have ho := oI hp
       subst ho
       exact ⟨y81, rfl, hw, hf.to ⟨rfl, trivial⟩⟩
      ·replace hp := cond_f hb80 hp
       refine oS hf (g := 47) rfl rfl rfl rfl rfl rfl fun a hf => oR hf (pF hf rfl rfl) rfl fun a hf => oa hf rfl rfl fun a hf => oN <| ct ?_
       have ho := oI hp
       subst ho
       exact ⟨false, rfl, hw, hf.to ⟨rfl, trivial⟩⟩
     ·replace hp := cond_f hb73 hp
      refine oS hf (g := 42) rfl rfl rfl rfl rfl rfl fun a hf => oS hf (g := 42) rfl rfl rfl rfl rfl rfl fun a hf => oS hf (g := 42) rfl rfl rfl rfl rfl rfl fun a hf => oR hf (pF hf rfl rfl) rfl fun a hf => om hf rfl rfl fun a hf => oS hf (g := 47) rfl rfl rfl rfl rfl rfl fun a hf => oR hf (pF hf rfl rfl) rfl fun a hf => oa hf rfl rfl fun a hf => oN <| ct ?_
      have ho := oI hp
      subst ho
      exact ⟨false, rfl, hw, hf.to ⟨rfl, trivial⟩⟩
    ·replace hp := cond_f hb72 hp
     refine oS hf (g := 37) rfl rfl rfl rfl rfl rfl fun a hf => oS hf (g := 37) rfl rfl rfl rfl rfl rfl fun a hf => oS hf (g := 37) rfl rfl rfl rfl rfl rfl fun a hf => oR hf (pF hf rfl rfl) rfl fun a hf => om hf rfl rfl fun a hf => oS hf (g := 42) rfl rfl rfl rfl rfl rfl fun a hf => oS hf (g := 42) rfl rfl rfl rfl rfl rfl fun a hf => oS hf (g := 42) rfl rfl rfl rfl rfl rfl fun a hf => oR hf (pF hf rfl rfl) rfl fun a hf => om hf rfl rfl fun a hf => oS hf (g := 47) rfl rfl rfl rfl rfl rfl fun a hf => oR hf (pF hf rfl rfl) rfl fun a hf => oa hf rfl rfl fun a hf => oN <| ct ?_
     have ho := oI hp
     subst ho
     exact ⟨false, rfl, hw, hf.to ⟨rfl, trivial⟩⟩
   ·intro a w hM
    obtain ⟨y63, rfl, hw, hf⟩ := hM
    replace hp := hq65
    refine wp_ret ?_
    have ho := oI hp
    subst ho
    exact b_ret1 hf Go.Proofs.Tryd.results8 rfl ⟨_, rfl, ⟨rfl, (hw.back (IH.le_trans (IH.le_trans hle701 hle712) hle2494) sr)⟩⟩
end Go.Lf
