import Derived.Test.YtckhmgglgbnaaaaZD
import Derived.Test.YtckhmgglgbnaaaaZF
import Derived.Test.YtckhmgglgbnaaaaUB
import Derived.Test.YtckhmgglgbnaaaaN
import Derived.Test.YtckhmgglgbnaaaaBL
import Derived.Test.YtckhmgglgbnaaaaZK1
import Derived.Test.YtckhmgglgbnaaaaZK3
import Derived.Test.YtckhmgglgbnaaaaZK4
set_option linter.unusedVariables false
set_option linter.unusedSimpArgs false
set_option maxHeartbeats 1000000
set_option maxRecDepth 20000
namespace Go.Lf
open Go Go.Proofs.Try
theorem ref19_Of_ok {E : World} {I : IH} {F : List Atom} {w : World} {a0 : List Node} {a0v1117 : Value} {res0 : ref19_All_T} (hw : Ok E I (F) w) (hR1118 : RS ek_Node I a0v1117 a0) (hp : ref19_Of.f a0 = some res0) :
  Calls P 15 ⟨[a0v1117]⟩ w fun e w' => ∃ v, e = .returned v ∧ ∃ I2 : IH, ∃ rvv14103 : Value, v = Value.agg ⟨[rvv14103, Value.bool res0.ok_]⟩ ∧ IH.le I I2 ∧ Ok E I2 (F) w' ∧ RS ek_Plan I2 rvv14103 res0.l_ := by
 refine c_enter func15 rfl ntmps15 rfl fun a hf => ?_
 replace hf : Fr 214 [(0, a0v1117)] a := hf
 unfold ref19_Of.f at hp
 refine wq <| wr ?_
 obtain ⟨b1, w, hrun2, hw⟩ := e_alloc (P := P) (a := a) hw ty_33
 refine o_eff hf (hrun2 ..) rfl fun a hf => oN <| ct <| wq <| wr <| om hf rfl rfl fun a hf => ?_
 obtain ⟨y82, hy83, hp⟩ := bS hp
 have hc85 := ref10_Pairs_ok hw hR1118 hy83
 refine o_call hf cb_37 rfl rfl hc85 (fun v89 w a hK86 hf => ?_)
 obtain ⟨I2_86, rvv87, rfl, hle90, hw, hR88⟩ := hK86
 replace hR1118 := hR1118.mono hle90
 obtain ⟨b91, w, hrun92, hw⟩ := e_alloc (P := P) (a := a) hw ty_83
 replace hw : Ok E I2_86 (.blk b91 (.cells ⟨[.slice none 0 0, .bool false]⟩ 83 (0, 0)) :: .blk b1 (.cells ⟨[.slice none 0 0, .bool false]⟩ 33 (0, 0)) :: F) w := hw
 refine o_eff hf (hrun92 ..) rfl fun a hf => ?_
 obtain ⟨w, hrun94, hw⟩ := e_store (P := P) hw hf (x := .tmp 3) (y := .tmp 11) rfl rfl ty_83 0 rfl (vs := [rvv87, .bool y82.ok_]) rfl rfl (oC hR88.one (oC rfl ones_nil)) (by simp [arrC_len]) (cs' := [rvv87, .bool y82.ok_]) rfl
 replace hw : Ok E I2_86 (.blk b91 (.cells ⟨[rvv87, .bool y82.ok_]⟩ 83 (0, 0)) :: .blk b1 (.cells ⟨[.slice none 0 0, .bool false]⟩ 33 (0, 0)) :: F) w := hw
 refine o_effU (hrun94 ..) <| oN <| ct <| wq <| wq <| wr <| oR hf (rF hf rfl fd_83_1) rfl fun a hf => oR hf (rL hw hf rfl ty_4 0 rfl rfl) rfl fun a hf => oR hf (r_not hf rfl) rfl fun a hf => oN <| ct <| cC hf rfl (fun hb95 => ?_) (fun hb95 => ?_)
 ·replace hp := cond_t hb95 hp
  refine wq <| wr <| oR hf (r_build hf bd_33 (vs := []) rfl trivial (by decide) (out := [.slice none 0 0, .bool false]) rfl) rfl fun a hf => ?_
  obtain ⟨w, hrun96, hw⟩ := e_store (P := P) hw hf (x := .tmp 2) (y := .tmp 15) rfl rfl ty_33 1 rfl (vs := [.slice none 0 0, .bool false]) rfl rfl (oC rfl (oC rfl ones_nil)) (by simp [arrC_len]) (cs' := [.slice none 0 0, .bool false]) rfl
  replace hw : Ok E I2_86 (.blk b91 (.cells ⟨[rvv87, .bool y82.ok_]⟩ 83 (0, 0)) :: .blk b1 (.cells ⟨[.slice none 0 0, .bool false]⟩ 33 (0, 0)) :: F) w := hw
  refine o_effU (hrun96 ..) <| oN <| ct <| wp_ret <| c_thenR ?_
  replace hw : Ok E I2_86 (.blk b1 (.cells ⟨[.slice none 0 0, .bool false]⟩ 33 (0, 0)) :: F) w := hw.sub (sc (scc sr))
  have ho := oI hp
  subst ho
  exact b_retC hw hf results15 ty_33 rfl 0 rfl (vs := [.slice none 0 0, .bool false]) rfl rfl ⟨_, rfl, ⟨I2_86, (Value.slice none 0 0), rfl, hle90, hw.tail, RS.nil⟩⟩
 ·replace hp := cond_f hb95 hp
  refine wp_skip <| ct <| wq ?_
  obtain ⟨out259, hp, hq260⟩ := bS hp
  refine c_cutX (fun a w => ∃ y98 : ref10_Both_T, ∃ I2_102 : IH, ∃ b123 : Nat, ∃ rvv105 : Value, ∃ v116 : Value, ∃ cs119 : List Value, ∃ v110 : Value, ∃ cs113 : List Value, y98 = out259 ∧ IH.le I2_86 I2_102 ∧ Ok E I2_102 (.blk b123 (.cells ⟨[a0v1117, rvv105, v110, v116, .slice none 0 0]⟩ 87 (0, 0)) :: .row v116 3 1 (((a0.length : Int)).toNat) cs119 :: .row v110 3 1 (((a0.length : Int)).toNat) cs113 :: .blk b91 (.cells ⟨[rvv87, .bool y82.ok_]⟩ 83 (0, 0)) :: .blk b1 (.cells ⟨[.slice none 0 0, .bool false]⟩ 33 (0, 0)) :: F) w ∧ Fr 214 ([(0, a0v1117), (2, .pointer (some ⟨b1, 0, none⟩)), (4, .pointer (some ⟨b123, 0, none⟩))]) a ∧ RS ekS I2_102 rvv105 y98.p_ ∧ RowR (ekI .i64) I2_102 cs119 (List.replicate (a0.length : Int).toNat 0) ∧ RowR (ekI .i64) I2_102 cs113 (List.replicate (a0.length : Int).toNat 0)) ?_ ?_
  ·refine c_drawn mix [] (.rd 0 (.rd 1 (.rd 2 (.rd 5 (.rd 6 (.rd 8 (.rd 9 (.ef3 3 (.rd 4 (.ef2 7 (.ef 10 (.rd 11 (.ef 12 (.rd 13 .done)))) 10 (.ef 7 (.rd 11 (.ef 12 (.rd 13 .done)))))) 7 (.ef2 3 (.rd 4 (.ef 10 (.rd 11 (.ef 12 (.rd 13 .done))))) 10 (.ef 3 (.rd 4 (.rd 11 (.ef 12 (.rd 13 .done)))))) 10 (.ef2 3 (.rd 4 (.ef 7 (.rd 11 (.ef 12 (.rd 13 .done))))) 7 (.ef 3 (.rd 4 (.rd 11 (.ef 12 (.rd 13 .done)))))))))))))) (by kernel_rfl) hw (fun w => Ok E I2_86 (.blk b91 (.cells ⟨[rvv87, .bool y82.ok_]⟩ 83 (0, 0)) :: .blk b1 (.cells ⟨[.slice none 0 0, .bool false]⟩ 33 (0, 0)) :: F) w) (fun w hw => ⟨hw.sub (scc (scc sr)), ?_⟩)
   refine tm rfl hf rfl rfl fun a hf => tR rfl hf (fun w hw => rF hf rfl fd_83_0) rfl fun a hf => tR rfl hf (fun w hw => rL hw hf rfl ty_43 0 rfl rfl) rfl fun a hf => tm rfl hf rfl rfl fun a hf => tR rfl hf (fun w hw => r_lenL (K := ek_Node) hf el_23 rfl (hR1118.rd hw)) rfl fun a hf => tm rfl hf rfl rfl fun a hf => tR rfl hf (fun w hw => r_lenL (K := ek_Node) hf el_23 rfl (hR1118.rd hw)) rfl fun a hf => t_ef3 rfl rfl rfl ?_ ?_ ?_
   ·obtain ⟨y262, hy263, hp⟩ := bS hp
    have hc265 := ref10_Build_ok hw hR88 hy263
    refine t_call hf cb_24 rfl rfl hc265 (fun v271 w a hK266 hf => ?_)
    obtain ⟨I2_266, rvv267, rvv269, rfl, hle272, hw, hR268, hR270⟩ := hK266
    replace hR1118 := hR1118.mono hle272
    replace hR88 := hR88.mono hle272
    refine ⟨.inr (hw.back hle272 (scc (scc sr))), ?_⟩
    refine tR rfl hf (fun w hw => r_field hf rfl fd_47_1 ty_45 rfl) rfl fun a hf => t_ef2 rfl rfl ?_ ?_
    ·obtain ⟨hg273, hp⟩ := gS hp
     obtain ⟨w, v274, cs277, hrun275, hw, hRR276⟩ := e_makeSlice (P := P) (K := (ekI .i64)) hw hf (l := .tmp 22) (c := .tmp 22) el_24 ty_3 rfl (by decide) rfl rfl (x := 0) (fun _ => rfl) hg273
     refine t_eff hf (hrun275 ..) rfl fun a hf => ⟨.inr (hw.back hle272 (sc (scc (scc sr)))), ?_⟩
     refine t_ef rfl ?_
     obtain ⟨hg279, hp⟩ := gS hp
     obtain ⟨w, v280, cs283, hrun281, hw, hRR282⟩ := e_makeSlice (P := P) (K := (ekI .i64)) hw hf (l := .tmp 25) (c := .tmp 25) el_24 ty_3 rfl (by decide) rfl rfl (x := 0) (fun _ => rfl) hg279
     refine t_eff hf (hrun281 ..) rfl fun a hf => ⟨.inr (hw.back hle272 (sc (sc (scc (scc sr))))), ?_⟩
     have ho285 := row_one hw (i := 1) rfl
     have ho286 := row_one hw (i := 0) rfl
     refine tR rfl hf (fun w hw => r_build hf bd_87 (vs := [a0v1117, rvv269, v274, v280]) rfl ⟨hR1118.one, hR270.one, ho285, ho286, trivial⟩ (by decide) (out := [a0v1117, rvv269, v274, v280, .slice none 0 0]) rfl) rfl fun a hf => t_ef rfl ?_
     obtain ⟨b287, w, hrun288, hw⟩ := e_box (P := P) hw hf (e := 87) (x := .tmp 27) rfl (cs := [a0v1117, rvv269, v274, v280, Value.slice none 0 0]) rfl
     refine t_eff hf (hrun288 ..) rfl fun a hf => ⟨.inr (hw.back hle272 (sc (sc (sc (scc (scc sr)))))), ?_⟩
     refine tR rfl hf (fun w hw => r_assign hf rfl) rfl fun a hf => t_done <| ct ?_
     have ho := oI hp
     subst ho
     exact ⟨y262, I2_266, b287, rvv269, v280, cs283, v274, cs277, rfl, hle272, hw, hf.to ⟨rfl, rfl, rfl, trivial⟩, hR270, hRR282, hRR276⟩
    ·obtain ⟨hg290, hp⟩ := gS hp
     obtain ⟨w, v291, cs294, hrun292, hw, hRR293⟩ := e_makeSlice (P := P) (K := (ekI .i64)) hw hf (l := .tmp 25) (c := .tmp 25) el_24 ty_3 rfl (by decide) rfl rfl (x := 0) (fun _ => rfl) hg290
     refine t_eff hf (hrun292 ..) rfl fun a hf => ⟨.inr (hw.back hle272 (sc (scc (scc sr)))), ?_⟩
     refine t_ef rfl ?_
     obtain ⟨hg296, hp⟩ := gS hp
     obtain ⟨w, v297, cs300, hrun298, hw, hRR299⟩ := e_makeSlice (P := P) (K := (ekI .i64)) hw hf (l := .tmp 22) (c := .tmp 22) el_24 ty_3 rfl (by decide) rfl rfl (x := 0) (fun _ => rfl) hg296
     refine t_eff hf (hrun298 ..) rfl fun a hf => ⟨.inr (hw.back hle272 (sc (sc (scc (scc sr))))), ?_⟩
     have ho302 := row_one hw (i := 0) rfl
     have ho303 := row_one hw (i := 1) rfl
     refine tR rfl hf (fun w hw => r_build hf bd_87 (vs := [a0v1117, rvv269, v297, v291]) rfl ⟨hR1118.one, hR270.one, ho302, ho303, trivial⟩ (by decide) (out := [a0v1117, rvv269, v297, v291, .slice none 0 0]) rfl) rfl fun a hf => t_ef rfl ?_
     obtain ⟨b304, w, hrun305, hw⟩ := e_box (P := P) hw hf (e := 87) (x := .tmp 27) rfl (cs := [a0v1117, rvv269, v297, v291, Value.slice none 0 0]) rfl
     refine t_eff hf (hrun305 ..) rfl fun a hf => ⟨.inr (hw.back hle272 (sc (sc (sc (scc (scc sr)))))), ?_⟩
     refine tR rfl hf (fun w hw => r_assign hf rfl) rfl fun a hf => t_done <| ct ?_
     have ho := oI hp
     subst ho
     replace hw : Ok E I2_266 (.blk b304 (.cells ⟨[a0v1117, rvv269, v297, v291, .slice none 0 0]⟩ 87 (0, 0)) :: .row v291 3 1 (((a0.length : Int)).toNat) cs294 :: .row v297 3 1 (((a0.length : Int)).toNat) cs300 :: .blk b91 (.cells ⟨[rvv87, .bool y82.ok_]⟩ 83 (0, 0)) :: .blk b1 (.cells ⟨[.slice none 0 0, .bool false]⟩ 33 (0, 0)) :: F) w := ((((hw.front (i := 4) rfl).front (i := 4) rfl).front (i := 3) rfl).front (i := 4) rfl).front (i := 4) rfl
     exact ⟨y262, I2_266, b304, rvv269, v291, cs294, v297, cs300, rfl, hle272, hw, hf.to ⟨rfl, rfl, rfl, trivial⟩, hR270, hRR293, hRR299⟩
   ·obtain ⟨yd416, hd415, hp⟩ := bS hp
    obtain ⟨hd417, hp⟩ := gS hp
    replace hp : (gd (0 ≤ (a0.length : Int) ∧ (a0.length : Int) ≤ 274877906944) <| (ref10_Build.f y82.l_).bind fun y313 => gd (0 ≤ (a0.length : Int) ∧ (a0.length : Int) ≤ 274877906944) <| some y313) = _ := (gd_in hd417 (bind_in hd415 hp))
    obtain ⟨hg307, hp⟩ := gS hp
    obtain ⟨w, v308, cs311, hrun309, hw, hRR310⟩ := e_makeSlice (P := P) (K := (ekI .i64)) hw hf (l := .tmp 22) (c := .tmp 22) el_24 ty_3 rfl (by decide) rfl rfl (x := 0) (fun _ => rfl) hg307
    refine t_eff hf (hrun309 ..) rfl fun a hf => ⟨.inr (hw.back (IH.le_refl _) (sc (scc (scc sr)))), ?_⟩
    refine t_ef2 rfl rfl ?_ ?_
    ·obtain ⟨y313, hy314, hp⟩ := bS hp
     have hc316 := ref10_Build_ok hw hR88 hy314
     refine t_call hf cb_24 rfl rfl hc316 (fun v322 w a hK317 hf => ?_)
     obtain ⟨I2_317, rvv318, rvv320, rfl, hle323, hw, hR319, hR321⟩ := hK317
     replace hR1118 := hR1118.mono hle323
     replace hR88 := hR88.mono hle323
     replace hRR310 := hRR310.mono hle323
     refine ⟨.inr (hw.back hle323 (sc (scc (scc sr)))), ?_⟩
     refine tR rfl hf (fun w hw => r_field hf rfl fd_47_1 ty_45 rfl) rfl fun a hf => t_ef rfl ?_
     obtain ⟨hg324, hp⟩ := gS hp
     obtain ⟨w, v325, cs328, hrun326, hw, hRR327⟩ := e_makeSlice (P := P) (K := (ekI .i64)) hw hf (l := .tmp 25) (c := .tmp 25) el_24 ty_3 rfl (by decide) rfl rfl (x := 0) (fun _ => rfl) hg324
     refine t_eff hf (hrun326 ..) rfl fun a hf => ⟨.inr (hw.back hle323 (sc (sc (scc (scc sr))))), ?_⟩
     have ho330 := row_one hw (i := 1) rfl
     have ho331 := row_one hw (i := 0) rfl
     refine tR rfl hf (fun w hw => r_build hf bd_87 (vs := [a0v1117, rvv320, v308, v325]) rfl ⟨hR1118.one, hR321.one, ho330, ho331, trivial⟩ (by decide) (out := [a0v1117, rvv320, v308, v325, .slice none 0 0]) rfl) rfl fun a hf => t_ef rfl ?_
     obtain ⟨b332, w, hrun333, hw⟩ := e_box (P := P) hw hf (e := 87) (x := .tmp 27) rfl (cs := [a0v1117, rvv320, v308, v325, Value.slice none 0 0]) rfl
     refine t_eff hf (hrun333 ..) rfl fun a hf => ⟨.inr (hw.back hle323 (sc (sc (sc (scc (scc sr)))))), ?_⟩
     refine tR rfl hf (fun w hw => r_assign hf rfl) rfl fun a hf => t_done <| ct ?_
     have ho := oI hp
     subst ho
     exact ⟨y313, I2_317, b332, rvv320, v325, cs328, v308, cs311, rfl, hle323, hw, hf.to ⟨rfl, rfl, rfl, trivial⟩, hR321, hRR327, hRR310⟩
    ·obtain ⟨yd358, hd357, hp⟩ := bS hp
     obtain ⟨hd359, hp⟩ := gS hp
     replace hp : (gd (0 ≤ (a0.length : Int) ∧ (a0.length : Int) ≤ 274877906944) <| (ref10_Build.f y82.l_).bind fun y341 => some y341) = _ := (gd_in hd359 (bind_in hd357 hp))
     obtain ⟨hg335, hp⟩ := gS hp
     obtain ⟨w, v336, cs339, hrun337, hw, hRR338⟩ := e_makeSlice (P := P) (K := (ekI .i64)) hw hf (l := .tmp 25) (c := .tmp 25) el_24 ty_3 rfl (by decide) rfl rfl (x := 0) (fun _ => rfl) hg335
     refine t_eff hf (hrun337 ..) rfl fun a hf => ⟨.inr (hw.back (IH.le_refl _) (sc (sc (scc (scc sr))))), ?_⟩
     refine t_ef rfl ?_
     obtain ⟨y341, hy342, hp⟩ := bS hp
     have hc344 := ref10_Build_ok hw hR88 hy342
     refine t_call hf cb_24 rfl rfl hc344 (fun v350 w a hK345 hf => ?_)
     obtain ⟨I2_345, rvv346, rvv348, rfl, hle351, hw, hR347, hR349⟩ := hK345
     replace hR1118 := hR1118.mono hle351
     replace hR88 := hR88.mono hle351
     replace hRR338 := hRR338.mono hle351
     replace hRR310 := hRR310.mono hle351
     refine ⟨.inr (hw.back hle351 (sc (sc (scc (scc sr))))), ?_⟩
     refine tR rfl hf (fun w hw => r_field hf rfl fd_47_1 ty_45 rfl) rfl fun a hf => ?_
     have ho352 := row_one hw (i := 1) rfl
     have ho353 := row_one hw (i := 0) rfl
     refine tR rfl hf (fun w hw => r_build hf bd_87 (vs := [a0v1117, rvv348, v308, v336]) rfl ⟨hR1118.one, hR349.one, ho352, ho353, trivial⟩ (by decide) (out := [a0v1117, rvv348, v308, v336, .slice none 0 0]) rfl) rfl fun a hf => t_ef rfl ?_
     obtain ⟨b354, w, hrun355, hw⟩ := e_box (P := P) hw hf (e := 87) (x := .tmp 27) rfl (cs := [a0v1117, rvv348, v308, v336, Value.slice none 0 0]) rfl
     refine t_eff hf (hrun355 ..) rfl fun a hf => ⟨.inr (hw.back hle351 (sc (sc (sc (scc (scc sr)))))), ?_⟩
     refine tR rfl hf (fun w hw => r_assign hf rfl) rfl fun a hf => t_done <| ct ?_
     have ho := oI hp
     subst ho
     exact ⟨y341, I2_345, b354, rvv348, v336, cs339, v308, cs311, rfl, hle351, hw, hf.to ⟨rfl, rfl, rfl, trivial⟩, hR349, hRR338, hRR310⟩
   ·obtain ⟨yd420, hd419, hp⟩ := bS hp
    obtain ⟨hd421, hp⟩ := gS hp
    replace hp : (gd (0 ≤ (a0.length : Int) ∧ (a0.length : Int) ≤ 274877906944) <| (ref10_Build.f y82.l_).bind fun y367 => gd (0 ≤ (a0.length : Int) ∧ (a0.length : Int) ≤ 274877906944) <| some y367) = _ := (gd_in hd421 (bind_in hd419 hp))
    obtain ⟨hg361, hp⟩ := gS hp
    obtain ⟨w, v362, cs365, hrun363, hw, hRR364⟩ := e_makeSlice (P := P) (K := (ekI .i64)) hw hf (l := .tmp 25) (c := .tmp 25) el_24 ty_3 rfl (by decide) rfl rfl (x := 0) (fun _ => rfl) hg361
    refine t_eff hf (hrun363 ..) rfl fun a hf => ⟨.inr (hw.back (IH.le_refl _) (sc (scc (scc sr)))), ?_⟩
    refine t_ef2 rfl rfl ?_ ?_
    ·obtain ⟨y367, hy368, hp⟩ := bS hp
     have hc370 := ref10_Build_ok hw hR88 hy368
     refine t_call hf cb_24 rfl rfl hc370 (fun v376 w a hK371 hf => ?_)
     obtain ⟨I2_371, rvv372, rvv374, rfl, hle377, hw, hR373, hR375⟩ := hK371
     replace hR1118 := hR1118.mono hle377
     replace hR88 := hR88.mono hle377
     replace hRR364 := hRR364.mono hle377
     refine ⟨.inr (hw.back hle377 (sc (scc (scc sr)))), ?_⟩
     refine tR rfl hf (fun w hw => r_field hf rfl fd_47_1 ty_45 rfl) rfl fun a hf => t_ef rfl ?_
     obtain ⟨hg378, hp⟩ := gS hp
     obtain ⟨w, v379, cs382, hrun380, hw, hRR381⟩ := e_makeSlice (P := P) (K := (ekI .i64)) hw hf (l := .tmp 22) (c := .tmp 22) el_24 ty_3 rfl (by decide) rfl rfl (x := 0) (fun _ => rfl) hg378
     refine t_eff hf (hrun380 ..) rfl fun a hf => ⟨.inr (hw.back hle377 (sc (sc (scc (scc sr))))), ?_⟩
     have ho384 := row_one hw (i := 0) rfl
     have ho385 := row_one hw (i := 1) rfl
     refine tR rfl hf (fun w hw => r_build hf bd_87 (vs := [a0v1117, rvv374, v379, v362]) rfl ⟨hR1118.one, hR375.one, ho384, ho385, trivial⟩ (by decide) (out := [a0v1117, rvv374, v379, v362, .slice none 0 0]) rfl) rfl fun a hf => t_ef rfl ?_
     obtain ⟨b386, w, hrun387, hw⟩ := e_box (P := P) hw hf (e := 87) (x := .tmp 27) rfl (cs := [a0v1117, rvv374, v379, v362, Value.slice none 0 0]) rfl
     refine t_eff hf (hrun387 ..) rfl fun a hf => ⟨.inr (hw.back hle377 (sc (sc (sc (scc (scc sr)))))), ?_⟩
     refine tR rfl hf (fun w hw => r_assign hf rfl) rfl fun a hf => t_done <| ct ?_
     have ho := oI hp
     subst ho
     replace hw : Ok E I2_371 (.blk b386 (.cells ⟨[a0v1117, rvv374, v379, v362, .slice none 0 0]⟩ 87 (0, 0)) :: .row v362 3 1 (((a0.length : Int)).toNat) cs365 :: .row v379 3 1 (((a0.length : Int)).toNat) cs382 :: .blk b91 (.cells ⟨[rvv87, .bool y82.ok_]⟩ 83 (0, 0)) :: .blk b1 (.cells ⟨[.slice none 0 0, .bool false]⟩ 33 (0, 0)) :: F) w := ((((hw.front (i := 4) rfl).front (i := 4) rfl).front (i := 3) rfl).front (i := 4) rfl).front (i := 4) rfl
     exact ⟨y367, I2_371, b386, rvv374, v362, cs365, v379, cs382, rfl, hle377, hw, hf.to ⟨rfl, rfl, rfl, trivial⟩, hR375, hRR364, hRR381⟩
    ·obtain ⟨yd412, hd411, hp⟩ := bS hp
     obtain ⟨hd413, hp⟩ := gS hp
     replace hp : (gd (0 ≤ (a0.length : Int) ∧ (a0.length : Int) ≤ 274877906944) <| (ref10_Build.f y82.l_).bind fun y395 => some y395) = _ := (gd_in hd413 (bind_in hd411 hp))
     obtain ⟨hg389, hp⟩ := gS hp
     obtain ⟨w, v390, cs393, hrun391, hw, hRR392⟩ := e_makeSlice (P := P) (K := (ekI .i64)) hw hf (l := .tmp 22) (c := .tmp 22) el_24 ty_3 rfl (by decide) rfl rfl (x := 0) (fun _ => rfl) hg389
     refine t_eff hf (hrun391 ..) rfl fun a hf => ⟨.inr (hw.back (IH.le_refl _) (sc (sc (scc (scc sr))))), ?_⟩
     refine t_ef rfl ?_
     obtain ⟨y395, hy396, hp⟩ := bS hp
     have hc398 := ref10_Build_ok hw hR88 hy396
     refine t_call hf cb_24 rfl rfl hc398 (fun v404 w a hK399 hf => ?_)
     obtain ⟨I2_399, rvv400, rvv402, rfl, hle405, hw, hR401, hR403⟩ := hK399
     replace hR1118 := hR1118.mono hle405
     replace hR88 := hR88.mono hle405
     replace hRR392 := hRR392.mono hle405
     replace hRR364 := hRR364.mono hle405
     refine ⟨.inr (hw.back hle405 (sc (sc (scc (scc sr))))), ?_⟩
     refine tR rfl hf (fun w hw => r_field hf rfl fd_47_1 ty_45 rfl) rfl fun a hf => ?_
     have ho406 := row_one hw (i := 0) rfl
     have ho407 := row_one hw (i := 1) rfl
     refine tR rfl hf (fun w hw => r_build hf bd_87 (vs := [a0v1117, rvv402, v390, v362]) rfl ⟨hR1118.one, hR403.one, ho406, ho407, trivial⟩ (by decide) (out := [a0v1117, rvv402, v390, v362, .slice none 0 0]) rfl) rfl fun a hf => t_ef rfl ?_
     obtain ⟨b408, w, hrun409, hw⟩ := e_box (P := P) hw hf (e := 87) (x := .tmp 27) rfl (cs := [a0v1117, rvv402, v390, v362, Value.slice none 0 0]) rfl
     refine t_eff hf (hrun409 ..) rfl fun a hf => ⟨.inr (hw.back hle405 (sc (sc (sc (scc (scc sr)))))), ?_⟩
     refine tR rfl hf (fun w hw => r_assign hf rfl) rfl fun a hf => t_done <| ct ?_
     have ho := oI hp
     subst ho
     replace hw : Ok E I2_399 (.blk b408 (.cells ⟨[a0v1117, rvv402, v390, v362, .slice none 0 0]⟩ 87 (0, 0)) :: .row v362 3 1 (((a0.length : Int)).toNat) cs365 :: .row v390 3 1 (((a0.length : Int)).toNat) cs393 :: .blk b91 (.cells ⟨[rvv87, .bool y82.ok_]⟩ 83 (0, 0)) :: .blk b1 (.cells ⟨[.slice none 0 0, .bool false]⟩ 33 (0, 0)) :: F) w := ((((hw.front (i := 4) rfl).front (i := 4) rfl).front (i := 3) rfl).front (i := 4) rfl).front (i := 4) rfl
     exact ⟨y395, I2_399, b408, rvv402, v362, cs365, v390, cs393, rfl, hle405, hw, hf.to ⟨rfl, rfl, rfl, trivial⟩, hR403, hRR364, hRR392⟩
  ·intro a w hM
   obtain ⟨y98, I2_102, b123, rvv105, v116, cs119, v110, cs113, rfl, hle261, hw, hf, hR106, hRR118, hRR112⟩ := hM
   replace hp := hq260
   replace hR1118 := hR1118.mono hle261
   replace hR88 := hR88.mono hle261
   refine ct <| wq <| wq <| wr <| oa hf rfl rfl fun a hf => oN <| ct ?_
   replace hw := hw.nilrow 26 4
   have hRR1258 : RowR ekQ I2_102 [] [] := RowR.nil
   have hN1259 : Nst 3 I2_102 [] [] [] := trivial
   replace hw : Ok E I2_102 (.row (.slice none 0 0) 26 4 0 [] :: .blk b123 (.cells ⟨[a0v1117, rvv105, v110, v116, .slice none 0 0]⟩ 87 (0, 0)) :: .row v116 3 1 (((a0.length : Int)).toNat) cs119 :: .row v110 3 1 (((a0.length : Int)).toNat) cs113 :: .blk b91 (.cells ⟨[rvv87, .bool y82.ok_]⟩ 83 (0, 0)) :: .blk b1 (.cells ⟨[.slice none 0 0, .bool false]⟩ 33 (0, 0)) :: (([] : List Atom) ++ F)) w := hw
   obtain ⟨out3188, hp, hq3189⟩ := bS hp
   refine c_cutX (fun a w => ∃ y3170 : List Int, ∃ y3175 : List Int, ∃ y3180 : List Plan, ∃ yv3171 : Value, ∃ m3172 : Nat, ∃ cs3173 : List Value, ∃ yv3176 : Value, ∃ m3177 : Nat, ∃ cs3178 : List Value, ∃ yv3181 : Value, ∃ m3182 : Nat, ∃ cs3183 : List Value, ∃ rs3185 : List (List Value), ∃ VV3186 : List Atom, (y3170, y3175, y3180) = out3188 ∧ Ok E I2_102 (.row yv3181 26 4 m3182 cs3183 :: .blk b123 (.cells ⟨[a0v1117, rvv105, yv3171, yv3176, yv3181]⟩ 87 (0, 0)) :: .row yv3176 3 1 m3177 cs3178 :: .row yv3171 3 1 m3172 cs3173 :: .blk b91 (.cells ⟨[rvv87, .bool y82.ok_]⟩ 83 (0, 0)) :: .blk b1 (.cells ⟨[.slice none 0 0, .bool false]⟩ 33 (0, 0)) :: (VV3186 ++ F)) w ∧ Fr 214 ([(0, a0v1117), (2, .pointer (some ⟨b1, 0, none⟩)), (4, .pointer (some ⟨b123, 0, none⟩))]) a ∧ RowR (ekI .i64) I2_102 cs3173 y3170 ∧ RowR (ekI .i64) I2_102 cs3178 y3175 ∧ RowR ekQ I2_102 cs3183 rs3185 ∧ Nst 3 I2_102 VV3186 rs3185 y3180) ?_ ?_
   ·refine wp_block <| c_loop <| c_fuel (ref19_Of.l0 a0 y98) out3188 (fun (y2527, y2532, y2537, y2545) a w => ∃ yv2528 : Value, ∃ m2529 : Nat, ∃ cs2530 : List Value, ∃ yv2533 : Value, ∃ m2534 : Nat, ∃ cs2535 : List Value, ∃ yv2538 : Value, ∃ m2539 : Nat, ∃ cs2540 : List Value, ∃ rs2542 : List (List Value), ∃ VV2543 : List Atom, Ok E I2_102 (.row yv2538 26 4 m2539 cs2540 :: .blk b123 (.cells ⟨[a0v1117, rvv105, yv2528, yv2533, yv2538]⟩ 87 (0, 0)) :: .row yv2533 3 1 m2534 cs2535 :: .row yv2528 3 1 m2529 cs2530 :: .blk b91 (.cells ⟨[rvv87, .bool y82.ok_]⟩ 83 (0, 0)) :: .blk b1 (.cells ⟨[.slice none 0 0, .bool false]⟩ 33 (0, 0)) :: (VV2543 ++ F)) w ∧ Fr 214 ([(0, a0v1117), (2, .pointer (some ⟨b1, 0, none⟩)), (4, .pointer (some ⟨b123, 0, none⟩)), (5, .int .i64 y2545)]) a ∧ RowR (ekI .i64) I2_102 cs2530 y2527 ∧ RowR (ekI .i64) I2_102 cs2535 y2532 ∧ RowR ekQ I2_102 cs2540 rs2542 ∧ Nst 3 I2_102 VV2543 rs2542 y2537) (fun _ => rfl) ?_ BIG (List.replicate (a0.length : Int).toNat 0, List.replicate (a0.length : Int).toNat 0, ([] : List Plan), 0) _ _ ⟨v110, (((a0.length : Int)).toNat), cs113, v116, (((a0.length : Int)).toNat), cs119, (.slice none 0 0), 0, [], ([] : List (List Value)), ([] : List Atom), hw, hf.to ⟨rfl, rfl, rfl, rfl, trivial⟩, hRR112, hRR118, hRR1258, hN1259⟩ hp
    intro k st a w hI hp ih
    obtain ⟨y2527, y2532, y2537, y2545⟩ := st
    obtain ⟨yv2528, m2529, cs2530, yv2533, m2534, cs2535, yv2538, m2539, cs2540, rs2542, VV2543, hw, hf, hRR2531, hRR2536, hRR2541, hN2544⟩ := hI
    rw [ref19_Of.l0] at hp
    refine wq <| wq <| wr <| om hf rfl rfl fun a hf => om hf rfl rfl fun a hf => oR hf (r_lenL (K := ek_Node) hf el_23 rfl (hR1118.rd hw)) rfl fun a hf => oR hf (iC hf rfl rfl rfl) rfl fun a hf => oN <| ct <| cC hf rfl (fun hb3191 => ?_) (fun hb3191 => ?_)
    ·replace hp := cond_t hb3191 hp
     refine wp_skip <| ct ?_
     obtain ⟨out3612, hp, hq3613⟩ := bS hp
     refine c_cut (fun a w => ∃ y3594 : List Int, ∃ y3599 : List Int, ∃ y3604 : List Plan, ∃ yv3595 : Value, ∃ m3596 : Nat, ∃ cs3597 : List Value, ∃ yv3600 : Value, ∃ m3601 : Nat, ∃ cs3602 : List Value, ∃ yv3605 : Value, ∃ m3606 : Nat, ∃ cs3607 : List Value, ∃ rs3609 : List (List Value), ∃ VV3610 : List Atom, (y3594, y3599, y3604) = out3612 ∧ Ok E I2_102 (.row yv3605 26 4 m3606 cs3607 :: .blk b123 (.cells ⟨[a0v1117, rvv105, yv3595, yv3600, yv3605]⟩ 87 (0, 0)) :: .row yv3600 3 1 m3601 cs3602 :: .row yv3595 3 1 m3596 cs3597 :: .blk b91 (.cells ⟨[rvv87, .bool y82.ok_]⟩ 83 (0, 0)) :: .blk b1 (.cells ⟨[.slice none 0 0, .bool false]⟩ 33 (0, 0)) :: (VV3610 ++ F)) w ∧ Fr 214 ([(0, a0v1117), (2, .pointer (some ⟨b1, 0, none⟩)), (4, .pointer (some ⟨b123, 0, none⟩)), (5, .int .i64 y2545)]) a ∧ RowR (ekI .i64) I2_102 cs3597 y3594 ∧ RowR (ekI .i64) I2_102 cs3602 y3599 ∧ RowR ekQ I2_102 cs3607 rs3609 ∧ Nst 3 I2_102 VV3610 rs3609 y3604) ?_ ?_
     ·refine wp_block <| wq ?_
      obtain ⟨out3629, hp, hq3630⟩ := bS hp
      refine c_cut (fun a w => ∃ y3628 : Bool, y3628 = out3629 ∧ Ok E I2_102 (.row yv2538 26 4 m2539 cs2540 :: .blk b123 (.cells ⟨[a0v1117, rvv105, yv2528, yv2533, yv2538]⟩ 87 (0, 0)) :: .row yv2533 3 1 m2534 cs2535 :: .row yv2528 3 1 m2529 cs2530 :: .blk b91 (.cells ⟨[rvv87, .bool y82.ok_]⟩ 83 (0, 0)) :: .blk b1 (.cells ⟨[.slice none 0 0, .bool false]⟩ 33 (0, 0)) :: (VV2543 ++ F)) w ∧ Fr 214 ([(0, a0v1117), (2, .pointer (some ⟨b1, 0, none⟩)), (4, .pointer (some ⟨b123, 0, none⟩)), (5, .int .i64 y2545), (46, .bool y3628)]) a) ?_ ?_
      ·refine wr <| om hf rfl rfl fun a hf => oR hf (iC hf rfl rfl rfl) rfl fun a hf => om hf rfl rfl fun a hf => g_split hf (g := 37) rfl (fun hb3631 hf => ?_) (fun hb3631 hf => ?_)
       ·replace hp := cond_t hb3631 hp
        refine oW hf (g := 37) rfl rfl <| om hf rfl rfl fun a hf => oW hf (g := 37) rfl rfl <| oR hf (nC hf rfl) rfl fun a hf => oW hf (g := 37) rfl rfl <| oR hf (rF hf rfl fd_87_3) rfl fun a hf => oW hf (g := 37) rfl rfl <| oR hf (rL hw hf rfl ty_24 1 rfl rfl) rfl fun a hf => oW hf (g := 37) rfl rfl <| om hf rfl rfl fun a hf => ?_
        obtain ⟨hg3632, hp⟩ := gS hp
        refine oW hf (g := 37) rfl rfl <| oR hf (rI (K := (ekI .i64)) hf el_24 rfl rfl (rR (K := (ekI .i64)) hw (i := 2) rfl hRR2536) hg3632) rfl fun a hf => oW hf (g := 37) rfl rfl <| oR hf (r_loadH (K := (ekI .i64)) hf rfl ty_3 (rR (K := (ekI .i64)) hw (i := 2) rfl hRR2536) hg3632 rfl (fun cs h => ekI_f0 h)) rfl fun a hf => oW hf (g := 37) rfl rfl <| oR hf (iC hf rfl rfl rfl) rfl fun a hf => oR hf (pT hf rfl rfl) rfl fun a hf => oN <| ct ?_
        have ho := oI hp
        subst ho
        exact ⟨((gt y2532 y2545) == 0), rfl, hw, hf.to ⟨rfl, rfl, rfl, rfl, rfl, trivial⟩⟩
       ·replace hp := cond_f hb3631 hp
        refine oQ hf (g := 37) rfl fun a hf => oQ hf (g := 37) rfl fun a hf => oQ hf (g := 37) rfl fun a hf => oQ hf (g := 37) rfl fun a hf => oQ hf (g := 37) rfl fun a hf => oQ hf (g := 37) rfl fun a hf => oQ hf (g := 37) rfl fun a hf => oQ hf (g := 37) rfl fun a hf => oR hf (pF hf rfl rfl) rfl fun a hf => oN <| ct ?_
        have ho := oI hp
        subst ho
        exact ⟨false, rfl, hw, hf.to ⟨rfl, rfl, rfl, rfl, rfl, trivial⟩⟩
      ·intro a w hM
       obtain ⟨y3628, rfl, hw, hf⟩ := hM
       replace hp := hq3630
       refine cC hf rfl (fun hb3633 => ?_) (fun hb3633 => ?_)
       ·replace hp := cond_t hb3633 hp
        refine wp_exit <| c_thenE <| c_exit <| ct ?_
        have ho := oI hp
        subst ho
        exact ⟨y2527, y2532, y2537, yv2528, m2529, cs2530, yv2533, m2534, cs2535, yv2538, m2539, cs2540, rs2542, VV2543, rfl, hw, hf.to ⟨rfl, rfl, rfl, rfl, trivial⟩, hRR2531, hRR2536, hRR2541, hN2544⟩
       ·replace hp := cond_f hb3633 hp
        refine wp_skip <| ct <| wq <| c_drawn mix [11] (.rd 0 (.rd 1 (.rd 2 (.rd 3 (.rd 4 (.rd 5 (.rd 6 (.rd 7 (.rd 8 (.rd 9 (.rd 10 (.ef 11 .done)))))))))))) (by kernel_rfl) hw (fun w => Ok E I2_102 (.row yv2538 26 4 m2539 cs2540 :: .blk b123 (.cells ⟨[a0v1117, rvv105, yv2528, yv2533, yv2538]⟩ 87 (0, 0)) :: .row yv2533 3 1 m2534 cs2535 :: .row yv2528 3 1 m2529 cs2530 :: .blk b91 (.cells ⟨[rvv87, .bool y82.ok_]⟩ 83 (0, 0)) :: .blk b1 (.cells ⟨[.slice none 0 0, .bool false]⟩ 33 (0, 0)) :: (VV2543 ++ F)) w) (fun w hw => ⟨hw.sub (scc (scc (scc (scc (scc (scc sr)))))), ?_⟩)
        refine tm rfl hf rfl rfl fun a hf => tR rfl hf (fun w hw => nC hf rfl) rfl fun a hf => tR rfl hf (fun w hw => rF hf rfl fd_87_2) rfl fun a hf => tR rfl hf (fun w hw => rL hw hf rfl ty_24 1 rfl rfl) rfl fun a hf => tm rfl hf rfl rfl fun a hf => tm rfl hf rfl rfl fun a hf => tR rfl hf (fun w hw => nC hf rfl) rfl fun a hf => tR rfl hf (fun w hw => rF hf rfl fd_87_4) rfl fun a hf => tR rfl hf (fun w hw => rL hw hf rfl ty_29 1 rfl rfl) rfl fun a hf => tR rfl hf (fun w hw => r_lenN hf el_29 rfl (rR (K := ekQ) hw (i := 0) rfl hRR2541) hN2544) rfl fun a hf => ?_
        obtain ⟨hg3635, hp⟩ := gS hp
        refine tR rfl hf (fun w hw => rI (K := (ekI .i64)) hf el_24 rfl rfl (rR (K := (ekI .i64)) hw (i := 3) rfl hRR2531) hg3635) rfl fun a hf => t_ef rfl ?_
        obtain ⟨w, cs3637, hrun3636, hw, hRR3638⟩ := e_storeH (P := P) (K := (ekI .i64)) hw hf (x := .tmp 57) (y := .tmp 56) rfl rfl ty_3 3 rfl hRR2531 hg3635 rfl (vs := [.int .i64 (y2537.length : Int)]) (oE rfl) rfl (oC rfl ones_nil) (Nat.le_of_eq (by rfl)) (x' := (y2537.length : Int)) (whole_store rfl)
        replace hw : Ok E I2_102 (.row yv2538 26 4 m2539 cs2540 :: .blk b123 (.cells ⟨[a0v1117, rvv105, yv2528, yv2533, yv2538]⟩ 87 (0, 0)) :: .row yv2533 3 1 m2534 cs2535 :: .row yv2528 3 1 m2529 cs3637 :: .blk b91 (.cells ⟨[rvv87, .bool y82.ok_]⟩ 83 (0, 0)) :: .blk b1 (.cells ⟨[.slice none 0 0, .bool false]⟩ 33 (0, 0)) :: (VV2543 ++ F)) w := hw
        refine t_effU (hrun3636 ..) ⟨.inl rfl, ?_⟩
        refine t_done <| ct <| wq <| c_drawn mix [12] (.rd 0 (.rd 1 (.rd 2 (.rd 3 (.rd 4 (.rd 5 (.rd 6 (.rd 7 (.rd 8 (.rd 9 (.rd 10 (.rd 11 (.ef 12 .done))))))))))))) (by kernel_rfl) hw (fun w => Ok E I2_102 (.row yv2538 26 4 m2539 cs2540 :: .blk b123 (.cells ⟨[a0v1117, rvv105, yv2528, yv2533, yv2538]⟩ 87 (0, 0)) :: .row yv2533 3 1 m2534 cs2535 :: .row yv2528 3 1 m2529 cs3637 :: .blk b91 (.cells ⟨[rvv87, .bool y82.ok_]⟩ 83 (0, 0)) :: .blk b1 (.cells ⟨[.slice none 0 0, .bool false]⟩ 33 (0, 0)) :: (VV2543 ++ F)) w) (fun w hw => ⟨hw.sub (scc (scc (scc (scc (scc (scc sr)))))), ?_⟩)
        refine tm rfl hf rfl rfl fun a hf => tR rfl hf (fun w hw => nC hf rfl) rfl fun a hf => tR rfl hf (fun w hw => rF hf rfl fd_87_3) rfl fun a hf => tR rfl hf (fun w hw => rL hw hf rfl ty_24 1 rfl rfl) rfl fun a hf => tm rfl hf rfl rfl fun a hf => tm rfl hf rfl rfl fun a hf => tR rfl hf (fun w hw => nC hf rfl) rfl fun a hf => tR rfl hf (fun w hw => rF hf rfl fd_87_4) rfl fun a hf => tR rfl hf (fun w hw => rL hw hf rfl ty_29 1 rfl rfl) rfl fun a hf => tR rfl hf (fun w hw => r_lenN hf el_29 rfl (rR (K := ekQ) hw (i := 0) rfl hRR2541) hN2544) rfl fun a hf => tR rfl hf (fun w hw => r_add hf rfl rfl) rfl fun a hf => ?_
        obtain ⟨hg3640, hp⟩ := gS hp
        refine tR rfl hf (fun w hw => rI (K := (ekI .i64)) hf el_24 rfl rfl (rR (K := (ekI .i64)) hw (i := 2) rfl hRR2536) hg3640) rfl fun a hf => t_ef rfl ?_
        obtain ⟨w, cs3642, hrun3641, hw, hRR3643⟩ := e_storeH (P := P) (K := (ekI .i64)) hw hf (x := .tmp 69) (y := .tmp 68) rfl rfl ty_3 2 rfl hRR2536 hg3640 rfl (vs := [.int .i64 (w64 ((y2537.length : Int) + 1))]) (oE rfl) rfl (oC rfl ones_nil) (Nat.le_of_eq (by rfl)) (x' := w64 ((y2537.length : Int) + 1)) (whole_store rfl)
        replace hw : Ok E I2_102 (.row yv2538 26 4 m2539 cs2540 :: .blk b123 (.cells ⟨[a0v1117, rvv105, yv2528, yv2533, yv2538]⟩ 87 (0, 0)) :: .row yv2533 3 1 m2534 cs3642 :: .row yv2528 3 1 m2529 cs3637 :: .blk b91 (.cells ⟨[rvv87, .bool y82.ok_]⟩ 83 (0, 0)) :: .blk b1 (.cells ⟨[.slice none 0 0, .bool false]⟩ 33 (0, 0)) :: (VV2543 ++ F)) w := hw
        refine t_effU (hrun3641 ..) ⟨.inl rfl, ?_⟩
        refine t_done <| ct <| wq <| c_drawn mix [18] (.rd 0 (.rd 1 (.rd 2 (.rd 3 (.rd 4 (.rd 5 (.rd 6 (.rd 7 (.rd 8 (.rd 9 (.rd 10 (.rd 11 (.rd 12 (.rd 13 (.ef 14 (.ef 15 (.ef 16 (.rd 17 (.ef 18 .done))))))))))))))))))) (by kernel_rfl) hw (fun w => Ok E I2_102 (.blk b123 (.cells ⟨[a0v1117, rvv105, yv2528, yv2533, yv2538]⟩ 87 (0, 0)) :: .row yv2533 3 1 m2534 cs3642 :: .row yv2528 3 1 m2529 cs3637 :: .blk b91 (.cells ⟨[rvv87, .bool y82.ok_]⟩ 83 (0, 0)) :: .blk b1 (.cells ⟨[.slice none 0 0, .bool false]⟩ 33 (0, 0)) :: F) w) (fun w hw => ⟨hw.sub (sc (scc (scc (scc (scc (scc (List.sublist_append_right _ _))))))), ?_⟩)
        refine tm rfl hf rfl rfl fun a hf => tm rfl hf rfl rfl fun a hf => tR rfl hf (fun w hw => nC hf rfl) rfl fun a hf => tR rfl hf (fun w hw => rF hf rfl fd_87_4) rfl fun a hf => tR rfl hf (fun w hw => rL hw hf rfl ty_29 0 rfl rfl) rfl fun a hf => tm rfl hf rfl rfl fun a hf => tR rfl hf (fun w hw => nC hf rfl) rfl fun a hf => tR rfl hf (fun w hw => rF hf rfl fd_87_1) rfl fun a hf => tR rfl hf (fun w hw => rL hw hf rfl ty_45 0 rfl rfl) rfl fun a hf => tm rfl hf rfl rfl fun a hf => ?_
        obtain ⟨hg3645, hp⟩ := gS hp
        refine tR rfl hf (fun w hw => rI (K := ekS) hf el_45 rfl rfl (hR106.rd hw) hg3645) rfl fun a hf => tR rfl hf (fun w hw => r_loadH (K := ekS) hf rfl ty_9 (hR106.rd hw) hg3645 rfl (fun cs h => ekS_f0 h)) rfl fun a hf => tm rfl hf rfl rfl fun a hf => tR rfl hf (fun w hw => r_build hf bd_26 (vs := [.string (gt y98.p_ y2545), .int .i64 y2545]) rfl ⟨rfl, rfl, trivial⟩ (by decide) (out := [.string (gt y98.p_ y2545), .int .i64 y2545, .slice none 0 0, .slice none 0 0]) rfl) rfl fun a hf => t_ef rfl ?_
        obtain ⟨w, v3646, hrun3647, hw, hRR3648⟩ := e_buildSlice (P := P) (K := ekQ) (m := 1) hw hf (parts := [(0, .tmp 83)]) el_29 ty_26 rfl rfl rfl (ccs := [[Value.string (gt y98.p_ y2545), Value.int .i64 y2545, Value.slice none 0 0, Value.slice none 0 0]]) rfl (xs := [[Value.string (gt y98.p_ y2545), Value.int .i64 y2545, Value.slice none 0 0, Value.slice none 0 0]]) ⟨⟨rfl, rfl, (oC rfl (oC rfl (oC rfl (oC rfl ones_nil))))⟩, trivial⟩ rfl
        obtain ⟨cs3649, hcs⟩ : ∃ cs, cs = ([[Value.string (gt y98.p_ y2545), Value.int .i64 y2545, Value.slice none 0 0, Value.slice none 0 0]] : List (List Value)).flatten := ⟨_, rfl⟩
        rw [← hcs] at hw hRR3648; clear hcs
        refine t_eff hf (hrun3647 ..) rfl fun a hf => ⟨.inr (hw.back (IH.le_refl _) (sc (sc (scc (scc (scc (scc (scc (List.sublist_append_right _ _))))))))), ?_⟩
        refine t_ef rfl ?_
        obtain ⟨hg3651, hp⟩ := gS hp
        have hN3659 := hN2544.snoc (gt y98.p_ y2545) y2545
        obtain ⟨w, v3652, m3653, cs3654, hrun3656, hw, hRR3655⟩ := e_append (P := P) (K := ekQ) (ty := 29) hw hf (s := .tmp 74) (x := .tmp 84) el_29 ty_26 rfl (by decide) 1 rfl rfl rfl hRR2541 (ys := [[Value.string (gt y98.p_ y2545), Value.int .i64 y2545, Value.slice none 0 0, Value.slice none 0 0]]) (rR (K := ekQ) hw (i := 0) rfl hRR3648) (by have := hN2544.len.2; have := hg3651; simp only [List.length_cons, List.length_nil]; omega)
        replace hw := nst_more (R := [.row v3646 26 4 1 cs3649, .row v3652 26 4 m3653 cs3654, .blk b123 (.cells ⟨[a0v1117, rvv105, yv2528, yv2533, yv2538]⟩ 87 (0, 0)), .row yv2533 3 1 m2534 cs3642, .row yv2528 3 1 m2529 cs3637, .blk b91 (.cells ⟨[rvv87, .bool y82.ok_]⟩ 83 (0, 0)), .blk b1 (.cells ⟨[.slice none 0 0, .bool false]⟩ 33 (0, 0))]) (V := VV2543) (F := F) 3 hw
        obtain ⟨rs3658, hrs⟩ : ∃ rs, rs = rs2542 ++ [[Value.string (gt y98.p_ y2545), Value.int .i64 y2545, Value.slice none 0 0, Value.slice none 0 0]] := ⟨_, rfl⟩
        rw [← hrs] at hRR3655 hN3659; clear hrs
        obtain ⟨VV3657, hV⟩ : ∃ V, V = VV2543 ++ [nilR 3, nilR 3] := ⟨_, rfl⟩
        rw [← hV] at hw hN3659; clear hV
        replace hw : Ok E I2_102 (.row v3646 26 4 1 cs3649 :: .row v3652 26 4 m3653 cs3654 :: .blk b123 (.cells ⟨[a0v1117, rvv105, yv2528, yv2533, yv2538]⟩ 87 (0, 0)) :: .row yv2533 3 1 m2534 cs3642 :: .row yv2528 3 1 m2529 cs3637 :: .blk b91 (.cells ⟨[rvv87, .bool y82.ok_]⟩ 83 (0, 0)) :: .blk b1 (.cells ⟨[.slice none 0 0, .bool false]⟩ 33 (0, 0)) :: (VV3657 ++ F)) w := hw
        refine t_eff hf (hrun3656 ..) rfl fun a hf => ⟨.inr (hw.back (IH.le_refl _) (sc (sc (scc (scc (scc (scc (scc (List.sublist_append_right _ _))))))))), ?_⟩
        refine t_ef rfl <| t_eff hf (nC hf rfl) rfl fun a hf => ⟨.inr (hw.back (IH.le_refl _) (sc (sc (scc (scc (scc (scc (scc (List.sublist_append_right _ _))))))))), ?_⟩
        refine tR rfl hf (fun w hw => rF hf rfl fd_87_4) rfl fun a hf => t_ef rfl ?_
        obtain ⟨w, hrun3660, hw⟩ := e_store (P := P) hw hf (x := .tmp 87) (y := .tmp 85) rfl rfl ty_29 2 rfl (vs := [v3652]) (oE (row_one hw (i := 1) rfl)) rfl (oC (row_one hw (i := 1) rfl) ones_nil) (by simp [arrC_len]) (cs' := [a0v1117, rvv105, yv2528, yv2533, v3652]) rfl
        replace hw : Ok E I2_102 (.row v3646 26 4 1 cs3649 :: .row v3652 26 4 m3653 cs3654 :: .blk b123 (.cells ⟨[a0v1117, rvv105, yv2528, yv2533, v3652]⟩ 87 (0, 0)) :: .row yv2533 3 1 m2534 cs3642 :: .row yv2528 3 1 m2529 cs3637 :: .blk b91 (.cells ⟨[rvv87, .bool y82.ok_]⟩ 83 (0, 0)) :: .blk b1 (.cells ⟨[.slice none 0 0, .bool false]⟩ 33 (0, 0)) :: (VV3657 ++ F)) w := hw
        refine t_effU (hrun3660 ..) ⟨.inl rfl, ?_⟩
        refine t_done <| ct ?_
        obtain ⟨out3737, hp, hq3738⟩ := bS hp
        refine c_cutX (fun a w => ∃ y3672 : List Int, ∃ y3673 : List Int, ∃ rv3678 : Value, ∃ rm3679 : Nat, ∃ rcs3680 : List Value, ∃ rv3682 : Value, ∃ rm3683 : Nat, ∃ rcs3684 : List Value, (y3672, y3673) = out3737 ∧ Ok E I2_102 (.blk b123 (.cells ⟨[a0v1117, rvv105, rv3678, rv3682, v3652]⟩ 87 (0, 0)) :: .row rv3678 3 1 rm3679 rcs3680 :: .row rv3682 3 1 rm3683 rcs3684 :: .row v3646 26 4 1 cs3649 :: .row v3652 26 4 m3653 cs3654 :: .blk b91 (.cells ⟨[rvv87, .bool y82.ok_]⟩ 83 (0, 0)) :: .blk b1 (.cells ⟨[.slice none 0 0, .bool false]⟩ 33 (0, 0)) :: (VV3657 ++ F)) w ∧ Fr 214 ([(0, a0v1117), (2, .pointer (some ⟨b1, 0, none⟩)), (4, .pointer (some ⟨b123, 0, none⟩)), (5, .int .i64 y2545)]) a ∧ RowR (ekI .i64) I2_102 rcs3680 y3672 ∧ RowR (ekI .i64) I2_102 rcs3684 y3673) ?_ ?_
        ·refine c_drawn mix [] (.rd 0 (.rd 1 (.rd 2 (.rd 3 (.rd 4 (.rd 6 (.rd 9 (.rd 10 (.rd 11 (.rd 12 (.ef2 5 (.rd 7 (.ef2 8 (.ef 13 (.ef 14 .done)) 13 (.ef 8 (.ef 14 .done)))) 13 (.ef 5 (.rd 7 (.ef 8 (.ef 14 .done))))))))))))))) (by kernel_rfl) hw (fun w => Ok E I2_102 (.row v3646 26 4 1 cs3649 :: .blk b91 (.cells ⟨[rvv87, .bool y82.ok_]⟩ 83 (0, 0)) :: .blk b1 (.cells ⟨[.slice none 0 0, .bool false]⟩ 33 (0, 0)) :: F) w) (fun w hw => ⟨hw.sub (scc (sc (sc (sc (sc (scc (scc (List.sublist_append_right _ _)))))))), ?_⟩)
         refine tm rfl hf rfl rfl fun a hf => tm rfl hf rfl rfl fun a hf => tm rfl hf rfl rfl fun a hf => tR rfl hf (fun w hw => nC hf rfl) rfl fun a hf => tR rfl hf (fun w hw => rF hf rfl fd_87_2) rfl fun a hf => tm rfl hf rfl rfl fun a hf => tm rfl hf rfl rfl fun a hf => tm rfl hf rfl rfl fun a hf => ?_
         obtain ⟨hg3740, hp⟩ := gS hp
         refine tR rfl hf (fun w hw => rI (K := ek_Node) hf el_23 rfl rfl (hR1118.rd hw) hg3740) rfl fun a hf => tR rfl hf (fun w hw => r_loadHP (K := ek_Node) hf rfl ty_51 (hR1118.rd hw) hg3740 rfl (vs := (.int .i64 ((gt a0 y2545).kind_) :: .string ((gt a0 y2545).path_) :: .bool ((gt a0 y2545).has_) :: .string ((gt a0 y2545).value_) :: arrC .i64 ((gt a0 y2545).kids_))) (fun cs h => Node_all h) (by simp [arrC_len])) rfl fun a hf => t_ef2 rfl rfl ?_ ?_
         ·refine t_eff hf (rL hw hf rfl ty_24 2 rfl rfl) rfl fun a hf => ⟨.inr (hw.back (IH.le_refl _) (scc (sc (sc (sc (sc (scc (scc (List.sublist_append_right _ _))))))))), ?_⟩
          obtain ⟨hg3741, hp⟩ := gS hp
          have hrd3742 := rR (K := (ekI .i64)) hw (i := 4) rfl hRR3638
          refine tR rfl hf (fun w hw => rI (K := (ekI .i64)) hf el_24 rfl rfl hrd3742 hg3741) rfl fun a hf => t_ef2 rfl rfl ?_ ?_
          ·refine t_eff hf (r_loadH (K := (ekI .i64)) hf rfl ty_3 (rR (K := (ekI .i64)) hw (i := 4) rfl hRR3638) hg3741 rfl (fun cs h => ekI_f0 h)) rfl fun a hf => ⟨.inr (hw.back (IH.le_refl _) (scc (sc (sc (sc (sc (scc (scc (List.sublist_append_right _ _))))))))), ?_⟩
           refine t_ef rfl ?_
           obtain ⟨y3743, hy3744, hp⟩ := bS hp
           have hc3746 := ref19_size_ok hw hy3744
           refine t_call hf cb_39 rfl rfl hc3746 (fun v3748 w a hK3747 hf => ?_)
           obtain ⟨rfl, hw⟩ := hK3747
           refine ⟨.inr (hw.back (IH.le_refl _) (scc (sc (sc (sc (sc (scc (scc (List.sublist_append_right _ _))))))))), ?_⟩
           refine t_ef rfl ?_
           replace hw : Ok E I2_102 (.blk b123 (.cells ⟨[a0v1117, rvv105, yv2528, yv2533, v3652]⟩ 87 (0, 0)) :: .row yv2528 3 1 m2529 cs3637 :: .row yv2533 3 1 m2534 cs3642 :: .row v3646 26 4 1 cs3649 :: .row v3652 26 4 m3653 cs3654 :: .blk b91 (.cells ⟨[rvv87, .bool y82.ok_]⟩ 83 (0, 0)) :: .blk b1 (.cells ⟨[.slice none 0 0, .bool false]⟩ 33 (0, 0)) :: (VV3657 ++ F)) w := ((hw.front (i := 3) rfl).front (i := 4) rfl).front (i := 4) rfl
           obtain ⟨y3753, hy3752, hp⟩ := bS hp
           obtain ⟨y3749, y3750, y3751⟩ := y3753
           have hc3754 := ref19_maker_grow_ok BIG hw hR1118 hR106 hRR3638 hRR3643 hy3752
           refine t_call hf cb_38 rfl rfl hc3754 (fun v3764 w a hK3755 hf => ?_)
           obtain ⟨rv3756, rm3757, rcs3758, rv3760, rm3761, rcs3762, rfl, hw, hRR3759, hRR3763⟩ := hK3755
           refine ⟨.inr (hw.back (IH.le_refl _) (sc (sc (sc (scc (sc (scc (scc (List.sublist_append_right _ _))))))))), ?_⟩
           refine t_done <| ct ?_
           have ho := oI hp
           subst ho
           exact ⟨y3750, y3751, rv3756, rm3757, rcs3758, rv3760, rm3761, rcs3762, rfl, hw, hf.to ⟨rfl, rfl, rfl, rfl, trivial⟩, hRR3759, hRR3763⟩
          ·obtain ⟨y3765, hy3766, hp⟩ := bS hp
           have hc3768 := ref19_size_ok hw hy3766
           refine t_call hf cb_39 rfl rfl hc3768 (fun v3770 w a hK3769 hf => ?_)
           obtain ⟨rfl, hw⟩ := hK3769
           refine ⟨.inr (hw.back (IH.le_refl _) (scc (sc (sc (sc (sc (scc (scc (List.sublist_append_right _ _))))))))), ?_⟩
           refine t_ef rfl <| t_eff hf (r_loadH (K := (ekI .i64)) hf rfl ty_3 (rR (K := (ekI .i64)) hw (i := 4) rfl hRR3638) hg3741 rfl (fun cs h => ekI_f0 h)) rfl fun a hf => ⟨.inr (hw.back (IH.le_refl _) (scc (sc (sc (sc (sc (scc (scc (List.sublist_append_right _ _))))))))), ?_⟩
           refine t_ef rfl ?_
           replace hw : Ok E I2_102 (.blk b123 (.cells ⟨[a0v1117, rvv105, yv2528, yv2533, v3652]⟩ 87 (0, 0)) :: .row yv2528 3 1 m2529 cs3637 :: .row yv2533 3 1 m2534 cs3642 :: .row v3646 26 4 1 cs3649 :: .row v3652 26 4 m3653 cs3654 :: .blk b91 (.cells ⟨[rvv87, .bool y82.ok_]⟩ 83 (0, 0)) :: .blk b1 (.cells ⟨[.slice none 0 0, .bool false]⟩ 33 (0, 0)) :: (VV3657 ++ F)) w := ((hw.front (i := 3) rfl).front (i := 4) rfl).front (i := 4) rfl
           obtain ⟨y3775, hy3774, hp⟩ := bS hp
           obtain ⟨y3771, y3772, y3773⟩ := y3775
           have hc3776 := ref19_maker_grow_ok BIG hw hR1118 hR106 hRR3638 hRR3643 hy3774
           refine t_call hf cb_38 rfl rfl hc3776 (fun v3786 w a hK3777 hf => ?_)
           obtain ⟨rv3778, rm3779, rcs3780, rv3782, rm3783, rcs3784, rfl, hw, hRR3781, hRR3785⟩ := hK3777
           refine ⟨.inr (hw.back (IH.le_refl _) (sc (sc (sc (scc (sc (scc (scc (List.sublist_append_right _ _))))))))), ?_⟩
           refine t_done <| ct ?_
           have ho := oI hp
           subst ho
           exact ⟨y3772, y3773, rv3778, rm3779, rcs3780, rv3782, rm3783, rcs3784, rfl, hw, hf.to ⟨rfl, rfl, rfl, rfl, trivial⟩, hRR3781, hRR3785⟩
         ·obtain ⟨hd3811, hp⟩ := gS hp
          obtain ⟨yd3814, hd3813, hp⟩ := bS hp
          replace hp : ((ref19_size.f (gt a0 y2545)).bind fun y3787 => gd (0 ≤ y2545 ∧ y2545 < ((y2527.set y2545.toNat (y2537.length : Int)).length : Int)) <| (ref19_maker_grow.f BIG a0 y98.p_ (y2527.set y2545.toNat (y2537.length : Int)) (y2532.set y2545.toNat (w64 ((y2537.length : Int) + 1))) y2545 (gt (y2527.set y2545.toNat (y2537.length : Int)) y2545) y3787).bind fun (y3795, y3796, y3797) => some (y3796, y3797)) = _ := (bind_in hd3813 (gd_in hd3811 hp))
          obtain ⟨y3787, hy3788, hp⟩ := bS hp
          have hc3790 := ref19_size_ok hw hy3788
          refine t_call hf cb_39 rfl rfl hc3790 (fun v3792 w a hK3791 hf => ?_)
          obtain ⟨rfl, hw⟩ := hK3791
          refine ⟨.inr (hw.back (IH.le_refl _) (scc (sc (sc (sc (sc (scc (scc (List.sublist_append_right _ _))))))))), ?_⟩
          refine t_ef rfl <| t_eff hf (rL hw hf rfl ty_24 2 rfl rfl) rfl fun a hf => ⟨.inr (hw.back (IH.le_refl _) (scc (sc (sc (sc (sc (scc (scc (List.sublist_append_right _ _))))))))), ?_⟩
          obtain ⟨hg3793, hp⟩ := gS hp
          have hrd3794 := rR (K := (ekI .i64)) hw (i := 4) rfl hRR3638
          refine tR rfl hf (fun w hw => rI (K := (ekI .i64)) hf el_24 rfl rfl hrd3794 hg3793) rfl fun a hf => t_ef rfl <| t_eff hf (r_loadH (K := (ekI .i64)) hf rfl ty_3 (rR (K := (ekI .i64)) hw (i := 4) rfl hRR3638) hg3793 rfl (fun cs h => ekI_f0 h)) rfl fun a hf => ⟨.inr (hw.back (IH.le_refl _) (scc (sc (sc (sc (sc (scc (scc (List.sublist_append_right _ _))))))))), ?_⟩
          refine t_ef rfl ?_
          replace hw : Ok E I2_102 (.blk b123 (.cells ⟨[a0v1117, rvv105, yv2528, yv2533, v3652]⟩ 87 (0, 0)) :: .row yv2528 3 1 m2529 cs3637 :: .row yv2533 3 1 m2534 cs3642 :: .row v3646 26 4 1 cs3649 :: .row v3652 26 4 m3653 cs3654 :: .blk b91 (.cells ⟨[rvv87, .bool y82.ok_]⟩ 83 (0, 0)) :: .blk b1 (.cells ⟨[.slice none 0 0, .bool false]⟩ 33 (0, 0)) :: (VV3657 ++ F)) w := ((hw.front (i := 3) rfl).front (i := 4) rfl).front (i := 4) rfl
          obtain ⟨y3799, hy3798, hp⟩ := bS hp
          obtain ⟨y3795, y3796, y3797⟩ := y3799
          have hc3800 := ref19_maker_grow_ok BIG hw hR1118 hR106 hRR3638 hRR3643 hy3798
          refine t_call hf cb_38 rfl rfl hc3800 (fun v3810 w a hK3801 hf => ?_)
          obtain ⟨rv3802, rm3803, rcs3804, rv3806, rm3807, rcs3808, rfl, hw, hRR3805, hRR3809⟩ := hK3801
          refine ⟨.inr (hw.back (IH.le_refl _) (sc (sc (sc (scc (sc (scc (scc (List.sublist_append_right _ _))))))))), ?_⟩
          refine t_done <| ct ?_
          have ho := oI hp
          subst ho
          exact ⟨y3796, y3797, rv3802, rm3803, rcs3804, rv3806, rm3807, rcs3808, rfl, hw, hf.to ⟨rfl, rfl, rfl, rfl, trivial⟩, hRR3805, hRR3809⟩
        ·intro a w hM
         obtain ⟨y3672, y3673, rv3678, rm3679, rcs3680, rv3682, rm3683, rcs3684, rfl, hw, hf, hRR3681, hRR3685⟩ := hM
         replace hp := hq3738
         refine c_blockN <| ct ?_
         have ho := oI hp
         subst ho
         replace hw : Ok E I2_102 (.row v3652 26 4 m3653 cs3654 :: .blk b123 (.cells ⟨[a0v1117, rvv105, rv3678, rv3682, v3652]⟩ 87 (0, 0)) :: .row rv3682 3 1 rm3683 rcs3684 :: .row rv3678 3 1 rm3679 rcs3680 :: .blk b91 (.cells ⟨[rvv87, .bool y82.ok_]⟩ 83 (0, 0)) :: .blk b1 (.cells ⟨[.slice none 0 0, .bool false]⟩ 33 (0, 0)) :: .row v3646 26 4 1 cs3649 :: (VV3657 ++ F)) w := (((((hw.front (i := 6) rfl).front (i := 6) rfl).front (i := 3) rfl).front (i := 4) rfl).front (i := 4) rfl).front (i := 6) rfl
         replace hw : Ok E I2_102 (.row v3652 26 4 m3653 cs3654 :: .blk b123 (.cells ⟨[a0v1117, rvv105, rv3678, rv3682, v3652]⟩ 87 (0, 0)) :: .row rv3682 3 1 rm3683 rcs3684 :: .row rv3678 3 1 rm3679 rcs3680 :: .blk b91 (.cells ⟨[rvv87, .bool y82.ok_]⟩ 83 (0, 0)) :: .blk b1 (.cells ⟨[.slice none 0 0, .bool false]⟩ 33 (0, 0)) :: (VV3657 ++ F)) w := hw.sub (scc (scc (scc (scc (scc (scc (sc sr)))))))
         exact ⟨y3672, y3673, (y2537 ++ [(⟨gt y98.p_ y2545, y2545, ([] : List Int), ([] : List Int)⟩ : Plan)]), rv3678, rm3679, rcs3680, rv3682, rm3683, rcs3684, v3652, m3653, cs3654, rs3658, VV3657, rfl, hw, hf.to ⟨rfl, rfl, rfl, rfl, trivial⟩, hRR3681, hRR3685, hRR3655, hN3659⟩
     ·intro a w hM
      obtain ⟨y3594, y3599, y3604, yv3595, m3596, cs3597, yv3600, m3601, cs3602, yv3605, m3606, cs3607, rs3609, VV3610, rfl, hw, hf, hRR3598, hRR3603, hRR3608, hN3611⟩ := hM
      replace hp := hq3613
      refine wr <| om hf rfl rfl fun a hf => oR hf (r_add hf rfl rfl) rfl fun a hf => oa hf rfl rfl fun a hf => oN <| ct ?_
      exact ih (y3594, y3599, y3604, w64 (y2545 + 1)) _ _ ⟨yv3595, m3596, cs3597, yv3600, m3601, cs3602, yv3605, m3606, cs3607, rs3609, VV3610, hw, hf.to ⟨rfl, rfl, rfl, rfl, trivial⟩, hRR3598, hRR3603, hRR3608, hN3611⟩ hp
    ·replace hp := cond_f hb3191 hp
     refine wp_exit <| c_thenE <| c_thenE <| c_exit <| ct ?_
     have ho := oI hp
     subst ho
     exact ⟨y2527, y2532, y2537, yv2528, m2529, cs2530, yv2533, m2534, cs2535, yv2538, m2539, cs2540, rs2542, VV2543, rfl, hw, hf.to ⟨rfl, rfl, rfl, trivial⟩, hRR2531, hRR2536, hRR2541, hN2544⟩
   ·intro a w hM
    obtain ⟨y3170, y3175, y3180, yv3171, m3172, cs3173, yv3176, m3177, cs3178, yv3181, m3182, cs3183, rs3185, VV3186, rfl, hw, hf, hRR3174, hRR3179, hRR3184, hN3187⟩ := hM
    replace hp := hq3189
    refine ct <| wq <| wq <| wr <| oa hf rfl rfl fun a hf => oN <| ct ?_
    obtain ⟨out3908, hp, hq3909⟩ := bS hp
    refine c_cutX (fun a w => ∃ y3900 : List Plan, ∃ yv3901 : Value, ∃ m3902 : Nat, ∃ cs3903 : List Value, ∃ rs3905 : List (List Value), ∃ VV3906 : List Atom, y3900 = out3908 ∧ Ok E I2_102 (.row yv3901 26 4 m3902 cs3903 :: .blk b123 (.cells ⟨[a0v1117, rvv105, yv3171, yv3176, yv3901]⟩ 87 (0, 0)) :: .row yv3176 3 1 m3177 cs3178 :: .row yv3171 3 1 m3172 cs3173 :: .blk b91 (.cells ⟨[rvv87, .bool y82.ok_]⟩ 83 (0, 0)) :: .blk b1 (.cells ⟨[.slice none 0 0, .bool false]⟩ 33 (0, 0)) :: (VV3906 ++ F)) w ∧ Fr 214 ([(0, a0v1117), (2, .pointer (some ⟨b1, 0, none⟩)), (4, .pointer (some ⟨b123, 0, none⟩))]) a ∧ RowR ekQ I2_102 cs3903 rs3905 ∧ Nst 3 I2_102 VV3906 rs3905 y3900) ?_ ?_
    ·refine wp_block <| c_loop <| c_fuel (ref19_Of.l1 a0 y3170) out3908 (fun (y3869, y3877) a w => ∃ yv3870 : Value, ∃ m3871 : Nat, ∃ cs3872 : List Value, ∃ rs3874 : List (List Value), ∃ VV3875 : List Atom, Ok E I2_102 (.row yv3870 26 4 m3871 cs3872 :: .blk b123 (.cells ⟨[a0v1117, rvv105, yv3171, yv3176, yv3870]⟩ 87 (0, 0)) :: .row yv3176 3 1 m3177 cs3178 :: .row yv3171 3 1 m3172 cs3173 :: .blk b91 (.cells ⟨[rvv87, .bool y82.ok_]⟩ 83 (0, 0)) :: .blk b1 (.cells ⟨[.slice none 0 0, .bool false]⟩ 33 (0, 0)) :: (VV3875 ++ F)) w ∧ Fr 214 ([(0, a0v1117), (2, .pointer (some ⟨b1, 0, none⟩)), (4, .pointer (some ⟨b123, 0, none⟩)), (6, .int .i64 y3877)]) a ∧ RowR ekQ I2_102 cs3872 rs3874 ∧ Nst 3 I2_102 VV3875 rs3874 y3869) (fun _ => rfl) ?_ BIG (y3180, 0) _ _ ⟨yv3181, m3182, cs3183, rs3185, VV3186, hw, hf.to ⟨rfl, rfl, rfl, rfl, trivial⟩, hRR3184, hN3187⟩ hp
     intro k st a w hI hp ih
     obtain ⟨y3869, y3877⟩ := st
     obtain ⟨yv3870, m3871, cs3872, rs3874, VV3875, hw, hf, hRR3873, hN3876⟩ := hI
     rw [ref19_Of.l1] at hp
     refine wq <| wq <| wr <| om hf rfl rfl fun a hf => om hf rfl rfl fun a hf => oR hf (r_lenL (K := ek_Node) hf el_23 rfl (hR1118.rd hw)) rfl fun a hf => oR hf (iC hf rfl rfl rfl) rfl fun a hf => oN <| ct <| cC hf rfl (fun hb3911 => ?_) (fun hb3911 => ?_)
     ·replace hp := cond_t hb3911 hp
      refine wp_skip <| ct <| wq <| wp_block <| c_drawn mix [30] (.rd 0 (.rd 1 (.rd 2 (.rd 3 (.rd 4 (.rd 5 (.rd 6 (.rd 7 (.rd 8 (.rd 9 (.rd 10 (.rd 11 (.rd 12 (.rd 13 (.rd 14 (.rd 15 (.rd 16 (.rd 17 (.rd 18 (.rd 19 (.rd 20 (.rd 21 (.rd 22 (.rd 23 (.rd 24 (.rd 25 (.ef 26 (.ef 27 (.ef 28 (.rd 29 (.ef 30 .done))))))))))))))))))))))))))))))) (by kernel_rfl) hw (fun w => Ok E I2_102 (.row yv3870 26 4 m3871 cs3872 :: .blk b123 (.cells ⟨[a0v1117, rvv105, yv3171, yv3176, yv3870]⟩ 87 (0, 0)) :: .row yv3176 3 1 m3177 cs3178 :: .row yv3171 3 1 m3172 cs3173 :: .blk b91 (.cells ⟨[rvv87, .bool y82.ok_]⟩ 83 (0, 0)) :: .blk b1 (.cells ⟨[.slice none 0 0, .bool false]⟩ 33 (0, 0)) :: F) w) (fun w hw => ⟨hw.sub (scc (scc (scc (scc (scc (scc (List.sublist_append_right _ _))))))), ?_⟩)
      refine tm rfl hf rfl rfl fun a hf => tR rfl hf (fun w hw => nC hf rfl) rfl fun a hf => tR rfl hf (fun w hw => rF hf rfl fd_87_4) rfl fun a hf => tR rfl hf (fun w hw => rL hw hf rfl ty_29 1 rfl rfl) rfl fun a hf => tm rfl hf rfl rfl fun a hf => tR rfl hf (fun w hw => nC hf rfl) rfl fun a hf => tR rfl hf (fun w hw => rF hf rfl fd_87_2) rfl fun a hf => tR rfl hf (fun w hw => rL hw hf rfl ty_24 1 rfl rfl) rfl fun a hf => tm rfl hf rfl rfl fun a hf => ?_
      obtain ⟨hg3913, hp⟩ := gS hp
      refine tR rfl hf (fun w hw => rI (K := (ekI .i64)) hf el_24 rfl rfl (rR (K := (ekI .i64)) hw (i := 3) rfl hRR3174) hg3913) rfl fun a hf => tR rfl hf (fun w hw => r_loadH (K := (ekI .i64)) hf rfl ty_3 (rR (K := (ekI .i64)) hw (i := 3) rfl hRR3174) hg3913 rfl (fun cs h => ekI_f0 h)) rfl fun a hf => tm rfl hf rfl rfl fun a hf => tR rfl hf (fun w hw => nC hf rfl) rfl fun a hf => tR rfl hf (fun w hw => rF hf rfl fd_87_4) rfl fun a hf => tR rfl hf (fun w hw => rL hw hf rfl ty_29 1 rfl rfl) rfl fun a hf => tm rfl hf rfl rfl fun a hf => tR rfl hf (fun w hw => nC hf rfl) rfl fun a hf => tR rfl hf (fun w hw => rF hf rfl fd_87_2) rfl fun a hf => tR rfl hf (fun w hw => rL hw hf rfl ty_24 1 rfl rfl) rfl fun a hf => tm rfl hf rfl rfl fun a hf => ?_
      obtain ⟨hg3914, hp⟩ := gS hp
      refine tR rfl hf (fun w hw => rI (K := (ekI .i64)) hf el_24 rfl rfl (rR (K := (ekI .i64)) hw (i := 3) rfl hRR3174) hg3914) rfl fun a hf => tR rfl hf (fun w hw => r_loadH (K := (ekI .i64)) hf rfl ty_3 (rR (K := (ekI .i64)) hw (i := 3) rfl hRR3174) hg3914 rfl (fun cs h => ekI_f0 h)) rfl fun a hf => ?_
      obtain ⟨hg3915, hp⟩ := gS hp
      refine tR rfl hf (fun w hw => rI (K := ekQ) hf el_29 rfl rfl (rR (K := ekQ) hw (i := 0) rfl hRR3873) (hN3876.gl hg3915)) rfl fun a hf => tR rfl hf (fun w hw => r_fieldAddrH hf rfl fd_26_2) rfl fun a hf => tR rfl hf (fun w hw => n_load hw hf rfl ty_24 hN3876 hRR3873 hg3915 0 rfl rfl (by decide)) rfl fun a hf => tm rfl hf rfl rfl fun a hf => t_ef rfl ?_
      obtain ⟨w, v3916, hrun3917, hw, hRR3918⟩ := e_buildSlice (P := P) (K := (ekI .i64)) (m := 1) hw hf (parts := [(0, .tmp 134)]) el_24 ty_3 rfl rfl rfl (ccs := [[Value.int .i64 y3877]]) rfl (xs := [y3877]) ⟨rfl, trivial⟩ rfl
      obtain ⟨cs3919, hcs⟩ : ∃ cs, cs = ([[Value.int .i64 y3877]] : List (List Value)).flatten := ⟨_, rfl⟩
      rw [← hcs] at hw hRR3918; clear hcs
      refine t_eff hf (hrun3917 ..) rfl fun a hf => ⟨.inr (hw.back (IH.le_refl _) (sc (scc (scc (scc (scc (scc (scc (List.sublist_append_right _ _))))))))), ?_⟩
      refine t_ef rfl ?_
      obtain ⟨hg3922, hp⟩ := gS hp
      obtain ⟨w, v3923, VV3924, hrun3926, hw, hP3925⟩ := n_app_nodes (P := P) (R := [.row v3916 3 1 1 cs3919, .row yv3870 26 4 m3871 cs3872, .blk b123 (.cells ⟨[a0v1117, rvv105, yv3171, yv3176, yv3870]⟩ 87 (0, 0)), .row yv3176 3 1 m3177 cs3178, .row yv3171 3 1 m3172 cs3173, .blk b91 (.cells ⟨[rvv87, Value.bool y82.ok_]⟩ 83 (0, 0)), .blk b1 (.cells ⟨[Value.slice none 0 0, Value.bool false]⟩ 33 (0, 0))]) (V := VV3875) (F := F) (ty := 24) hw hf (s := .tmp 133) (x := .tmp 135) el_24 ty_3 rfl (by decide) rfl rfl hN3876 (by assumption) (ys := [y3877]) (rR (K := (ekI .i64)) hw (i := 0) rfl hRR3918) hg3922
      replace hw : Ok E I2_102 (.row v3916 3 1 1 cs3919 :: .row yv3870 26 4 m3871 cs3872 :: .blk b123 (.cells ⟨[a0v1117, rvv105, yv3171, yv3176, yv3870]⟩ 87 (0, 0)) :: .row yv3176 3 1 m3177 cs3178 :: .row yv3171 3 1 m3172 cs3173 :: .blk b91 (.cells ⟨[rvv87, .bool y82.ok_]⟩ 83 (0, 0)) :: .blk b1 (.cells ⟨[.slice none 0 0, .bool false]⟩ 33 (0, 0)) :: (VV3924 ++ F)) w := hw
      refine t_eff hf (hrun3926 ..) rfl fun a hf => ⟨.inr (hw.back (IH.le_refl _) (sc (scc (scc (scc (scc (scc (scc (List.sublist_append_right _ _))))))))), ?_⟩
      refine t_ef rfl ?_
      obtain ⟨hg3927, hp⟩ := gS hp
      refine t_eff hf (rI (K := ekQ) hf el_29 rfl rfl (rR (K := ekQ) hw (i := 1) rfl hRR3873) (hN3876.gl hg3927)) rfl fun a hf => ⟨.inr (hw.back (IH.le_refl _) (sc (scc (scc (scc (scc (scc (scc (List.sublist_append_right _ _))))))))), ?_⟩
      refine tR rfl hf (fun w hw => r_fieldAddrH hf rfl fd_26_2) rfl fun a hf => t_ef rfl ?_
      obtain ⟨w, cs3929, rs3930, hrun3928, hw, hRR3931, hN3932⟩ := n_store (P := P) (R := [.row v3916 3 1 1 cs3919, .row yv3870 26 4 m3871 cs3872, .blk b123 (.cells ⟨[a0v1117, rvv105, yv3171, yv3176, yv3870]⟩ 87 (0, 0)), .row yv3176 3 1 m3177 cs3178, .row yv3171 3 1 m3172 cs3173, .blk b91 (.cells ⟨[rvv87, Value.bool y82.ok_]⟩ 83 (0, 0)), .blk b1 (.cells ⟨[Value.slice none 0 0, Value.bool false]⟩ 33 (0, 0))]) (V := VV3924) (F := F) hw hf (x := .tmp 138) (y := .tmp 136) rfl rfl ty_24 1 rfl (of_decide_eq_true rfl) hRR3873 (hN3876.gl hg3927) rfl (by decide) hP3925
      replace hw : Ok E I2_102 (.row v3916 3 1 1 cs3919 :: .row yv3870 26 4 m3871 cs3929 :: .blk b123 (.cells ⟨[a0v1117, rvv105, yv3171, yv3176, yv3870]⟩ 87 (0, 0)) :: .row yv3176 3 1 m3177 cs3178 :: .row yv3171 3 1 m3172 cs3173 :: .blk b91 (.cells ⟨[rvv87, .bool y82.ok_]⟩ 83 (0, 0)) :: .blk b1 (.cells ⟨[.slice none 0 0, .bool false]⟩ 33 (0, 0)) :: (VV3924 ++ F)) w := hw
      refine t_effU (hrun3928 ..) ⟨.inl rfl, ?_⟩
      refine t_done <| c_blockN <| ct <| wr <| om hf rfl rfl fun a hf => oR hf (r_add hf rfl rfl) rfl fun a hf => oa hf rfl rfl fun a hf => oN <| ct ?_
      replace hw : Ok E I2_102 (.row yv3870 26 4 m3871 cs3929 :: .blk b123 (.cells ⟨[a0v1117, rvv105, yv3171, yv3176, yv3870]⟩ 87 (0, 0)) :: .row yv3176 3 1 m3177 cs3178 :: .row yv3171 3 1 m3172 cs3173 :: .blk b91 (.cells ⟨[rvv87, .bool y82.ok_]⟩ 83 (0, 0)) :: .blk b1 (.cells ⟨[.slice none 0 0, .bool false]⟩ 33 (0, 0)) :: (VV3924 ++ F)) w := hw.sub (sc (scc (scc (scc (scc (scc (scc sr)))))))
      exact ih (y3869.set (gt y3170 y3877).toNat { gt y3869 (gt y3170 y3877) with nodes_ := (gt y3869 (gt y3170 y3877)).nodes_ ++ [y3877] }, w64 (y3877 + 1)) _ _ ⟨yv3870, m3871, cs3929, rs3930, VV3924, hw, hf.to ⟨rfl, rfl, rfl, rfl, trivial⟩, hRR3931, hN3932⟩ hp
     ·replace hp := cond_f hb3911 hp
      refine wp_exit <| c_thenE <| c_thenE <| c_exit <| ct ?_
      have ho := oI hp
      subst ho
      exact ⟨y3869, yv3870, m3871, cs3872, rs3874, VV3875, rfl, hw, hf.to ⟨rfl, rfl, rfl, trivial⟩, hRR3873, hN3876⟩
    ·intro a w hM
     obtain ⟨y3900, yv3901, m3902, cs3903, rs3905, VV3906, rfl, hw, hf, hRR3904, hN3907⟩ := hM
     replace hp := hq3909
     refine ct <| wq <| wq <| wr <| oa hf rfl rfl fun a hf => oN <| ct ?_
     obtain ⟨out8781, hp, hq8782⟩ := bS hp
     refine c_cutX (fun a w => ∃ y8773 : List Plan, ∃ yv8774 : Value, ∃ m8775 : Nat, ∃ cs8776 : List Value, ∃ rs8778 : List (List Value), ∃ VV8779 : List Atom, y8773 = out8781 ∧ Ok E I2_102 (.row yv8774 26 4 m8775 cs8776 :: .blk b123 (.cells ⟨[a0v1117, rvv105, yv3171, yv3176, yv8774]⟩ 87 (0, 0)) :: .row yv3176 3 1 m3177 cs3178 :: .row yv3171 3 1 m3172 cs3173 :: .blk b91 (.cells ⟨[rvv87, .bool y82.ok_]⟩ 83 (0, 0)) :: .blk b1 (.cells ⟨[.slice none 0 0, .bool false]⟩ 33 (0, 0)) :: (VV8779 ++ F)) w ∧ Fr 214 ([(2, .pointer (some ⟨b1, 0, none⟩)), (4, .pointer (some ⟨b123, 0, none⟩))]) a ∧ RowR ekQ I2_102 cs8776 rs8778 ∧ Nst 3 I2_102 VV8779 rs8778 y8773) ?_ ?_
     ·refine wp_block <| c_loop <| c_fuel (ref19_Of.l2 a0 y3170 y3175) out8781 (fun (y7157, y7165) a w => ∃ yv7158 : Value, ∃ m7159 : Nat, ∃ cs7160 : List Value, ∃ rs7162 : List (List Value), ∃ VV7163 : List Atom, Ok E I2_102 (.row yv7158 26 4 m7159 cs7160 :: .blk b123 (.cells ⟨[a0v1117, rvv105, yv3171, yv3176, yv7158]⟩ 87 (0, 0)) :: .row yv3176 3 1 m3177 cs3178 :: .row yv3171 3 1 m3172 cs3173 :: .blk b91 (.cells ⟨[rvv87, .bool y82.ok_]⟩ 83 (0, 0)) :: .blk b1 (.cells ⟨[.slice none 0 0, .bool false]⟩ 33 (0, 0)) :: (VV7163 ++ F)) w ∧ Fr 214 ([(0, a0v1117), (2, .pointer (some ⟨b1, 0, none⟩)), (4, .pointer (some ⟨b123, 0, none⟩)), (7, .int .i64 y7165)]) a ∧ RowR ekQ I2_102 cs7160 rs7162 ∧ Nst 3 I2_102 VV7163 rs7162 y7157) (fun _ => rfl) ?_ BIG (y3900, 1) _ _ ⟨yv3901, m3902, cs3903, rs3905, VV3906, hw, hf.to ⟨rfl, rfl, rfl, rfl, trivial⟩, hRR3904, hN3907⟩ hp
      intro k st a w hI hp ih
      obtain ⟨y7157, y7165⟩ := st
      obtain ⟨yv7158, m7159, cs7160, rs7162, VV7163, hw, hf, hRR7161, hN7164⟩ := hI
      rw [ref19_Of.l2] at hp
      refine wq <| wq <| wr <| om hf rfl rfl fun a hf => om hf rfl rfl fun a hf => oR hf (r_lenL (K := ek_Node) hf el_23 rfl (hR1118.rd hw)) rfl fun a hf => oR hf (iC hf rfl rfl rfl) rfl fun a hf => oN <| ct <| cC hf rfl (fun hb8784 => ?_) (fun hb8784 => ?_)
      ·replace hp := cond_t hb8784 hp
       refine wp_skip <| ct <| wq <| wp_block <| wq <| wr <| oa hf rfl rfl fun a hf => oN <| ct ?_
       obtain ⟨out9993, hp, hq9994⟩ := bS hp
       refine c_cutX (fun a w => ∃ y9985 : List Plan, ∃ yv9986 : Value, ∃ m9987 : Nat, ∃ cs9988 : List Value, ∃ rs9990 : List (List Value), ∃ VV9991 : List Atom, y9985 = out9993 ∧ Ok E I2_102 (.row yv9986 26 4 m9987 cs9988 :: .blk b123 (.cells ⟨[a0v1117, rvv105, yv3171, yv3176, yv9986]⟩ 87 (0, 0)) :: .row yv3176 3 1 m3177 cs3178 :: .row yv3171 3 1 m3172 cs3173 :: .blk b91 (.cells ⟨[rvv87, .bool y82.ok_]⟩ 83 (0, 0)) :: .blk b1 (.cells ⟨[.slice none 0 0, .bool false]⟩ 33 (0, 0)) :: (VV9991 ++ F)) w ∧ Fr 214 ([(0, a0v1117), (2, .pointer (some ⟨b1, 0, none⟩)), (4, .pointer (some ⟨b123, 0, none⟩)), (7, .int .i64 y7165)]) a ∧ RowR ekQ I2_102 cs9988 rs9990 ∧ Nst 3 I2_102 VV9991 rs9990 y9985) ?_ ?_
       ·refine wp_block <| c_loop <| c_fuel (ref19_Of.l3 a0 y3170 y3175 y7165) out9993 (fun (y9582, y9590) a w => ∃ yv9583 : Value, ∃ m9584 : Nat, ∃ cs9585 : List Value, ∃ rs9587 : List (List Value), ∃ VV9588 : List Atom, Ok E I2_102 (.row yv9583 26 4 m9584 cs9585 :: .blk b123 (.cells ⟨[a0v1117, rvv105, yv3171, yv3176, yv9583]⟩ 87 (0, 0)) :: .row yv3176 3 1 m3177 cs3178 :: .row yv3171 3 1 m3172 cs3173 :: .blk b91 (.cells ⟨[rvv87, .bool y82.ok_]⟩ 83 (0, 0)) :: .blk b1 (.cells ⟨[.slice none 0 0, .bool false]⟩ 33 (0, 0)) :: (VV9588 ++ F)) w ∧ Fr 214 ([(0, a0v1117), (2, .pointer (some ⟨b1, 0, none⟩)), (4, .pointer (some ⟨b123, 0, none⟩)), (7, .int .i64 y7165), (8, .int .i64 y9590)]) a ∧ RowR ekQ I2_102 cs9585 rs9587 ∧ Nst 3 I2_102 VV9588 rs9587 y9582) (fun _ => rfl) ?_ BIG (y7157, 0) _ _ ⟨yv7158, m7159, cs7160, rs7162, VV7163, hw, hf.to ⟨rfl, rfl, rfl, rfl, rfl, trivial⟩, hRR7161, hN7164⟩ hp
        intro k st a w hI hp ih
        obtain ⟨y9582, y9590⟩ := st
        obtain ⟨yv9583, m9584, cs9585, rs9587, VV9588, hw, hf, hRR9586, hN9589⟩ := hI
        rw [ref19_Of.l3] at hp
        refine wq ?_
        obtain ⟨out10011, hp, hq10012⟩ := bS hp
        refine c_cut (fun a w => ∃ y10010 : Bool, y10010 = out10011 ∧ Ok E I2_102 (.row yv9583 26 4 m9584 cs9585 :: .blk b123 (.cells ⟨[a0v1117, rvv105, yv3171, yv3176, yv9583]⟩ 87 (0, 0)) :: .row yv3176 3 1 m3177 cs3178 :: .row yv3171 3 1 m3172 cs3173 :: .blk b91 (.cells ⟨[rvv87, .bool y82.ok_]⟩ 83 (0, 0)) :: .blk b1 (.cells ⟨[.slice none 0 0, .bool false]⟩ 33 (0, 0)) :: (VV9588 ++ F)) w ∧ Fr 214 ([(0, a0v1117), (2, .pointer (some ⟨b1, 0, none⟩)), (4, .pointer (some ⟨b123, 0, none⟩)), (7, .int .i64 y7165), (8, .int .i64 y9590), (157, .bool y10010)]) a) ?_ ?_
        ·refine wr <| om hf rfl rfl fun a hf => om hf rfl rfl fun a hf => oR hf (iC hf rfl rfl rfl) rfl fun a hf => om hf rfl rfl fun a hf => g_split hf (g := 148) rfl (fun hb10013 hf => ?_) (fun hb10013 hf => ?_)
         ·replace hp := cond_t hb10013 hp
          refine oW hf (g := 148) rfl rfl <| om hf rfl rfl fun a hf => oW hf (g := 148) rfl rfl <| oR hf (nC hf rfl) rfl fun a hf => oW hf (g := 148) rfl rfl <| oR hf (rF hf rfl fd_87_3) rfl fun a hf => oW hf (g := 148) rfl rfl <| oR hf (rL hw hf rfl ty_24 1 rfl rfl) rfl fun a hf => oW hf (g := 148) rfl rfl <| om hf rfl rfl fun a hf => ?_
          obtain ⟨hg10014, hp⟩ := gS hp
          refine oW hf (g := 148) rfl rfl <| oR hf (rI (K := (ekI .i64)) hf el_24 rfl rfl (rR (K := (ekI .i64)) hw (i := 2) rfl hRR3179) hg10014) rfl fun a hf => oW hf (g := 148) rfl rfl <| oR hf (r_loadH (K := (ekI .i64)) hf rfl ty_3 (rR (K := (ekI .i64)) hw (i := 2) rfl hRR3179) hg10014 rfl (fun cs h => ekI_f0 h)) rfl fun a hf => oW hf (g := 148) rfl rfl <| oR hf (iC hf rfl rfl rfl) rfl fun a hf => oR hf (pT hf rfl rfl) rfl fun a hf => oN <| ct ?_
          have ho := oI hp
          subst ho
          exact ⟨(decide ((gt y3175 y7165) > 0)), rfl, hw, hf.to ⟨rfl, rfl, rfl, rfl, rfl, rfl, trivial⟩⟩
         ·replace hp := cond_f hb10013 hp
          refine oQ hf (g := 148) rfl fun a hf => oQ hf (g := 148) rfl fun a hf => oQ hf (g := 148) rfl fun a hf => oQ hf (g := 148) rfl fun a hf => oQ hf (g := 148) rfl fun a hf => oQ hf (g := 148) rfl fun a hf => oQ hf (g := 148) rfl fun a hf => oQ hf (g := 148) rfl fun a hf => oR hf (pF hf rfl rfl) rfl fun a hf => oN <| ct ?_
          have ho := oI hp
          subst ho
          exact ⟨false, rfl, hw, hf.to ⟨rfl, rfl, rfl, rfl, rfl, rfl, trivial⟩⟩
        ·intro a w hM
         obtain ⟨y10010, rfl, hw, hf⟩ := hM
         replace hp := hq10012
         refine cC hf rfl (fun hb10015 => ?_) (fun hb10015 => ?_)
         ·replace hp := cond_t hb10015 hp
          refine wp_skip <| ct <| wq <| wp_block <| wq <| wr <| oa hf rfl rfl fun a hf => oN <| ct ?_
          obtain ⟨out10300, hp, hq10301⟩ := bS hp
          refine c_cutX (fun a w => ∃ y10292 : List Plan, ∃ yv10293 : Value, ∃ m10294 : Nat, ∃ cs10295 : List Value, ∃ rs10297 : List (List Value), ∃ VV10298 : List Atom, y10292 = out10300 ∧ Ok E I2_102 (.row yv10293 26 4 m10294 cs10295 :: .blk b123 (.cells ⟨[a0v1117, rvv105, yv3171, yv3176, yv10293]⟩ 87 (0, 0)) :: .row yv3176 3 1 m3177 cs3178 :: .row yv3171 3 1 m3172 cs3173 :: .blk b91 (.cells ⟨[rvv87, .bool y82.ok_]⟩ 83 (0, 0)) :: .blk b1 (.cells ⟨[.slice none 0 0, .bool false]⟩ 33 (0, 0)) :: (VV10298 ++ F)) w ∧ Fr 214 ([(0, a0v1117), (2, .pointer (some ⟨b1, 0, none⟩)), (4, .pointer (some ⟨b123, 0, none⟩)), (7, .int .i64 y7165), (8, .int .i64 y9590)]) a ∧ RowR ekQ I2_102 cs10295 rs10297 ∧ Nst 3 I2_102 VV10298 rs10297 y10292) ?_ ?_
          ·refine wp_block <| c_loop <| c_fuel (ref19_Of.l4 a0 y3170 y7165 y9590) out10300 (fun (y10197, y10205) a w => ∃ yv10198 : Value, ∃ m10199 : Nat, ∃ cs10200 : List Value, ∃ rs10202 : List (List Value), ∃ VV10203 : List Atom, Ok E I2_102 (.row yv10198 26 4 m10199 cs10200 :: .blk b123 (.cells ⟨[a0v1117, rvv105, yv3171, yv3176, yv10198]⟩ 87 (0, 0)) :: .row yv3176 3 1 m3177 cs3178 :: .row yv3171 3 1 m3172 cs3173 :: .blk b91 (.cells ⟨[rvv87, .bool y82.ok_]⟩ 83 (0, 0)) :: .blk b1 (.cells ⟨[.slice none 0 0, .bool false]⟩ 33 (0, 0)) :: (VV10203 ++ F)) w ∧ Fr 214 ([(0, a0v1117), (2, .pointer (some ⟨b1, 0, none⟩)), (4, .pointer (some ⟨b123, 0, none⟩)), (7, .int .i64 y7165), (8, .int .i64 y9590), (9, .int .i64 y10205)]) a ∧ RowR ekQ I2_102 cs10200 rs10202 ∧ Nst 3 I2_102 VV10203 rs10202 y10197) (fun _ => rfl) ?_ BIG (y9582, 0) _ _ ⟨yv9583, m9584, cs9585, rs9587, VV9588, hw, hf.to ⟨rfl, rfl, rfl, rfl, rfl, rfl, trivial⟩, hRR9586, hN9589⟩ hp
           intro k st a w hI hp ih
           obtain ⟨y10197, y10205⟩ := st
           obtain ⟨yv10198, m10199, cs10200, rs10202, VV10203, hw, hf, hRR10201, hN10204⟩ := hI
           rw [ref19_Of.l4] at hp
           refine wq <| wq <| wr <| om hf rfl rfl fun a hf => oR hf (iC hf rfl rfl rfl) rfl fun a hf => oN <| ct <| cC hf rfl (fun hb10303 => ?_) (fun hb10303 => ?_)
           ·replace hp := cond_t hb10303 hp
            refine wp_skip <| ct ?_
            obtain ⟨out10362, hp, hq10363⟩ := bS hp
            refine c_cut (fun a w => ∃ y10354 : List Plan, ∃ yv10355 : Value, ∃ m10356 : Nat, ∃ cs10357 : List Value, ∃ rs10359 : List (List Value), ∃ VV10360 : List Atom, y10354 = out10362 ∧ Ok E I2_102 (.row yv10355 26 4 m10356 cs10357 :: .blk b123 (.cells ⟨[a0v1117, rvv105, yv3171, yv3176, yv10355]⟩ 87 (0, 0)) :: .row yv3176 3 1 m3177 cs3178 :: .row yv3171 3 1 m3172 cs3173 :: .blk b91 (.cells ⟨[rvv87, .bool y82.ok_]⟩ 83 (0, 0)) :: .blk b1 (.cells ⟨[.slice none 0 0, .bool false]⟩ 33 (0, 0)) :: (VV10360 ++ F)) w ∧ Fr 214 ([(0, a0v1117), (2, .pointer (some ⟨b1, 0, none⟩)), (4, .pointer (some ⟨b123, 0, none⟩)), (7, .int .i64 y7165), (8, .int .i64 y9590), (9, .int .i64 y10205)]) a ∧ RowR ekQ I2_102 cs10357 rs10359 ∧ Nst 3 I2_102 VV10360 rs10359 y10354) ?_ ?_
            ·refine wp_block <| wq <| wr <| om hf rfl rfl fun a hf => om hf rfl rfl fun a hf => om hf rfl rfl fun a hf => ?_
             obtain ⟨hg10364, hp⟩ := gS hp
             refine oR hf (rI (K := ek_Node) hf el_23 rfl rfl (hR1118.rd hw) hg10364) rfl fun a hf => oR hf (r_fieldAddrH hf rfl fd_51_4) rfl fun a hf => ?_
             obtain ⟨hg10365, hp⟩ := gS hp
             refine oR hf (r_indexAddrAH hf el_49 rfl rfl hg10365) rfl fun a hf => oR hf (r_loadH (K := ek_Node) hf rfl ty_3 (hR1118.rd hw) hg10364 (Nat.add_assoc ..) (fun cs h => Node_at h hg10365)) rfl fun a hf => om hf rfl rfl fun a hf => oR hf (iC hf rfl rfl rfl) rfl fun a hf => oN <| ct <| cC hf rfl (fun hb10366 => ?_) (fun hb10366 => ?_)
             ·replace hp := cond_t hb10366 hp
              refine c_drawn mix [36] (.rd 0 (.rd 1 (.rd 2 (.rd 3 (.rd 4 (.rd 5 (.rd 6 (.rd 7 (.rd 8 (.rd 9 (.rd 10 (.rd 11 (.rd 12 (.rd 13 (.rd 14 (.rd 15 (.rd 16 (.rd 17 (.rd 18 (.rd 19 (.rd 20 (.rd 21 (.rd 22 (.rd 23 (.rd 24 (.rd 25 (.rd 26 (.rd 27 (.rd 28 (.rd 29 (.rd 30 (.rd 31 (.ef 32 (.ef 33 (.ef 34 (.rd 35 (.ef 36 .done))))))))))))))))))))))))))))))))))))) (by kernel_rfl) hw (fun w => Ok E I2_102 (.row yv10198 26 4 m10199 cs10200 :: .blk b123 (.cells ⟨[a0v1117, rvv105, yv3171, yv3176, yv10198]⟩ 87 (0, 0)) :: .row yv3176 3 1 m3177 cs3178 :: .row yv3171 3 1 m3172 cs3173 :: .blk b91 (.cells ⟨[rvv87, .bool y82.ok_]⟩ 83 (0, 0)) :: .blk b1 (.cells ⟨[.slice none 0 0, .bool false]⟩ 33 (0, 0)) :: F) w) (fun w hw => ⟨hw.sub (scc (scc (scc (scc (scc (scc (List.sublist_append_right _ _))))))), ?_⟩)
              refine tm rfl hf rfl rfl fun a hf => tR rfl hf (fun w hw => nC hf rfl) rfl fun a hf => tR rfl hf (fun w hw => rF hf rfl fd_87_4) rfl fun a hf => tR rfl hf (fun w hw => rL hw hf rfl ty_29 1 rfl rfl) rfl fun a hf => tm rfl hf rfl rfl fun a hf => tR rfl hf (fun w hw => nC hf rfl) rfl fun a hf => tR rfl hf (fun w hw => rF hf rfl fd_87_2) rfl fun a hf => tR rfl hf (fun w hw => rL hw hf rfl ty_24 1 rfl rfl) rfl fun a hf => tm rfl hf rfl rfl fun a hf => ?_
              obtain ⟨hg10368, hp⟩ := gS hp
              refine tR rfl hf (fun w hw => rI (K := (ekI .i64)) hf el_24 rfl rfl (rR (K := (ekI .i64)) hw (i := 3) rfl hRR3174) hg10368) rfl fun a hf => tR rfl hf (fun w hw => r_loadH (K := (ekI .i64)) hf rfl ty_3 (rR (K := (ekI .i64)) hw (i := 3) rfl hRR3174) hg10368 rfl (fun cs h => ekI_f0 h)) rfl fun a hf => tm rfl hf rfl rfl fun a hf => tR rfl hf (fun w hw => nC hf rfl) rfl fun a hf => tR rfl hf (fun w hw => rF hf rfl fd_87_4) rfl fun a hf => tR rfl hf (fun w hw => rL hw hf rfl ty_29 1 rfl rfl) rfl fun a hf => tm rfl hf rfl rfl fun a hf => tR rfl hf (fun w hw => nC hf rfl) rfl fun a hf => tR rfl hf (fun w hw => rF hf rfl fd_87_2) rfl fun a hf => tR rfl hf (fun w hw => rL hw hf rfl ty_24 1 rfl rfl) rfl fun a hf => tm rfl hf rfl rfl fun a hf => ?_
              obtain ⟨hg10369, hp⟩ := gS hp
              refine tR rfl hf (fun w hw => rI (K := (ekI .i64)) hf el_24 rfl rfl (rR (K := (ekI .i64)) hw (i := 3) rfl hRR3174) hg10369) rfl fun a hf => tR rfl hf (fun w hw => r_loadH (K := (ekI .i64)) hf rfl ty_3 (rR (K := (ekI .i64)) hw (i := 3) rfl hRR3174) hg10369 rfl (fun cs h => ekI_f0 h)) rfl fun a hf => ?_
              obtain ⟨hg10370, hp⟩ := gS hp
              refine tR rfl hf (fun w hw => rI (K := ekQ) hf el_29 rfl rfl (rR (K := ekQ) hw (i := 0) rfl hRR10201) (hN10204.gl hg10370)) rfl fun a hf => tR rfl hf (fun w hw => r_fieldAddrH hf rfl fd_26_3) rfl fun a hf => tR rfl hf (fun w hw => n_load hw hf rfl ty_24 hN10204 hRR10201 hg10370 0 rfl rfl (by decide)) rfl fun a hf => tm rfl hf rfl rfl fun a hf => tR rfl hf (fun w hw => nC hf rfl) rfl fun a hf => tR rfl hf (fun w hw => rF hf rfl fd_87_2) rfl fun a hf => tR rfl hf (fun w hw => rL hw hf rfl ty_24 1 rfl rfl) rfl fun a hf => tm rfl hf rfl rfl fun a hf => ?_
              obtain ⟨hg10371, hp⟩ := gS hp
              refine tR rfl hf (fun w hw => rI (K := (ekI .i64)) hf el_24 rfl rfl (rR (K := (ekI .i64)) hw (i := 3) rfl hRR3174) hg10371) rfl fun a hf => tR rfl hf (fun w hw => r_loadH (K := (ekI .i64)) hf rfl ty_3 (rR (K := (ekI .i64)) hw (i := 3) rfl hRR3174) hg10371 rfl (fun cs h => ekI_f0 h)) rfl fun a hf => t_ef rfl ?_
              obtain ⟨w, v10372, hrun10373, hw, hRR10374⟩ := e_buildSlice (P := P) (K := (ekI .i64)) (m := 1) hw hf (parts := [(0, .tmp 204)]) el_24 ty_3 rfl rfl rfl (ccs := [[Value.int .i64 (gt y3170 y7165)]]) rfl (xs := [gt y3170 y7165]) ⟨rfl, trivial⟩ rfl
              obtain ⟨cs10375, hcs⟩ : ∃ cs, cs = ([[Value.int .i64 (gt y3170 y7165)]] : List (List Value)).flatten := ⟨_, rfl⟩
              rw [← hcs] at hw hRR10374; clear hcs
              refine t_eff hf (hrun10373 ..) rfl fun a hf => ⟨.inr (hw.back (IH.le_refl _) (sc (scc (scc (scc (scc (scc (scc (List.sublist_append_right _ _))))))))), ?_⟩
              refine t_ef rfl ?_
              obtain ⟨hg10378, hp⟩ := gS hp
              obtain ⟨w, v10379, VV10380, hrun10382, hw, hP10381⟩ := n_app_kids (P := P) (R := [.row v10372 3 1 1 cs10375, .row yv10198 26 4 m10199 cs10200, .blk b123 (.cells ⟨[a0v1117, rvv105, yv3171, yv3176, yv10198]⟩ 87 (0, 0)), .row yv3176 3 1 m3177 cs3178, .row yv3171 3 1 m3172 cs3173, .blk b91 (.cells ⟨[rvv87, Value.bool y82.ok_]⟩ 83 (0, 0)), .blk b1 (.cells ⟨[Value.slice none 0 0, Value.bool false]⟩ 33 (0, 0))]) (V := VV10203) (F := F) (ty := 24) hw hf (s := .tmp 197) (x := .tmp 205) el_24 ty_3 rfl (by decide) rfl rfl hN10204 (by assumption) (ys := [gt y3170 y7165]) (rR (K := (ekI .i64)) hw (i := 0) rfl hRR10374) hg10378
              replace hw : Ok E I2_102 (.row v10372 3 1 1 cs10375 :: .row yv10198 26 4 m10199 cs10200 :: .blk b123 (.cells ⟨[a0v1117, rvv105, yv3171, yv3176, yv10198]⟩ 87 (0, 0)) :: .row yv3176 3 1 m3177 cs3178 :: .row yv3171 3 1 m3172 cs3173 :: .blk b91 (.cells ⟨[rvv87, .bool y82.ok_]⟩ 83 (0, 0)) :: .blk b1 (.cells ⟨[.slice none 0 0, .bool false]⟩ 33 (0, 0)) :: (VV10380 ++ F)) w := hw
              refine t_eff hf (hrun10382 ..) rfl fun a hf => ⟨.inr (hw.back (IH.le_refl _) (sc (scc (scc (scc (scc (scc (scc (List.sublist_append_right _ _))))))))), ?_⟩
              refine t_ef rfl ?_
              obtain ⟨hg10383, hp⟩ := gS hp
              refine t_eff hf (rI (K := ekQ) hf el_29 rfl rfl (rR (K := ekQ) hw (i := 1) rfl hRR10201) (hN10204.gl hg10383)) rfl fun a hf => ⟨.inr (hw.back (IH.le_refl _) (sc (scc (scc (scc (scc (scc (scc (List.sublist_append_right _ _))))))))), ?_⟩
              refine tR rfl hf (fun w hw => r_fieldAddrH hf rfl fd_26_3) rfl fun a hf => t_ef rfl ?_
              obtain ⟨w, cs10385, rs10386, hrun10384, hw, hRR10387, hN10388⟩ := n_store (P := P) (R := [.row v10372 3 1 1 cs10375, .row yv10198 26 4 m10199 cs10200, .blk b123 (.cells ⟨[a0v1117, rvv105, yv3171, yv3176, yv10198]⟩ 87 (0, 0)), .row yv3176 3 1 m3177 cs3178, .row yv3171 3 1 m3172 cs3173, .blk b91 (.cells ⟨[rvv87, Value.bool y82.ok_]⟩ 83 (0, 0)), .blk b1 (.cells ⟨[Value.slice none 0 0, Value.bool false]⟩ 33 (0, 0))]) (V := VV10380) (F := F) hw hf (x := .tmp 208) (y := .tmp 206) rfl rfl ty_24 1 rfl (of_decide_eq_true rfl) hRR10201 (hN10204.gl hg10383) rfl (by decide) hP10381
              replace hw : Ok E I2_102 (.row v10372 3 1 1 cs10375 :: .row yv10198 26 4 m10199 cs10385 :: .blk b123 (.cells ⟨[a0v1117, rvv105, yv3171, yv3176, yv10198]⟩ 87 (0, 0)) :: .row yv3176 3 1 m3177 cs3178 :: .row yv3171 3 1 m3172 cs3173 :: .blk b91 (.cells ⟨[rvv87, .bool y82.ok_]⟩ 83 (0, 0)) :: .blk b1 (.cells ⟨[.slice none 0 0, .bool false]⟩ 33 (0, 0)) :: (VV10380 ++ F)) w := hw
              refine t_effU (hrun10384 ..) ⟨.inl rfl, ?_⟩
              refine t_done <| c_blockN <| ct ?_
              have ho := oI hp
              subst ho
              replace hw : Ok E I2_102 (.row yv10198 26 4 m10199 cs10385 :: .blk b123 (.cells ⟨[a0v1117, rvv105, yv3171, yv3176, yv10198]⟩ 87 (0, 0)) :: .row yv3176 3 1 m3177 cs3178 :: .row yv3171 3 1 m3172 cs3173 :: .blk b91 (.cells ⟨[rvv87, .bool y82.ok_]⟩ 83 (0, 0)) :: .blk b1 (.cells ⟨[.slice none 0 0, .bool false]⟩ 33 (0, 0)) :: (VV10380 ++ F)) w := hw.sub (sc (scc (scc (scc (scc (scc (scc sr)))))))
              exact ⟨(y10197.set (gt y3170 y9590).toNat { gt y10197 (gt y3170 y9590) with kids_ := (gt y10197 (gt y3170 y9590)).kids_ ++ [gt y3170 y7165] }), yv10198, m10199, cs10385, rs10386, VV10380, rfl, hw, hf.to ⟨rfl, rfl, rfl, rfl, rfl, rfl, trivial⟩, hRR10387, hN10388⟩
             ·replace hp := cond_f hb10366 hp
              refine wp_skip <| c_blockN <| ct ?_
              have ho := oI hp
              subst ho
              exact ⟨y10197, yv10198, m10199, cs10200, rs10202, VV10203, rfl, hw, hf.to ⟨rfl, rfl, rfl, rfl, rfl, rfl, trivial⟩, hRR10201, hN10204⟩
            ·intro a w hM
             obtain ⟨y10354, yv10355, m10356, cs10357, rs10359, VV10360, rfl, hw, hf, hRR10358, hN10361⟩ := hM
             replace hp := hq10363
             refine wr <| om hf rfl rfl fun a hf => oR hf (r_add hf rfl rfl) rfl fun a hf => oa hf rfl rfl fun a hf => oN <| ct ?_
             exact ih (y10354, w64 (y10205 + 1)) _ _ ⟨yv10355, m10356, cs10357, rs10359, VV10360, hw, hf.to ⟨rfl, rfl, rfl, rfl, rfl, rfl, trivial⟩, hRR10358, hN10361⟩ hp
           ·replace hp := cond_f hb10303 hp
            refine wp_exit <| c_thenE <| c_thenE <| c_exit <| ct ?_
            have ho := oI hp
            subst ho
            exact ⟨y10197, yv10198, m10199, cs10200, rs10202, VV10203, rfl, hw, hf.to ⟨rfl, rfl, rfl, rfl, rfl, trivial⟩, hRR10201, hN10204⟩
          ·intro a w hM
           obtain ⟨y10292, yv10293, m10294, cs10295, rs10297, VV10298, rfl, hw, hf, hRR10296, hN10299⟩ := hM
           replace hp := hq10301
           refine c_blockN <| ct <| wr <| om hf rfl rfl fun a hf => oR hf (r_add hf rfl rfl) rfl fun a hf => oa hf rfl rfl fun a hf => oN <| ct ?_
           exact ih (y10292, w64 (y9590 + 1)) _ _ ⟨yv10293, m10294, cs10295, rs10297, VV10298, hw, hf.to ⟨rfl, rfl, rfl, rfl, rfl, trivial⟩, hRR10296, hN10299⟩ hp
         ·replace hp := cond_f hb10015 hp
          refine wp_exit <| c_thenE <| c_thenE <| c_exit <| ct ?_
          have ho := oI hp
          subst ho
          exact ⟨y9582, yv9583, m9584, cs9585, rs9587, VV9588, rfl, hw, hf.to ⟨rfl, rfl, rfl, rfl, trivial⟩, hRR9586, hN9589⟩
       ·intro a w hM
        obtain ⟨y9985, yv9986, m9987, cs9988, rs9990, VV9991, rfl, hw, hf, hRR9989, hN9992⟩ := hM
        replace hp := hq9994
        refine c_blockN <| ct <| wr <| om hf rfl rfl fun a hf => oR hf (r_add hf rfl rfl) rfl fun a hf => oa hf rfl rfl fun a hf => oN <| ct ?_
        exact ih (y9985, w64 (y7165 + 1)) _ _ ⟨yv9986, m9987, cs9988, rs9990, VV9991, hw, hf.to ⟨rfl, rfl, rfl, rfl, trivial⟩, hRR9989, hN9992⟩ hp
      ·replace hp := cond_f hb8784 hp
       refine wp_exit <| c_thenE <| c_thenE <| c_exit <| ct ?_
       have ho := oI hp
       subst ho
       exact ⟨y7157, yv7158, m7159, cs7160, rs7162, VV7163, rfl, hw, hf.to ⟨rfl, rfl, trivial⟩, hRR7161, hN7164⟩
     ·intro a w hM
      obtain ⟨y8773, yv8774, m8775, cs8776, rs8778, VV8779, rfl, hw, hf, hRR8777, hN8780⟩ := hM
      replace hp := hq8782
      refine ct <| wq <| wr <| om hf rfl rfl fun a hf => oR hf (nC hf rfl) rfl fun a hf => oR hf (rF hf rfl fd_87_4) rfl fun a hf => oR hf (rL hw hf rfl ty_29 1 rfl rfl) rfl fun a hf => oR hf (r_build hf bd_33 (vs := [yv8774, .bool true]) rfl ⟨(row_one hw (i := 0) rfl), rfl, trivial⟩ (by decide) (out := [yv8774, .bool true]) rfl) rfl fun a hf => ?_
      obtain ⟨w, hrun10392, hw⟩ := e_store (P := P) hw hf (x := .tmp 2) (y := .tmp 213) rfl rfl ty_33 5 rfl (vs := [yv8774, .bool true]) rfl rfl (oC (row_one hw (i := 0) rfl) (oC rfl ones_nil)) (by simp [arrC_len]) (cs' := [yv8774, .bool true]) rfl
      replace hw : Ok E I2_102 (.row yv8774 26 4 m8775 cs8776 :: .blk b123 (.cells ⟨[a0v1117, rvv105, yv3171, yv3176, yv8774]⟩ 87 (0, 0)) :: .row yv3176 3 1 m3177 cs3178 :: .row yv3171 3 1 m3172 cs3173 :: .blk b91 (.cells ⟨[rvv87, .bool y82.ok_]⟩ 83 (0, 0)) :: .blk b1 (.cells ⟨[yv8774, .bool true]⟩ 33 (0, 0)) :: (VV8779 ++ F)) w := hw
      refine o_effU (hrun10392 ..) <| oN <| ct <| wp_ret ?_
      have hw : Ok E I2_102 (.row yv8774 26 4 m8775 cs8776 :: .blk b123 (.cells ⟨[a0v1117, rvv105, yv3171, yv3176, yv8774]⟩ 87 (0, 0)) :: .row yv3176 3 1 m3177 cs3178 :: .row yv3171 3 1 m3172 cs3173 :: .blk b91 (.cells ⟨[rvv87, Value.bool y82.ok_]⟩ 83 (0, 0)) :: .blk b1 (.cells ⟨[yv8774, Value.bool true]⟩ 33 (0, 0)) :: (VV8779 ++ F)) w := hw.front (i := 0) rfl
      obtain ⟨I10396, hle10397, hw, hR10398⟩ := nst_freeze (R := [.blk b123 (.cells ⟨[a0v1117, rvv105, yv3171, yv3176, yv8774]⟩ 87 (0, 0)), .row yv3176 3 1 m3177 cs3178, .row yv3171 3 1 m3172 cs3173, .blk b91 (.cells ⟨[rvv87, Value.bool y82.ok_]⟩ 83 (0, 0)), .blk b1 (.cells ⟨[yv8774, Value.bool true]⟩ 33 (0, 0))]) hw hRR8777 hN8780
      replace hw : Ok E I10396 (.blk b123 (.cells ⟨[a0v1117, rvv105, yv3171, yv3176, yv8774]⟩ 87 (0, 0)) :: .row yv3176 3 1 m3177 cs3178 :: .row yv3171 3 1 m3172 cs3173 :: .blk b91 (.cells ⟨[rvv87, .bool y82.ok_]⟩ 83 (0, 0)) :: .blk b1 (.cells ⟨[yv8774, .bool true]⟩ 33 (0, 0)) :: F) w := hw
      replace hR1118 := hR1118.mono hle10397
      replace hR106 := hR106.mono hle10397
      replace hRR3179 := hRR3179.mono hle10397
      replace hRR3174 := hRR3174.mono hle10397
      replace hR88 := hR88.mono hle10397
      replace hw : Ok E I10396 (.blk b1 (.cells ⟨[yv8774, .bool true]⟩ 33 (0, 0)) :: F) w := hw.sub (sc (sc (sc (sc (scc sr)))))
      have ho := oI hp
      subst ho
      exact b_retC hw hf results15 ty_33 rfl 0 rfl (vs := [yv8774, .bool true]) rfl rfl ⟨_, rfl, ⟨I10396, yv8774, rfl, (IH.le_trans (IH.le_trans hle90 hle261) hle10397), hw.tail, hR10398⟩⟩
end Go.Lf
