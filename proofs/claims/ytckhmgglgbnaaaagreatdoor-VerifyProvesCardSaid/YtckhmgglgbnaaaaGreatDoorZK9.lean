import Derived.Test.YtckhmgglgbnaaaaGreatDoorZD
import Derived.Test.YtckhmgglgbnaaaaGreatDoorZF
import Derived.Test.YtckhmgglgbnaaaaGreatDoorJ
import Derived.Test.YtckhmgglgbnaaaaGreatDoorUB
import Derived.Test.YtckhmgglgbnaaaaGreatDoorZK3
import Derived.Test.YtckhmgglgbnaaaaGreatDoorZK4
import Derived.Test.YtckhmgglgbnaaaaGreatDoorZK5
import Derived.Test.YtckhmgglgbnaaaaGreatDoorZK7
import Derived.Test.YtckhmgglgbnaaaaGreatDoorZK8
set_option linter.unusedVariables false
set_option linter.unusedSimpArgs false
set_option maxHeartbeats 1000000
set_option maxRecDepth 20000
namespace Go.Lf
open Go Go.Proofs.Tryz
theorem ref11_Of_ok {E : World} {I : IH} {F : List Atom} {w : World} {a0 : List Node} {a0v1 : Value} {res0 : ref11_All_T} (hw : Ok E I (F) w) (hG : Gl I) (hR2 : RS ek_Node I a0v1 a0) (hp : ref11_Of.f a0 = some res0) :
  Calls P 39 ⟨[a0v1]⟩ w fun e w' => ∃ v, e = .returned v ∧ ∃ I2 : IH, ∃ rvv173 : Value, ∃ rvv175 : Value, v = Value.agg ⟨[rvv173, rvv175, Value.bool res0.ok_]⟩ ∧ IH.le I I2 ∧ Ok E I2 (F) w' ∧ RS ek_Item I2 rvv173 res0.i_ ∧ RS ekS I2 rvv175 res0.h_ := by
 refine c_enter func39 rfl ntmps39 rfl fun a hf => ?_
 replace hf : Fr 87 [(0, a0v1)] a := hf
 unfold ref11_Of.f at hp
 refine wq <| wr ?_
 obtain ⟨b1, w, hrun2, hw⟩ := e_alloc (P := P) (a := a) hw ty_97
 refine o_eff hf (hrun2 ..) rfl fun a hf => oN <| ct <| wq <| wq <| wr <| om hf rfl rfl fun a hf => ?_
 obtain ⟨y91, hy92, hp⟩ := bS hp
 have hc94 := ref10_Good_ok hw hG hR2 hy92
 refine o_call hf cb_72 rfl rfl hc94 (fun v96 w a hK95 hf => ?_)
 obtain ⟨rfl, hw⟩ := hK95
 refine oR hf (r_not hf rfl) rfl fun a hf => oN <| ct <| cC hf rfl (fun hb97 => ?_) (fun hb97 => ?_)
 ·replace hp := cond_t hb97 hp
  refine wq <| wr <| oR hf (r_build hf bd_97 (vs := []) rfl trivial (by decide) (out := [.slice none 0 0, .slice none 0 0, .bool false]) rfl) rfl fun a hf => ?_
  obtain ⟨w, hrun98, hw⟩ := e_store (P := P) hw hf (x := .tmp 2) (y := .tmp 13) rfl rfl ty_97 0 rfl (vs := [.slice none 0 0, .slice none 0 0, .bool false]) rfl rfl (oC rfl (oC rfl (oC rfl ones_nil))) (by simp [arrC_len]) (cs' := [.slice none 0 0, .slice none 0 0, .bool false]) rfl
  dsimp only [List.set] at hw
  refine o_effU (hrun98 ..) <| oN <| ct <| wp_ret <| c_thenR ?_
  have ho := oI hp
  subst ho
  exact b_retC hw hf results39 ty_97 rfl 0 rfl (vs := [.slice none 0 0, .slice none 0 0, .bool false]) rfl rfl ⟨_, rfl, ⟨I, (Value.slice none 0 0), (Value.slice none 0 0), rfl, (IH.le_refl _), hw.tail, RS.nil, RS.nil⟩⟩
 ·replace hp := cond_f hb97 hp
  refine wp_skip <| ct <| wq ?_
  obtain ⟨out193, hp, hq194⟩ := bS hp
  refine c_cutX (fun a w => ∃ b114 : Nat, ∃ v107 : Value, ∃ cs110 : List Value, ∃ v101 : Value, ∃ cs104 : List Value, () = out193 ∧ Ok E I (.blk b114 (.cells ⟨[v101, v107, .bool true]⟩ 97 (0, 0)) :: .row v107 9 1 (((a0.length : Int)).toNat) cs110 :: .row v101 86 6 (((a0.length : Int)).toNat) cs104 :: .blk b1 (.cells ⟨[.slice none 0 0, .slice none 0 0, .bool false]⟩ 97 (0, 0)) :: F) w ∧ Fr 87 ([(0, a0v1), (2, .pointer (some ⟨b1, 0, none⟩)), (3, .pointer (some ⟨b114, 0, none⟩))]) a ∧ RowR ekS I cs110 (List.replicate (a0.length : Int).toNat e0) ∧ RowR ek_Item I cs104 (List.replicate (a0.length : Int).toNat (⟨0, e0, false, e0, 0, ([] : List ByteArray)⟩ : Item))) ?_ ?_
  ·refine c_drawn mix [8] (.rd 0 (.rd 1 (.rd 3 (.rd 4 (.ef3 2 (.ef2 5 (.rd 6 (.ef 7 (.ef 8 .done))) 7 (.ef 5 (.rd 6 (.ef 8 .done)))) 5 (.ef2 2 (.rd 6 (.ef 7 (.ef 8 .done))) 7 (.ef 2 (.rd 6 (.ef 8 .done)))) 7 (.ef2 2 (.ef 5 (.rd 6 (.ef 8 .done))) 5 (.ef 2 (.rd 6 (.ef 8 .done))))))))) (by kernel_rfl) hw (fun w => Ok E I (.blk b1 (.cells ⟨[.slice none 0 0, .slice none 0 0, .bool false]⟩ 97 (0, 0)) :: F) w) (fun w hw => ⟨hw.sub (scc sr), ?_⟩)
   refine tm rfl hf rfl rfl fun a hf => tR rfl hf (fun w hw => r_lenL (K := ek_Node) hf el_27 rfl (hR2.rd hw)) rfl fun a hf => tm rfl hf rfl rfl fun a hf => tR rfl hf (fun w hw => r_lenL (K := ek_Node) hf el_27 rfl (hR2.rd hw)) rfl fun a hf => t_ef3 rfl rfl rfl ?_ ?_ ?_
   ·obtain ⟨hg196, hp⟩ := gS hp
    obtain ⟨w, v197, cs200, hrun198, hw, hRR199⟩ := e_makeSlice (P := P) (K := ek_Item) hw hf (l := .tmp 15) (c := .tmp 15) el_95 ty_86 rfl (by decide) rfl rfl (x := (⟨0, e0, false, e0, 0, ([] : List ByteArray)⟩ : Item)) (fun _ => ⟨_, rfl, RS.nil⟩) hg196
    refine t_eff hf (hrun198 ..) rfl fun a hf => ⟨.inr (hw.back (IH.le_refl _) (sc (scc sr))), ?_⟩
    refine t_ef2 rfl rfl ?_ ?_
    ·obtain ⟨hg202, hp⟩ := gS hp
     obtain ⟨w, v203, cs206, hrun204, hw, hRR205⟩ := e_makeSlice (P := P) (K := ekS) hw hf (l := .tmp 18) (c := .tmp 18) el_28 ty_9 rfl (by decide) rfl rfl (x := e0) (fun _ => rfl) hg202
     refine t_eff hf (hrun204 ..) rfl fun a hf => ⟨.inr (hw.back (IH.le_refl _) (sc (sc (scc sr)))), ?_⟩
     have ho208 := row_one hw (i := 1) rfl
     have ho209 := row_one hw (i := 0) rfl
     refine tR rfl hf (fun w hw => r_build hf bd_97 (vs := [v197, v203, .bool true]) rfl ⟨ho208, ho209, rfl, trivial⟩ (by decide) (out := [v197, v203, .bool true]) rfl) rfl fun a hf => t_ef rfl ?_
     obtain ⟨b210, w, hrun211, hw⟩ := e_alloc (P := P) (a := a) hw ty_97
     refine t_eff hf (hrun211 ..) rfl fun a hf => ⟨.inr (hw.back (IH.le_refl _) (sc (sc (sc (scc sr))))), ?_⟩
     refine t_ef rfl ?_
     obtain ⟨w, hrun213, hw⟩ := e_store (P := P) hw hf (x := .tmp 3) (y := .tmp 20) rfl rfl ty_97 0 rfl (vs := [v197, v203, .bool true]) rfl rfl (oC (row_one hw (i := 2) rfl) (oC (row_one hw (i := 1) rfl) (oC rfl ones_nil))) (by simp [arrC_len]) (cs' := [v197, v203, .bool true]) rfl
     dsimp only [List.set] at hw
     refine t_effU (hrun213 ..) ⟨.inl rfl, ?_⟩
     refine t_done <| ct ?_
     have ho := oI hp
     subst ho
     exact ⟨b210, v203, cs206, v197, cs200, rfl, hw, hf.to ⟨rfl, rfl, rfl, trivial⟩, hRR205, hRR199⟩
    ·obtain ⟨b214, w, hrun215, hw⟩ := e_alloc (P := P) (a := a) hw ty_97
     refine t_eff hf (hrun215 ..) rfl fun a hf => ⟨.inr (hw.back (IH.le_refl _) (sc (sc (scc sr)))), ?_⟩
     refine t_ef rfl ?_
     obtain ⟨hg217, hp⟩ := gS hp
     obtain ⟨w, v218, cs221, hrun219, hw, hRR220⟩ := e_makeSlice (P := P) (K := ekS) hw hf (l := .tmp 18) (c := .tmp 18) el_28 ty_9 rfl (by decide) rfl rfl (x := e0) (fun _ => rfl) hg217
     refine t_eff hf (hrun219 ..) rfl fun a hf => ⟨.inr (hw.back (IH.le_refl _) (sc (sc (sc (scc sr))))), ?_⟩
     have ho223 := row_one hw (i := 2) rfl
     have ho224 := row_one hw (i := 0) rfl
     refine tR rfl hf (fun w hw => r_build hf bd_97 (vs := [v197, v218, .bool true]) rfl ⟨ho223, ho224, rfl, trivial⟩ (by decide) (out := [v197, v218, .bool true]) rfl) rfl fun a hf => t_ef rfl ?_
     obtain ⟨w, hrun225, hw⟩ := e_store (P := P) hw hf (x := .tmp 3) (y := .tmp 20) rfl rfl ty_97 1 rfl (vs := [v197, v218, .bool true]) rfl rfl (oC (row_one hw (i := 2) rfl) (oC (row_one hw (i := 0) rfl) (oC rfl ones_nil))) (by simp [arrC_len]) (cs' := [v197, v218, .bool true]) rfl
     dsimp only [List.set] at hw
     refine t_effU (hrun225 ..) ⟨.inl rfl, ?_⟩
     refine t_done <| ct ?_
     have ho := oI hp
     subst ho
     replace hw : Ok E I (.blk b214 (.cells ⟨[v197, v218, .bool true]⟩ 97 (0, 0)) :: .row v218 9 1 (((a0.length : Int)).toNat) cs221 :: .row v197 86 6 (((a0.length : Int)).toNat) cs200 :: .blk b1 (.cells ⟨[.slice none 0 0, .slice none 0 0, .bool false]⟩ 97 (0, 0)) :: F) w := (((hw.front (i := 3) rfl).front (i := 3) rfl).front (i := 2) rfl).front (i := 3) rfl
     exact ⟨b214, v218, cs221, v197, cs200, rfl, hw, hf.to ⟨rfl, rfl, rfl, trivial⟩, hRR220, hRR199⟩
   ·obtain ⟨hg226, hp⟩ := gS hp
    obtain ⟨w, v227, cs230, hrun228, hw, hRR229⟩ := e_makeSlice (P := P) (K := ekS) hw hf (l := .tmp 18) (c := .tmp 18) el_28 ty_9 rfl (by decide) rfl rfl (x := e0) (fun _ => rfl) hg226
    refine t_eff hf (hrun228 ..) rfl fun a hf => ⟨.inr (hw.back (IH.le_refl _) (sc (scc sr))), ?_⟩
    refine t_ef2 rfl rfl ?_ ?_
    ·obtain ⟨hg232, hp⟩ := gS hp
     obtain ⟨w, v233, cs236, hrun234, hw, hRR235⟩ := e_makeSlice (P := P) (K := ek_Item) hw hf (l := .tmp 15) (c := .tmp 15) el_95 ty_86 rfl (by decide) rfl rfl (x := (⟨0, e0, false, e0, 0, ([] : List ByteArray)⟩ : Item)) (fun _ => ⟨_, rfl, RS.nil⟩) hg232
     refine t_eff hf (hrun234 ..) rfl fun a hf => ⟨.inr (hw.back (IH.le_refl _) (sc (sc (scc sr)))), ?_⟩
     have ho238 := row_one hw (i := 0) rfl
     have ho239 := row_one hw (i := 1) rfl
     refine tR rfl hf (fun w hw => r_build hf bd_97 (vs := [v233, v227, .bool true]) rfl ⟨ho238, ho239, rfl, trivial⟩ (by decide) (out := [v233, v227, .bool true]) rfl) rfl fun a hf => t_ef rfl ?_
     obtain ⟨b240, w, hrun241, hw⟩ := e_alloc (P := P) (a := a) hw ty_97
     refine t_eff hf (hrun241 ..) rfl fun a hf => ⟨.inr (hw.back (IH.le_refl _) (sc (sc (sc (scc sr))))), ?_⟩
     refine t_ef rfl ?_
     obtain ⟨w, hrun243, hw⟩ := e_store (P := P) hw hf (x := .tmp 3) (y := .tmp 20) rfl rfl ty_97 0 rfl (vs := [v233, v227, .bool true]) rfl rfl (oC (row_one hw (i := 1) rfl) (oC (row_one hw (i := 2) rfl) (oC rfl ones_nil))) (by simp [arrC_len]) (cs' := [v233, v227, .bool true]) rfl
     dsimp only [List.set] at hw
     refine t_effU (hrun243 ..) ⟨.inl rfl, ?_⟩
     refine t_done <| ct ?_
     have ho := oI hp
     subst ho
     replace hw : Ok E I (.blk b240 (.cells ⟨[v233, v227, .bool true]⟩ 97 (0, 0)) :: .row v227 9 1 (((a0.length : Int)).toNat) cs230 :: .row v233 86 6 (((a0.length : Int)).toNat) cs236 :: .blk b1 (.cells ⟨[.slice none 0 0, .slice none 0 0, .bool false]⟩ 97 (0, 0)) :: F) w := (((hw.front (i := 3) rfl).front (i := 2) rfl).front (i := 3) rfl).front (i := 3) rfl
     exact ⟨b240, v227, cs230, v233, cs236, rfl, hw, hf.to ⟨rfl, rfl, rfl, trivial⟩, hRR229, hRR235⟩
    ·obtain ⟨b244, w, hrun245, hw⟩ := e_alloc (P := P) (a := a) hw ty_97
     refine t_eff hf (hrun245 ..) rfl fun a hf => ⟨.inr (hw.back (IH.le_refl _) (sc (sc (scc sr)))), ?_⟩
     refine t_ef rfl ?_
     obtain ⟨hg247, hp⟩ := gS hp
     obtain ⟨w, v248, cs251, hrun249, hw, hRR250⟩ := e_makeSlice (P := P) (K := ek_Item) hw hf (l := .tmp 15) (c := .tmp 15) el_95 ty_86 rfl (by decide) rfl rfl (x := (⟨0, e0, false, e0, 0, ([] : List ByteArray)⟩ : Item)) (fun _ => ⟨_, rfl, RS.nil⟩) hg247
     refine t_eff hf (hrun249 ..) rfl fun a hf => ⟨.inr (hw.back (IH.le_refl _) (sc (sc (sc (scc sr))))), ?_⟩
     have ho253 := row_one hw (i := 0) rfl
     have ho254 := row_one hw (i := 2) rfl
     refine tR rfl hf (fun w hw => r_build hf bd_97 (vs := [v248, v227, .bool true]) rfl ⟨ho253, ho254, rfl, trivial⟩ (by decide) (out := [v248, v227, .bool true]) rfl) rfl fun a hf => t_ef rfl ?_
     obtain ⟨w, hrun255, hw⟩ := e_store (P := P) hw hf (x := .tmp 3) (y := .tmp 20) rfl rfl ty_97 1 rfl (vs := [v248, v227, .bool true]) rfl rfl (oC (row_one hw (i := 0) rfl) (oC (row_one hw (i := 2) rfl) (oC rfl ones_nil))) (by simp [arrC_len]) (cs' := [v248, v227, .bool true]) rfl
     dsimp only [List.set] at hw
     refine t_effU (hrun255 ..) ⟨.inl rfl, ?_⟩
     refine t_done <| ct ?_
     have ho := oI hp
     subst ho
     replace hw : Ok E I (.blk b244 (.cells ⟨[v248, v227, .bool true]⟩ 97 (0, 0)) :: .row v227 9 1 (((a0.length : Int)).toNat) cs230 :: .row v248 86 6 (((a0.length : Int)).toNat) cs251 :: .blk b1 (.cells ⟨[.slice none 0 0, .slice none 0 0, .bool false]⟩ 97 (0, 0)) :: F) w := (((hw.front (i := 3) rfl).front (i := 1) rfl).front (i := 3) rfl).front (i := 3) rfl
     exact ⟨b244, v227, cs230, v248, cs251, rfl, hw, hf.to ⟨rfl, rfl, rfl, trivial⟩, hRR229, hRR250⟩
   ·obtain ⟨b256, w, hrun257, hw⟩ := e_alloc (P := P) (a := a) hw ty_97
    refine t_eff hf (hrun257 ..) rfl fun a hf => ⟨.inr (hw.back (IH.le_refl _) (sc (scc sr))), ?_⟩
    refine t_ef2 rfl rfl ?_ ?_
    ·obtain ⟨hg259, hp⟩ := gS hp
     obtain ⟨w, v260, cs263, hrun261, hw, hRR262⟩ := e_makeSlice (P := P) (K := ek_Item) hw hf (l := .tmp 15) (c := .tmp 15) el_95 ty_86 rfl (by decide) rfl rfl (x := (⟨0, e0, false, e0, 0, ([] : List ByteArray)⟩ : Item)) (fun _ => ⟨_, rfl, RS.nil⟩) hg259
     refine t_eff hf (hrun261 ..) rfl fun a hf => ⟨.inr (hw.back (IH.le_refl _) (sc (sc (scc sr)))), ?_⟩
     refine t_ef rfl ?_
     obtain ⟨hg265, hp⟩ := gS hp
     obtain ⟨w, v266, cs269, hrun267, hw, hRR268⟩ := e_makeSlice (P := P) (K := ekS) hw hf (l := .tmp 18) (c := .tmp 18) el_28 ty_9 rfl (by decide) rfl rfl (x := e0) (fun _ => rfl) hg265
     refine t_eff hf (hrun267 ..) rfl fun a hf => ⟨.inr (hw.back (IH.le_refl _) (sc (sc (sc (scc sr))))), ?_⟩
     have ho271 := row_one hw (i := 1) rfl
     have ho272 := row_one hw (i := 0) rfl
     refine tR rfl hf (fun w hw => r_build hf bd_97 (vs := [v260, v266, .bool true]) rfl ⟨ho271, ho272, rfl, trivial⟩ (by decide) (out := [v260, v266, .bool true]) rfl) rfl fun a hf => t_ef rfl ?_
     obtain ⟨w, hrun273, hw⟩ := e_store (P := P) hw hf (x := .tmp 3) (y := .tmp 20) rfl rfl ty_97 2 rfl (vs := [v260, v266, .bool true]) rfl rfl (oC (row_one hw (i := 1) rfl) (oC (row_one hw (i := 0) rfl) (oC rfl ones_nil))) (by simp [arrC_len]) (cs' := [v260, v266, .bool true]) rfl
     dsimp only [List.set] at hw
     refine t_effU (hrun273 ..) ⟨.inl rfl, ?_⟩
     refine t_done <| ct ?_
     have ho := oI hp
     subst ho
     replace hw : Ok E I (.blk b256 (.cells ⟨[v260, v266, .bool true]⟩ 97 (0, 0)) :: .row v266 9 1 (((a0.length : Int)).toNat) cs269 :: .row v260 86 6 (((a0.length : Int)).toNat) cs263 :: .blk b1 (.cells ⟨[.slice none 0 0, .slice none 0 0, .bool false]⟩ 97 (0, 0)) :: F) w := (((hw.front (i := 3) rfl).front (i := 2) rfl).front (i := 2) rfl).front (i := 3) rfl
     exact ⟨b256, v266, cs269, v260, cs263, rfl, hw, hf.to ⟨rfl, rfl, rfl, trivial⟩, hRR268, hRR262⟩
    ·obtain ⟨hg274, hp⟩ := gS hp
     obtain ⟨w, v275, cs278, hrun276, hw, hRR277⟩ := e_makeSlice (P := P) (K := ekS) hw hf (l := .tmp 18) (c := .tmp 18) el_28 ty_9 rfl (by decide) rfl rfl (x := e0) (fun _ => rfl) hg274
     refine t_eff hf (hrun276 ..) rfl fun a hf => ⟨.inr (hw.back (IH.le_refl _) (sc (sc (scc sr)))), ?_⟩
     refine t_ef rfl ?_
     obtain ⟨hg280, hp⟩ := gS hp
     obtain ⟨w, v281, cs284, hrun282, hw, hRR283⟩ := e_makeSlice (P := P) (K := ek_Item) hw hf (l := .tmp 15) (c := .tmp 15) el_95 ty_86 rfl (by decide) rfl rfl (x := (⟨0, e0, false, e0, 0, ([] : List ByteArray)⟩ : Item)) (fun _ => ⟨_, rfl, RS.nil⟩) hg280
     refine t_eff hf (hrun282 ..) rfl fun a hf => ⟨.inr (hw.back (IH.le_refl _) (sc (sc (sc (scc sr))))), ?_⟩
     have ho286 := row_one hw (i := 0) rfl
     have ho287 := row_one hw (i := 1) rfl
     refine tR rfl hf (fun w hw => r_build hf bd_97 (vs := [v281, v275, .bool true]) rfl ⟨ho286, ho287, rfl, trivial⟩ (by decide) (out := [v281, v275, .bool true]) rfl) rfl fun a hf => t_ef rfl ?_
     obtain ⟨w, hrun288, hw⟩ := e_store (P := P) hw hf (x := .tmp 3) (y := .tmp 20) rfl rfl ty_97 2 rfl (vs := [v281, v275, .bool true]) rfl rfl (oC (row_one hw (i := 0) rfl) (oC (row_one hw (i := 1) rfl) (oC rfl ones_nil))) (by simp [arrC_len]) (cs' := [v281, v275, .bool true]) rfl
     dsimp only [List.set] at hw
     refine t_effU (hrun288 ..) ⟨.inl rfl, ?_⟩
     refine t_done <| ct ?_
     have ho := oI hp
     subst ho
     replace hw : Ok E I (.blk b256 (.cells ⟨[v281, v275, .bool true]⟩ 97 (0, 0)) :: .row v275 9 1 (((a0.length : Int)).toNat) cs278 :: .row v281 86 6 (((a0.length : Int)).toNat) cs284 :: .blk b1 (.cells ⟨[.slice none 0 0, .slice none 0 0, .bool false]⟩ 97 (0, 0)) :: F) w := (((hw.front (i := 3) rfl).front (i := 1) rfl).front (i := 2) rfl).front (i := 3) rfl
     exact ⟨b256, v275, cs278, v281, cs284, rfl, hw, hf.to ⟨rfl, rfl, rfl, trivial⟩, hRR277, hRR283⟩
  ·intro a w hM
   obtain ⟨b114, v107, cs110, v101, cs104, rfl, hw, hf, hRR109, hRR103⟩ := hM
   replace hp := hq194
   refine ct <| wq <| wr ?_
   obtain ⟨y288, hy289, hp⟩ := bS hp
   have hc291 := ref04_Start_ok hw hG hy289
   refine o_call hf cb_73 rfl rfl hc291 (fun v293 w a hK292 hf => ?_)
   obtain ⟨rfl, hw⟩ := hK292
   obtain ⟨y458, hy459, hp⟩ := bS hp
   have hc461 := ref04_Constants_ok hw hG hy459
   refine o_call hf cb_74 rfl rfl hc461 (fun v463 w a hK462 hf => ?_)
   obtain ⟨rfl, hw⟩ := hK462
   obtain ⟨b464, w, hrun465, hw⟩ := e_alloc (P := P) (a := a) hw ty_163
   refine o_eff hf (hrun465 ..) rfl fun a hf => ?_
   obtain ⟨b467, w, hrun468, hw⟩ := e_alloc (P := P) (a := a) hw ty_165
   refine o_eff hf (hrun468 ..) rfl fun a hf => ?_
   obtain ⟨w, hrun470, hw⟩ := e_store (P := P) hw hf (x := .tmp 4) (y := .tmp 21) rfl rfl ty_163 1 rfl (vs := (arrC .u32 y288)) rfl (by simp [arrC_len]) (arrC_one _ _) (by simp [arrC_len]) (cs' := (arrC .u32 y288)) (by simp [arrC_len])
   dsimp only [List.set] at hw
   refine o_effU (hrun470 ..) ?_
   obtain ⟨w, hrun471, hw⟩ := e_store (P := P) hw hf (x := .tmp 5) (y := .tmp 22) rfl rfl ty_165 0 rfl (vs := (arrC .u32 y458)) rfl (by simp [arrC_len]) (arrC_one _ _) (by simp [arrC_len]) (cs' := (arrC .u32 y458)) (by simp [arrC_len])
   dsimp only [List.set] at hw
   refine o_effU (hrun471 ..) <| oN <| ct <| wq <| wq <| wr <| om hf rfl rfl fun a hf => oR hf (r_lenL (K := ek_Node) hf el_27 rfl (hR2.rd hw)) rfl fun a hf => oR hf (r_sub hf rfl rfl) rfl fun a hf => oa hf rfl rfl fun a hf => oN <| ct ?_
   obtain ⟨out1885, hp, hq1886⟩ := bS hp
   refine c_cutX (fun a w => ∃ y1875 : List Item, ∃ y1880 : List ByteArray, ∃ I1874 : IH, ∃ yv1876 : Value, ∃ m1877 : Nat, ∃ cs1878 : List Value, ∃ yv1881 : Value, ∃ m1882 : Nat, ∃ cs1883 : List Value, (y1875, y1880) = out1885 ∧ IH.le I I1874 ∧ Ok E I1874 (.blk b467 (.cells ⟨arrC .u32 y458⟩ 165 (0, 0)) :: .blk b464 (.cells ⟨arrC .u32 y288⟩ 163 (0, 0)) :: .blk b114 (.cells ⟨[yv1876, yv1881, .bool true]⟩ 97 (0, 0)) :: .row yv1881 9 1 m1882 cs1883 :: .row yv1876 86 6 m1877 cs1878 :: .blk b1 (.cells ⟨[.slice none 0 0, .slice none 0 0, .bool false]⟩ 97 (0, 0)) :: F) w ∧ Fr 87 ([(2, .pointer (some ⟨b1, 0, none⟩)), (3, .pointer (some ⟨b114, 0, none⟩))]) a ∧ RowR ek_Item I1874 cs1878 y1875 ∧ RowR ekS I1874 cs1883 y1880) ?_ ?_
   ·refine wp_block <| c_loop <| c_fuel (ref11_Of.l0 a0 y288 y458) out1885 (fun (y1448, y1453, y1458) a w => ∃ I1447 : IH, ∃ yv1449 : Value, ∃ m1450 : Nat, ∃ cs1451 : List Value, ∃ yv1454 : Value, ∃ m1455 : Nat, ∃ cs1456 : List Value, IH.le I I1447 ∧ Ok E I1447 (.blk b467 (.cells ⟨arrC .u32 y458⟩ 165 (0, 0)) :: .blk b464 (.cells ⟨arrC .u32 y288⟩ 163 (0, 0)) :: .blk b114 (.cells ⟨[yv1449, yv1454, .bool true]⟩ 97 (0, 0)) :: .row yv1454 9 1 m1455 cs1456 :: .row yv1449 86 6 m1450 cs1451 :: .blk b1 (.cells ⟨[.slice none 0 0, .slice none 0 0, .bool false]⟩ 97 (0, 0)) :: F) w ∧ Fr 87 ([(0, a0v1), (2, .pointer (some ⟨b1, 0, none⟩)), (3, .pointer (some ⟨b114, 0, none⟩)), (4, .pointer (some ⟨b464, 0, none⟩)), (5, .pointer (some ⟨b467, 0, none⟩)), (6, .int .i64 y1458)]) a ∧ RowR ek_Item I1447 cs1451 y1448 ∧ RowR ekS I1447 cs1456 y1453) (fun _ => rfl) ?_ BIG (List.replicate (a0.length : Int).toNat (⟨0, e0, false, e0, 0, ([] : List ByteArray)⟩ : Item), List.replicate (a0.length : Int).toNat e0, w64 ((a0.length : Int) - 1)) _ _ ⟨I, v101, (((a0.length : Int)).toNat), cs104, v107, (((a0.length : Int)).toNat), cs110, (IH.le_refl _), hw, hf.to ⟨rfl, rfl, rfl, rfl, rfl, rfl, trivial⟩, hRR103, hRR109⟩ hp
    intro k st a w hI hp ih
    obtain ⟨y1448, y1453, y1458⟩ := st
    obtain ⟨I1447, yv1449, m1450, cs1451, yv1454, m1455, cs1456, hle1887, hw, hf, hRR1452, hRR1457⟩ := hI
    rw [ref11_Of.l0] at hp
    replace hG := hG.mono hle1887
    replace hR2 := hR2.mono hle1887
    refine wq <| wq <| wr <| om hf rfl rfl fun a hf => oR hf (iC hf rfl rfl rfl) rfl fun a hf => oN <| ct <| cC hf rfl (fun hb1888 => ?_) (fun hb1888 => ?_)
    ·replace hp := cond_t hb1888 hp
     refine wp_skip <| ct <| wq <| wp_block <| wq <| wr <| om hf rfl rfl fun a hf => om hf rfl rfl fun a hf => ?_
     obtain ⟨hg1889, hp⟩ := gS hp
     refine oR hf (rI (K := ek_Node) hf el_27 rfl rfl (hR2.rd hw) hg1889) rfl fun a hf => oR hf (r_loadHP (K := ek_Node) hf rfl ty_106 (hR2.rd hw) hg1889 rfl (vs := (.int .i64 ((gt a0 y1458).kind_) :: .string ((gt a0 y1458).path_) :: .bool ((gt a0 y1458).has_) :: .string ((gt a0 y1458).value_) :: arrC .i64 ((gt a0 y1458).kids_))) (fun cs h => Node_all h) (by simp [arrC_len])) rfl fun a hf => ?_
     obtain ⟨b1890, w, hrun1891, hw⟩ := e_alloc (P := P) (a := a) hw ty_106
     replace hw : Ok E I1447 (.blk b1890 (.cells ⟨.int .i64 0 :: .string e0 :: .bool false :: .string e0 :: arrC .i64 (Vector.replicate 16 0 : Vector Int 16)⟩ 106 (0, 0)) :: .blk b467 (.cells ⟨arrC .u32 y458⟩ 165 (0, 0)) :: .blk b464 (.cells ⟨arrC .u32 y288⟩ 163 (0, 0)) :: .blk b114 (.cells ⟨[yv1449, yv1454, .bool true]⟩ 97 (0, 0)) :: .row yv1454 9 1 m1455 cs1456 :: .row yv1449 86 6 m1450 cs1451 :: .blk b1 (.cells ⟨[.slice none 0 0, .slice none 0 0, .bool false]⟩ 97 (0, 0)) :: F) w := hw
     refine o_eff hf (hrun1891 ..) rfl fun a hf => ?_
     obtain ⟨w, hrun1893, hw⟩ := e_store (P := P) hw hf (x := .tmp 7) (y := .tmp 33) rfl rfl ty_106 0 rfl (vs := (.int .i64 ((gt a0 y1458).kind_) :: .string ((gt a0 y1458).path_) :: .bool ((gt a0 y1458).has_) :: .string ((gt a0 y1458).value_) :: arrC .i64 ((gt a0 y1458).kids_))) rfl (by simp [arrC_len]) (oC rfl (oC rfl (oC rfl (oC rfl (arrC_one _ _))))) (by simp [arrC_len]) (cs' := (.int .i64 ((gt a0 y1458).kind_) :: .string ((gt a0 y1458).path_) :: .bool ((gt a0 y1458).has_) :: .string ((gt a0 y1458).value_) :: arrC .i64 ((gt a0 y1458).kids_))) (by simp [arrC_len])
     replace hw : Ok E I1447 (.blk b1890 (.cells ⟨.int .i64 ((gt a0 y1458).kind_) :: .string ((gt a0 y1458).path_) :: .bool ((gt a0 y1458).has_) :: .string ((gt a0 y1458).value_) :: arrC .i64 ((gt a0 y1458).kids_)⟩ 106 (0, 0)) :: .blk b467 (.cells ⟨arrC .u32 y458⟩ 165 (0, 0)) :: .blk b464 (.cells ⟨arrC .u32 y288⟩ 163 (0, 0)) :: .blk b114 (.cells ⟨[yv1449, yv1454, .bool true]⟩ 97 (0, 0)) :: .row yv1454 9 1 m1455 cs1456 :: .row yv1449 86 6 m1450 cs1451 :: .blk b1 (.cells ⟨[.slice none 0 0, .slice none 0 0, .bool false]⟩ 97 (0, 0)) :: F) w := hw
     refine o_effU (hrun1893 ..) <| oN <| ct <| wq <| wr <| oR hf (rF hf rfl fd_106_0) rfl fun a hf => oR hf (rL hw hf rfl ty_3 0 rfl rfl) rfl fun a hf => oR hf (rF hf rfl fd_106_1) rfl fun a hf => oR hf (rL hw hf rfl ty_9 0 rfl rfl) rfl fun a hf => oR hf (rF hf rfl fd_106_2) rfl fun a hf => oR hf (rL hw hf rfl ty_4 0 rfl rfl) rfl fun a hf => oR hf (rF hf rfl fd_106_3) rfl fun a hf => oR hf (rL hw hf rfl ty_9 0 rfl rfl) rfl fun a hf => oR hf (r_build hf bd_86 (vs := [.int .i64 ((gt a0 y1458).kind_), .string ((gt a0 y1458).path_), .bool ((gt a0 y1458).has_), .string ((gt a0 y1458).value_)]) rfl ⟨rfl, rfl, rfl, rfl, trivial⟩ (by decide) (out := [.int .i64 ((gt a0 y1458).kind_), .string ((gt a0 y1458).path_), .bool ((gt a0 y1458).has_), .string ((gt a0 y1458).value_), .int .i64 0, .slice none 0 0]) rfl) rfl fun a hf => ?_
     obtain ⟨b1894, w, hrun1895, hw⟩ := e_alloc (P := P) (a := a) hw ty_86
     replace hw : Ok E I1447 (.blk b1894 (.cells ⟨[.int .i64 0, .string e0, .bool false, .string e0, .int .i64 0, .slice none 0 0]⟩ 86 (0, 0)) :: .blk b1890 (.cells ⟨.int .i64 ((gt a0 y1458).kind_) :: .string ((gt a0 y1458).path_) :: .bool ((gt a0 y1458).has_) :: .string ((gt a0 y1458).value_) :: arrC .i64 ((gt a0 y1458).kids_)⟩ 106 (0, 0)) :: .blk b467 (.cells ⟨arrC .u32 y458⟩ 165 (0, 0)) :: .blk b464 (.cells ⟨arrC .u32 y288⟩ 163 (0, 0)) :: .blk b114 (.cells ⟨[yv1449, yv1454, .bool true]⟩ 97 (0, 0)) :: .row yv1454 9 1 m1455 cs1456 :: .row yv1449 86 6 m1450 cs1451 :: .blk b1 (.cells ⟨[.slice none 0 0, .slice none 0 0, .bool false]⟩ 97 (0, 0)) :: F) w := hw
     refine o_eff hf (hrun1895 ..) rfl fun a hf => ?_
     obtain ⟨w, hrun1897, hw⟩ := e_store (P := P) hw hf (x := .tmp 8) (y := .tmp 42) rfl rfl ty_86 0 rfl (vs := [.int .i64 ((gt a0 y1458).kind_), .string ((gt a0 y1458).path_), .bool ((gt a0 y1458).has_), .string ((gt a0 y1458).value_), .int .i64 0, .slice none 0 0]) rfl rfl (oC rfl (oC rfl (oC rfl (oC rfl (oC rfl (oC rfl ones_nil)))))) (by simp [arrC_len]) (cs' := [.int .i64 ((gt a0 y1458).kind_), .string ((gt a0 y1458).path_), .bool ((gt a0 y1458).has_), .string ((gt a0 y1458).value_), .int .i64 0, .slice none 0 0]) rfl
     replace hw : Ok E I1447 (.blk b1894 (.cells ⟨[.int .i64 ((gt a0 y1458).kind_), .string ((gt a0 y1458).path_), .bool ((gt a0 y1458).has_), .string ((gt a0 y1458).value_), .int .i64 0, .slice none 0 0]⟩ 86 (0, 0)) :: .blk b1890 (.cells ⟨.int .i64 ((gt a0 y1458).kind_) :: .string ((gt a0 y1458).path_) :: .bool ((gt a0 y1458).has_) :: .string ((gt a0 y1458).value_) :: arrC .i64 ((gt a0 y1458).kids_)⟩ 106 (0, 0)) :: .blk b467 (.cells ⟨arrC .u32 y458⟩ 165 (0, 0)) :: .blk b464 (.cells ⟨arrC .u32 y288⟩ 163 (0, 0)) :: .blk b114 (.cells ⟨[yv1449, yv1454, .bool true]⟩ 97 (0, 0)) :: .row yv1454 9 1 m1455 cs1456 :: .row yv1449 86 6 m1450 cs1451 :: .blk b1 (.cells ⟨[.slice none 0 0, .slice none 0 0, .bool false]⟩ 97 (0, 0)) :: F) w := hw
     refine o_effU (hrun1897 ..) <| oN <| ct <| wq <| wq <| wr <| oa hf rfl rfl fun a hf => oN <| ct ?_
     replace hw := hw.nilrow 9 1
     have hRR1990 : RowR ekS I1447 [] [] := RowR.nil
     obtain ⟨out2209, hp, hq2210⟩ := bS hp
     refine c_cutX (fun a w => ∃ y2203 : List ByteArray, ∃ y2208 : Int, ∃ yv2204 : Value, ∃ m2205 : Nat, ∃ cs2206 : List Value, (y2203, y2208) = out2209 ∧ Ok E I1447 (.row yv2204 9 1 m2205 cs2206 :: .blk b1894 (.cells ⟨[.int .i64 ((gt a0 y1458).kind_), .string ((gt a0 y1458).path_), .bool ((gt a0 y1458).has_), .string ((gt a0 y1458).value_), .int .i64 y2208, yv2204]⟩ 86 (0, 0)) :: .blk b1890 (.cells ⟨.int .i64 ((gt a0 y1458).kind_) :: .string ((gt a0 y1458).path_) :: .bool ((gt a0 y1458).has_) :: .string ((gt a0 y1458).value_) :: arrC .i64 ((gt a0 y1458).kids_)⟩ 106 (0, 0)) :: .blk b467 (.cells ⟨arrC .u32 y458⟩ 165 (0, 0)) :: .blk b464 (.cells ⟨arrC .u32 y288⟩ 163 (0, 0)) :: .blk b114 (.cells ⟨[yv1449, yv1454, .bool true]⟩ 97 (0, 0)) :: .row yv1454 9 1 m1455 cs1456 :: .row yv1449 86 6 m1450 cs1451 :: .blk b1 (.cells ⟨[.slice none 0 0, .slice none 0 0, .bool false]⟩ 97 (0, 0)) :: F) w ∧ Fr 87 ([(0, a0v1), (2, .pointer (some ⟨b1, 0, none⟩)), (3, .pointer (some ⟨b114, 0, none⟩)), (4, .pointer (some ⟨b464, 0, none⟩)), (5, .pointer (some ⟨b467, 0, none⟩)), (6, .int .i64 y1458), (8, .pointer (some ⟨b1894, 0, none⟩))]) a ∧ RowR ekS I1447 cs2206 y2203) ?_ ?_
     ·refine wp_block <| c_loop <| c_fuel (ref11_Of.l1 a0 y1453 y1458) out2209 (fun (y2130, y2135, y2136) a w => ∃ yv2131 : Value, ∃ m2132 : Nat, ∃ cs2133 : List Value, Ok E I1447 (.row yv2131 9 1 m2132 cs2133 :: .blk b1894 (.cells ⟨[.int .i64 ((gt a0 y1458).kind_), .string ((gt a0 y1458).path_), .bool ((gt a0 y1458).has_), .string ((gt a0 y1458).value_), .int .i64 y2135, yv2131]⟩ 86 (0, 0)) :: .blk b1890 (.cells ⟨.int .i64 ((gt a0 y1458).kind_) :: .string ((gt a0 y1458).path_) :: .bool ((gt a0 y1458).has_) :: .string ((gt a0 y1458).value_) :: arrC .i64 ((gt a0 y1458).kids_)⟩ 106 (0, 0)) :: .blk b467 (.cells ⟨arrC .u32 y458⟩ 165 (0, 0)) :: .blk b464 (.cells ⟨arrC .u32 y288⟩ 163 (0, 0)) :: .blk b114 (.cells ⟨[yv1449, yv1454, .bool true]⟩ 97 (0, 0)) :: .row yv1454 9 1 m1455 cs1456 :: .row yv1449 86 6 m1450 cs1451 :: .blk b1 (.cells ⟨[.slice none 0 0, .slice none 0 0, .bool false]⟩ 97 (0, 0)) :: F) w ∧ Fr 87 ([(0, a0v1), (2, .pointer (some ⟨b1, 0, none⟩)), (3, .pointer (some ⟨b114, 0, none⟩)), (4, .pointer (some ⟨b464, 0, none⟩)), (5, .pointer (some ⟨b467, 0, none⟩)), (6, .int .i64 y1458), (7, .pointer (some ⟨b1890, 0, none⟩)), (8, .pointer (some ⟨b1894, 0, none⟩)), (9, .int .i64 y2136)]) a ∧ RowR ekS I1447 cs2133 y2130) (fun _ => rfl) ?_ BIG (([] : List ByteArray), 0, 0) _ _ ⟨(.slice none 0 0), 0, [], hw, hf.to ⟨rfl, rfl, rfl, rfl, rfl, rfl, rfl, rfl, rfl, trivial⟩, hRR1990⟩ hp
      intro k st a w hI hp ih
      obtain ⟨y2130, y2135, y2136⟩ := st
      obtain ⟨yv2131, m2132, cs2133, hw, hf, hRR2134⟩ := hI
      rw [ref11_Of.l1] at hp
      refine wq <| wq <| wr <| om hf rfl rfl fun a hf => oR hf (iC hf rfl rfl rfl) rfl fun a hf => oN <| ct <| cC hf rfl (fun hb2212 => ?_) (fun hb2212 => ?_)
      ·replace hp := cond_t hb2212 hp
       refine wp_skip <| ct ?_
       obtain ⟨out2257, hp, hq2258⟩ := bS hp
       refine c_cut (fun a w => ∃ y2251 : List ByteArray, ∃ y2256 : Int, ∃ yv2252 : Value, ∃ m2253 : Nat, ∃ cs2254 : List Value, (y2251, y2256) = out2257 ∧ Ok E I1447 (.row yv2252 9 1 m2253 cs2254 :: .blk b1894 (.cells ⟨[.int .i64 ((gt a0 y1458).kind_), .string ((gt a0 y1458).path_), .bool ((gt a0 y1458).has_), .string ((gt a0 y1458).value_), .int .i64 y2256, yv2252]⟩ 86 (0, 0)) :: .blk b1890 (.cells ⟨.int .i64 ((gt a0 y1458).kind_) :: .string ((gt a0 y1458).path_) :: .bool ((gt a0 y1458).has_) :: .string ((gt a0 y1458).value_) :: arrC .i64 ((gt a0 y1458).kids_)⟩ 106 (0, 0)) :: .blk b467 (.cells ⟨arrC .u32 y458⟩ 165 (0, 0)) :: .blk b464 (.cells ⟨arrC .u32 y288⟩ 163 (0, 0)) :: .blk b114 (.cells ⟨[yv1449, yv1454, .bool true]⟩ 97 (0, 0)) :: .row yv1454 9 1 m1455 cs1456 :: .row yv1449 86 6 m1450 cs1451 :: .blk b1 (.cells ⟨[.slice none 0 0, .slice none 0 0, .bool false]⟩ 97 (0, 0)) :: F) w ∧ Fr 87 ([(0, a0v1), (2, .pointer (some ⟨b1, 0, none⟩)), (3, .pointer (some ⟨b114, 0, none⟩)), (4, .pointer (some ⟨b464, 0, none⟩)), (5, .pointer (some ⟨b467, 0, none⟩)), (6, .int .i64 y1458), (7, .pointer (some ⟨b1890, 0, none⟩)), (8, .pointer (some ⟨b1894, 0, none⟩)), (9, .int .i64 y2136)]) a ∧ RowR ekS I1447 cs2254 y2251) ?_ ?_
       ·refine wp_block <| wq <| wr <| om hf rfl rfl fun a hf => oR hf (rF hf rfl fd_106_4) rfl fun a hf => ?_
        obtain ⟨hg2259, hp⟩ := gS hp
        refine oR hf (r_indexAddrA hf el_104 rfl rfl hg2259) rfl fun a hf => oR hf (rL hw hf rfl ty_3 2 rfl (arr_at (k := .i64) (v := (gt a0 y1458).kids_) rfl hg2259)) rfl fun a hf => oR hf (iC hf rfl rfl rfl) rfl fun a hf => oN <| ct <| cC hf rfl (fun hb2260 => ?_) (fun hb2260 => ?_)
        ·replace hp := cond_t hb2260 hp
         refine wq <| wr <| oR hf (rF hf rfl fd_86_4) rfl fun a hf => oR hf (rL hw hf rfl ty_3 1 rfl rfl) rfl fun a hf => om hf rfl rfl fun a hf => oR hf (r_convI hf und_3 und_160 rfl) rfl fun a hf => ?_
         obtain ⟨hg2261, hp⟩ := gS hp
         refine oR hf (r_shl hf rfl rfl hg2261) rfl fun a hf => oR hf (r_or hf rfl rfl) rfl fun a hf => oR hf (rF hf rfl fd_86_4) rfl fun a hf => ?_
         obtain ⟨w, hrun2262, hw⟩ := e_store (P := P) hw hf (x := .tmp 58) (y := .tmp 57) rfl rfl ty_3 1 rfl (vs := [.int .i64 (bor .i64 y2135 (shl .i64 1 (wu64 y2136)))]) (oE rfl) rfl (oC rfl ones_nil) (by simp [arrC_len]) (cs' := [.int .i64 ((gt a0 y1458).kind_), .string ((gt a0 y1458).path_), .bool ((gt a0 y1458).has_), .string ((gt a0 y1458).value_), .int .i64 (bor .i64 y2135 (shl .i64 1 (wu64 y2136))), yv2131]) rfl
         replace hw : Ok E I1447 (.row yv2131 9 1 m2132 cs2133 :: .blk b1894 (.cells ⟨[.int .i64 ((gt a0 y1458).kind_), .string ((gt a0 y1458).path_), .bool ((gt a0 y1458).has_), .string ((gt a0 y1458).value_), .int .i64 (bor .i64 y2135 (shl .i64 1 (wu64 y2136))), yv2131]⟩ 86 (0, 0)) :: .blk b1890 (.cells ⟨.int .i64 ((gt a0 y1458).kind_) :: .string ((gt a0 y1458).path_) :: .bool ((gt a0 y1458).has_) :: .string ((gt a0 y1458).value_) :: arrC .i64 ((gt a0 y1458).kids_)⟩ 106 (0, 0)) :: .blk b467 (.cells ⟨arrC .u32 y458⟩ 165 (0, 0)) :: .blk b464 (.cells ⟨arrC .u32 y288⟩ 163 (0, 0)) :: .blk b114 (.cells ⟨[yv1449, yv1454, .bool true]⟩ 97 (0, 0)) :: .row yv1454 9 1 m1455 cs1456 :: .row yv1449 86 6 m1450 cs1451 :: .blk b1 (.cells ⟨[.slice none 0 0, .slice none 0 0, .bool false]⟩ 97 (0, 0)) :: F) w := hw
         refine o_effU (hrun2262 ..) <| oN <| ct <| c_drawn mix [13] (.rd 0 (.rd 1 (.rd 2 (.rd 3 (.rd 4 (.rd 5 (.rd 6 (.rd 7 (.rd 8 (.rd 9 (.ef 10 (.ef 11 (.rd 12 (.ef 13 .done)))))))))))))) (by kernel_rfl) hw (fun w => Ok E I1447 (.blk b1894 (.cells ⟨[.int .i64 ((gt a0 y1458).kind_), .string ((gt a0 y1458).path_), .bool ((gt a0 y1458).has_), .string ((gt a0 y1458).value_), .int .i64 (bor .i64 y2135 (shl .i64 1 (wu64 y2136))), yv2131]⟩ 86 (0, 0)) :: .blk b1890 (.cells ⟨.int .i64 ((gt a0 y1458).kind_) :: .string ((gt a0 y1458).path_) :: .bool ((gt a0 y1458).has_) :: .string ((gt a0 y1458).value_) :: arrC .i64 ((gt a0 y1458).kids_)⟩ 106 (0, 0)) :: .blk b467 (.cells ⟨arrC .u32 y458⟩ 165 (0, 0)) :: .blk b464 (.cells ⟨arrC .u32 y288⟩ 163 (0, 0)) :: .blk b114 (.cells ⟨[yv1449, yv1454, .bool true]⟩ 97 (0, 0)) :: .row yv1454 9 1 m1455 cs1456 :: .row yv1449 86 6 m1450 cs1451 :: .blk b1 (.cells ⟨[.slice none 0 0, .slice none 0 0, .bool false]⟩ 97 (0, 0)) :: F) w) (fun w hw => ⟨hw.sub (sc (scc (scc (scc (scc (scc (scc (scc (scc sr))))))))), ?_⟩)
         refine tR rfl hf (fun w hw => rF hf rfl fd_86_5) rfl fun a hf => tR rfl hf (fun w hw => rL hw hf rfl ty_28 0 rfl rfl) rfl fun a hf => tR rfl hf (fun w hw => rF hf rfl fd_97_1) rfl fun a hf => tR rfl hf (fun w hw => rL hw hf rfl ty_28 4 rfl rfl) rfl fun a hf => tm rfl hf rfl rfl fun a hf => tR rfl hf (fun w hw => rF hf rfl fd_106_4) rfl fun a hf => ?_
         obtain ⟨hg2264, hp⟩ := gS hp
         refine tR rfl hf (fun w hw => r_indexAddrA hf el_104 rfl rfl hg2264) rfl fun a hf => tR rfl hf (fun w hw => rL hw hf rfl ty_3 1 rfl (arr_at (k := .i64) (v := (gt a0 y1458).kids_) rfl hg2264)) rfl fun a hf => ?_
         obtain ⟨hg2265, hp⟩ := gS hp
         refine tR rfl hf (fun w hw => rI (K := ekS) hf el_28 rfl rfl (rR (K := ekS) hw (i := 5) rfl hRR1457) hg2265) rfl fun a hf => tR rfl hf (fun w hw => r_loadH (K := ekS) hf rfl ty_9 (rR (K := ekS) hw (i := 5) rfl hRR1457) hg2265 rfl (fun cs h => ekS_f0 h)) rfl fun a hf => t_ef rfl ?_
         obtain ⟨w, v2266, hrun2267, hw, hRR2268⟩ := e_buildSlice (P := P) (K := ekS) (m := 1) hw hf (parts := [(0, .tmp 68)]) el_28 ty_9 rfl rfl rfl (ccs := [[Value.string (gt y1453 (vg ((gt a0 y1458).kids_) y2136))]]) rfl (xs := [gt y1453 (vg ((gt a0 y1458).kids_) y2136)]) ⟨rfl, trivial⟩ rfl
         obtain ⟨cs2269, hcs⟩ : ∃ cs, cs = ([[Value.string (gt y1453 (vg ((gt a0 y1458).kids_) y2136))]] : List (List Value)).flatten := ⟨_, rfl⟩
         rw [← hcs] at hw hRR2268; clear hcs
         refine t_eff hf (hrun2267 ..) rfl fun a hf => ⟨.inr (hw.back (IH.le_refl _) (sc (sc (scc (scc (scc (scc (scc (scc (scc (scc sr))))))))))), ?_⟩
         refine t_ef rfl ?_
         obtain ⟨hg2271, hp⟩ := gS hp
         obtain ⟨w, v2272, m2273, cs2274, hrun2276, hw, hRR2275⟩ := e_append (P := P) (K := ekS) (ty := 28) hw hf (s := .tmp 60) (x := .tmp 69) el_28 ty_9 rfl (by decide) 1 rfl rfl rfl hRR2134 (ys := [gt y1453 (vg ((gt a0 y1458).kids_) y2136)]) (rR (K := ekS) hw (i := 0) rfl hRR2268) hg2271
         replace hw : Ok E I1447 (.row v2266 9 1 1 cs2269 :: .row v2272 9 1 m2273 cs2274 :: .blk b1894 (.cells ⟨[.int .i64 ((gt a0 y1458).kind_), .string ((gt a0 y1458).path_), .bool ((gt a0 y1458).has_), .string ((gt a0 y1458).value_), .int .i64 (bor .i64 y2135 (shl .i64 1 (wu64 y2136))), yv2131]⟩ 86 (0, 0)) :: .blk b1890 (.cells ⟨.int .i64 ((gt a0 y1458).kind_) :: .string ((gt a0 y1458).path_) :: .bool ((gt a0 y1458).has_) :: .string ((gt a0 y1458).value_) :: arrC .i64 ((gt a0 y1458).kids_)⟩ 106 (0, 0)) :: .blk b467 (.cells ⟨arrC .u32 y458⟩ 165 (0, 0)) :: .blk b464 (.cells ⟨arrC .u32 y288⟩ 163 (0, 0)) :: .blk b114 (.cells ⟨[yv1449, yv1454, .bool true]⟩ 97 (0, 0)) :: .row yv1454 9 1 m1455 cs1456 :: .row yv1449 86 6 m1450 cs1451 :: .blk b1 (.cells ⟨[.slice none 0 0, .slice none 0 0, .bool false]⟩ 97 (0, 0)) :: F) w := hw
         refine t_eff hf (hrun2276 ..) rfl fun a hf => ⟨.inr (hw.back (IH.le_refl _) (sc (sc (scc (scc (scc (scc (scc (scc (scc (scc sr))))))))))), ?_⟩
         refine tR rfl hf (fun w hw => rF hf rfl fd_86_5) rfl fun a hf => t_ef rfl ?_
         obtain ⟨w, hrun2277, hw⟩ := e_store (P := P) hw hf (x := .tmp 71) (y := .tmp 70) rfl rfl ty_28 2 rfl (vs := [v2272]) (oE (row_one hw (i := 1) rfl)) rfl (oC (row_one hw (i := 1) rfl) ones_nil) (by simp [arrC_len]) (cs' := [.int .i64 ((gt a0 y1458).kind_), .string ((gt a0 y1458).path_), .bool ((gt a0 y1458).has_), .string ((gt a0 y1458).value_), .int .i64 (bor .i64 y2135 (shl .i64 1 (wu64 y2136))), v2272]) rfl
         replace hw : Ok E I1447 (.row v2266 9 1 1 cs2269 :: .row v2272 9 1 m2273 cs2274 :: .blk b1894 (.cells ⟨[.int .i64 ((gt a0 y1458).kind_), .string ((gt a0 y1458).path_), .bool ((gt a0 y1458).has_), .string ((gt a0 y1458).value_), .int .i64 (bor .i64 y2135 (shl .i64 1 (wu64 y2136))), v2272]⟩ 86 (0, 0)) :: .blk b1890 (.cells ⟨.int .i64 ((gt a0 y1458).kind_) :: .string ((gt a0 y1458).path_) :: .bool ((gt a0 y1458).has_) :: .string ((gt a0 y1458).value_) :: arrC .i64 ((gt a0 y1458).kids_)⟩ 106 (0, 0)) :: .blk b467 (.cells ⟨arrC .u32 y458⟩ 165 (0, 0)) :: .blk b464 (.cells ⟨arrC .u32 y288⟩ 163 (0, 0)) :: .blk b114 (.cells ⟨[yv1449, yv1454, .bool true]⟩ 97 (0, 0)) :: .row yv1454 9 1 m1455 cs1456 :: .row yv1449 86 6 m1450 cs1451 :: .blk b1 (.cells ⟨[.slice none 0 0, .slice none 0 0, .bool false]⟩ 97 (0, 0)) :: F) w := hw
         refine t_effU (hrun2277 ..) ⟨.inl rfl, ?_⟩
         refine t_done <| c_blockN <| ct ?_
         have ho := oI hp
         subst ho
         replace hw : Ok E I1447 (.row v2272 9 1 m2273 cs2274 :: .blk b1894 (.cells ⟨[.int .i64 ((gt a0 y1458).kind_), .string ((gt a0 y1458).path_), .bool ((gt a0 y1458).has_), .string ((gt a0 y1458).value_), .int .i64 (bor .i64 y2135 (shl .i64 1 (wu64 y2136))), v2272]⟩ 86 (0, 0)) :: .blk b1890 (.cells ⟨.int .i64 ((gt a0 y1458).kind_) :: .string ((gt a0 y1458).path_) :: .bool ((gt a0 y1458).has_) :: .string ((gt a0 y1458).value_) :: arrC .i64 ((gt a0 y1458).kids_)⟩ 106 (0, 0)) :: .blk b467 (.cells ⟨arrC .u32 y458⟩ 165 (0, 0)) :: .blk b464 (.cells ⟨arrC .u32 y288⟩ 163 (0, 0)) :: .blk b114 (.cells ⟨[yv1449, yv1454, .bool true]⟩ 97 (0, 0)) :: .row yv1454 9 1 m1455 cs1456 :: .row yv1449 86 6 m1450 cs1451 :: .blk b1 (.cells ⟨[.slice none 0 0, .slice none 0 0, .bool false]⟩ 97 (0, 0)) :: F) w := hw.sub (sc (scc (scc (scc (scc (scc (scc (scc (scc (scc sr))))))))))
         exact ⟨(y2130 ++ [gt y1453 (vg ((gt a0 y1458).kids_) y2136)]), (bor .i64 y2135 (shl .i64 1 (wu64 y2136))), v2272, m2273, cs2274, rfl, hw, hf.to ⟨rfl, rfl, rfl, rfl, rfl, rfl, rfl, rfl, rfl, trivial⟩, hRR2275⟩
        ·replace hp := cond_f hb2260 hp
         refine wp_skip <| c_blockN <| ct ?_
         have ho := oI hp
         subst ho
         exact ⟨y2130, y2135, yv2131, m2132, cs2133, rfl, hw, hf.to ⟨rfl, rfl, rfl, rfl, rfl, rfl, rfl, rfl, rfl, trivial⟩, hRR2134⟩
       ·intro a w hM
        obtain ⟨y2251, y2256, yv2252, m2253, cs2254, rfl, hw, hf, hRR2255⟩ := hM
        replace hp := hq2258
        refine wr <| om hf rfl rfl fun a hf => oR hf (r_add hf rfl rfl) rfl fun a hf => oa hf rfl rfl fun a hf => oN <| ct ?_
        exact ih (y2251, y2256, w64 (y2136 + 1)) _ _ ⟨yv2252, m2253, cs2254, hw, hf.to ⟨rfl, rfl, rfl, rfl, rfl, rfl, rfl, rfl, rfl, trivial⟩, hRR2255⟩ hp
      ·replace hp := cond_f hb2212 hp
       refine wp_exit <| c_thenE <| c_thenE <| c_exit <| ct ?_
       have ho := oI hp
       subst ho
       exact ⟨y2130, y2135, yv2131, m2132, cs2133, rfl, hw, hf.to ⟨rfl, rfl, rfl, rfl, rfl, rfl, rfl, trivial⟩, hRR2134⟩
     ·intro a w hM
      obtain ⟨y2203, y2208, yv2204, m2205, cs2206, rfl, hw, hf, hRR2207⟩ := hM
      replace hp := hq2210
      refine ct <| wq <| wr <| oR hf (rF hf rfl fd_97_0) rfl fun a hf => oR hf (rL hw hf rfl ty_95 5 rfl rfl) rfl fun a hf => om hf rfl rfl fun a hf => oR hf (r_loadA hw hf rfl ty_86 1 rfl (vs := [.int .i64 ((gt a0 y1458).kind_), .string ((gt a0 y1458).path_), .bool ((gt a0 y1458).has_), .string ((gt a0 y1458).value_), .int .i64 y2208, yv2204]) rfl rfl) rfl fun a hf => ?_
      obtain ⟨hg2279, hp⟩ := gS hp
      refine oR hf (rI (K := ek_Item) hf el_95 rfl rfl (rR (K := ek_Item) hw (i := 7) rfl hRR1452) hg2279) rfl fun a hf => ?_
      have hw : Ok E I1447 (.row yv2204 9 1 m2205 cs2206 :: .blk b1894 (.cells ⟨[Value.int .i64 ((gt a0 y1458).kind_), Value.string ((gt a0 y1458).path_), Value.bool ((gt a0 y1458).has_), Value.string ((gt a0 y1458).value_), Value.int .i64 y2208, yv2204]⟩ 86 (0, 0)) :: .blk b1890 (.cells ⟨Value.int .i64 ((gt a0 y1458).kind_) :: Value.string ((gt a0 y1458).path_) :: Value.bool ((gt a0 y1458).has_) :: Value.string ((gt a0 y1458).value_) :: arrC .i64 ((gt a0 y1458).kids_)⟩ 106 (0, 0)) :: .blk b467 (.cells ⟨arrC .u32 y458⟩ 165 (0, 0)) :: .blk b464 (.cells ⟨arrC .u32 y288⟩ 163 (0, 0)) :: .blk b114 (.cells ⟨[yv1449, yv1454, Value.bool true]⟩ 97 (0, 0)) :: .row yv1454 9 1 m1455 cs1456 :: .row yv1449 86 6 m1450 cs1451 :: .blk b1 (.cells ⟨[Value.slice none 0 0, Value.slice none 0 0, Value.bool false]⟩ 97 (0, 0)) :: F) w := hw.front (i := 0) rfl
      obtain ⟨I2281, hle2282, hw, hR2283⟩ := row_freeze (K := ekS) hw hRR2207
      replace hG := hG.mono hle2282
      replace hR2 := hR2.mono hle2282
      replace hRR1457 := hRR1457.mono hle2282
      replace hRR1452 := hRR1452.mono hle2282
      obtain ⟨w, cs2284, hrun2280, hw, hRR2285⟩ := e_storeH (P := P) (K := ek_Item) hw hf (x := .tmp 76) (y := .tmp 75) rfl rfl ty_86 6 rfl hRR1452 hg2279 rfl (vs := [.int .i64 ((gt a0 y1458).kind_), .string ((gt a0 y1458).path_), .bool ((gt a0 y1458).has_), .string ((gt a0 y1458).value_), .int .i64 y2208, yv2204]) rfl rfl (oC rfl (oC rfl (oC rfl (oC rfl (oC rfl (oC hR2283.one ones_nil)))))) (Nat.le_of_eq (by rfl)) (x' := (⟨(gt a0 y1458).kind_, (gt a0 y1458).path_, (gt a0 y1458).has_, (gt a0 y1458).value_, y2208, y2203⟩ : Item)) (whole_store ⟨_, rfl, hR2283⟩)
      replace hw : Ok E I2281 (.blk b1894 (.cells ⟨[.int .i64 ((gt a0 y1458).kind_), .string ((gt a0 y1458).path_), .bool ((gt a0 y1458).has_), .string ((gt a0 y1458).value_), .int .i64 y2208, yv2204]⟩ 86 (0, 0)) :: .blk b1890 (.cells ⟨.int .i64 ((gt a0 y1458).kind_) :: .string ((gt a0 y1458).path_) :: .bool ((gt a0 y1458).has_) :: .string ((gt a0 y1458).value_) :: arrC .i64 ((gt a0 y1458).kids_)⟩ 106 (0, 0)) :: .blk b467 (.cells ⟨arrC .u32 y458⟩ 165 (0, 0)) :: .blk b464 (.cells ⟨arrC .u32 y288⟩ 163 (0, 0)) :: .blk b114 (.cells ⟨[yv1449, yv1454, .bool true]⟩ 97 (0, 0)) :: .row yv1454 9 1 m1455 cs1456 :: .row yv1449 86 6 m1450 cs2284 :: .blk b1 (.cells ⟨[.slice none 0 0, .slice none 0 0, .bool false]⟩ 97 (0, 0)) :: F) w := hw
      refine o_effU (hrun2280 ..) <| oN <| ct <| c_drawn mix [9] (.rd 0 (.rd 1 (.rd 2 (.rd 3 (.rd 5 (.rd 6 (.ef 4 (.ef 7 (.rd 8 (.ef 9 .done)))))))))) (by kernel_rfl) hw (fun w => Ok E I2281 (.blk b1894 (.cells ⟨[.int .i64 ((gt a0 y1458).kind_), .string ((gt a0 y1458).path_), .bool ((gt a0 y1458).has_), .string ((gt a0 y1458).value_), .int .i64 y2208, yv2204]⟩ 86 (0, 0)) :: .blk b1890 (.cells ⟨.int .i64 ((gt a0 y1458).kind_) :: .string ((gt a0 y1458).path_) :: .bool ((gt a0 y1458).has_) :: .string ((gt a0 y1458).value_) :: arrC .i64 ((gt a0 y1458).kids_)⟩ 106 (0, 0)) :: .blk b467 (.cells ⟨arrC .u32 y458⟩ 165 (0, 0)) :: .blk b464 (.cells ⟨arrC .u32 y288⟩ 163 (0, 0)) :: .blk b114 (.cells ⟨[yv1449, yv1454, .bool true]⟩ 97 (0, 0)) :: .row yv1454 9 1 m1455 cs1456 :: .row yv1449 86 6 m1450 cs2284 :: .blk b1 (.cells ⟨[.slice none 0 0, .slice none 0 0, .bool false]⟩ 97 (0, 0)) :: F) w) (fun w hw => ⟨hw.sub (scc (scc (scc (scc (scc (scc (scc (scc sr)))))))), ?_⟩)
      refine tR rfl hf (fun w hw => rF hf rfl fd_97_1) rfl fun a hf => tR rfl hf (fun w hw => rL hw hf rfl ty_28 4 rfl rfl) rfl fun a hf => tm rfl hf rfl rfl fun a hf => tR rfl hf (fun w hw => r_loadA hw hf rfl ty_86 0 rfl (vs := [.int .i64 ((gt a0 y1458).kind_), .string ((gt a0 y1458).path_), .bool ((gt a0 y1458).has_), .string ((gt a0 y1458).value_), .int .i64 y2208, yv2204]) rfl rfl) rfl fun a hf => tR rfl hf (fun w hw => r_loadA hw hf rfl ty_163 3 rfl (vs := (arrC .u32 y288)) (take_all (by simp [arrC_len])) (by simp [arrC_len])) rfl fun a hf => tR rfl hf (fun w hw => r_loadA hw hf rfl ty_165 2 rfl (vs := (arrC .u32 y458)) (take_all (by simp [arrC_len])) (by simp [arrC_len])) rfl fun a hf => t_ef rfl ?_
      obtain ⟨y2287, hy2288, hp⟩ := bS hp
      have hc2290 := ref09_Encode_ok hw hG hR2283 hy2288
      refine t_call hf cb_59 rfl rfl hc2290 (fun v2292 w a hK2291 hf => ?_)
      obtain ⟨rfl, hw⟩ := hK2291
      refine ⟨.inr (hw.back (IH.le_refl _) (scc (scc (scc (scc (scc (scc (scc (scc sr))))))))), ?_⟩
      refine t_ef rfl ?_
      obtain ⟨y2293, hy2294, hp⟩ := bS hp
      have hc2296 := ref04_With_ok hw hG hy2294
      refine t_call hf cb_75 rfl rfl hc2296 (fun v2298 w a hK2297 hf => ?_)
      obtain ⟨rfl, hw⟩ := hK2297
      refine ⟨.inr (hw.back (IH.le_refl _) (scc (scc (scc (scc (scc (scc (scc (scc sr))))))))), ?_⟩
      obtain ⟨hg2299, hp⟩ := gS hp
      refine tR rfl hf (fun w hw => rI (K := ekS) hf el_28 rfl rfl (rR (K := ekS) hw (i := 5) rfl hRR1457) hg2299) rfl fun a hf => t_ef rfl ?_
      obtain ⟨w, cs2301, hrun2300, hw, hRR2302⟩ := e_storeH (P := P) (K := ekS) hw hf (x := .tmp 85) (y := .tmp 84) rfl rfl ty_9 5 rfl hRR1457 hg2299 rfl (vs := [.string y2293]) (oE rfl) rfl (oC rfl ones_nil) (Nat.le_of_eq (by rfl)) (x' := y2293) (whole_store rfl)
      replace hw : Ok E I2281 (.blk b1894 (.cells ⟨[.int .i64 ((gt a0 y1458).kind_), .string ((gt a0 y1458).path_), .bool ((gt a0 y1458).has_), .string ((gt a0 y1458).value_), .int .i64 y2208, yv2204]⟩ 86 (0, 0)) :: .blk b1890 (.cells ⟨.int .i64 ((gt a0 y1458).kind_) :: .string ((gt a0 y1458).path_) :: .bool ((gt a0 y1458).has_) :: .string ((gt a0 y1458).value_) :: arrC .i64 ((gt a0 y1458).kids_)⟩ 106 (0, 0)) :: .blk b467 (.cells ⟨arrC .u32 y458⟩ 165 (0, 0)) :: .blk b464 (.cells ⟨arrC .u32 y288⟩ 163 (0, 0)) :: .blk b114 (.cells ⟨[yv1449, yv1454, .bool true]⟩ 97 (0, 0)) :: .row yv1454 9 1 m1455 cs2301 :: .row yv1449 86 6 m1450 cs2284 :: .blk b1 (.cells ⟨[.slice none 0 0, .slice none 0 0, .bool false]⟩ 97 (0, 0)) :: F) w := hw
      refine t_effU (hrun2300 ..) ⟨.inl rfl, ?_⟩
      refine t_done <| c_blockN <| ct <| wr <| om hf rfl rfl fun a hf => oR hf (r_sub hf rfl rfl) rfl fun a hf => oa hf rfl rfl fun a hf => oN <| ct ?_
      replace hw : Ok E I2281 (.blk b467 (.cells ⟨arrC .u32 y458⟩ 165 (0, 0)) :: .blk b464 (.cells ⟨arrC .u32 y288⟩ 163 (0, 0)) :: .blk b114 (.cells ⟨[yv1449, yv1454, .bool true]⟩ 97 (0, 0)) :: .row yv1454 9 1 m1455 cs2301 :: .row yv1449 86 6 m1450 cs2284 :: .blk b1 (.cells ⟨[.slice none 0 0, .slice none 0 0, .bool false]⟩ 97 (0, 0)) :: F) w := hw.sub (sc (sc (scc (scc (scc (scc (scc (scc sr))))))))
      exact ih (y1448.set y1458.toNat (⟨(gt a0 y1458).kind_, (gt a0 y1458).path_, (gt a0 y1458).has_, (gt a0 y1458).value_, y2208, y2203⟩ : Item), y1453.set y1458.toNat y2293, w64 (y1458 - 1)) _ _ ⟨I2281, yv1449, m1450, cs2284, yv1454, m1455, cs2301, (IH.le_trans hle1887 hle2282), hw, hf.to ⟨rfl, rfl, rfl, rfl, rfl, rfl, trivial⟩, hRR2285, hRR2302⟩ hp
    ·replace hp := cond_f hb1888 hp
     refine wp_exit <| c_thenE <| c_thenE <| c_exit <| ct ?_
     have ho := oI hp
     subst ho
     exact ⟨y1448, y1453, I1447, yv1449, m1450, cs1451, yv1454, m1455, cs1456, rfl, hle1887, hw, hf.to ⟨rfl, rfl, trivial⟩, hRR1452, hRR1457⟩
   ·intro a w hM
    obtain ⟨y1875, y1880, I1874, yv1876, m1877, cs1878, yv1881, m1882, cs1883, rfl, hle2303, hw, hf, hRR1879, hRR1884⟩ := hM
    replace hp := hq1886
    replace hG := hG.mono hle2303
    refine ct <| wq <| wr <| oR hf (r_loadA hw hf rfl ty_97 2 rfl (vs := [yv1876, yv1881, .bool true]) rfl rfl) rfl fun a hf => ?_
    obtain ⟨w, hrun2304, hw⟩ := e_store (P := P) hw hf (x := .tmp 2) (y := .tmp 86) rfl rfl ty_97 5 rfl (vs := [yv1876, yv1881, .bool true]) rfl rfl (oC (row_one hw (i := 4) rfl) (oC (row_one hw (i := 3) rfl) (oC rfl ones_nil))) (by simp [arrC_len]) (cs' := [yv1876, yv1881, .bool true]) rfl
    replace hw : Ok E I1874 (.blk b467 (.cells ⟨arrC .u32 y458⟩ 165 (0, 0)) :: .blk b464 (.cells ⟨arrC .u32 y288⟩ 163 (0, 0)) :: .blk b114 (.cells ⟨[yv1876, yv1881, .bool true]⟩ 97 (0, 0)) :: .row yv1881 9 1 m1882 cs1883 :: .row yv1876 86 6 m1877 cs1878 :: .blk b1 (.cells ⟨[yv1876, yv1881, .bool true]⟩ 97 (0, 0)) :: F) w := hw
    refine o_effU (hrun2304 ..) <| oN <| ct <| wp_ret ?_
    have hw : Ok E I1874 (.row yv1876 86 6 m1877 cs1878 :: .blk b467 (.cells ⟨arrC .u32 y458⟩ 165 (0, 0)) :: .blk b464 (.cells ⟨arrC .u32 y288⟩ 163 (0, 0)) :: .blk b114 (.cells ⟨[yv1876, yv1881, Value.bool true]⟩ 97 (0, 0)) :: .row yv1881 9 1 m1882 cs1883 :: .blk b1 (.cells ⟨[yv1876, yv1881, Value.bool true]⟩ 97 (0, 0)) :: F) w := hw.front (i := 4) rfl
    obtain ⟨I2311, hle2312, hw, hR2313⟩ := row_freeze (K := ek_Item) hw hRR1879
    replace hG := hG.mono hle2312
    replace hRR1884 := hRR1884.mono hle2312
    have hw : Ok E I2311 (.row yv1881 9 1 m1882 cs1883 :: .blk b467 (.cells ⟨arrC .u32 y458⟩ 165 (0, 0)) :: .blk b464 (.cells ⟨arrC .u32 y288⟩ 163 (0, 0)) :: .blk b114 (.cells ⟨[yv1876, yv1881, Value.bool true]⟩ 97 (0, 0)) :: .blk b1 (.cells ⟨[yv1876, yv1881, Value.bool true]⟩ 97 (0, 0)) :: F) w := hw.front (i := 3) rfl
    obtain ⟨I2314, hle2315, hw, hR2316⟩ := row_freeze (K := ekS) hw hRR1884
    replace hG := hG.mono hle2315
    replace hR2313 := hR2313.mono hle2315
    replace hw : Ok E I2314 (.blk b1 (.cells ⟨[yv1876, yv1881, .bool true]⟩ 97 (0, 0)) :: F) w := hw.sub (sc (sc (sc (scc sr))))
    have ho := oI hp
    subst ho
    exact b_retC hw hf results39 ty_97 rfl 0 rfl (vs := [yv1876, yv1881, .bool true]) rfl rfl ⟨_, rfl, ⟨I2314, yv1876, yv1881, rfl, (IH.le_trans (IH.le_trans hle2303 hle2312) hle2315), hw.tail, hR2313, hR2316⟩⟩

theorem ref04_Of_ok {E : World} {I : IH} {F : List Atom} {w : World} {a0 : ByteArray} {res0 : ByteArray} (hw : Ok E I (F) w) (hG : Gl I) (hp : ref04_Of.f a0 = some res0) :
  Calls P 60 ⟨[Value.string a0]⟩ w fun e w' => ∃ v, e = .returned v ∧ v = Value.string res0 ∧ Ok E I (F) w' := by
 refine c_enter func60 rfl ntmps60 rfl fun a hf => ?_
 replace hf : Fr 7 [(0, .string a0)] a := hf
 unfold ref04_Of.f at hp
 refine wq <| wr <| oa hf rfl rfl fun a hf => oN <| ct <| wq <| wr <| om hf rfl rfl fun a hf => ?_
 obtain ⟨y1, hy2, hp⟩ := bS hp
 have hc4 := ref04_Start_ok hw hG hy2
 refine o_call hf cb_73 rfl rfl hc4 (fun v6 w a hK5 hf => ?_)
 obtain ⟨rfl, hw⟩ := hK5
 obtain ⟨y7, hy8, hp⟩ := bS hp
 have hc10 := ref04_Constants_ok hw hG hy8
 refine o_call hf cb_74 rfl rfl hc10 (fun v12 w a hK11 hf => ?_)
 obtain ⟨rfl, hw⟩ := hK11
 obtain ⟨y13, hy14, hp⟩ := bS hp
 have hc16 := ref04_With_ok hw hG hy14
 refine o_call hf cb_75 rfl rfl hc16 (fun v18 w a hK17 hf => ?_)
 obtain ⟨rfl, hw⟩ := hK17
 refine oa hf rfl rfl fun a hf => oN <| ct <| wp_ret ?_
 have ho := oI hp
 subst ho
 exact b_ret1 hf results60 rfl ⟨_, rfl, ⟨rfl, hw⟩⟩

theorem ref11_Empty_ok {E : World} {I : IH} {F : List Atom} {w : World} {res0 : ByteArray} (hw : Ok E I (F) w) (hG : Gl I) (hp : ref11_Empty.f = some res0) :
  Calls P 30 ⟨[]⟩ w fun e w' => ∃ v, e = .returned v ∧ v = Value.string res0 ∧ Ok E I (F) w' := by
 refine c_enter func30 rfl ntmps30 rfl fun a hf => ?_
 replace hf : Fr 2 [] a := hf
 unfold ref11_Empty.f at hp
 refine wq <| wr <| oa hf rfl rfl fun a hf => oN <| ct <| wq <| wr ?_
 obtain ⟨y19, hy20, hp⟩ := bS hp
 have hc22 := ref04_Of_ok hw hG hy20
 refine o_call hf cb_60 rfl rfl hc22 (fun v24 w a hK23 hf => ?_)
 obtain ⟨rfl, hw⟩ := hK23
 refine oa hf rfl rfl fun a hf => oN <| ct <| wp_ret ?_
 have ho := oI hp
 subst ho
 exact b_ret1 hf results30 rfl ⟨_, rfl, ⟨rfl, hw⟩⟩

theorem ref11_Root_ok {E : World} {I : IH} {F : List Atom} {w : World} {a0 : List Node} {a0v1117 : Value} {res0 : ByteArray} (hw : Ok E I (F) w) (hG : Gl I) (hR1118 : RS ek_Node I a0v1117 a0) (hp : ref11_Root.f a0 = some res0) :
  Calls P 14 ⟨[a0v1117]⟩ w fun e w' => ∃ v, e = .returned v ∧ v = Value.string res0 ∧ Ok E I (F) w' := by
 refine c_enter func14 rfl ntmps14 rfl fun a hf => ?_
 replace hf : Fr 17 [(0, a0v1117)] a := hf
 unfold ref11_Root.f at hp
 refine wq <| wr <| oa hf rfl rfl fun a hf => oN <| ct <| wq <| wr <| om hf rfl rfl fun a hf => ?_
 obtain ⟨y2317, hy2318, hp⟩ := bS hp
 have hc2320 := ref11_Of_ok hw hG hR1118 hy2318
 refine o_call hf cb_39 rfl rfl hc2320 (fun v2326 w a hK2321 hf => ?_)
 obtain ⟨I2_2321, rvv2322, rvv2324, rfl, hle2327, hw, hR2323, hR2325⟩ := hK2321
 replace hG := hG.mono hle2327
 replace hR1118 := hR1118.mono hle2327
 obtain ⟨b2328, w, hrun2329, hw⟩ := e_alloc (P := P) (a := a) hw ty_97
 replace hw : Ok E I2_2321 (.blk b2328 (.cells ⟨[.slice none 0 0, .slice none 0 0, .bool false]⟩ 97 (0, 0)) :: F) w := hw
 refine o_eff hf (hrun2329 ..) rfl fun a hf => ?_
 obtain ⟨w, hrun2331, hw⟩ := e_store (P := P) hw hf (x := .tmp 3) (y := .tmp 5) rfl rfl ty_97 0 rfl (vs := [rvv2322, rvv2324, .bool y2317.ok_]) rfl rfl (oC hR2323.one (oC hR2325.one (oC rfl ones_nil))) (by simp [arrC_len]) (cs' := [rvv2322, rvv2324, .bool y2317.ok_]) rfl
 replace hw : Ok E I2_2321 (.blk b2328 (.cells ⟨[rvv2322, rvv2324, .bool y2317.ok_]⟩ 97 (0, 0)) :: F) w := hw
 refine o_effU (hrun2331 ..) <| oN <| ct <| wq <| wq <| wr <| oR hf (rF hf rfl fd_97_2) rfl fun a hf => oR hf (rL hw hf rfl ty_4 0 rfl rfl) rfl fun a hf => oR hf (r_not hf rfl) rfl fun a hf => oN <| ct <| cC hf rfl (fun hb2332 => ?_) (fun hb2332 => ?_)
 ·replace hp := cond_t hb2332 hp
  refine wq <| wr <| oa hf rfl rfl fun a hf => oN <| ct <| wp_ret <| c_thenR ?_
  replace hw : Ok E I2_2321 (F) w := hw.sub (sc sr)
  have ho := oI hp
  subst ho
  exact b_ret1 hf results14 rfl ⟨_, rfl, ⟨rfl, (hw.back hle2327 sr)⟩⟩
 ·replace hp := cond_f hb2332 hp
  refine wp_skip <| ct <| wq <| wq <| wr <| om hf rfl rfl fun a hf => oR hf (r_lenL (K := ek_Node) hf el_27 rfl (hR1118.rd hw)) rfl fun a hf => oR hf (iC hf rfl rfl rfl) rfl fun a hf => oN <| ct <| cC hf rfl (fun hb2333 => ?_) (fun hb2333 => ?_)
  ·replace hp := cond_t hb2333 hp
   refine wq <| wr ?_
   obtain ⟨y25, hy26, hp⟩ := bS hp
   have hc28 := ref11_Empty_ok hw hG hy26
   refine o_call hf cb_30 rfl rfl hc28 (fun v30 w a hK29 hf => ?_)
   obtain ⟨rfl, hw⟩ := hK29
   refine oa hf rfl rfl fun a hf => oN <| ct <| wp_ret <| c_thenR ?_
   replace hw : Ok E I2_2321 (F) w := hw.sub (sc sr)
   have ho := oI hp
   subst ho
   exact b_ret1 hf results14 rfl ⟨_, rfl, ⟨rfl, (hw.back hle2327 sr)⟩⟩
  ·replace hp := cond_f hb2333 hp
   refine wp_skip <| ct <| wq <| wr <| oR hf (rF hf rfl fd_97_1) rfl fun a hf => oR hf (rL hw hf rfl ty_28 0 rfl rfl) rfl fun a hf => ?_
   obtain ⟨hg31, hp⟩ := gS hp
   refine oR hf (rI (K := ekS) hf el_28 rfl rfl (hR2325.rd hw) hg31) rfl fun a hf => oR hf (r_loadH (K := ekS) hf rfl ty_9 (hR2325.rd hw) hg31 rfl (fun cs h => ekS_f0 h)) rfl fun a hf => oa hf rfl rfl fun a hf => oN <| ct <| wp_ret ?_
   replace hw : Ok E I2_2321 (F) w := hw.sub (sc sr)
   have ho := oI hp
   subst ho
   exact b_ret1 hf results14 rfl ⟨_, rfl, ⟨rfl, (hw.back hle2327 sr)⟩⟩
end Go.Lf
