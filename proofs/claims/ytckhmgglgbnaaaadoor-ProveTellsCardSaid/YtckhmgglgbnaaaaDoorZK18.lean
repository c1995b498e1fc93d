/- The Go functions compute the plain Lean functions (printed by our lift.py). -/
import Derived.Test.YtckhmgglgbnaaaaDoorZD
import Derived.Test.YtckhmgglgbnaaaaDoorZF
import Derived.Test.YtckhmgglgbnaaaaDoorJ
import Derived.Test.YtckhmgglgbnaaaaDoorZK12
import Derived.Test.YtckhmgglgbnaaaaDoorZK13
import Derived.Test.YtckhmgglgbnaaaaDoorZK14
import Derived.Test.YtckhmgglgbnaaaaDoorZK16
import Derived.Test.YtckhmgglgbnaaaaDoorZK17
set_option linter.unusedVariables false
set_option linter.unusedSimpArgs false
set_option maxHeartbeats 1000000
set_option maxRecDepth 20000
namespace Go.Lf
open Go
theorem ref11_Of_ok {E : World} {I : IH} {F : List Atom} {w : World} {a0 : List Node} {a0v771 : Value} {res0 : ref11_All_T} (hw : Ok E I (F) w) (hG : Gl I) (hR772 : RS ek_Node I a0v771 a0) (hp : ref11_Of.f a0 = some res0) :
  Calls P 17 ⟨[a0v771]⟩ w fun e w' => ∃ v, e = .returned v ∧ ∃ I2 : IH, ∃ rvv153 : Value, ∃ rvv155 : Value, v = Value.agg ⟨[rvv153, rvv155, Value.bool res0.ok_]⟩ ∧ IH.le I I2 ∧ Ok E I2 (F) w' ∧ RS ek_Item I2 rvv153 res0.i_ ∧ RS ekS I2 rvv155 res0.h_ := by
 refine c_enter Go.Proofs.Tryd.func17 rfl Go.Proofs.Tryd.ntmps17 rfl fun a hf => ?_
 replace hf : Fr 87 [(0, a0v771)] a := hf
 unfold ref11_Of.f at hp
 refine wq <| wr ?_
 obtain ⟨b1, w, hrun2, hw⟩ := e_alloc (P := P) (a := a) hw ty_37
 replace hw : Ok E I (.blk b1 (.cells ⟨[.slice none 0 0, .slice none 0 0, .bool false]⟩ 37 (0, 0)) :: F) w := hw
 refine o_eff hf (hrun2 ..) rfl fun a hf => oN <| ct <| wq <| wq <| wr <| om hf rfl rfl fun a hf => ?_
 obtain ⟨y4, hy5, hp⟩ := bS hp
 have hc7 := ref10_Good_ok hw hG hR772 hy5
 refine o_call hf cb_43 rfl rfl hc7 (fun v9 w a hK8 hf => ?_)
 obtain ⟨rfl, hw⟩ := hK8
 refine oR hf (r_not hf rfl) rfl fun a hf => oN <| ct <| cC hf rfl (fun hb10 => ?_) (fun hb10 => ?_)
 ·replace hp := cond_t hb10 hp
  refine wq <| wr <| oR hf (r_build hf bd_37 (vs := []) rfl trivial (by decide) (out := [Value.slice none 0 0, Value.slice none 0 0, Value.bool false]) rfl) rfl fun a hf => ?_
  obtain ⟨w, hrun11, hw⟩ := e_store (P := P) hw hf (x := .tmp 2) (y := .tmp 13) rfl rfl ty_37 0 rfl (vs := [Value.slice none 0 0, Value.slice none 0 0, Value.bool false]) rfl rfl (oC rfl (oC rfl (oC rfl ones_nil))) (by simp [arrC_len]) (cs' := [Value.slice none 0 0, Value.slice none 0 0, Value.bool false]) rfl
  replace hw : Ok E I (.blk b1 (.cells ⟨[.slice none 0 0, .slice none 0 0, .bool false]⟩ 37 (0, 0)) :: F) w := hw
  refine o_effU (hrun11 ..) <| oN <| ct <| wp_ret <| c_thenR ?_
  have ho := oI hp
  subst ho
  exact b_retC hw hf Go.Proofs.Tryd.results17 ty_37 rfl 0 rfl (vs := [Value.slice none 0 0, Value.slice none 0 0, Value.bool false]) rfl rfl ⟨_, rfl, ⟨I, (Value.slice none 0 0), (Value.slice none 0 0), rfl, (IH.le_refl _), hw.tail, RS.nil, RS.nil⟩⟩
 ·replace hp := cond_f hb10 hp
  refine wp_skip <| ct <| wq ?_
  obtain ⟨out106, hp, hq107⟩ := bS hp
  refine c_cutX (fun a w => ∃ b27 : Nat, ∃ v20 : Value, ∃ cs23 : List Value, ∃ v14 : Value, ∃ cs17 : List Value, () = out106 ∧ Ok E I (.blk b27 (.cells ⟨[v14, v20, .bool true]⟩ 37 (0, 0)) :: .row v20 9 1 (((a0.length : Int)).toNat) cs23 :: .row v14 32 6 (((a0.length : Int)).toNat) cs17 :: .blk b1 (.cells ⟨[.slice none 0 0, .slice none 0 0, .bool false]⟩ 37 (0, 0)) :: F) w ∧ Fr 87 ([(0, a0v771), (2, .pointer (some ⟨b1, 0, none⟩)), (3, .pointer (some ⟨b27, 0, none⟩))]) a ∧ RowR ekS I cs23 (List.replicate (a0.length : Int).toNat (⟨#[]⟩ : ByteArray)) ∧ RowR ek_Item I cs17 (List.replicate (a0.length : Int).toNat (⟨0, (⟨#[]⟩ : ByteArray), false, (⟨#[]⟩ : ByteArray), 0, ([] : List ByteArray)⟩ : Item))) ?_ ?_
  ·refine c_drawn mix [8] (.rd 0 (.rd 1 (.rd 3 (.rd 4 (.ef3 2 (.ef2 5 (.rd 6 (.ef 7 (.ef 8 .done))) 7 (.ef 5 (.rd 6 (.ef 8 .done)))) 5 (.ef2 2 (.rd 6 (.ef 7 (.ef 8 .done))) 7 (.ef 2 (.rd 6 (.ef 8 .done)))) 7 (.ef2 2 (.ef 5 (.rd 6 (.ef 8 .done))) 5 (.ef 2 (.rd 6 (.ef 8 .done))))))))) (by kernel_rfl) hw (fun w => Ok E I (.blk b1 (.cells ⟨[.slice none 0 0, .slice none 0 0, .bool false]⟩ 37 (0, 0)) :: F) w) (fun w hw => ⟨hw.sub (scc sr), ?_⟩)
   refine tm rfl hf rfl rfl fun a hf => tR rfl hf (fun w hw => r_lenL (K := ek_Node) hf el_23 rfl (hR772.rd hw)) rfl fun a hf => tm rfl hf rfl rfl fun a hf => tR rfl hf (fun w hw => r_lenL (K := ek_Node) hf el_23 rfl (hR772.rd hw)) rfl fun a hf => t_ef3 rfl rfl rfl ?_ ?_ ?_
   ·obtain ⟨hg109, hp⟩ := gS hp
    obtain ⟨w, v110, cs113, hrun111, hw, hRR112⟩ := e_makeSlice (P := P) (K := ek_Item) hw hf (l := .tmp 15) (c := .tmp 15) el_35 ty_32 rfl (by decide) rfl rfl (x := (⟨0, (⟨#[]⟩ : ByteArray), false, (⟨#[]⟩ : ByteArray), 0, ([] : List ByteArray)⟩ : Item)) (fun _ => ⟨_, rfl, RS.nil⟩) hg109
    refine t_eff hf (hrun111 ..) rfl fun a hf => ⟨.inr (hw.back (IH.le_refl _) (sc (scc sr))), ?_⟩
    refine t_ef2 rfl rfl ?_ ?_
    ·obtain ⟨hg115, hp⟩ := gS hp
     obtain ⟨w, v116, cs119, hrun117, hw, hRR118⟩ := e_makeSlice (P := P) (K := ekS) hw hf (l := .tmp 18) (c := .tmp 18) el_28 ty_9 rfl (by decide) rfl rfl (x := (⟨#[]⟩ : ByteArray)) (fun _ => rfl) hg115
     refine t_eff hf (hrun117 ..) rfl fun a hf => ⟨.inr (hw.back (IH.le_refl _) (sc (sc (scc sr)))), ?_⟩
     have ho121 := row_one hw (i := 1) rfl
     have ho122 := row_one hw (i := 0) rfl
     refine tR rfl hf (fun w hw => r_build hf bd_37 (vs := [v110, v116, Value.bool true]) rfl ⟨ho121, ho122, rfl, trivial⟩ (by decide) (out := [v110, v116, Value.bool true]) rfl) rfl fun a hf => t_ef rfl ?_
     obtain ⟨b123, w, hrun124, hw⟩ := e_alloc (P := P) (a := a) hw ty_37
     replace hw : Ok E I (.blk b123 (.cells ⟨[.slice none 0 0, .slice none 0 0, .bool false]⟩ 37 (0, 0)) :: .row v116 9 1 (((a0.length : Int)).toNat) cs119 :: .row v110 32 6 (((a0.length : Int)).toNat) cs113 :: .blk b1 (.cells ⟨[.slice none 0 0, .slice none 0 0, .bool false]⟩ 37 (0, 0)) :: F) w := hw
     refine t_eff hf (hrun124 ..) rfl fun a hf => ⟨.inr (hw.back (IH.le_refl _) (sc (sc (sc (scc sr))))), ?_⟩
     refine t_ef rfl ?_
     obtain ⟨w, hrun126, hw⟩ := e_store (P := P) hw hf (x := .tmp 3) (y := .tmp 20) rfl rfl ty_37 0 rfl (vs := [v110, v116, Value.bool true]) rfl rfl (oC (row_one hw (i := 2) rfl) (oC (row_one hw (i := 1) rfl) (oC rfl ones_nil))) (by simp [arrC_len]) (cs' := [v110, v116, Value.bool true]) rfl
     replace hw : Ok E I (.blk b123 (.cells ⟨[v110, v116, .bool true]⟩ 37 (0, 0)) :: .row v116 9 1 (((a0.length : Int)).toNat) cs119 :: .row v110 32 6 (((a0.length : Int)).toNat) cs113 :: .blk b1 (.cells ⟨[.slice none 0 0, .slice none 0 0, .bool false]⟩ 37 (0, 0)) :: F) w := hw
     refine t_effU (hrun126 ..) ⟨.inl rfl, ?_⟩
     refine t_done <| ct ?_
     have ho := oI hp
     subst ho
     exact ⟨b123, v116, cs119, v110, cs113, rfl, hw, hf.to ⟨rfl, rfl, rfl, trivial⟩, hRR118, hRR112⟩
    ·obtain ⟨b127, w, hrun128, hw⟩ := e_alloc (P := P) (a := a) hw ty_37
     replace hw : Ok E I (.blk b127 (.cells ⟨[.slice none 0 0, .slice none 0 0, .bool false]⟩ 37 (0, 0)) :: .row v110 32 6 (((a0.length : Int)).toNat) cs113 :: .blk b1 (.cells ⟨[.slice none 0 0, .slice none 0 0, .bool false]⟩ 37 (0, 0)) :: F) w := hw
     refine t_eff hf (hrun128 ..) rfl fun a hf => ⟨.inr (hw.back (IH.le_refl _) (sc (sc (scc sr)))), ?_⟩
     refine t_ef rfl ?_
     obtain ⟨hg130, hp⟩ := gS hp
     obtain ⟨w, v131, cs134, hrun132, hw, hRR133⟩ := e_makeSlice (P := P) (K := ekS) hw hf (l := .tmp 18) (c := .tmp 18) el_28 ty_9 rfl (by decide) rfl rfl (x := (⟨#[]⟩ : ByteArray)) (fun _ => rfl) hg130
     refine t_eff hf (hrun132 ..) rfl fun a hf => ⟨.inr (hw.back (IH.le_refl _) (sc (sc (sc (scc sr))))), ?_⟩
     have ho136 := row_one hw (i := 2) rfl
     have ho137 := row_one hw (i := 0) rfl
     refine tR rfl hf (fun w hw => r_build hf bd_37 (vs := [v110, v131, Value.bool true]) rfl ⟨ho136, ho137, rfl, trivial⟩ (by decide) (out := [v110, v131, Value.bool true]) rfl) rfl fun a hf => t_ef rfl ?_
     obtain ⟨w, hrun138, hw⟩ := e_store (P := P) hw hf (x := .tmp 3) (y := .tmp 20) rfl rfl ty_37 1 rfl (vs := [v110, v131, Value.bool true]) rfl rfl (oC (row_one hw (i := 2) rfl) (oC (row_one hw (i := 0) rfl) (oC rfl ones_nil))) (by simp [arrC_len]) (cs' := [v110, v131, Value.bool true]) rfl
     replace hw : Ok E I (.row v131 9 1 (((a0.length : Int)).toNat) cs134 :: .blk b127 (.cells ⟨[v110, v131, .bool true]⟩ 37 (0, 0)) :: .row v110 32 6 (((a0.length : Int)).toNat) cs113 :: .blk b1 (.cells ⟨[.slice none 0 0, .slice none 0 0, .bool false]⟩ 37 (0, 0)) :: F) w := hw
     refine t_effU (hrun138 ..) ⟨.inl rfl, ?_⟩
     refine t_done <| ct ?_
     have ho := oI hp
     subst ho
     replace hw : Ok E I (.blk b1 (.cells ⟨[.slice none 0 0, .slice none 0 0, .bool false]⟩ 37 (0, 0)) :: .row v131 9 1 (((a0.length : Int)).toNat) cs134 :: .blk b127 (.cells ⟨[v110, v131, .bool true]⟩ 37 (0, 0)) :: .row v110 32 6 (((a0.length : Int)).toNat) cs113 :: F) w := hw.front (i := 3) rfl
     replace hw : Ok E I (.row v110 32 6 (((a0.length : Int)).toNat) cs113 :: .blk b1 (.cells ⟨[.slice none 0 0, .slice none 0 0, .bool false]⟩ 37 (0, 0)) :: .row v131 9 1 (((a0.length : Int)).toNat) cs134 :: .blk b127 (.cells ⟨[v110, v131, .bool true]⟩ 37 (0, 0)) :: F) w := hw.front (i := 3) rfl
     replace hw : Ok E I (.row v131 9 1 (((a0.length : Int)).toNat) cs134 :: .row v110 32 6 (((a0.length : Int)).toNat) cs113 :: .blk b1 (.cells ⟨[.slice none 0 0, .slice none 0 0, .bool false]⟩ 37 (0, 0)) :: .blk b127 (.cells ⟨[v110, v131, .bool true]⟩ 37 (0, 0)) :: F) w := hw.front (i := 2) rfl
     replace hw : Ok E I (.blk b127 (.cells ⟨[v110, v131, .bool true]⟩ 37 (0, 0)) :: .row v131 9 1 (((a0.length : Int)).toNat) cs134 :: .row v110 32 6 (((a0.length : Int)).toNat) cs113 :: .blk b1 (.cells ⟨[.slice none 0 0, .slice none 0 0, .bool false]⟩ 37 (0, 0)) :: F) w := hw.front (i := 3) rfl
     exact ⟨b127, v131, cs134, v110, cs113, rfl, hw, hf.to ⟨rfl, rfl, rfl, trivial⟩, hRR133, hRR112⟩
   ·obtain ⟨hg139, hp⟩ := gS hp
    obtain ⟨w, v140, cs143, hrun141, hw, hRR142⟩ := e_makeSlice (P := P) (K := ekS) hw hf (l := .tmp 18) (c := .tmp 18) el_28 ty_9 rfl (by decide) rfl rfl (x := (⟨#[]⟩ : ByteArray)) (fun _ => rfl) hg139
    refine t_eff hf (hrun141 ..) rfl fun a hf => ⟨.inr (hw.back (IH.le_refl _) (sc (scc sr))), ?_⟩
    refine t_ef2 rfl rfl ?_ ?_
    ·obtain ⟨hg145, hp⟩ := gS hp
     obtain ⟨w, v146, cs149, hrun147, hw, hRR148⟩ := e_makeSlice (P := P) (K := ek_Item) hw hf (l := .tmp 15) (c := .tmp 15) el_35 ty_32 rfl (by decide) rfl rfl (x := (⟨0, (⟨#[]⟩ : ByteArray), false, (⟨#[]⟩ : ByteArray), 0, ([] : List ByteArray)⟩ : Item)) (fun _ => ⟨_, rfl, RS.nil⟩) hg145
     refine t_eff hf (hrun147 ..) rfl fun a hf => ⟨.inr (hw.back (IH.le_refl _) (sc (sc (scc sr)))), ?_⟩
     have ho151 := row_one hw (i := 0) rfl
     have ho152 := row_one hw (i := 1) rfl
     refine tR rfl hf (fun w hw => r_build hf bd_37 (vs := [v146, v140, Value.bool true]) rfl ⟨ho151, ho152, rfl, trivial⟩ (by decide) (out := [v146, v140, Value.bool true]) rfl) rfl fun a hf => t_ef rfl ?_
     obtain ⟨b153, w, hrun154, hw⟩ := e_alloc (P := P) (a := a) hw ty_37
     replace hw : Ok E I (.blk b153 (.cells ⟨[.slice none 0 0, .slice none 0 0, .bool false]⟩ 37 (0, 0)) :: .row v146 32 6 (((a0.length : Int)).toNat) cs149 :: .row v140 9 1 (((a0.length : Int)).toNat) cs143 :: .blk b1 (.cells ⟨[.slice none 0 0, .slice none 0 0, .bool false]⟩ 37 (0, 0)) :: F) w := hw
     refine t_eff hf (hrun154 ..) rfl fun a hf => ⟨.inr (hw.back (IH.le_refl _) (sc (sc (sc (scc sr))))), ?_⟩
     refine t_ef rfl ?_
     obtain ⟨w, hrun156, hw⟩ := e_store (P := P) hw hf (x := .tmp 3) (y := .tmp 20) rfl rfl ty_37 0 rfl (vs := [v146, v140, Value.bool true]) rfl rfl (oC (row_one hw (i := 1) rfl) (oC (row_one hw (i := 2) rfl) (oC rfl ones_nil))) (by simp [arrC_len]) (cs' := [v146, v140, Value.bool true]) rfl
     replace hw : Ok E I (.blk b153 (.cells ⟨[v146, v140, .bool true]⟩ 37 (0, 0)) :: .row v146 32 6 (((a0.length : Int)).toNat) cs149 :: .row v140 9 1 (((a0.length : Int)).toNat) cs143 :: .blk b1 (.cells ⟨[.slice none 0 0, .slice none 0 0, .bool false]⟩ 37 (0, 0)) :: F) w := hw
     refine t_effU (hrun156 ..) ⟨.inl rfl, ?_⟩
     refine t_done <| ct ?_
     have ho := oI hp
     subst ho
     replace hw : Ok E I (.blk b1 (.cells ⟨[.slice none 0 0, .slice none 0 0, .bool false]⟩ 37 (0, 0)) :: .blk b153 (.cells ⟨[v146, v140, .bool true]⟩ 37 (0, 0)) :: .row v146 32 6 (((a0.length : Int)).toNat) cs149 :: .row v140 9 1 (((a0.length : Int)).toNat) cs143 :: F) w := hw.front (i := 3) rfl
     replace hw : Ok E I (.row v146 32 6 (((a0.length : Int)).toNat) cs149 :: .blk b1 (.cells ⟨[.slice none 0 0, .slice none 0 0, .bool false]⟩ 37 (0, 0)) :: .blk b153 (.cells ⟨[v146, v140, .bool true]⟩ 37 (0, 0)) :: .row v140 9 1 (((a0.length : Int)).toNat) cs143 :: F) w := hw.front (i := 2) rfl
     replace hw : Ok E I (.row v140 9 1 (((a0.length : Int)).toNat) cs143 :: .row v146 32 6 (((a0.length : Int)).toNat) cs149 :: .blk b1 (.cells ⟨[.slice none 0 0, .slice none 0 0, .bool false]⟩ 37 (0, 0)) :: .blk b153 (.cells ⟨[v146, v140, .bool true]⟩ 37 (0, 0)) :: F) w := hw.front (i := 3) rfl
     replace hw : Ok E I (.blk b153 (.cells ⟨[v146, v140, .bool true]⟩ 37 (0, 0)) :: .row v140 9 1 (((a0.length : Int)).toNat) cs143 :: .row v146 32 6 (((a0.length : Int)).toNat) cs149 :: .blk b1 (.cells ⟨[.slice none 0 0, .slice none 0 0, .bool false]⟩ 37 (0, 0)) :: F) w := hw.front (i := 3) rfl
     exact ⟨b153, v140, cs143, v146, cs149, rfl, hw, hf.to ⟨rfl, rfl, rfl, trivial⟩, hRR142, hRR148⟩
    ·obtain ⟨b157, w, hrun158, hw⟩ := e_alloc (P := P) (a := a) hw ty_37
     replace hw : Ok E I (.blk b157 (.cells ⟨[.slice none 0 0, .slice none 0 0, .bool false]⟩ 37 (0, 0)) :: .row v140 9 1 (((a0.length : Int)).toNat) cs143 :: .blk b1 (.cells ⟨[.slice none 0 0, .slice none 0 0, .bool false]⟩ 37 (0, 0)) :: F) w := hw
     refine t_eff hf (hrun158 ..) rfl fun a hf => ⟨.inr (hw.back (IH.le_refl _) (sc (sc (scc sr)))), ?_⟩
     refine t_ef rfl ?_
     obtain ⟨hg160, hp⟩ := gS hp
     obtain ⟨w, v161, cs164, hrun162, hw, hRR163⟩ := e_makeSlice (P := P) (K := ek_Item) hw hf (l := .tmp 15) (c := .tmp 15) el_35 ty_32 rfl (by decide) rfl rfl (x := (⟨0, (⟨#[]⟩ : ByteArray), false, (⟨#[]⟩ : ByteArray), 0, ([] : List ByteArray)⟩ : Item)) (fun _ => ⟨_, rfl, RS.nil⟩) hg160
     refine t_eff hf (hrun162 ..) rfl fun a hf => ⟨.inr (hw.back (IH.le_refl _) (sc (sc (sc (scc sr))))), ?_⟩
     have ho166 := row_one hw (i := 0) rfl
     have ho167 := row_one hw (i := 2) rfl
     refine tR rfl hf (fun w hw => r_build hf bd_37 (vs := [v161, v140, Value.bool true]) rfl ⟨ho166, ho167, rfl, trivial⟩ (by decide) (out := [v161, v140, Value.bool true]) rfl) rfl fun a hf => t_ef rfl ?_
     obtain ⟨w, hrun168, hw⟩ := e_store (P := P) hw hf (x := .tmp 3) (y := .tmp 20) rfl rfl ty_37 1 rfl (vs := [v161, v140, Value.bool true]) rfl rfl (oC (row_one hw (i := 0) rfl) (oC (row_one hw (i := 2) rfl) (oC rfl ones_nil))) (by simp [arrC_len]) (cs' := [v161, v140, Value.bool true]) rfl
     replace hw : Ok E I (.row v161 32 6 (((a0.length : Int)).toNat) cs164 :: .blk b157 (.cells ⟨[v161, v140, .bool true]⟩ 37 (0, 0)) :: .row v140 9 1 (((a0.length : Int)).toNat) cs143 :: .blk b1 (.cells ⟨[.slice none 0 0, .slice none 0 0, .bool false]⟩ 37 (0, 0)) :: F) w := hw
     refine t_effU (hrun168 ..) ⟨.inl rfl, ?_⟩
     refine t_done <| ct ?_
     have ho := oI hp
     subst ho
     replace hw : Ok E I (.blk b1 (.cells ⟨[.slice none 0 0, .slice none 0 0, .bool false]⟩ 37 (0, 0)) :: .row v161 32 6 (((a0.length : Int)).toNat) cs164 :: .blk b157 (.cells ⟨[v161, v140, .bool true]⟩ 37 (0, 0)) :: .row v140 9 1 (((a0.length : Int)).toNat) cs143 :: F) w := hw.front (i := 3) rfl
     replace hw : Ok E I (.row v161 32 6 (((a0.length : Int)).toNat) cs164 :: .blk b1 (.cells ⟨[.slice none 0 0, .slice none 0 0, .bool false]⟩ 37 (0, 0)) :: .blk b157 (.cells ⟨[v161, v140, .bool true]⟩ 37 (0, 0)) :: .row v140 9 1 (((a0.length : Int)).toNat) cs143 :: F) w := hw.front (i := 1) rfl
     replace hw : Ok E I (.row v140 9 1 (((a0.length : Int)).toNat) cs143 :: .row v161 32 6 (((a0.length : Int)).toNat) cs164 :: .blk b1 (.cells ⟨[.slice none 0 0, .slice none 0 0, .bool false]⟩ 37 (0, 0)) :: .blk b157 (.cells ⟨[v161, v140, .bool true]⟩ 37 (0, 0)) :: F) w := hw.front (i := 3) rfl
     replace hw : Ok E I (.blk b157 (.cells ⟨[v161, v140, .bool true]⟩ 37 (0, 0)) :: .row v140 9 1 (((a0.length : Int)).toNat) cs143 :: .row v161 32 6 (((a0.length : Int)).toNat) cs164 :: .blk b1 (.cells ⟨[.slice none 0 0, .slice none 0 0, .bool false]⟩ 37 (0, 0)) :: F) w := hw.front (i := 3) rfl
     exact ⟨b157, v140, cs143, v161, cs164, rfl, hw, hf.to ⟨rfl, rfl, rfl, trivial⟩, hRR142, hRR163⟩
   ·obtain ⟨b169, w, hrun170, hw⟩ := e_alloc (P := P) (a := a) hw ty_37
    replace hw : Ok E I (.blk b169 (.cells ⟨[.slice none 0 0, .slice none 0 0, .bool false]⟩ 37 (0, 0)) :: .blk b1 (.cells ⟨[.slice none 0 0, .slice none 0 0, .bool false]⟩ 37 (0, 0)) :: F) w := hw
    refine t_eff hf (hrun170 ..) rfl fun a hf => ⟨.inr (hw.back (IH.le_refl _) (sc (scc sr))), ?_⟩
    refine t_ef2 rfl rfl ?_ ?_
    ·obtain ⟨hg172, hp⟩ := gS hp
     obtain ⟨w, v173, cs176, hrun174, hw, hRR175⟩ := e_makeSlice (P := P) (K := ek_Item) hw hf (l := .tmp 15) (c := .tmp 15) el_35 ty_32 rfl (by decide) rfl rfl (x := (⟨0, (⟨#[]⟩ : ByteArray), false, (⟨#[]⟩ : ByteArray), 0, ([] : List ByteArray)⟩ : Item)) (fun _ => ⟨_, rfl, RS.nil⟩) hg172
     refine t_eff hf (hrun174 ..) rfl fun a hf => ⟨.inr (hw.back (IH.le_refl _) (sc (sc (scc sr)))), ?_⟩
     refine t_ef rfl ?_
     obtain ⟨hg178, hp⟩ := gS hp
     obtain ⟨w, v179, cs182, hrun180, hw, hRR181⟩ := e_makeSlice (P := P) (K := ekS) hw hf (l := .tmp 18) (c := .tmp 18) el_28 ty_9 rfl (by decide) rfl rfl (x := (⟨#[]⟩ : ByteArray)) (fun _ => rfl) hg178
     refine t_eff hf (hrun180 ..) rfl fun a hf => ⟨.inr (hw.back (IH.le_refl _) (sc (sc (sc (scc sr))))), ?_⟩
     have ho184 := row_one hw (i := 1) rfl
     have ho185 := row_one hw (i := 0) rfl
     refine tR rfl hf (fun w hw => r_build hf bd_37 (vs := [v173, v179, Value.bool true]) rfl ⟨ho184, ho185, rfl, trivial⟩ (by decide) (out := [v173, v179, Value.bool true]) rfl) rfl fun a hf => t_ef rfl ?_
     obtain ⟨w, hrun186, hw⟩ := e_store (P := P) hw hf (x := .tmp 3) (y := .tmp 20) rfl rfl ty_37 2 rfl (vs := [v173, v179, Value.bool true]) rfl rfl (oC (row_one hw (i := 1) rfl) (oC (row_one hw (i := 0) rfl) (oC rfl ones_nil))) (by simp [arrC_len]) (cs' := [v173, v179, Value.bool true]) rfl
     replace hw : Ok E I (.row v179 9 1 (((a0.length : Int)).toNat) cs182 :: .row v173 32 6 (((a0.length : Int)).toNat) cs176 :: .blk b169 (.cells ⟨[v173, v179, .bool true]⟩ 37 (0, 0)) :: .blk b1 (.cells ⟨[.slice none 0 0, .slice none 0 0, .bool false]⟩ 37 (0, 0)) :: F) w := hw
     refine t_effU (hrun186 ..) ⟨.inl rfl, ?_⟩
     refine t_done <| ct ?_
     have ho := oI hp
     subst ho
     replace hw : Ok E I (.blk b1 (.cells ⟨[.slice none 0 0, .slice none 0 0, .bool false]⟩ 37 (0, 0)) :: .row v179 9 1 (((a0.length : Int)).toNat) cs182 :: .row v173 32 6 (((a0.length : Int)).toNat) cs176 :: .blk b169 (.cells ⟨[v173, v179, .bool true]⟩ 37 (0, 0)) :: F) w := hw.front (i := 3) rfl
     replace hw : Ok E I (.row v173 32 6 (((a0.length : Int)).toNat) cs176 :: .blk b1 (.cells ⟨[.slice none 0 0, .slice none 0 0, .bool false]⟩ 37 (0, 0)) :: .row v179 9 1 (((a0.length : Int)).toNat) cs182 :: .blk b169 (.cells ⟨[v173, v179, .bool true]⟩ 37 (0, 0)) :: F) w := hw.front (i := 2) rfl
     replace hw : Ok E I (.row v179 9 1 (((a0.length : Int)).toNat) cs182 :: .row v173 32 6 (((a0.length : Int)).toNat) cs176 :: .blk b1 (.cells ⟨[.slice none 0 0, .slice none 0 0, .bool false]⟩ 37 (0, 0)) :: .blk b169 (.cells ⟨[v173, v179, .bool true]⟩ 37 (0, 0)) :: F) w := hw.front (i := 2) rfl
     replace hw : Ok E I (.blk b169 (.cells ⟨[v173, v179, .bool true]⟩ 37 (0, 0)) :: .row v179 9 1 (((a0.length : Int)).toNat) cs182 :: .row v173 32 6 (((a0.length : Int)).toNat) cs176 :: .blk b1 (.cells ⟨[.slice none 0 0, .slice none 0 0, .bool false]⟩ 37 (0, 0)) :: F) w := hw.front (i := 3) rfl
     exact ⟨b169, v179, cs182, v173, cs176, rfl, hw, hf.to ⟨rfl, rfl, rfl, trivial⟩, hRR181, hRR175⟩
    ·obtain ⟨hg187, hp⟩ := gS hp
     obtain ⟨w, v188, cs191, hrun189, hw, hRR190⟩ := e_makeSlice (P := P) (K := ekS) hw hf (l := .tmp 18) (c := .tmp 18) el_28 ty_9 rfl (by decide) rfl rfl (x := (⟨#[]⟩ : ByteArray)) (fun _ => rfl) hg187
     refine t_eff hf (hrun189 ..) rfl fun a hf => ⟨.inr (hw.back (IH.le_refl _) (sc (sc (scc sr)))), ?_⟩
     refine t_ef rfl ?_
     obtain ⟨hg193, hp⟩ := gS hp
     obtain ⟨w, v194, cs197, hrun195, hw, hRR196⟩ := e_makeSlice (P := P) (K := ek_Item) hw hf (l := .tmp 15) (c := .tmp 15) el_35 ty_32 rfl (by decide) rfl rfl (x := (⟨0, (⟨#[]⟩ : ByteArray), false, (⟨#[]⟩ : ByteArray), 0, ([] : List ByteArray)⟩ : Item)) (fun _ => ⟨_, rfl, RS.nil⟩) hg193
     refine t_eff hf (hrun195 ..) rfl fun a hf => ⟨.inr (hw.back (IH.le_refl _) (sc (sc (sc (scc sr))))), ?_⟩
     have ho199 := row_one hw (i := 0) rfl
     have ho200 := row_one hw (i := 1) rfl
     refine tR rfl hf (fun w hw => r_build hf bd_37 (vs := [v194, v188, Value.bool true]) rfl ⟨ho199, ho200, rfl, trivial⟩ (by decide) (out := [v194, v188, Value.bool true]) rfl) rfl fun a hf => t_ef rfl ?_
     obtain ⟨w, hrun201, hw⟩ := e_store (P := P) hw hf (x := .tmp 3) (y := .tmp 20) rfl rfl ty_37 2 rfl (vs := [v194, v188, Value.bool true]) rfl rfl (oC (row_one hw (i := 0) rfl) (oC (row_one hw (i := 1) rfl) (oC rfl ones_nil))) (by simp [arrC_len]) (cs' := [v194, v188, Value.bool true]) rfl
     replace hw : Ok E I (.row v194 32 6 (((a0.length : Int)).toNat) cs197 :: .row v188 9 1 (((a0.length : Int)).toNat) cs191 :: .blk b169 (.cells ⟨[v194, v188, .bool true]⟩ 37 (0, 0)) :: .blk b1 (.cells ⟨[.slice none 0 0, .slice none 0 0, .bool false]⟩ 37 (0, 0)) :: F) w := hw
     refine t_effU (hrun201 ..) ⟨.inl rfl, ?_⟩
     refine t_done <| ct ?_
     have ho := oI hp
     subst ho
     replace hw : Ok E I (.blk b1 (.cells ⟨[.slice none 0 0, .slice none 0 0, .bool false]⟩ 37 (0, 0)) :: .row v194 32 6 (((a0.length : Int)).toNat) cs197 :: .row v188 9 1 (((a0.length : Int)).toNat) cs191 :: .blk b169 (.cells ⟨[v194, v188, .bool true]⟩ 37 (0, 0)) :: F) w := hw.front (i := 3) rfl
     replace hw : Ok E I (.row v194 32 6 (((a0.length : Int)).toNat) cs197 :: .blk b1 (.cells ⟨[.slice none 0 0, .slice none 0 0, .bool false]⟩ 37 (0, 0)) :: .row v188 9 1 (((a0.length : Int)).toNat) cs191 :: .blk b169 (.cells ⟨[v194, v188, .bool true]⟩ 37 (0, 0)) :: F) w := hw.front (i := 1) rfl
     replace hw : Ok E I (.row v188 9 1 (((a0.length : Int)).toNat) cs191 :: .row v194 32 6 (((a0.length : Int)).toNat) cs197 :: .blk b1 (.cells ⟨[.slice none 0 0, .slice none 0 0, .bool false]⟩ 37 (0, 0)) :: .blk b169 (.cells ⟨[v194, v188, .bool true]⟩ 37 (0, 0)) :: F) w := hw.front (i := 2) rfl
     replace hw : Ok E I (.blk b169 (.cells ⟨[v194, v188, .bool true]⟩ 37 (0, 0)) :: .row v188 9 1 (((a0.length : Int)).toNat) cs191 :: .row v194 32 6 (((a0.length : Int)).toNat) cs197 :: .blk b1 (.cells ⟨[.slice none 0 0, .slice none 0 0, .bool false]⟩ 37 (0, 0)) :: F) w := hw.front (i := 3) rfl
     exact ⟨b169, v188, cs191, v194, cs197, rfl, hw, hf.to ⟨rfl, rfl, rfl, trivial⟩, hRR190, hRR196⟩
  ·intro a w hM
   obtain ⟨b27, v20, cs23, v14, cs17, rfl, hw, hf, hRR22, hRR16⟩ := hM
   replace hp := hq107
   refine ct <| wq <| wr ?_
   obtain ⟨y288, hy289, hp⟩ := bS hp
   have hc291 := ref04_Start_ok hw hG hy289
   refine o_call hf cb_44 rfl rfl hc291 (fun v293 w a hK292 hf => ?_)
   obtain ⟨rfl, hw⟩ := hK292
   obtain ⟨y458, hy459, hp⟩ := bS hp
   have hc461 := ref04_Constants_ok hw hG hy459
   refine o_call hf cb_45 rfl rfl hc461 (fun v463 w a hK462 hf => ?_)
   obtain ⟨rfl, hw⟩ := hK462
   obtain ⟨b464, w, hrun465, hw⟩ := e_alloc (P := P) (a := a) hw ty_81
   replace hw : Ok E I (.blk b464 (.cells ⟨arrC .u32 (Vector.replicate 8 0 : Vector Int 8)⟩ 81 (0, 0)) :: .blk b27 (.cells ⟨[v14, v20, .bool true]⟩ 37 (0, 0)) :: .row v20 9 1 (((a0.length : Int)).toNat) cs23 :: .row v14 32 6 (((a0.length : Int)).toNat) cs17 :: .blk b1 (.cells ⟨[.slice none 0 0, .slice none 0 0, .bool false]⟩ 37 (0, 0)) :: F) w := hw
   refine o_eff hf (hrun465 ..) rfl fun a hf => ?_
   obtain ⟨b467, w, hrun468, hw⟩ := e_alloc (P := P) (a := a) hw ty_83
   replace hw : Ok E I (.blk b467 (.cells ⟨arrC .u32 (Vector.replicate 64 0 : Vector Int 64)⟩ 83 (0, 0)) :: .blk b464 (.cells ⟨arrC .u32 (Vector.replicate 8 0 : Vector Int 8)⟩ 81 (0, 0)) :: .blk b27 (.cells ⟨[v14, v20, .bool true]⟩ 37 (0, 0)) :: .row v20 9 1 (((a0.length : Int)).toNat) cs23 :: .row v14 32 6 (((a0.length : Int)).toNat) cs17 :: .blk b1 (.cells ⟨[.slice none 0 0, .slice none 0 0, .bool false]⟩ 37 (0, 0)) :: F) w := hw
   refine o_eff hf (hrun468 ..) rfl fun a hf => ?_
   obtain ⟨w, hrun470, hw⟩ := e_store (P := P) hw hf (x := .tmp 4) (y := .tmp 21) rfl rfl ty_81 1 rfl (vs := (arrC .u32 y288)) rfl (by simp [arrC_len]) (arrC_one _ _) (by simp [arrC_len]) (cs' := (arrC .u32 y288)) (by simp [arrC_len])
   replace hw : Ok E I (.blk b467 (.cells ⟨arrC .u32 (Vector.replicate 64 0 : Vector Int 64)⟩ 83 (0, 0)) :: .blk b464 (.cells ⟨arrC .u32 y288⟩ 81 (0, 0)) :: .blk b27 (.cells ⟨[v14, v20, .bool true]⟩ 37 (0, 0)) :: .row v20 9 1 (((a0.length : Int)).toNat) cs23 :: .row v14 32 6 (((a0.length : Int)).toNat) cs17 :: .blk b1 (.cells ⟨[.slice none 0 0, .slice none 0 0, .bool false]⟩ 37 (0, 0)) :: F) w := hw
   refine o_effU (hrun470 ..) ?_
   obtain ⟨w, hrun471, hw⟩ := e_store (P := P) hw hf (x := .tmp 5) (y := .tmp 22) rfl rfl ty_83 0 rfl (vs := (arrC .u32 y458)) rfl (by simp [arrC_len]) (arrC_one _ _) (by simp [arrC_len]) (cs' := (arrC .u32 y458)) (by simp [arrC_len])
   replace hw : Ok E I (.blk b467 (.cells ⟨arrC .u32 y458⟩ 83 (0, 0)) :: .blk b464 (.cells ⟨arrC .u32 y288⟩ 81 (0, 0)) :: .blk b27 (.cells ⟨[v14, v20, .bool true]⟩ 37 (0, 0)) :: .row v20 9 1 (((a0.length : Int)).toNat) cs23 :: .row v14 32 6 (((a0.length : Int)).toNat) cs17 :: .blk b1 (.cells ⟨[.slice none 0 0, .slice none 0 0, .bool false]⟩ 37 (0, 0)) :: F) w := hw
   refine o_effU (hrun471 ..) <| oN <| ct <| wq <| wq <| wr <| om hf rfl rfl fun a hf => oR hf (r_lenL (K := ek_Node) hf el_23 rfl (hR772.rd hw)) rfl fun a hf => oR hf (r_sub hf rfl rfl) rfl fun a hf => oa hf rfl rfl fun a hf => oN <| ct ?_
   obtain ⟨out1885, hp, hq1886⟩ := bS hp
   refine c_cutX (fun a w => ∃ y1875 : List Item, ∃ y1880 : List ByteArray, ∃ I1874 : IH, ∃ yv1876 : Value, ∃ m1877 : Nat, ∃ cs1878 : List Value, ∃ yv1881 : Value, ∃ m1882 : Nat, ∃ cs1883 : List Value, (y1875, y1880) = out1885 ∧ IH.le I I1874 ∧ Ok E I1874 (.blk b467 (.cells ⟨arrC .u32 y458⟩ 83 (0, 0)) :: .blk b464 (.cells ⟨arrC .u32 y288⟩ 81 (0, 0)) :: .blk b27 (.cells ⟨[yv1876, yv1881, .bool true]⟩ 37 (0, 0)) :: .row yv1881 9 1 m1882 cs1883 :: .row yv1876 32 6 m1877 cs1878 :: .blk b1 (.cells ⟨[.slice none 0 0, .slice none 0 0, .bool false]⟩ 37 (0, 0)) :: F) w ∧ Fr 87 ([(2, .pointer (some ⟨b1, 0, none⟩)), (3, .pointer (some ⟨b27, 0, none⟩))]) a ∧ RowR ek_Item I1874 cs1878 y1875 ∧ RowR ekS I1874 cs1883 y1880) ?_ ?_
   ·refine wp_block <| c_loop <| c_fuel (ref11_Of.l0 a0 y288 y458) out1885 (fun (y1448, y1453, y1458) a w => ∃ I1447 : IH, ∃ yv1449 : Value, ∃ m1450 : Nat, ∃ cs1451 : List Value, ∃ yv1454 : Value, ∃ m1455 : Nat, ∃ cs1456 : List Value, IH.le I I1447 ∧ Ok E I1447 (.blk b467 (.cells ⟨arrC .u32 y458⟩ 83 (0, 0)) :: .blk b464 (.cells ⟨arrC .u32 y288⟩ 81 (0, 0)) :: .blk b27 (.cells ⟨[yv1449, yv1454, .bool true]⟩ 37 (0, 0)) :: .row yv1454 9 1 m1455 cs1456 :: .row yv1449 32 6 m1450 cs1451 :: .blk b1 (.cells ⟨[.slice none 0 0, .slice none 0 0, .bool false]⟩ 37 (0, 0)) :: F) w ∧ Fr 87 ([(0, a0v771), (2, .pointer (some ⟨b1, 0, none⟩)), (3, .pointer (some ⟨b27, 0, none⟩)), (4, .pointer (some ⟨b464, 0, none⟩)), (5, .pointer (some ⟨b467, 0, none⟩)), (6, .int .i64 y1458)]) a ∧ RowR ek_Item I1447 cs1451 y1448 ∧ RowR ekS I1447 cs1456 y1453) (fun _ => rfl) ?_ BIG (List.replicate (a0.length : Int).toNat (⟨0, (⟨#[]⟩ : ByteArray), false, (⟨#[]⟩ : ByteArray), 0, ([] : List ByteArray)⟩ : Item), List.replicate (a0.length : Int).toNat (⟨#[]⟩ : ByteArray), w64 ((a0.length : Int) - 1)) _ _ ⟨I, v14, (((a0.length : Int)).toNat), cs17, v20, (((a0.length : Int)).toNat), cs23, (IH.le_refl _), hw, hf.to ⟨rfl, rfl, rfl, rfl, rfl, rfl, trivial⟩, hRR16, hRR22⟩ hp
    intro k st a w hI hp ih
    obtain ⟨y1448, y1453, y1458⟩ := st
    obtain ⟨I1447, yv1449, m1450, cs1451, yv1454, m1455, cs1456, hle1887, hw, hf, hRR1452, hRR1457⟩ := hI
    rw [ref11_Of.l0] at hp
    replace hG := hG.mono hle1887
    replace hR772 := hR772.mono hle1887
    refine wq <| wq <| wr <| om hf rfl rfl fun a hf => oR hf (iC hf rfl rfl rfl) rfl fun a hf => oN <| ct <| cC hf rfl (fun hb1888 => ?_) (fun hb1888 => ?_)
    ·replace hp := cond_t hb1888 hp
     refine wp_skip <| ct <| wq <| wp_block <| wq <| wr <| om hf rfl rfl fun a hf => om hf rfl rfl fun a hf => ?_
     obtain ⟨hg1889, hp⟩ := gS hp
     refine oR hf (rI (K := ek_Node) hf el_23 rfl rfl (hR772.rd hw) hg1889) rfl fun a hf => oR hf (r_loadHP (K := ek_Node) hf rfl ty_55 (hR772.rd hw) hg1889 rfl (vs := (Value.int .i64 ((gt a0 y1458).kind_) :: Value.string ((gt a0 y1458).path_) :: Value.bool ((gt a0 y1458).has_) :: Value.string ((gt a0 y1458).value_) :: arrC .i64 ((gt a0 y1458).kids_))) (fun cs h => Node_all h) (by simp [arrC_len])) rfl fun a hf => ?_
     obtain ⟨b1890, w, hrun1891, hw⟩ := e_alloc (P := P) (a := a) hw ty_55
     replace hw : Ok E I1447 (.blk b1890 (.cells ⟨.int .i64 0 :: .string (⟨#[]⟩ : ByteArray) :: .bool false :: .string (⟨#[]⟩ : ByteArray) :: arrC .i64 (Vector.replicate 16 0 : Vector Int 16)⟩ 55 (0, 0)) :: .blk b467 (.cells ⟨arrC .u32 y458⟩ 83 (0, 0)) :: .blk b464 (.cells ⟨arrC .u32 y288⟩ 81 (0, 0)) :: .blk b27 (.cells ⟨[yv1449, yv1454, .bool true]⟩ 37 (0, 0)) :: .row yv1454 9 1 m1455 cs1456 :: .row yv1449 32 6 m1450 cs1451 :: .blk b1 (.cells ⟨[.slice none 0 0, .slice none 0 0, .bool false]⟩ 37 (0, 0)) :: F) w := hw
     refine o_eff hf (hrun1891 ..) rfl fun a hf => ?_
     obtain ⟨w, hrun1893, hw⟩ := e_store (P := P) hw hf (x := .tmp 7) (y := .tmp 33) rfl rfl ty_55 0 rfl (vs := (Value.int .i64 ((gt a0 y1458).kind_) :: Value.string ((gt a0 y1458).path_) :: Value.bool ((gt a0 y1458).has_) :: Value.string ((gt a0 y1458).value_) :: arrC .i64 ((gt a0 y1458).kids_))) rfl (by simp [arrC_len]) (oC rfl (oC rfl (oC rfl (oC rfl (arrC_one _ _))))) (by simp [arrC_len]) (cs' := (Value.int .i64 ((gt a0 y1458).kind_) :: Value.string ((gt a0 y1458).path_) :: Value.bool ((gt a0 y1458).has_) :: Value.string ((gt a0 y1458).value_) :: arrC .i64 ((gt a0 y1458).kids_))) (by simp [arrC_len])
     replace hw : Ok E I1447 (.blk b1890 (.cells ⟨.int .i64 ((gt a0 y1458).kind_) :: .string ((gt a0 y1458).path_) :: .bool ((gt a0 y1458).has_) :: .string ((gt a0 y1458).value_) :: arrC .i64 ((gt a0 y1458).kids_)⟩ 55 (0, 0)) :: .blk b467 (.cells ⟨arrC .u32 y458⟩ 83 (0, 0)) :: .blk b464 (.cells ⟨arrC .u32 y288⟩ 81 (0, 0)) :: .blk b27 (.cells ⟨[yv1449, yv1454, .bool true]⟩ 37 (0, 0)) :: .row yv1454 9 1 m1455 cs1456 :: .row yv1449 32 6 m1450 cs1451 :: .blk b1 (.cells ⟨[.slice none 0 0, .slice none 0 0, .bool false]⟩ 37 (0, 0)) :: F) w := hw
     refine o_effU (hrun1893 ..) <| oN <| ct <| wq <| wr <| oR hf (rF hf rfl fd_55_0) rfl fun a hf => oR hf (rL hw hf rfl ty_3 0 rfl rfl) rfl fun a hf => oR hf (rF hf rfl fd_55_1) rfl fun a hf => oR hf (rL hw hf rfl ty_9 0 rfl rfl) rfl fun a hf => oR hf (rF hf rfl fd_55_2) rfl fun a hf => oR hf (rL hw hf rfl ty_4 0 rfl rfl) rfl fun a hf => oR hf (rF hf rfl fd_55_3) rfl fun a hf => oR hf (rL hw hf rfl ty_9 0 rfl rfl) rfl fun a hf => oR hf (r_build hf bd_32 (vs := [Value.int .i64 ((gt a0 y1458).kind_), Value.string ((gt a0 y1458).path_), Value.bool ((gt a0 y1458).has_), Value.string ((gt a0 y1458).value_)]) rfl ⟨rfl, rfl, rfl, rfl, trivial⟩ (by decide) (out := [Value.int .i64 ((gt a0 y1458).kind_), Value.string ((gt a0 y1458).path_), Value.bool ((gt a0 y1458).has_), Value.string ((gt a0 y1458).value_), Value.int .i64 0, Value.slice none 0 0]) rfl) rfl fun a hf => ?_
     obtain ⟨b1894, w, hrun1895, hw⟩ := e_alloc (P := P) (a := a) hw ty_32
     replace hw : Ok E I1447 (.blk b1894 (.cells ⟨[.int .i64 0, .string (⟨#[]⟩ : ByteArray), .bool false, .string (⟨#[]⟩ : ByteArray), .int .i64 0, .slice none 0 0]⟩ 32 (0, 0)) :: .blk b1890 (.cells ⟨.int .i64 ((gt a0 y1458).kind_) :: .string ((gt a0 y1458).path_) :: .bool ((gt a0 y1458).has_) :: .string ((gt a0 y1458).value_) :: arrC .i64 ((gt a0 y1458).kids_)⟩ 55 (0, 0)) :: .blk b467 (.cells ⟨arrC .u32 y458⟩ 83 (0, 0)) :: .blk b464 (.cells ⟨arrC .u32 y288⟩ 81 (0, 0)) :: .blk b27 (.cells ⟨[yv1449, yv1454, .bool true]⟩ 37 (0, 0)) :: .row yv1454 9 1 m1455 cs1456 :: .row yv1449 32 6 m1450 cs1451 :: .blk b1 (.cells ⟨[.slice none 0 0, .slice none 0 0, .bool false]⟩ 37 (0, 0)) :: F) w := hw
     refine o_eff hf (hrun1895 ..) rfl fun a hf => ?_
     obtain ⟨w, hrun1897, hw⟩ := e_store (P := P) hw hf (x := .tmp 8) (y := .tmp 42) rfl rfl ty_32 0 rfl (vs := [Value.int .i64 ((gt a0 y1458).kind_), Value.string ((gt a0 y1458).path_), Value.bool ((gt a0 y1458).has_), Value.string ((gt a0 y1458).value_), Value.int .i64 0, Value.slice none 0 0]) rfl rfl (oC rfl (oC rfl (oC rfl (oC rfl (oC rfl (oC rfl ones_nil)))))) (by simp [arrC_len]) (cs' := [Value.int .i64 ((gt a0 y1458).kind_), Value.string ((gt a0 y1458).path_), Value.bool ((gt a0 y1458).has_), Value.string ((gt a0 y1458).value_), Value.int .i64 0, Value.slice none 0 0]) rfl
     replace hw : Ok E I1447 (.blk b1894 (.cells ⟨[.int .i64 ((gt a0 y1458).kind_), .string ((gt a0 y1458).path_), .bool ((gt a0 y1458).has_), .string ((gt a0 y1458).value_), .int .i64 0, .slice none 0 0]⟩ 32 (0, 0)) :: .blk b1890 (.cells ⟨.int .i64 ((gt a0 y1458).kind_) :: .string ((gt a0 y1458).path_) :: .bool ((gt a0 y1458).has_) :: .string ((gt a0 y1458).value_) :: arrC .i64 ((gt a0 y1458).kids_)⟩ 55 (0, 0)) :: .blk b467 (.cells ⟨arrC .u32 y458⟩ 83 (0, 0)) :: .blk b464 (.cells ⟨arrC .u32 y288⟩ 81 (0, 0)) :: .blk b27 (.cells ⟨[yv1449, yv1454, .bool true]⟩ 37 (0, 0)) :: .row yv1454 9 1 m1455 cs1456 :: .row yv1449 32 6 m1450 cs1451 :: .blk b1 (.cells ⟨[.slice none 0 0, .slice none 0 0, .bool false]⟩ 37 (0, 0)) :: F) w := hw
     refine o_effU (hrun1897 ..) <| oN <| ct <| wq <| wq <| wr <| oa hf rfl rfl fun a hf => oN <| ct ?_
     replace hw := hw.nilrow 9 1
     have hRR1990 : RowR ekS I1447 [] [] := RowR.nil
     obtain ⟨out2209, hp, hq2210⟩ := bS hp
     refine c_cutX (fun a w => ∃ y2203 : List ByteArray, ∃ y2208 : Int, ∃ yv2204 : Value, ∃ m2205 : Nat, ∃ cs2206 : List Value, (y2203, y2208) = out2209 ∧ Ok E I1447 (.row yv2204 9 1 m2205 cs2206 :: .blk b1894 (.cells ⟨[.int .i64 ((gt a0 y1458).kind_), .string ((gt a0 y1458).path_), .bool ((gt a0 y1458).has_), .string ((gt a0 y1458).value_), .int .i64 y2208, yv2204]⟩ 32 (0, 0)) :: .blk b1890 (.cells ⟨.int .i64 ((gt a0 y1458).kind_) :: .string ((gt a0 y1458).path_) :: .bool ((gt a0 y1458).has_) :: .string ((gt a0 y1458).value_) :: arrC .i64 ((gt a0 y1458).kids_)⟩ 55 (0, 0)) :: .blk b467 (.cells ⟨arrC .u32 y458⟩ 83 (0, 0)) :: .blk b464 (.cells ⟨arrC .u32 y288⟩ 81 (0, 0)) :: .blk b27 (.cells ⟨[yv1449, yv1454, .bool true]⟩ 37 (0, 0)) :: .row yv1454 9 1 m1455 cs1456 :: .row yv1449 32 6 m1450 cs1451 :: .blk b1 (.cells ⟨[.slice none 0 0, .slice none 0 0, .bool false]⟩ 37 (0, 0)) :: F) w ∧ Fr 87 ([(0, a0v771), (2, .pointer (some ⟨b1, 0, none⟩)), (3, .pointer (some ⟨b27, 0, none⟩)), (4, .pointer (some ⟨b464, 0, none⟩)), (5, .pointer (some ⟨b467, 0, none⟩)), (6, .int .i64 y1458), (8, .pointer (some ⟨b1894, 0, none⟩))]) a ∧ RowR ekS I1447 cs2206 y2203) ?_ ?_
     ·refine wp_block <| c_loop <| c_fuel (ref11_Of.l1 a0 y1453 y1458) out2209 (fun (y2130, y2135, y2136) a w => ∃ yv2131 : Value, ∃ m2132 : Nat, ∃ cs2133 : List Value, Ok E I1447 (.row yv2131 9 1 m2132 cs2133 :: .blk b1894 (.cells ⟨[.int .i64 ((gt a0 y1458).kind_), .string ((gt a0 y1458).path_), .bool ((gt a0 y1458).has_), .string ((gt a0 y1458).value_), .int .i64 y2135, yv2131]⟩ 32 (0, 0)) :: .blk b1890 (.cells ⟨.int .i64 ((gt a0 y1458).kind_) :: .string ((gt a0 y1458).path_) :: .bool ((gt a0 y1458).has_) :: .string ((gt a0 y1458).value_) :: arrC .i64 ((gt a0 y1458).kids_)⟩ 55 (0, 0)) :: .blk b467 (.cells ⟨arrC .u32 y458⟩ 83 (0, 0)) :: .blk b464 (.cells ⟨arrC .u32 y288⟩ 81 (0, 0)) :: .blk b27 (.cells ⟨[yv1449, yv1454, .bool true]⟩ 37 (0, 0)) :: .row yv1454 9 1 m1455 cs1456 :: .row yv1449 32 6 m1450 cs1451 :: .blk b1 (.cells ⟨[.slice none 0 0, .slice none 0 0, .bool false]⟩ 37 (0, 0)) :: F) w ∧ Fr 87 ([(0, a0v771), (2, .pointer (some ⟨b1, 0, none⟩)), (3, .pointer (some ⟨b27, 0, none⟩)), (4, .pointer (some ⟨b464, 0, none⟩)), (5, .pointer (some ⟨b467, 0, none⟩)), (6, .int .i64 y1458), (7, .pointer (some ⟨b1890, 0, none⟩)), (8, .pointer (some ⟨b1894, 0, none⟩)), (9, .int .i64 y2136)]) a ∧ RowR ekS I1447 cs2133 y2130) (fun _ => rfl) ?_ BIG (([] : List ByteArray), 0, 0) _ _ ⟨(.slice none 0 0), 0, [], hw, hf.to ⟨rfl, rfl, rfl, rfl, rfl, rfl, rfl, rfl, rfl, trivial⟩, hRR1990⟩ hp
      intro k st a w hI hp ih
      obtain ⟨y2130, y2135, y2136⟩ := st
      obtain ⟨yv2131, m2132, cs2133, hw, hf, hRR2134⟩ := hI
      rw [ref11_Of.l1] at hp
      refine wq <| wq <| wr <| om hf rfl rfl fun a hf => oR hf (iC hf rfl rfl rfl) rfl fun a hf => oN <| ct <| cC hf rfl (fun hb2212 => ?_) (fun hb2212 => ?_)
      ·replace hp := cond_t hb2212 hp
       refine wp_skip <| ct ?_
       obtain ⟨out2257, hp, hq2258⟩ := bS hp
       refine c_cut (fun a w => ∃ y2251 : List ByteArray, ∃ y2256 : Int, ∃ yv2252 : Value, ∃ m2253 : Nat, ∃ cs2254 : List Value, (y2251, y2256) = out2257 ∧ Ok E I1447 (.row yv2252 9 1 m2253 cs2254 :: .blk b1894 (.cells ⟨[.int .i64 ((gt a0 y1458).kind_), .string ((gt a0 y1458).path_), .bool ((gt a0 y1458).has_), .string ((gt a0 y1458).value_), .int .i64 y2256, yv2252]⟩ 32 (0, 0)) :: .blk b1890 (.cells ⟨.int .i64 ((gt a0 y1458).kind_) :: .string ((gt a0 y1458).path_) :: .bool ((gt a0 y1458).has_) :: .string ((gt a0 y1458).value_) :: arrC .i64 ((gt a0 y1458).kids_)⟩ 55 (0, 0)) :: .blk b467 (.cells ⟨arrC .u32 y458⟩ 83 (0, 0)) :: .blk b464 (.cells ⟨arrC .u32 y288⟩ 81 (0, 0)) :: .blk b27 (.cells ⟨[yv1449, yv1454, .bool true]⟩ 37 (0, 0)) :: .row yv1454 9 1 m1455 cs1456 :: .row yv1449 32 6 m1450 cs1451 :: .blk b1 (.cells ⟨[.slice none 0 0, .slice none 0 0, .bool false]⟩ 37 (0, 0)) :: F) w ∧ Fr 87 ([(0, a0v771), (2, .pointer (some ⟨b1, 0, none⟩)), (3, .pointer (some ⟨b27, 0, none⟩)), (4, .pointer (some ⟨b464, 0, none⟩)), (5, .pointer (some ⟨b467, 0, none⟩)), (6, .int .i64 y1458), (7, .pointer (some ⟨b1890, 0, none⟩)), (8, .pointer (some ⟨b1894, 0, none⟩)), (9, .int .i64 y2136)]) a ∧ RowR ekS I1447 cs2254 y2251) ?_ ?_
       ·refine wp_block <| wq <| wr <| om hf rfl rfl fun a hf => oR hf (rF hf rfl fd_55_4) rfl fun a hf => ?_
        obtain ⟨hg2259, hp⟩ := gS hp
        refine oR hf (r_indexAddrA hf el_53 rfl rfl hg2259) rfl fun a hf => oR hf (rL hw hf rfl ty_3 2 rfl (arr_at (k := .i64) (v := (gt a0 y1458).kids_) rfl hg2259)) rfl fun a hf => oR hf (iC hf rfl rfl rfl) rfl fun a hf => oN <| ct <| cC hf rfl (fun hb2260 => ?_) (fun hb2260 => ?_)
        ·replace hp := cond_t hb2260 hp
         refine wq <| wr <| oR hf (rF hf rfl fd_32_4) rfl fun a hf => oR hf (rL hw hf rfl ty_3 1 rfl rfl) rfl fun a hf => om hf rfl rfl fun a hf => oR hf (r_convI hf und_3 und_56 rfl) rfl fun a hf => ?_
         obtain ⟨hg2261, hp⟩ := gS hp
         refine oR hf (r_shl hf rfl rfl hg2261) rfl fun a hf => oR hf (r_or hf rfl rfl) rfl fun a hf => oR hf (rF hf rfl fd_32_4) rfl fun a hf => ?_
         obtain ⟨w, hrun2262, hw⟩ := e_store (P := P) hw hf (x := .tmp 58) (y := .tmp 57) rfl rfl ty_3 1 rfl (vs := [Value.int .i64 (bor .i64 y2135 (shl .i64 1 (wu64 y2136)))]) (oE rfl) rfl (oC rfl ones_nil) (by simp [arrC_len]) (cs' := [Value.int .i64 ((gt a0 y1458).kind_), Value.string ((gt a0 y1458).path_), Value.bool ((gt a0 y1458).has_), Value.string ((gt a0 y1458).value_), Value.int .i64 (bor .i64 y2135 (shl .i64 1 (wu64 y2136))), yv2131]) rfl
         replace hw : Ok E I1447 (.row yv2131 9 1 m2132 cs2133 :: .blk b1894 (.cells ⟨[.int .i64 ((gt a0 y1458).kind_), .string ((gt a0 y1458).path_), .bool ((gt a0 y1458).has_), .string ((gt a0 y1458).value_), .int .i64 (bor .i64 y2135 (shl .i64 1 (wu64 y2136))), yv2131]⟩ 32 (0, 0)) :: .blk b1890 (.cells ⟨.int .i64 ((gt a0 y1458).kind_) :: .string ((gt a0 y1458).path_) :: .bool ((gt a0 y1458).has_) :: .string ((gt a0 y1458).value_) :: arrC .i64 ((gt a0 y1458).kids_)⟩ 55 (0, 0)) :: .blk b467 (.cells ⟨arrC .u32 y458⟩ 83 (0, 0)) :: .blk b464 (.cells ⟨arrC .u32 y288⟩ 81 (0, 0)) :: .blk b27 (.cells ⟨[yv1449, yv1454, .bool true]⟩ 37 (0, 0)) :: .row yv1454 9 1 m1455 cs1456 :: .row yv1449 32 6 m1450 cs1451 :: .blk b1 (.cells ⟨[.slice none 0 0, .slice none 0 0, .bool false]⟩ 37 (0, 0)) :: F) w := hw
         refine o_effU (hrun2262 ..) <| oN <| ct <| c_drawn mix [13] (.rd 0 (.rd 1 (.rd 2 (.rd 3 (.rd 4 (.rd 5 (.rd 6 (.rd 7 (.rd 8 (.rd 9 (.ef 10 (.ef 11 (.rd 12 (.ef 13 .done)))))))))))))) (by kernel_rfl) hw (fun w => Ok E I1447 (.blk b1894 (.cells ⟨[.int .i64 ((gt a0 y1458).kind_), .string ((gt a0 y1458).path_), .bool ((gt a0 y1458).has_), .string ((gt a0 y1458).value_), .int .i64 (bor .i64 y2135 (shl .i64 1 (wu64 y2136))), yv2131]⟩ 32 (0, 0)) :: .blk b1890 (.cells ⟨.int .i64 ((gt a0 y1458).kind_) :: .string ((gt a0 y1458).path_) :: .bool ((gt a0 y1458).has_) :: .string ((gt a0 y1458).value_) :: arrC .i64 ((gt a0 y1458).kids_)⟩ 55 (0, 0)) :: .blk b467 (.cells ⟨arrC .u32 y458⟩ 83 (0, 0)) :: .blk b464 (.cells ⟨arrC .u32 y288⟩ 81 (0, 0)) :: .blk b27 (.cells ⟨[yv1449, yv1454, .bool true]⟩ 37 (0, 0)) :: .row yv1454 9 1 m1455 cs1456 :: .row yv1449 32 6 m1450 cs1451 :: .blk b1 (.cells ⟨[.slice none 0 0, .slice none 0 0, .bool false]⟩ 37 (0, 0)) :: F) w) (fun w hw => ⟨hw.sub (sc (scc (scc (scc (scc (scc (scc (scc (scc sr))))))))), ?_⟩)
         refine tR rfl hf (fun w hw => rF hf rfl fd_32_5) rfl fun a hf => tR rfl hf (fun w hw => rL hw hf rfl ty_28 0 rfl rfl) rfl fun a hf => tR rfl hf (fun w hw => rF hf rfl fd_37_1) rfl fun a hf => tR rfl hf (fun w hw => rL hw hf rfl ty_28 4 rfl rfl) rfl fun a hf => tm rfl hf rfl rfl fun a hf => tR rfl hf (fun w hw => rF hf rfl fd_55_4) rfl fun a hf => ?_
         obtain ⟨hg2264, hp⟩ := gS hp
         refine tR rfl hf (fun w hw => r_indexAddrA hf el_53 rfl rfl hg2264) rfl fun a hf => tR rfl hf (fun w hw => rL hw hf rfl ty_3 1 rfl (arr_at (k := .i64) (v := (gt a0 y1458).kids_) rfl hg2264)) rfl fun a hf => ?_
         obtain ⟨hg2265, hp⟩ := gS hp
         refine tR rfl hf (fun w hw => rI (K := ekS) hf el_28 rfl rfl (rR (K := ekS) hw (i := 5) rfl hRR1457) hg2265) rfl fun a hf => tR rfl hf (fun w hw => r_loadH (K := ekS) hf rfl ty_9 (rR (K := ekS) hw (i := 5) rfl hRR1457) hg2265 rfl (fun cs h => ekS_f0 h)) rfl fun a hf => t_ef rfl ?_
         obtain ⟨w, v2266, hrun2267, hw, hRR2268⟩ := e_buildSlice (P := P) (K := ekS) (m := 1) hw hf (parts := [(0, .tmp 68)]) el_28 ty_9 rfl rfl rfl (ccs := [[Value.string (gt y1453 (vg ((gt a0 y1458).kids_) y2136))]]) rfl (xs := [gt y1453 (vg ((gt a0 y1458).kids_) y2136)]) ⟨rfl, trivial⟩ rfl
         obtain ⟨cs2269, hcs⟩ : ∃ cs, cs = ([[Value.string (gt y1453 (vg ((gt a0 y1458).kids_) y2136))]] : List (List Value)).flatten := ⟨_, rfl⟩
         rw [← hcs] at hw hRR2268; clear hcs
         refine t_eff hf (hrun2267 ..) rfl fun a hf => ⟨.inr (hw.back (IH.le_refl _) (sc (sc (scc (scc (scc (scc (scc (scc (scc (scc sr))))))))))), ?_⟩
         refine t_ef rfl ?_
         obtain ⟨hg2271, hp⟩ := gS hp
         obtain ⟨w, v2272, m2273, cs2274, hrun2276, hw, hRR2275⟩ := e_append (P := P) (K := ekS) (ty := 28) hw hf (s := .tmp 60) (x := .tmp 69) el_28 ty_9 rfl (by decide) 1 rfl rfl rfl hRR2134 (ys := [gt y1453 (vg ((gt a0 y1458).kids_) y2136)]) (rR (K := ekS) hw (i := 0) rfl hRR2268) hg2271
         replace hw : Ok E I1447 (.row v2266 9 1 1 cs2269 :: .row v2272 9 1 m2273 cs2274 :: .blk b1894 (.cells ⟨[.int .i64 ((gt a0 y1458).kind_), .string ((gt a0 y1458).path_), .bool ((gt a0 y1458).has_), .string ((gt a0 y1458).value_), .int .i64 (bor .i64 y2135 (shl .i64 1 (wu64 y2136))), yv2131]⟩ 32 (0, 0)) :: .blk b1890 (.cells ⟨.int .i64 ((gt a0 y1458).kind_) :: .string ((gt a0 y1458).path_) :: .bool ((gt a0 y1458).has_) :: .string ((gt a0 y1458).value_) :: arrC .i64 ((gt a0 y1458).kids_)⟩ 55 (0, 0)) :: .blk b467 (.cells ⟨arrC .u32 y458⟩ 83 (0, 0)) :: .blk b464 (.cells ⟨arrC .u32 y288⟩ 81 (0, 0)) :: .blk b27 (.cells ⟨[yv1449, yv1454, .bool true]⟩ 37 (0, 0)) :: .row yv1454 9 1 m1455 cs1456 :: .row yv1449 32 6 m1450 cs1451 :: .blk b1 (.cells ⟨[.slice none 0 0, .slice none 0 0, .bool false]⟩ 37 (0, 0)) :: F) w := hw
         refine t_eff hf (hrun2276 ..) rfl fun a hf => ⟨.inr (hw.back (IH.le_refl _) (sc (sc (scc (scc (scc (scc (scc (scc (scc (scc sr))))))))))), ?_⟩
         refine tR rfl hf (fun w hw => rF hf rfl fd_32_5) rfl fun a hf => t_ef rfl ?_
         obtain ⟨w, hrun2277, hw⟩ := e_store (P := P) hw hf (x := .tmp 71) (y := .tmp 70) rfl rfl ty_28 2 rfl (vs := [v2272]) (oE (row_one hw (i := 1) rfl)) rfl (oC (row_one hw (i := 1) rfl) ones_nil) (by simp [arrC_len]) (cs' := [Value.int .i64 ((gt a0 y1458).kind_), Value.string ((gt a0 y1458).path_), Value.bool ((gt a0 y1458).has_), Value.string ((gt a0 y1458).value_), Value.int .i64 (bor .i64 y2135 (shl .i64 1 (wu64 y2136))), v2272]) rfl
         replace hw : Ok E I1447 (.row v2266 9 1 1 cs2269 :: .row v2272 9 1 m2273 cs2274 :: .blk b1894 (.cells ⟨[.int .i64 ((gt a0 y1458).kind_), .string ((gt a0 y1458).path_), .bool ((gt a0 y1458).has_), .string ((gt a0 y1458).value_), .int .i64 (bor .i64 y2135 (shl .i64 1 (wu64 y2136))), v2272]⟩ 32 (0, 0)) :: .blk b1890 (.cells ⟨.int .i64 ((gt a0 y1458).kind_) :: .string ((gt a0 y1458).path_) :: .bool ((gt a0 y1458).has_) :: .string ((gt a0 y1458).value_) :: arrC .i64 ((gt a0 y1458).kids_)⟩ 55 (0, 0)) :: .blk b467 (.cells ⟨arrC .u32 y458⟩ 83 (0, 0)) :: .blk b464 (.cells ⟨arrC .u32 y288⟩ 81 (0, 0)) :: .blk b27 (.cells ⟨[yv1449, yv1454, .bool true]⟩ 37 (0, 0)) :: .row yv1454 9 1 m1455 cs1456 :: .row yv1449 32 6 m1450 cs1451 :: .blk b1 (.cells ⟨[.slice none 0 0, .slice none 0 0, .bool false]⟩ 37 (0, 0)) :: F) w := hw
         refine t_effU (hrun2277 ..) ⟨.inl rfl, ?_⟩
         refine t_done <| c_blockN <| ct ?_
         have ho := oI hp
         subst ho
         replace hw : Ok E I1447 (.row v2272 9 1 m2273 cs2274 :: .blk b1894 (.cells ⟨[.int .i64 ((gt a0 y1458).kind_), .string ((gt a0 y1458).path_), .bool ((gt a0 y1458).has_), .string ((gt a0 y1458).value_), .int .i64 (bor .i64 y2135 (shl .i64 1 (wu64 y2136))), v2272]⟩ 32 (0, 0)) :: .blk b1890 (.cells ⟨.int .i64 ((gt a0 y1458).kind_) :: .string ((gt a0 y1458).path_) :: .bool ((gt a0 y1458).has_) :: .string ((gt a0 y1458).value_) :: arrC .i64 ((gt a0 y1458).kids_)⟩ 55 (0, 0)) :: .blk b467 (.cells ⟨arrC .u32 y458⟩ 83 (0, 0)) :: .blk b464 (.cells ⟨arrC .u32 y288⟩ 81 (0, 0)) :: .blk b27 (.cells ⟨[yv1449, yv1454, .bool true]⟩ 37 (0, 0)) :: .row yv1454 9 1 m1455 cs1456 :: .row yv1449 32 6 m1450 cs1451 :: .blk b1 (.cells ⟨[.slice none 0 0, .slice none 0 0, .bool false]⟩ 37 (0, 0)) :: F) w := hw.sub (sc (scc (scc (scc (scc (scc (scc (scc (scc (scc sr))))))))))
         exact ⟨(y2130 ++ [gt y1453 (vg ((gt a0 y1458).kids_) y2136)]), (bor .i64 y2135 (shl .i64 1 (wu64 y2136))), v2272, m2273, cs2274, rfl, hw, hf.to ⟨rfl, rfl, rfl, rfl, rfl, rfl, rfl, rfl, rfl, trivial⟩, hRR2275⟩
        ·replace hp := cond_f hb2260 hp
         refine wp_skip <| c_blockN <| ct ?_
         have ho := oI hp
         subst ho
         exact ⟨y2130, y2135, yv2131, m2132, cs2133, rfl, hw, hf.to ⟨rfl, rfl, rfl, rfl, rfl, rfl, rfl, rfl, rfl, trivial⟩, hRR2134⟩
       ·intro a w hM
        obtain ⟨y2251, y2256, yv2252, m2253, cs2254, rfl, hw, hf, hRR2255⟩ := hM
        replace hp := hq2258
        refine wr <| om hf rfl rfl fun a hf => oR hf (r_add hf rfl rfl) rfl fun a hf => oa hf rfl rfl fun a hf => oN <| ct ?_
        exact ih (y2251, y2256, w64 (y2136 + 1)) _ _ ⟨yv2252, m2253, cs2254, hw, hf.to ⟨rfl, rfl, rfl, rfl, rfl, rfl, rfl, rfl, rfl, trivial⟩, hRR2255⟩ hp
      ·replace hp := cond_f hb2212 hp
       refine wp_exit <| c_thenE <| c_thenE <| c_exit <| ct ?_
       have ho := oI hp
       subst ho
       exact ⟨y2130, y2135, yv2131, m2132, cs2133, rfl, hw, hf.to ⟨rfl, rfl, rfl, rfl, rfl, rfl, rfl, trivial⟩, hRR2134⟩
     ·intro a w hM
      obtain ⟨y2203, y2208, yv2204, m2205, cs2206, rfl, hw, hf, hRR2207⟩ := hM
      replace hp := hq2210
      refine ct <| wq <| wr <| oR hf (rF hf rfl fd_37_0) rfl fun a hf => oR hf (rL hw hf rfl ty_35 5 rfl rfl) rfl fun a hf => om hf rfl rfl fun a hf => oR hf (r_loadA hw hf rfl ty_32 1 rfl (vs := [Value.int .i64 ((gt a0 y1458).kind_), Value.string ((gt a0 y1458).path_), Value.bool ((gt a0 y1458).has_), Value.string ((gt a0 y1458).value_), Value.int .i64 y2208, yv2204]) rfl rfl) rfl fun a hf => ?_
      obtain ⟨hg2279, hp⟩ := gS hp
      refine oR hf (rI (K := ek_Item) hf el_35 rfl rfl (rR (K := ek_Item) hw (i := 7) rfl hRR1452) hg2279) rfl fun a hf => ?_
      have hw : Ok E I1447 (.row yv2204 9 1 m2205 cs2206 :: .blk b1894 (.cells ⟨[Value.int .i64 ((gt a0 y1458).kind_), Value.string ((gt a0 y1458).path_), Value.bool ((gt a0 y1458).has_), Value.string ((gt a0 y1458).value_), Value.int .i64 y2208, yv2204]⟩ 32 (0, 0)) :: .blk b1890 (.cells ⟨Value.int .i64 ((gt a0 y1458).kind_) :: Value.string ((gt a0 y1458).path_) :: Value.bool ((gt a0 y1458).has_) :: Value.string ((gt a0 y1458).value_) :: arrC .i64 ((gt a0 y1458).kids_)⟩ 55 (0, 0)) :: .blk b467 (.cells ⟨arrC .u32 y458⟩ 83 (0, 0)) :: .blk b464 (.cells ⟨arrC .u32 y288⟩ 81 (0, 0)) :: .blk b27 (.cells ⟨[yv1449, yv1454, Value.bool true]⟩ 37 (0, 0)) :: .row yv1454 9 1 m1455 cs1456 :: .row yv1449 32 6 m1450 cs1451 :: .blk b1 (.cells ⟨[Value.slice none 0 0, Value.slice none 0 0, Value.bool false]⟩ 37 (0, 0)) :: F) w := hw.front (i := 0) rfl
      obtain ⟨I2281, hle2282, hw, hR2283⟩ := row_freeze (K := ekS) hw hRR2207
      replace hG := hG.mono hle2282
      replace hR772 := hR772.mono hle2282
      replace hRR1457 := hRR1457.mono hle2282
      replace hRR1452 := hRR1452.mono hle2282
      obtain ⟨w, cs2284, hrun2280, hw, hRR2285⟩ := e_storeH (P := P) (K := ek_Item) hw hf (x := .tmp 76) (y := .tmp 75) rfl rfl ty_32 6 rfl hRR1452 hg2279 rfl (vs := [Value.int .i64 ((gt a0 y1458).kind_), Value.string ((gt a0 y1458).path_), Value.bool ((gt a0 y1458).has_), Value.string ((gt a0 y1458).value_), Value.int .i64 y2208, yv2204]) rfl rfl (oC rfl (oC rfl (oC rfl (oC rfl (oC rfl (oC hR2283.one ones_nil)))))) (Nat.le_of_eq (by rfl)) (x' := (⟨(gt a0 y1458).kind_, (gt a0 y1458).path_, (gt a0 y1458).has_, (gt a0 y1458).value_, y2208, y2203⟩ : Item)) (whole_store ⟨_, rfl, hR2283⟩)
      replace hw : Ok E I2281 (.blk b1894 (.cells ⟨[.int .i64 ((gt a0 y1458).kind_), .string ((gt a0 y1458).path_), .bool ((gt a0 y1458).has_), .string ((gt a0 y1458).value_), .int .i64 y2208, yv2204]⟩ 32 (0, 0)) :: .blk b1890 (.cells ⟨.int .i64 ((gt a0 y1458).kind_) :: .string ((gt a0 y1458).path_) :: .bool ((gt a0 y1458).has_) :: .string ((gt a0 y1458).value_) :: arrC .i64 ((gt a0 y1458).kids_)⟩ 55 (0, 0)) :: .blk b467 (.cells ⟨arrC .u32 y458⟩ 83 (0, 0)) :: .blk b464 (.cells ⟨arrC .u32 y288⟩ 81 (0, 0)) :: .blk b27 (.cells ⟨[yv1449, yv1454, .bool true]⟩ 37 (0, 0)) :: .row yv1454 9 1 m1455 cs1456 :: .row yv1449 32 6 m1450 cs2284 :: .blk b1 (.cells ⟨[.slice none 0 0, .slice none 0 0, .bool false]⟩ 37 (0, 0)) :: F) w := hw
      refine o_effU (hrun2280 ..) <| oN <| ct <| c_drawn mix [9] (.rd 0 (.rd 1 (.rd 2 (.rd 3 (.rd 5 (.rd 6 (.ef 4 (.ef 7 (.rd 8 (.ef 9 .done)))))))))) (by kernel_rfl) hw (fun w => Ok E I2281 (.blk b1894 (.cells ⟨[.int .i64 ((gt a0 y1458).kind_), .string ((gt a0 y1458).path_), .bool ((gt a0 y1458).has_), .string ((gt a0 y1458).value_), .int .i64 y2208, yv2204]⟩ 32 (0, 0)) :: .blk b1890 (.cells ⟨.int .i64 ((gt a0 y1458).kind_) :: .string ((gt a0 y1458).path_) :: .bool ((gt a0 y1458).has_) :: .string ((gt a0 y1458).value_) :: arrC .i64 ((gt a0 y1458).kids_)⟩ 55 (0, 0)) :: .blk b467 (.cells ⟨arrC .u32 y458⟩ 83 (0, 0)) :: .blk b464 (.cells ⟨arrC .u32 y288⟩ 81 (0, 0)) :: .blk b27 (.cells ⟨[yv1449, yv1454, .bool true]⟩ 37 (0, 0)) :: .row yv1454 9 1 m1455 cs1456 :: .row yv1449 32 6 m1450 cs2284 :: .blk b1 (.cells ⟨[.slice none 0 0, .slice none 0 0, .bool false]⟩ 37 (0, 0)) :: F) w) (fun w hw => ⟨hw.sub (scc (scc (scc (scc (scc (scc (scc (scc sr)))))))), ?_⟩)
      refine tR rfl hf (fun w hw => rF hf rfl fd_37_1) rfl fun a hf => tR rfl hf (fun w hw => rL hw hf rfl ty_28 4 rfl rfl) rfl fun a hf => tm rfl hf rfl rfl fun a hf => tR rfl hf (fun w hw => r_loadA hw hf rfl ty_32 0 rfl (vs := [Value.int .i64 ((gt a0 y1458).kind_), Value.string ((gt a0 y1458).path_), Value.bool ((gt a0 y1458).has_), Value.string ((gt a0 y1458).value_), Value.int .i64 y2208, yv2204]) rfl rfl) rfl fun a hf => tR rfl hf (fun w hw => r_loadA hw hf rfl ty_81 3 rfl (vs := (arrC .u32 y288)) (take_all (by simp [arrC_len])) (by simp [arrC_len])) rfl fun a hf => tR rfl hf (fun w hw => r_loadA hw hf rfl ty_83 2 rfl (vs := (arrC .u32 y458)) (take_all (by simp [arrC_len])) (by simp [arrC_len])) rfl fun a hf => t_ef rfl ?_
      obtain ⟨y2287, hy2288, hp⟩ := bS hp
      have hc2290 := ref09_Encode_ok hw hG hR2283 hy2288
      refine t_call hf cb_47 rfl rfl hc2290 (fun v2292 w a hK2291 hf => ?_)
      obtain ⟨rfl, hw⟩ := hK2291
      refine ⟨.inr (hw.back (IH.le_refl _) (scc (scc (scc (scc (scc (scc (scc (scc sr))))))))), ?_⟩
      refine t_ef rfl ?_
      obtain ⟨y2293, hy2294, hp⟩ := bS hp
      have hc2296 := ref04_With_ok hw hG hy2294
      refine t_call hf cb_46 rfl rfl hc2296 (fun v2298 w a hK2297 hf => ?_)
      obtain ⟨rfl, hw⟩ := hK2297
      refine ⟨.inr (hw.back (IH.le_refl _) (scc (scc (scc (scc (scc (scc (scc (scc sr))))))))), ?_⟩
      obtain ⟨hg2299, hp⟩ := gS hp
      refine tR rfl hf (fun w hw => rI (K := ekS) hf el_28 rfl rfl (rR (K := ekS) hw (i := 5) rfl hRR1457) hg2299) rfl fun a hf => t_ef rfl ?_
      obtain ⟨w, cs2301, hrun2300, hw, hRR2302⟩ := e_storeH (P := P) (K := ekS) hw hf (x := .tmp 85) (y := .tmp 84) rfl rfl ty_9 5 rfl hRR1457 hg2299 rfl (vs := [Value.string y2293]) (oE rfl) rfl (oC rfl ones_nil) (Nat.le_of_eq (by rfl)) (x' := y2293) (whole_store rfl)
      replace hw : Ok E I2281 (.blk b1894 (.cells ⟨[.int .i64 ((gt a0 y1458).kind_), .string ((gt a0 y1458).path_), .bool ((gt a0 y1458).has_), .string ((gt a0 y1458).value_), .int .i64 y2208, yv2204]⟩ 32 (0, 0)) :: .blk b1890 (.cells ⟨.int .i64 ((gt a0 y1458).kind_) :: .string ((gt a0 y1458).path_) :: .bool ((gt a0 y1458).has_) :: .string ((gt a0 y1458).value_) :: arrC .i64 ((gt a0 y1458).kids_)⟩ 55 (0, 0)) :: .blk b467 (.cells ⟨arrC .u32 y458⟩ 83 (0, 0)) :: .blk b464 (.cells ⟨arrC .u32 y288⟩ 81 (0, 0)) :: .blk b27 (.cells ⟨[yv1449, yv1454, .bool true]⟩ 37 (0, 0)) :: .row yv1454 9 1 m1455 cs2301 :: .row yv1449 32 6 m1450 cs2284 :: .blk b1 (.cells ⟨[.slice none 0 0, .slice none 0 0, .bool false]⟩ 37 (0, 0)) :: F) w := hw
      refine t_effU (hrun2300 ..) ⟨.inl rfl, ?_⟩
      refine t_done <| c_blockN <| ct <| wr <| om hf rfl rfl fun a hf => oR hf (r_sub hf rfl rfl) rfl fun a hf => oa hf rfl rfl fun a hf => oN <| ct ?_
      replace hw : Ok E I2281 (.blk b467 (.cells ⟨arrC .u32 y458⟩ 83 (0, 0)) :: .blk b464 (.cells ⟨arrC .u32 y288⟩ 81 (0, 0)) :: .blk b27 (.cells ⟨[yv1449, yv1454, .bool true]⟩ 37 (0, 0)) :: .row yv1454 9 1 m1455 cs2301 :: .row yv1449 32 6 m1450 cs2284 :: .blk b1 (.cells ⟨[.slice none 0 0, .slice none 0 0, .bool false]⟩ 37 (0, 0)) :: F) w := hw.sub (sc (sc (scc (scc (scc (scc (scc (scc sr))))))))
      exact ih (y1448.set y1458.toNat (⟨(gt a0 y1458).kind_, (gt a0 y1458).path_, (gt a0 y1458).has_, (gt a0 y1458).value_, y2208, y2203⟩ : Item), y1453.set y1458.toNat y2293, w64 (y1458 - 1)) _ _ ⟨I2281, yv1449, m1450, cs2284, yv1454, m1455, cs2301, (IH.le_trans hle1887 hle2282), hw, hf.to ⟨rfl, rfl, rfl, rfl, rfl, rfl, trivial⟩, hRR2285, hRR2302⟩ hp
    ·replace hp := cond_f hb1888 hp
     refine wp_exit <| c_thenE <| c_thenE <| c_exit <| ct ?_
     have ho := oI hp
     subst ho
     exact ⟨y1448, y1453, I1447, yv1449, m1450, cs1451, yv1454, m1455, cs1456, rfl, hle1887, hw, hf.to ⟨rfl, rfl, trivial⟩, hRR1452, hRR1457⟩
   ·intro a w hM
    obtain ⟨y1875, y1880, I1874, yv1876, m1877, cs1878, yv1881, m1882, cs1883, rfl, hle2303, hw, hf, hRR1879, hRR1884⟩ := hM
    replace hp := hq1886
    replace hG := hG.mono hle2303
    refine ct <| wq <| wr <| oR hf (r_loadA hw hf rfl ty_37 2 rfl (vs := [yv1876, yv1881, Value.bool true]) rfl rfl) rfl fun a hf => ?_
    obtain ⟨w, hrun2304, hw⟩ := e_store (P := P) hw hf (x := .tmp 2) (y := .tmp 86) rfl rfl ty_37 5 rfl (vs := [yv1876, yv1881, Value.bool true]) rfl rfl (oC (row_one hw (i := 4) rfl) (oC (row_one hw (i := 3) rfl) (oC rfl ones_nil))) (by simp [arrC_len]) (cs' := [yv1876, yv1881, Value.bool true]) rfl
    replace hw : Ok E I1874 (.blk b467 (.cells ⟨arrC .u32 y458⟩ 83 (0, 0)) :: .blk b464 (.cells ⟨arrC .u32 y288⟩ 81 (0, 0)) :: .blk b27 (.cells ⟨[yv1876, yv1881, .bool true]⟩ 37 (0, 0)) :: .row yv1881 9 1 m1882 cs1883 :: .row yv1876 32 6 m1877 cs1878 :: .blk b1 (.cells ⟨[yv1876, yv1881, .bool true]⟩ 37 (0, 0)) :: F) w := hw
    refine o_effU (hrun2304 ..) <| oN <| ct <| wp_ret ?_
    have hw : Ok E I1874 (.row yv1876 32 6 m1877 cs1878 :: .blk b467 (.cells ⟨arrC .u32 y458⟩ 83 (0, 0)) :: .blk b464 (.cells ⟨arrC .u32 y288⟩ 81 (0, 0)) :: .blk b27 (.cells ⟨[yv1876, yv1881, Value.bool true]⟩ 37 (0, 0)) :: .row yv1881 9 1 m1882 cs1883 :: .blk b1 (.cells ⟨[yv1876, yv1881, Value.bool true]⟩ 37 (0, 0)) :: F) w := hw.front (i := 4) rfl
    obtain ⟨I2311, hle2312, hw, hR2313⟩ := row_freeze (K := ek_Item) hw hRR1879
    replace hG := hG.mono hle2312
    replace hRR1884 := hRR1884.mono hle2312
    have hw : Ok E I2311 (.row yv1881 9 1 m1882 cs1883 :: .blk b467 (.cells ⟨arrC .u32 y458⟩ 83 (0, 0)) :: .blk b464 (.cells ⟨arrC .u32 y288⟩ 81 (0, 0)) :: .blk b27 (.cells ⟨[yv1876, yv1881, Value.bool true]⟩ 37 (0, 0)) :: .blk b1 (.cells ⟨[yv1876, yv1881, Value.bool true]⟩ 37 (0, 0)) :: F) w := hw.front (i := 3) rfl
    obtain ⟨I2314, hle2315, hw, hR2316⟩ := row_freeze (K := ekS) hw hRR1884
    replace hG := hG.mono hle2315
    replace hR2313 := hR2313.mono hle2315
    replace hw : Ok E I2314 (.blk b1 (.cells ⟨[yv1876, yv1881, .bool true]⟩ 37 (0, 0)) :: F) w := hw.sub (sc (sc (sc (scc sr))))
    have ho := oI hp
    subst ho
    exact b_retC hw hf Go.Proofs.Tryd.results17 ty_37 rfl 0 rfl (vs := [yv1876, yv1881, Value.bool true]) rfl rfl ⟨_, rfl, ⟨I2314, yv1876, yv1881, rfl, (IH.le_trans (IH.le_trans hle2303 hle2312) hle2315), hw.tail, hR2313, hR2316⟩⟩

theorem ref16_Of_ok {E : World} {I : IH} {F : List Atom} {w : World} {a0 : List Node} {a0v713 : Value} {a1 : ByteArray} {res0 : List ByteArray} {res1 : Int} (hw : Ok E I (F) w) (hG : Gl I) (hR714 : RS ek_Node I a0v713 a0) (hp : ref16_Of.f a0 a1 = some (res0, res1)) :
  Calls P 34 ⟨[a0v713, Value.string a1]⟩ w fun e w' => ∃ v, e = .returned v ∧ ∃ I2 : IH, ∃ rvv157 : Value, v = Value.tuple ⟨[rvv157, Value.int .i64 res1]⟩ ∧ IH.le I I2 ∧ Ok E I2 (F) w' ∧ RS ekS I2 rvv157 res0 := by
 refine c_enter Go.Proofs.Tryd.func34 rfl Go.Proofs.Tryd.ntmps34 rfl fun a hf => ?_
 replace hf : Fr 42 [(0, a0v713), (1, .string a1)] a := hf
 unfold ref16_Of.f at hp
 refine wq <| wr <| oa hf rfl rfl fun a hf => oa hf rfl rfl fun a hf => oN <| ct <| wq <| wr <| om hf rfl rfl fun a hf => om hf rfl rfl fun a hf => ?_
 obtain ⟨y763, hy762, hp⟩ := bS hp
 obtain ⟨y760, y761⟩ := y763
 have hc764 := ref12_Walk_ok hw hG hR714 hy762
 refine o_call hf cb_36 rfl rfl hc764 (fun v768 w a hK765 hf => ?_)
 obtain ⟨I2_765, rvv766, rfl, hle769, hw, hR767⟩ := hK765
 replace hG := hG.mono hle769
 replace hR714 := hR714.mono hle769
 refine om hf rfl rfl fun a hf => oR hf (rE hf rfl rfl) rfl fun a hf => oR hf (rE hf rfl rfl) rfl fun a hf => oa hf rfl rfl fun a hf => oa hf rfl rfl fun a hf => oN <| ct <| wq <| wq <| wr <| om hf rfl rfl fun a hf => oR hf (iC hf rfl rfl rfl) rfl fun a hf => oN <| ct <| cC hf rfl (fun hb770 => ?_) (fun hb770 => ?_)
 ·replace hp := cond_t hb770 hp
  refine wq <| wr <| om hf rfl rfl fun a hf => oa hf rfl rfl fun a hf => oa hf rfl rfl fun a hf => oN <| ct <| wp_ret <| c_thenR ?_
  have ho := oI hp
  simp only [Prod.mk.injEq] at ho
  obtain ⟨rfl, rfl⟩ := ho
  exact b_ret2 hf Go.Proofs.Tryd.results34 rfl rfl ⟨_, rfl, ⟨I2_765, (Value.slice none 0 0), rfl, hle769, hw, RS.nil⟩⟩
 ·replace hp := cond_f hb770 hp
  refine wp_skip <| ct <| wq <| wr <| om hf rfl rfl fun a hf => ?_
  obtain ⟨y2317, hy2318, hp⟩ := bS hp
  have hc2320 := ref11_Of_ok hw hG hR714 hy2318
  refine o_call hf cb_17 rfl rfl hc2320 (fun v2326 w a hK2321 hf => ?_)
  obtain ⟨I2_2321, rvv2322, rvv2324, rfl, hle2327, hw, hR2323, hR2325⟩ := hK2321
  replace hG := hG.mono hle2327
  replace hR714 := hR714.mono hle2327
  replace hR767 := hR767.mono hle2327
  obtain ⟨b2328, w, hrun2329, hw⟩ := e_alloc (P := P) (a := a) hw ty_37
  replace hw : Ok E I2_2321 (.blk b2328 (.cells ⟨[.slice none 0 0, .slice none 0 0, .bool false]⟩ 37 (0, 0)) :: F) w := hw
  refine o_eff hf (hrun2329 ..) rfl fun a hf => ?_
  obtain ⟨w, hrun2331, hw⟩ := e_store (P := P) hw hf (x := .tmp 8) (y := .tmp 21) rfl rfl ty_37 0 rfl (vs := [rvv2322, rvv2324, Value.bool y2317.ok_]) rfl rfl (oC hR2323.one (oC hR2325.one (oC rfl ones_nil))) (by simp [arrC_len]) (cs' := [rvv2322, rvv2324, Value.bool y2317.ok_]) rfl
  replace hw : Ok E I2_2321 (.blk b2328 (.cells ⟨[rvv2322, rvv2324, .bool y2317.ok_]⟩ 37 (0, 0)) :: F) w := hw
  refine o_effU (hrun2331 ..) <| oN <| ct <| wq <| wr <| oa hf rfl rfl fun a hf => oN <| ct <| wq <| wq <| wr <| oa hf rfl rfl fun a hf => oN <| ct ?_
  replace hw := hw.nilrow 9 1
  have hRR2360 : RowR ekS I2_2321 [] [] := RowR.nil
  obtain ⟨out2453, hp, hq2454⟩ := bS hp
  refine c_cutX (fun a w => ∃ y2448 : List ByteArray, ∃ yv2449 : Value, ∃ m2450 : Nat, ∃ cs2451 : List Value, y2448 = out2453 ∧ Ok E I2_2321 (.row yv2449 9 1 m2450 cs2451 :: .blk b2328 (.cells ⟨[rvv2322, rvv2324, .bool y2317.ok_]⟩ 37 (0, 0)) :: F) w ∧ Fr 42 ([(7, .int .i64 y761), (9, yv2449)]) a ∧ RowR ekS I2_2321 cs2451 y2448) ?_ ?_
  ·refine wp_block <| c_loop <| c_fuel (ref16_Of.l0 y760 y2317) out2453 (fun (y2417, y2422) a w => ∃ yv2418 : Value, ∃ m2419 : Nat, ∃ cs2420 : List Value, Ok E I2_2321 (.row yv2418 9 1 m2419 cs2420 :: .blk b2328 (.cells ⟨[rvv2322, rvv2324, .bool y2317.ok_]⟩ 37 (0, 0)) :: F) w ∧ Fr 42 ([(6, rvv766), (7, .int .i64 y761), (8, .pointer (some ⟨b2328, 0, none⟩)), (9, yv2418), (10, .int .i64 y2422)]) a ∧ RowR ekS I2_2321 cs2420 y2417) (fun _ => rfl) ?_ BIG (([] : List ByteArray), 0) _ _ ⟨(.slice none 0 0), 0, [], hw, hf.to ⟨rfl, rfl, rfl, rfl, rfl, trivial⟩, hRR2360⟩ hp
   intro k st a w hI hp ih
   obtain ⟨y2417, y2422⟩ := st
   obtain ⟨yv2418, m2419, cs2420, hw, hf, hRR2421⟩ := hI
   rw [ref16_Of.l0] at hp
   refine wq <| wq <| wr <| om hf rfl rfl fun a hf => om hf rfl rfl fun a hf => oR hf (r_lenL (K := (ekI .i64)) hf el_70 rfl (hR767.rd hw)) rfl fun a hf => oR hf (iC hf rfl rfl rfl) rfl fun a hf => oN <| ct <| cC hf rfl (fun hb2456 => ?_) (fun hb2456 => ?_)
   ·replace hp := cond_t hb2456 hp
    refine wp_skip <| ct <| wq <| wp_block <| c_drawn mix [] (.rd 0 (.rd 1 (.rd 2 (.rd 3 (.rd 4 (.rd 5 (.rd 6 (.rd 7 (.rd 8 (.ef 9 (.ef 10 (.ef 11 (.rd 12 .done))))))))))))) (by kernel_rfl) hw (fun w => Ok E I2_2321 (.blk b2328 (.cells ⟨[rvv2322, rvv2324, .bool y2317.ok_]⟩ 37 (0, 0)) :: F) w) (fun w hw => ⟨hw.sub (sc (scc sr)), ?_⟩)
    refine tm rfl hf rfl rfl fun a hf => tR rfl hf (fun w hw => rF hf rfl fd_37_0) rfl fun a hf => tR rfl hf (fun w hw => rL hw hf rfl ty_35 0 rfl rfl) rfl fun a hf => tm rfl hf rfl rfl fun a hf => tm rfl hf rfl rfl fun a hf => ?_
    obtain ⟨hg2458, hp⟩ := gS hp
    refine tR rfl hf (fun w hw => rI (K := (ekI .i64)) hf el_70 rfl rfl (hR767.rd hw) hg2458) rfl fun a hf => tR rfl hf (fun w hw => r_loadH (K := (ekI .i64)) hf rfl ty_3 (hR767.rd hw) hg2458 rfl (fun cs h => ekI_f0 h)) rfl fun a hf => ?_
    obtain ⟨hg2459, hp⟩ := gS hp
    refine tR rfl hf (fun w hw => rI (K := ek_Item) hf el_35 rfl rfl (hR2323.rd hw) hg2459) rfl fun a hf => ?_
    obtain ⟨_, ⟨vv2460, rfl, hR2461⟩, hrun2463⟩ := rs_loadHA (P := P) ty_32 hR2323 hg2459 rfl (fun cs h => Item_all h)
    refine tR rfl hf (fun w hw => hrun2463 _ _ _ _ _ _ _ _ _ _ _ _ hw hf rfl) rfl fun a hf => t_ef rfl ?_
    obtain ⟨y2464, hy2465, hp⟩ := bS hp
    have hc2467 := ref09_Encode_ok hw hG hR2461 hy2465
    refine t_call hf cb_47 rfl rfl hc2467 (fun v2469 w a hK2468 hf => ?_)
    obtain ⟨rfl, hw⟩ := hK2468
    refine ⟨.inr (hw.back (IH.le_refl _) (sc (scc sr))), ?_⟩
    refine t_ef rfl ?_
    obtain ⟨w, v2470, hrun2471, hw, hRR2472⟩ := e_buildSlice (P := P) (K := ekS) (m := 1) hw hf (parts := [(0, .tmp 37)]) el_28 ty_9 rfl rfl rfl (ccs := [[Value.string y2464]]) rfl (xs := [y2464]) ⟨rfl, trivial⟩ rfl
    obtain ⟨cs2473, hcs⟩ : ∃ cs, cs = ([[Value.string y2464]] : List (List Value)).flatten := ⟨_, rfl⟩
    rw [← hcs] at hw hRR2472; clear hcs
    refine t_eff hf (hrun2471 ..) rfl fun a hf => ⟨.inr (hw.back (IH.le_refl _) (sc (sc (scc sr)))), ?_⟩
    refine t_ef rfl ?_
    obtain ⟨hg2475, hp⟩ := gS hp
    obtain ⟨w, v2476, m2477, cs2478, hrun2480, hw, hRR2479⟩ := e_append (P := P) (K := ekS) (ty := 28) hw hf (s := .tmp 28) (x := .tmp 38) el_28 ty_9 rfl (by decide) 1 rfl rfl rfl hRR2421 (ys := [y2464]) (rR (K := ekS) hw (i := 0) rfl hRR2472) hg2475
    replace hw : Ok E I2_2321 (.row v2470 9 1 1 cs2473 :: .row v2476 9 1 m2477 cs2478 :: .blk b2328 (.cells ⟨[rvv2322, rvv2324, .bool y2317.ok_]⟩ 37 (0, 0)) :: F) w := hw
    refine t_eff hf (hrun2480 ..) rfl fun a hf => ⟨.inr (hw.back (IH.le_refl _) (sc (sc (scc sr)))), ?_⟩
    refine tR rfl hf (fun w hw => r_assign hf rfl) rfl fun a hf => t_done <| c_blockN <| ct <| wr <| om hf rfl rfl fun a hf => oR hf (r_add hf rfl rfl) rfl fun a hf => oa hf rfl rfl fun a hf => oN <| ct ?_
    replace hw : Ok E I2_2321 (.row v2476 9 1 m2477 cs2478 :: .blk b2328 (.cells ⟨[rvv2322, rvv2324, .bool y2317.ok_]⟩ 37 (0, 0)) :: F) w := hw.sub (sc (scc (scc sr)))
    exact ih (y2417 ++ [y2464], w64 (y2422 + 1)) _ _ ⟨v2476, m2477, cs2478, hw, hf.to ⟨rfl, rfl, rfl, rfl, rfl, trivial⟩, hRR2479⟩ hp
   ·replace hp := cond_f hb2456 hp
    refine wp_exit <| c_thenE <| c_thenE <| c_exit <| ct ?_
    have ho := oI hp
    subst ho
    exact ⟨y2417, yv2418, m2419, cs2420, rfl, hw, hf.to ⟨rfl, rfl, trivial⟩, hRR2421⟩
  ·intro a w hM
   obtain ⟨y2448, yv2449, m2450, cs2451, rfl, hw, hf, hRR2452⟩ := hM
   replace hp := hq2454
   refine ct <| wq <| wr <| om hf rfl rfl fun a hf => om hf rfl rfl fun a hf => oa hf rfl rfl fun a hf => oa hf rfl rfl fun a hf => oN <| ct <| wp_ret ?_
   have hw : Ok E I2_2321 (.row yv2449 9 1 m2450 cs2451 :: .blk b2328 (.cells ⟨[rvv2322, rvv2324, Value.bool y2317.ok_]⟩ 37 (0, 0)) :: F) w := hw.front (i := 0) rfl
   obtain ⟨I2482, hle2483, hw, hR2484⟩ := row_freeze (K := ekS) hw hRR2452
   replace hG := hG.mono hle2483
   replace hR2323 := hR2323.mono hle2483
   replace hR2325 := hR2325.mono hle2483
   replace hw : Ok E I2482 (F) w := hw.sub (sc sr)
   have ho := oI hp
   simp only [Prod.mk.injEq] at ho
   obtain ⟨rfl, rfl⟩ := ho
   exact b_ret2 hf Go.Proofs.Tryd.results34 rfl rfl ⟨_, rfl, ⟨I2482, yv2449, rfl, (IH.le_trans (IH.le_trans hle769 hle2327) hle2483), hw, hR2484⟩⟩

theorem keep_Texts_ok {E : World} {I : IH} {F : List Atom} {w : World} {a0 : List ByteArray} {a0v2495 : Value} {a1 : List ByteArray} {a1v2497 : Value} {res0 : Bool} (hw : Ok E I (F) w) (hG : Gl I) (hR2496 : RS ekS I a0v2495 a0) (hR2498 : RS ekS I a1v2497 a1) (hp : keep_Texts.f a0 a1 = some res0) :
  Calls P 19 ⟨[a0v2495, a1v2497]⟩ w fun e w' => ∃ v, e = .returned v ∧ v = Value.bool res0 ∧ Ok E I (F) w' := by
 refine c_enter Go.Proofs.Tryd.func19 rfl Go.Proofs.Tryd.ntmps19 rfl fun a hf => ?_
 replace hf : Fr 26 [(0, a0v2495), (1, a1v2497)] a := hf
 unfold keep_Texts.f at hp
 refine wq <| wr <| oa hf rfl rfl fun a hf => oN <| ct <| wq <| wq <| wr <| om hf rfl rfl fun a hf => oR hf (r_lenL (K := ekS) hf el_28 rfl (hR2496.rd hw)) rfl fun a hf => om hf rfl rfl fun a hf => oR hf (r_lenL (K := ekS) hf el_28 rfl (hR2498.rd hw)) rfl fun a hf => oR hf (iC hf rfl rfl rfl) rfl fun a hf => oN <| ct <| cC hf rfl (fun hb1 => ?_) (fun hb1 => ?_)
 ·replace hp := cond_t hb1 hp
  refine wq <| wr <| oa hf rfl rfl fun a hf => oN <| ct <| wp_ret <| c_thenR ?_
  have ho := oI hp
  subst ho
  exact b_ret1 hf Go.Proofs.Tryd.results19 rfl ⟨_, rfl, ⟨rfl, hw⟩⟩
 ·replace hp := cond_f hb1 hp
  refine wp_skip <| ct <| wq <| wq <| wr <| oa hf rfl rfl fun a hf => oN <| ct ?_
  obtain ⟨out19, hp, hq20⟩ := bS hp
  refine c_cutX (fun a w => (.inl ()) = out19 ∧ Ok E I (F) w ∧ Fr 26 ([]) a) ?_ ?_
  ·refine wp_block <| c_loop <| c_fuel (keep_Texts.l0 a0 a1) out19 (fun (y13 : Int) a w => Ok E I (F) w ∧ Fr 26 ([(0, a0v2495), (1, a1v2497), (5, .int .i64 y13)]) a) (fun _ => rfl) ?_ BIG 0 _ _ ⟨hw, hf.to ⟨rfl, rfl, rfl, trivial⟩⟩ hp
   intro k y13 a w hI hp ih
   obtain ⟨hw, hf⟩ := hI
   rw [keep_Texts.l0] at hp
   refine wq <| wq <| wr <| om hf rfl rfl fun a hf => om hf rfl rfl fun a hf => oR hf (r_lenL (K := ekS) hf el_28 rfl (hR2496.rd hw)) rfl fun a hf => oR hf (iC hf rfl rfl rfl) rfl fun a hf => oN <| ct <| cC hf rfl (fun hb22 => ?_) (fun hb22 => ?_)
   ·replace hp := cond_t hb22 hp
    refine wp_skip <| ct <| wq <| wp_block <| wq <| c_drawn mix [] (.rd 0 (.rd 1 (.rd 2 (.rd 3 (.rd 4 (.rd 5 (.rd 6 (.rd 7 (.rd 8 .done))))))))) (by kernel_rfl) hw (fun w => Ok E I (F) w) (fun w hw => ⟨hw.sub sr, ?_⟩)
    refine tm rfl hf rfl rfl fun a hf => tm rfl hf rfl rfl fun a hf => ?_
    obtain ⟨hg24, hp⟩ := gS hp
    refine tR rfl hf (fun w hw => rI (K := ekS) hf el_28 rfl rfl (hR2496.rd hw) hg24) rfl fun a hf => tR rfl hf (fun w hw => r_loadH (K := ekS) hf rfl ty_9 (hR2496.rd hw) hg24 rfl (fun cs h => ekS_f0 h)) rfl fun a hf => tm rfl hf rfl rfl fun a hf => tm rfl hf rfl rfl fun a hf => ?_
    obtain ⟨hg25, hp⟩ := gS hp
    refine tR rfl hf (fun w hw => rI (K := ekS) hf el_28 rfl rfl (hR2498.rd hw) hg25) rfl fun a hf => tR rfl hf (fun w hw => r_loadH (K := ekS) hf rfl ty_9 (hR2498.rd hw) hg25 rfl (fun cs h => ekS_f0 h)) rfl fun a hf => tR rfl hf (fun w hw => r_scmp hf rfl rfl rfl) rfl fun a hf => t_done <| ct <| cC hf rfl (fun hb26 => ?_) (fun hb26 => ?_)
    ·replace hp := cond_t hb26 hp
     refine wq <| wr <| oa hf rfl rfl fun a hf => oN <| ct <| wp_ret <| c_blockR <| c_thenR <| c_thenR <| c_blockR <| c_thenR ?_
     have ho := oI hp
     subst ho
     replace hp := hq20
     refine c_thenR ?_
     have ho := oI hp
     subst ho
     exact b_ret1 hf Go.Proofs.Tryd.results19 rfl ⟨_, rfl, ⟨rfl, hw⟩⟩
    ·replace hp := cond_f hb26 hp
     refine wp_skip <| c_blockN <| ct <| wr <| om hf rfl rfl fun a hf => oR hf (r_add hf rfl rfl) rfl fun a hf => oa hf rfl rfl fun a hf => oN <| ct ?_
     exact ih (w64 (y13 + 1)) _ _ ⟨hw, hf.to ⟨rfl, rfl, rfl, trivial⟩⟩ hp
   ·replace hp := cond_f hb22 hp
    refine wp_exit <| c_thenE <| c_thenE <| c_exit <| ct ?_
    have ho := oI hp
    subst ho
    exact ⟨rfl, hw, hf.to trivial⟩
  ·intro a w hM
   obtain ⟨rfl, hw, hf⟩ := hM
   replace hp := hq20
   refine ct <| wq <| wr <| oa hf rfl rfl fun a hf => oN <| ct <| wp_ret ?_
   have ho := oI hp
   subst ho
   exact b_ret1 hf Go.Proofs.Tryd.results19 rfl ⟨_, rfl, ⟨rfl, hw⟩⟩
end Go.Lf
