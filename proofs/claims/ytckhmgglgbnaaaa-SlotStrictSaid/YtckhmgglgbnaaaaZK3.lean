import Derived.Test.YtckhmgglgbnaaaaZD
import Derived.Test.YtckhmgglgbnaaaaZF
import Derived.Test.YtckhmgglgbnaaaaUB
import Derived.Test.YtckhmgglgbnaaaaN
import Derived.Test.YtckhmgglgbnaaaaBL
import Derived.Test.YtckhmgglgbnaaaaZK1
import Derived.Test.YtckhmgglgbnaaaaZK2
set_option linter.unusedVariables false
set_option linter.unusedSimpArgs false
set_option maxHeartbeats 1000000
set_option maxRecDepth 20000
namespace Go.Lf
open Go Go.Proofs.Try
theorem ref10_Pairs_ok {E : World} {I : IH} {F : List Atom} {w : World} {a0 : List Node} {a0v4 : Value} {res0 : ref10_Got_T} (hw : Ok E I (F) w) (hR5 : RS ek_Node I a0v4 a0) (hp : ref10_Pairs.f a0 = some res0) :
  Calls P 37 ⟨[a0v4]⟩ w fun e w' => ∃ v, e = .returned v ∧ ∃ I2 : IH, ∃ rvv14093 : Value, v = Value.agg ⟨[rvv14093, Value.bool res0.ok_]⟩ ∧ IH.le I I2 ∧ Ok E I2 (F) w' ∧ RS ek_Pair I2 rvv14093 res0.l_ := by
 refine c_enter func37 rfl ntmps37 rfl fun a hf => ?_
 replace hf : Fr 133 [(0, a0v4)] a := hf
 unfold ref10_Pairs.f at hp
 refine wq <| wr ?_
 obtain ⟨b1, w, hrun2, hw⟩ := e_alloc (P := P) (a := a) hw ty_83
 refine o_eff hf (hrun2 ..) rfl fun a hf => oN <| ct <| wq <| wr <| om hf rfl rfl fun a hf => oR hf (r_lenL (K := ek_Node) hf el_23 rfl (hR5.rd hw)) rfl fun a hf => ?_
 obtain ⟨hg4, hp⟩ := gS hp
 obtain ⟨w, v5, cs8, hrun6, hw, hRR7⟩ := e_makeSlice (P := P) (K := ekS) hw hf (l := .tmp 14) (c := .tmp 14) el_45 ty_9 rfl (by decide) rfl rfl (x := e0) (fun _ => rfl) hg4
 refine o_eff hf (hrun6 ..) rfl fun a hf => oa hf rfl rfl fun a hf => oN <| ct <| wq <| wr <| om hf rfl rfl fun a hf => oR hf (r_lenL (K := ek_Node) hf el_23 rfl (hR5.rd hw)) rfl fun a hf => ?_
 obtain ⟨hg10, hp⟩ := gS hp
 obtain ⟨w, v11, cs14, hrun12, hw, hRR13⟩ := e_makeSlice (P := P) (K := ekB) hw hf (l := .tmp 17) (c := .tmp 17) el_91 ty_4 rfl (by decide) rfl rfl (x := false) (fun _ => rfl) hg10
 refine o_eff hf (hrun12 ..) rfl fun a hf => oa hf rfl rfl fun a hf => oN <| ct <| wq <| wr <| oa hf rfl rfl fun a hf => oN <| ct <| wq <| wq <| wr <| oa hf rfl rfl fun a hf => oN <| ct ?_
 replace hw := hw.nilrow 55 2
 have hRR2348 : RowR ek_Pair I [] [] := RowR.nil
 obtain ⟨out7385, hp, hq7386⟩ := bS hp
 refine c_cutX (fun a w => ∃ y7370 : List Bool, ∃ y7375 : List Pair, ∃ y7380 : List ByteArray, ∃ yv7371 : Value, ∃ m7372 : Nat, ∃ cs7373 : List Value, ∃ yv7376 : Value, ∃ m7377 : Nat, ∃ cs7378 : List Value, ∃ yv7381 : Value, ∃ m7382 : Nat, ∃ cs7383 : List Value, (.inl (y7370, y7375, y7380)) = out7385 ∧ Ok E I (.row yv7376 55 2 m7377 cs7378 :: .row yv7371 4 1 m7372 cs7373 :: .row yv7381 9 1 m7382 cs7383 :: .blk b1 (.cells ⟨[.slice none 0 0, .bool false]⟩ 83 (0, 0)) :: F) w ∧ Fr 133 ([(0, a0v4), (2, .pointer (some ⟨b1, 0, none⟩)), (5, yv7376)]) a ∧ RowR ekB I cs7373 y7370 ∧ RowR ek_Pair I cs7378 y7375 ∧ RowR ekS I cs7383 y7380) ?_ ?_
 ·refine wp_block <| c_loop <| c_fuel (ref10_Pairs.l0 a0) out7385 (fun (y5691, y5696, y5701, y5706) a w => ∃ yv5692 : Value, ∃ m5693 : Nat, ∃ cs5694 : List Value, ∃ yv5697 : Value, ∃ m5698 : Nat, ∃ cs5699 : List Value, ∃ yv5702 : Value, ∃ m5703 : Nat, ∃ cs5704 : List Value, Ok E I (.row yv5697 55 2 m5698 cs5699 :: .row yv5692 4 1 m5693 cs5694 :: .row yv5702 9 1 m5703 cs5704 :: .blk b1 (.cells ⟨[.slice none 0 0, .bool false]⟩ 83 (0, 0)) :: F) w ∧ Fr 133 ([(0, a0v4), (2, .pointer (some ⟨b1, 0, none⟩)), (3, yv5702), (4, yv5692), (5, yv5697), (6, .int .i64 y5706)]) a ∧ RowR ekB I cs5694 y5691 ∧ RowR ek_Pair I cs5699 y5696 ∧ RowR ekS I cs5704 y5701) (fun _ => rfl) ?_ BIG (List.replicate (a0.length : Int).toNat false, ([] : List Pair), List.replicate (a0.length : Int).toNat e0, 0) _ _ ⟨v11, (((a0.length : Int)).toNat), cs14, (.slice none 0 0), 0, [], v5, (((a0.length : Int)).toNat), cs8, hw, hf.to ⟨rfl, rfl, rfl, rfl, rfl, rfl, trivial⟩, hRR13, hRR2348, hRR7⟩ hp
  intro k st a w hI hp ih
  obtain ⟨y5691, y5696, y5701, y5706⟩ := st
  obtain ⟨yv5692, m5693, cs5694, yv5697, m5698, cs5699, yv5702, m5703, cs5704, hw, hf, hRR5695, hRR5700, hRR5705⟩ := hI
  rw [ref10_Pairs.l0] at hp
  refine wq <| wq <| wr <| om hf rfl rfl fun a hf => om hf rfl rfl fun a hf => oR hf (r_lenL (K := ek_Node) hf el_23 rfl (hR5.rd hw)) rfl fun a hf => oR hf (iC hf rfl rfl rfl) rfl fun a hf => oN <| ct <| cC hf rfl (fun hb7388 => ?_) (fun hb7388 => ?_)
  ·replace hp := cond_t hb7388 hp
   refine wp_skip <| ct <| wq <| wp_block <| wq ?_
   obtain ⟨out8236, hp, hq8237⟩ := bS hp
   refine c_cut (fun a w => ∃ y8235 : Bool, y8235 = out8236 ∧ Ok E I (.row yv5697 55 2 m5698 cs5699 :: .row yv5692 4 1 m5693 cs5694 :: .row yv5702 9 1 m5703 cs5704 :: .blk b1 (.cells ⟨[.slice none 0 0, .bool false]⟩ 83 (0, 0)) :: F) w ∧ Fr 133 ([(0, a0v4), (2, .pointer (some ⟨b1, 0, none⟩)), (3, yv5702), (4, yv5692), (5, yv5697), (6, .int .i64 y5706), (33, .bool y8235)]) a) ?_ ?_
   ·refine wr <| om hf rfl rfl fun a hf => oR hf (iC hf rfl rfl rfl) rfl fun a hf => om hf rfl rfl fun a hf => g_split hf (g := 27) rfl (fun hb8238 hf => ?_) (fun hb8238 hf => ?_)
    ·replace hp := cond_t hb8238 hp
     refine oW hf (g := 27) rfl rfl <| om hf rfl rfl fun a hf => oW hf (g := 27) rfl rfl <| om hf rfl rfl fun a hf => ?_
     obtain ⟨hg8239, hp⟩ := gS hp
     refine oW hf (g := 27) rfl rfl <| oR hf (rI (K := ekB) hf el_91 rfl rfl (rR (K := ekB) hw (i := 1) rfl hRR5695) hg8239) rfl fun a hf => oW hf (g := 27) rfl rfl <| oR hf (r_loadH (K := ekB) hf rfl ty_4 (rR (K := ekB) hw (i := 1) rfl hRR5695) hg8239 rfl (fun cs h => ekB_f0 h)) rfl fun a hf => oW hf (g := 27) rfl rfl <| oR hf (r_not hf rfl) rfl fun a hf => oR hf (pT hf rfl rfl) rfl fun a hf => oN <| ct ?_
     have ho := oI hp
     subst ho
     exact ⟨(!(gt y5691 y5706)), rfl, hw, hf.to ⟨rfl, rfl, rfl, rfl, rfl, rfl, rfl, trivial⟩⟩
    ·replace hp := cond_f hb8238 hp
     refine oQ hf (g := 27) rfl fun a hf => oQ hf (g := 27) rfl fun a hf => oQ hf (g := 27) rfl fun a hf => oQ hf (g := 27) rfl fun a hf => oQ hf (g := 27) rfl fun a hf => oR hf (pF hf rfl rfl) rfl fun a hf => oN <| ct ?_
     have ho := oI hp
     subst ho
     exact ⟨false, rfl, hw, hf.to ⟨rfl, rfl, rfl, rfl, rfl, rfl, rfl, trivial⟩⟩
   ·intro a w hM
    obtain ⟨y8235, rfl, hw, hf⟩ := hM
    replace hp := hq8237
    refine cC hf rfl (fun hb8240 => ?_) (fun hb8240 => ?_)
    ·replace hp := cond_t hb8240 hp
     refine wq <| wr <| oR hf (r_build hf bd_83 (vs := []) rfl trivial (by decide) (out := [.slice none 0 0, .bool false]) rfl) rfl fun a hf => ?_
     obtain ⟨w, hrun8241, hw⟩ := e_store (P := P) hw hf (x := .tmp 2) (y := .tmp 34) rfl rfl ty_83 3 rfl (vs := [.slice none 0 0, .bool false]) rfl rfl (oC rfl (oC rfl ones_nil)) (by simp [arrC_len]) (cs' := [.slice none 0 0, .bool false]) rfl
     dsimp only [List.set] at hw
     refine o_effU (hrun8241 ..) <| oN <| ct <| wp_ret <| c_thenR <| c_blockR <| c_thenR <| c_thenR <| c_blockR <| c_thenR ?_
     have ho := oI hp
     subst ho
     replace hp := hq7386
     refine c_thenR ?_
     replace hw : Ok E I (.blk b1 (.cells ⟨[.slice none 0 0, .bool false]⟩ 83 (0, 0)) :: F) w := hw.sub (sc (sc (sc (scc sr))))
     have ho := oI hp
     subst ho
     exact b_retC hw hf results37 ty_83 rfl 0 rfl (vs := [.slice none 0 0, .bool false]) rfl rfl ⟨_, rfl, ⟨I, (Value.slice none 0 0), rfl, (IH.le_refl _), hw.tail, RS.nil⟩⟩
    ·replace hp := cond_f hb8240 hp
     refine wp_skip <| ct <| wq <| wr <| om hf rfl rfl fun a hf => om hf rfl rfl fun a hf => ?_
     obtain ⟨hg8242, hp⟩ := gS hp
     refine oR hf (rI (K := ek_Node) hf el_23 rfl rfl (hR5.rd hw) hg8242) rfl fun a hf => oR hf (r_loadHP (K := ek_Node) hf rfl ty_51 (hR5.rd hw) hg8242 rfl (vs := (.int .i64 ((gt a0 y5706).kind_) :: .string ((gt a0 y5706).path_) :: .bool ((gt a0 y5706).has_) :: .string ((gt a0 y5706).value_) :: arrC .i64 ((gt a0 y5706).kids_))) (fun cs h => Node_all h) (by simp [arrC_len])) rfl fun a hf => ?_
     obtain ⟨b8243, w, hrun8244, hw⟩ := e_alloc (P := P) (a := a) hw ty_51
     refine o_eff hf (hrun8244 ..) rfl fun a hf => ?_
     obtain ⟨w, hrun8246, hw⟩ := e_store (P := P) hw hf (x := .tmp 7) (y := .tmp 38) rfl rfl ty_51 0 rfl (vs := (.int .i64 ((gt a0 y5706).kind_) :: .string ((gt a0 y5706).path_) :: .bool ((gt a0 y5706).has_) :: .string ((gt a0 y5706).value_) :: arrC .i64 ((gt a0 y5706).kids_))) rfl (by simp [arrC_len]) (oC rfl (oC rfl (oC rfl (oC rfl (arrC_one _ _))))) (by simp [arrC_len]) (cs' := (.int .i64 ((gt a0 y5706).kind_) :: .string ((gt a0 y5706).path_) :: .bool ((gt a0 y5706).has_) :: .string ((gt a0 y5706).value_) :: arrC .i64 ((gt a0 y5706).kids_))) (by simp [arrC_len])
     dsimp only [List.set] at hw
     refine o_effU (hrun8246 ..) <| oN <| ct <| wq <| c_drawn mix [] (.rd 0 (.rd 1 (.rd 2 (.rd 3 (.rd 4 (.rd 5 (.rd 6 (.rd 7 .done)))))))) (by kernel_rfl) hw (fun w => Ok E I (.blk b8243 (.cells ⟨.int .i64 ((gt a0 y5706).kind_) :: .string ((gt a0 y5706).path_) :: .bool ((gt a0 y5706).has_) :: .string ((gt a0 y5706).value_) :: arrC .i64 ((gt a0 y5706).kids_)⟩ 51 (0, 0)) :: .row yv5697 55 2 m5698 cs5699 :: .row yv5692 4 1 m5693 cs5694 :: .row yv5702 9 1 m5703 cs5704 :: .blk b1 (.cells ⟨[.slice none 0 0, .bool false]⟩ 83 (0, 0)) :: F) w) (fun w hw => ⟨hw.sub (scc (scc (scc (scc (scc sr))))), ?_⟩)
     refine tm rfl hf rfl rfl fun a hf => tm rfl hf rfl rfl fun a hf => ?_
     obtain ⟨hg8248, hp⟩ := gS hp
     refine tR rfl hf (fun w hw => rI (K := ekS) hf el_45 rfl rfl (rR (K := ekS) hw (i := 3) rfl hRR5705) hg8248) rfl fun a hf => tR rfl hf (fun w hw => r_loadH (K := ekS) hf rfl ty_9 (rR (K := ekS) hw (i := 3) rfl hRR5705) hg8248 rfl (fun cs h => ekS_f0 h)) rfl fun a hf => tR rfl hf (fun w hw => rF hf rfl fd_51_1) rfl fun a hf => tR rfl hf (fun w hw => rL hw hf rfl ty_9 0 rfl rfl) rfl fun a hf => ?_
     obtain ⟨hg8249, hp⟩ := gS hp
     refine tR rfl hf (fun w hw => r_sadd hf rfl rfl hg8249) rfl fun a hf => tR rfl hf (fun w hw => r_assign hf rfl) rfl fun a hf => t_done <| ct <| wq ?_
     obtain ⟨out8261, hp, hq8262⟩ := bS hp
     refine c_cut (fun a w => ∃ y8260 : Bool, y8260 = out8261 ∧ Ok E I (.blk b8243 (.cells ⟨.int .i64 ((gt a0 y5706).kind_) :: .string ((gt a0 y5706).path_) :: .bool ((gt a0 y5706).has_) :: .string ((gt a0 y5706).value_) :: arrC .i64 ((gt a0 y5706).kids_)⟩ 51 (0, 0)) :: .row yv5697 55 2 m5698 cs5699 :: .row yv5692 4 1 m5693 cs5694 :: .row yv5702 9 1 m5703 cs5704 :: .blk b1 (.cells ⟨[.slice none 0 0, .bool false]⟩ 83 (0, 0)) :: F) w ∧ Fr 133 ([(0, a0v4), (2, .pointer (some ⟨b1, 0, none⟩)), (3, yv5702), (4, yv5692), (5, yv5697), (6, .int .i64 y5706), (7, .pointer (some ⟨b8243, 0, none⟩)), (8, .string ((gt y5701 y5706) ++ ((gt a0 y5706).path_))), (54, .bool y8260)]) a) ?_ ?_
     ·refine wr <| oR hf (rF hf rfl fd_51_1) rfl fun a hf => oR hf (rL hw hf rfl ty_9 0 rfl rfl) rfl fun a hf => oR hf (r_lenS hf und_9 rfl) rfl fun a hf => oR hf (iC hf rfl rfl rfl) rfl fun a hf => om hf rfl rfl fun a hf => g_split hf (g := 50) rfl (fun hb8263 hf => ?_) (fun hb8263 hf => ?_)
      ·replace hp := cond_t hb8263 hp
       refine oQ hf (g := 50) rfl fun a hf => oQ hf (g := 50) rfl fun a hf => oQ hf (g := 50) rfl fun a hf => oR hf (pT hf rfl rfl) rfl fun a hf => oN <| ct ?_
       have ho := oI hp
       subst ho
       exact ⟨true, rfl, hw, hf.to ⟨rfl, rfl, rfl, rfl, rfl, rfl, rfl, rfl, rfl, trivial⟩⟩
      ·replace hp := cond_f hb8263 hp
       refine oW hf (g := 50) rfl rfl <| om hf rfl rfl fun a hf => oW hf (g := 50) rfl rfl <| oR hf (r_lenS hf und_9 rfl) rfl fun a hf => oW hf (g := 50) rfl rfl <| oR hf (iC hf rfl rfl rfl) rfl fun a hf => oR hf (pF hf rfl rfl) rfl fun a hf => oN <| ct ?_
       have ho := oI hp
       subst ho
       exact ⟨(decide ((((gt y5701 y5706) ++ ((gt a0 y5706).path_)).size : Int) > 16)), rfl, hw, hf.to ⟨rfl, rfl, rfl, rfl, rfl, rfl, rfl, rfl, rfl, trivial⟩⟩
     ·intro a w hM
      obtain ⟨y8260, rfl, hw, hf⟩ := hM
      replace hp := hq8262
      refine cC hf rfl (fun hb8264 => ?_) (fun hb8264 => ?_)
      ·replace hp := cond_t hb8264 hp
       refine wq <| wr <| oR hf (r_build hf bd_83 (vs := []) rfl trivial (by decide) (out := [.slice none 0 0, .bool false]) rfl) rfl fun a hf => ?_
       obtain ⟨w, hrun8265, hw⟩ := e_store (P := P) hw hf (x := .tmp 2) (y := .tmp 55) rfl rfl ty_83 4 rfl (vs := [.slice none 0 0, .bool false]) rfl rfl (oC rfl (oC rfl ones_nil)) (by simp [arrC_len]) (cs' := [.slice none 0 0, .bool false]) rfl
       dsimp only [List.set] at hw
       refine o_effU (hrun8265 ..) <| oN <| ct <| wp_ret <| c_thenR <| c_blockR <| c_thenR <| c_thenR <| c_blockR <| c_thenR ?_
       have ho := oI hp
       subst ho
       replace hp := hq7386
       refine c_thenR ?_
       replace hw : Ok E I (.blk b1 (.cells ⟨[.slice none 0 0, .bool false]⟩ 83 (0, 0)) :: F) w := hw.sub (sc (sc (sc (sc (scc sr)))))
       have ho := oI hp
       subst ho
       exact b_retC hw hf results37 ty_83 rfl 0 rfl (vs := [.slice none 0 0, .bool false]) rfl rfl ⟨_, rfl, ⟨I, (Value.slice none 0 0), rfl, (IH.le_refl _), hw.tail, RS.nil⟩⟩
      ·replace hp := cond_f hb8264 hp
       refine wp_skip <| ct ?_
       obtain ⟨out8319, hp, hq8320⟩ := bS hp
       refine c_cut (fun a w => ∃ y8314 : List Pair, ∃ yv8315 : Value, ∃ m8316 : Nat, ∃ cs8317 : List Value, (.inl y8314) = out8319 ∧ Ok E I (.blk b8243 (.cells ⟨.int .i64 ((gt a0 y5706).kind_) :: .string ((gt a0 y5706).path_) :: .bool ((gt a0 y5706).has_) :: .string ((gt a0 y5706).value_) :: arrC .i64 ((gt a0 y5706).kids_)⟩ 51 (0, 0)) :: .row yv8315 55 2 m8316 cs8317 :: .row yv5692 4 1 m5693 cs5694 :: .row yv5702 9 1 m5703 cs5704 :: .blk b1 (.cells ⟨[.slice none 0 0, .bool false]⟩ 83 (0, 0)) :: F) w ∧ Fr 133 ([(0, a0v4), (2, .pointer (some ⟨b1, 0, none⟩)), (3, yv5702), (4, yv5692), (5, yv8315), (6, .int .i64 y5706), (7, .pointer (some ⟨b8243, 0, none⟩)), (8, .string ((gt y5701 y5706) ++ ((gt a0 y5706).path_)))]) a ∧ RowR ek_Pair I cs8317 y8314) ?_ ?_
       ·refine wq <| wr <| oR hf (rF hf rfl fd_51_2) rfl fun a hf => oR hf (rL hw hf rfl ty_4 0 rfl rfl) rfl fun a hf => oN <| ct <| cC hf rfl (fun hb8321 => ?_) (fun hb8321 => ?_)
        ·replace hp := cond_t hb8321 hp
         refine wq <| wr <| om hf rfl rfl fun a hf => ?_
         obtain ⟨y8322, hy8323, hp⟩ := bS hp
         have hc8325 := ref02_Key_ok hw hy8323
         refine o_call hf cb_62 rfl rfl hc8325 (fun v8327 w a hK8326 hf => ?_)
         obtain ⟨rfl, hw⟩ := hK8326
         obtain ⟨b8328, w, hrun8329, hw⟩ := e_alloc (P := P) (a := a) hw ty_126
         refine o_eff hf (hrun8329 ..) rfl fun a hf => ?_
         obtain ⟨w, hrun8331, hw⟩ := e_store (P := P) hw hf (x := .tmp 9) (y := .tmp 59) rfl rfl ty_126 0 rfl (vs := [.string y8322.s_, .bool y8322.ok_]) rfl rfl (oC rfl (oC rfl ones_nil)) (by simp [arrC_len]) (cs' := [.string y8322.s_, .bool y8322.ok_]) rfl
         dsimp only [List.set] at hw
         refine o_effU (hrun8331 ..) <| oN <| ct <| wq <| wq <| wr <| oR hf (rF hf rfl fd_126_1) rfl fun a hf => oR hf (rL hw hf rfl ty_4 0 rfl rfl) rfl fun a hf => oR hf (r_not hf rfl) rfl fun a hf => oN <| ct <| cC hf rfl (fun hb8332 => ?_) (fun hb8332 => ?_)
         ·replace hp := cond_t hb8332 hp
          refine wq <| wr <| oR hf (r_build hf bd_83 (vs := []) rfl trivial (by decide) (out := [.slice none 0 0, .bool false]) rfl) rfl fun a hf => ?_
          obtain ⟨w, hrun8333, hw⟩ := e_store (P := P) hw hf (x := .tmp 2) (y := .tmp 63) rfl rfl ty_83 5 rfl (vs := [.slice none 0 0, .bool false]) rfl rfl (oC rfl (oC rfl ones_nil)) (by simp [arrC_len]) (cs' := [.slice none 0 0, .bool false]) rfl
          dsimp only [List.set] at hw
          refine o_effU (hrun8333 ..) <| oN <| ct <| wp_ret <| c_thenR <| c_thenR ?_
          have ho := oI hp
          subst ho
          replace hp := hq8320
          refine c_blockR <| c_thenR <| c_thenR <| c_blockR <| c_thenR ?_
          have ho := oI hp
          subst ho
          replace hp := hq7386
          refine c_thenR ?_
          replace hw : Ok E I (.blk b1 (.cells ⟨[.slice none 0 0, .bool false]⟩ 83 (0, 0)) :: F) w := hw.sub (sc (sc (sc (sc (sc (scc sr))))))
          have ho := oI hp
          subst ho
          exact b_retC hw hf results37 ty_83 rfl 0 rfl (vs := [.slice none 0 0, .bool false]) rfl rfl ⟨_, rfl, ⟨I, (Value.slice none 0 0), rfl, (IH.le_refl _), hw.tail, RS.nil⟩⟩
         ·replace hp := cond_f hb8332 hp
          refine wp_skip <| ct <| wr <| om hf rfl rfl fun a hf => oR hf (rF hf rfl fd_126_0) rfl fun a hf => oR hf (rL hw hf rfl ty_9 0 rfl rfl) rfl fun a hf => oR hf (rF hf rfl fd_51_3) rfl fun a hf => oR hf (rL hw hf rfl ty_9 1 rfl rfl) rfl fun a hf => oR hf (r_build hf bd_55 (vs := [.string y8322.s_, .string ((gt a0 y5706).value_)]) rfl ⟨rfl, rfl, trivial⟩ (by decide) (out := [.string y8322.s_, .string ((gt a0 y5706).value_)]) rfl) rfl fun a hf => ?_
          obtain ⟨w, v8334, hrun8335, hw, hRR8336⟩ := e_buildSlice (P := P) (K := ek_Pair) (m := 1) hw hf (parts := [(0, .tmp 69)]) el_43 ty_55 rfl rfl rfl (ccs := [[Value.string y8322.s_, Value.string ((gt a0 y5706).value_)]]) rfl (xs := [(⟨y8322.s_, (gt a0 y5706).value_⟩ : Pair)]) ⟨rfl, trivial⟩ rfl
          obtain ⟨cs8337, hcs⟩ : ∃ cs, cs = ([[Value.string y8322.s_, Value.string ((gt a0 y5706).value_)]] : List (List Value)).flatten := ⟨_, rfl⟩
          rw [← hcs] at hw hRR8336; clear hcs
          refine o_eff hf (hrun8335 ..) rfl fun a hf => ?_
          obtain ⟨hg8339, hp⟩ := gS hp
          obtain ⟨w, v8340, m8341, cs8342, hrun8344, hw, hRR8343⟩ := e_append (P := P) (K := ek_Pair) (ty := 43) hw hf (s := .tmp 64) (x := .tmp 70) el_43 ty_55 rfl (by decide) 3 rfl rfl rfl hRR5700 (ys := [(⟨y8322.s_, (gt a0 y5706).value_⟩ : Pair)]) (rR (K := ek_Pair) hw (i := 0) rfl hRR8336) hg8339
          replace hw : Ok E I (.row v8334 55 2 1 cs8337 :: .blk b8328 (.cells ⟨[.string y8322.s_, .bool y8322.ok_]⟩ 126 (0, 0)) :: .blk b8243 (.cells ⟨.int .i64 ((gt a0 y5706).kind_) :: .string ((gt a0 y5706).path_) :: .bool ((gt a0 y5706).has_) :: .string ((gt a0 y5706).value_) :: arrC .i64 ((gt a0 y5706).kids_)⟩ 51 (0, 0)) :: .row v8340 55 2 m8341 cs8342 :: .row yv5692 4 1 m5693 cs5694 :: .row yv5702 9 1 m5703 cs5704 :: .blk b1 (.cells ⟨[.slice none 0 0, .bool false]⟩ 83 (0, 0)) :: F) w := hw
          refine o_eff hf (hrun8344 ..) rfl fun a hf => oa hf rfl rfl fun a hf => oN <| ct ?_
          have ho := oI hp
          subst ho
          replace hw : Ok E I (.blk b8243 (.cells ⟨.int .i64 ((gt a0 y5706).kind_) :: .string ((gt a0 y5706).path_) :: .bool ((gt a0 y5706).has_) :: .string ((gt a0 y5706).value_) :: arrC .i64 ((gt a0 y5706).kids_)⟩ 51 (0, 0)) :: .row v8340 55 2 m8341 cs8342 :: .row yv5692 4 1 m5693 cs5694 :: .row yv5702 9 1 m5703 cs5704 :: .blk b1 (.cells ⟨[.slice none 0 0, .bool false]⟩ 83 (0, 0)) :: F) w := hw.sub (sc (sc (scc (scc (scc (scc (scc sr)))))))
          exact ⟨(y5696 ++ [(⟨y8322.s_, (gt a0 y5706).value_⟩ : Pair)]), v8340, m8341, cs8342, rfl, hw, hf.to ⟨rfl, rfl, rfl, rfl, rfl, rfl, rfl, rfl, trivial⟩, hRR8343⟩
        ·replace hp := cond_f hb8321 hp
         refine wp_skip <| ct ?_
         have ho := oI hp
         subst ho
         exact ⟨y5696, yv5697, m5698, cs5699, rfl, hw, hf.to ⟨rfl, rfl, rfl, rfl, rfl, rfl, rfl, rfl, trivial⟩, hRR5700⟩
       ·intro a w hM
        obtain ⟨y8314, yv8315, m8316, cs8317, rfl, hw, hf, hRR8318⟩ := hM
        replace hp := hq8320
        refine wq <| wr <| oa hf rfl rfl fun a hf => oN <| ct ?_
        obtain ⟨out8878, hp, hq8879⟩ := bS hp
        refine c_cutX (fun a w => ∃ y8868 : List Bool, ∃ y8873 : List ByteArray, ∃ yv8869 : Value, ∃ m8870 : Nat, ∃ cs8871 : List Value, ∃ yv8874 : Value, ∃ m8875 : Nat, ∃ cs8876 : List Value, (.inl (y8868, y8873)) = out8878 ∧ Ok E I (.blk b8243 (.cells ⟨.int .i64 ((gt a0 y5706).kind_) :: .string ((gt a0 y5706).path_) :: .bool ((gt a0 y5706).has_) :: .string ((gt a0 y5706).value_) :: arrC .i64 ((gt a0 y5706).kids_)⟩ 51 (0, 0)) :: .row yv8315 55 2 m8316 cs8317 :: .row yv8869 4 1 m8870 cs8871 :: .row yv8874 9 1 m8875 cs8876 :: .blk b1 (.cells ⟨[.slice none 0 0, .bool false]⟩ 83 (0, 0)) :: F) w ∧ Fr 133 ([(0, a0v4), (2, .pointer (some ⟨b1, 0, none⟩)), (3, yv8874), (4, yv8869), (5, yv8315), (6, .int .i64 y5706)]) a ∧ RowR ekB I cs8871 y8868 ∧ RowR ekS I cs8876 y8873) ?_ ?_
        ·refine wp_block <| c_loop <| c_fuel (ref10_Pairs.l1 a0 y5701 y5706) out8878 (fun (y8690, y8695, y8700) a w => ∃ yv8691 : Value, ∃ m8692 : Nat, ∃ cs8693 : List Value, ∃ yv8696 : Value, ∃ m8697 : Nat, ∃ cs8698 : List Value, Ok E I (.blk b8243 (.cells ⟨.int .i64 ((gt a0 y5706).kind_) :: .string ((gt a0 y5706).path_) :: .bool ((gt a0 y5706).has_) :: .string ((gt a0 y5706).value_) :: arrC .i64 ((gt a0 y5706).kids_)⟩ 51 (0, 0)) :: .row yv8315 55 2 m8316 cs8317 :: .row yv8691 4 1 m8692 cs8693 :: .row yv8696 9 1 m8697 cs8698 :: .blk b1 (.cells ⟨[.slice none 0 0, .bool false]⟩ 83 (0, 0)) :: F) w ∧ Fr 133 ([(0, a0v4), (2, .pointer (some ⟨b1, 0, none⟩)), (3, yv8696), (4, yv8691), (5, yv8315), (6, .int .i64 y5706), (7, .pointer (some ⟨b8243, 0, none⟩)), (8, .string ((gt y5701 y5706) ++ ((gt a0 y5706).path_))), (10, .int .i64 y8700)]) a ∧ RowR ekB I cs8693 y8690 ∧ RowR ekS I cs8698 y8695) (fun _ => rfl) ?_ BIG (y5691, y5701, 0) _ _ ⟨yv5692, m5693, cs5694, yv5702, m5703, cs5704, hw, hf.to ⟨rfl, rfl, rfl, rfl, rfl, rfl, rfl, rfl, rfl, trivial⟩, hRR5695, hRR5705⟩ hp
         intro k st a w hI hp ih
         obtain ⟨y8690, y8695, y8700⟩ := st
         obtain ⟨yv8691, m8692, cs8693, yv8696, m8697, cs8698, hw, hf, hRR8694, hRR8699⟩ := hI
         rw [ref10_Pairs.l1] at hp
         refine wq <| wq <| wr <| om hf rfl rfl fun a hf => oR hf (iC hf rfl rfl rfl) rfl fun a hf => oN <| ct <| cC hf rfl (fun hb8881 => ?_) (fun hb8881 => ?_)
         ·replace hp := cond_t hb8881 hp
          refine wp_skip <| ct ?_
          obtain ⟨out8994, hp, hq8995⟩ := bS hp
          refine c_cut (fun a w => ∃ y8984 : List Bool, ∃ y8989 : List ByteArray, ∃ yv8985 : Value, ∃ m8986 : Nat, ∃ cs8987 : List Value, ∃ yv8990 : Value, ∃ m8991 : Nat, ∃ cs8992 : List Value, (.inl (y8984, y8989)) = out8994 ∧ Ok E I (.blk b8243 (.cells ⟨.int .i64 ((gt a0 y5706).kind_) :: .string ((gt a0 y5706).path_) :: .bool ((gt a0 y5706).has_) :: .string ((gt a0 y5706).value_) :: arrC .i64 ((gt a0 y5706).kids_)⟩ 51 (0, 0)) :: .row yv8315 55 2 m8316 cs8317 :: .row yv8985 4 1 m8986 cs8987 :: .row yv8990 9 1 m8991 cs8992 :: .blk b1 (.cells ⟨[.slice none 0 0, .bool false]⟩ 83 (0, 0)) :: F) w ∧ Fr 133 ([(0, a0v4), (2, .pointer (some ⟨b1, 0, none⟩)), (3, yv8990), (4, yv8985), (5, yv8315), (6, .int .i64 y5706), (7, .pointer (some ⟨b8243, 0, none⟩)), (8, .string ((gt y5701 y5706) ++ ((gt a0 y5706).path_))), (10, .int .i64 y8700)]) a ∧ RowR ekB I cs8987 y8984 ∧ RowR ekS I cs8992 y8989) ?_ ?_
          ·refine wp_block <| wq <| wr <| om hf rfl rfl fun a hf => oR hf (rF hf rfl fd_51_4) rfl fun a hf => ?_
           obtain ⟨hg8996, hp⟩ := gS hp
           refine oR hf (r_indexAddrA hf el_49 rfl rfl hg8996) rfl fun a hf => oR hf (rL hw hf rfl ty_3 0 rfl (arr_at (k := .i64) (v := (gt a0 y5706).kids_) rfl hg8996)) rfl fun a hf => oa hf rfl rfl fun a hf => oN <| ct <| wq <| wq <| wr <| om hf rfl rfl fun a hf => oR hf (iC hf rfl rfl rfl) rfl fun a hf => oN <| ct <| cC hf rfl (fun hb8997 => ?_) (fun hb8997 => ?_)
           ·replace hp := cond_t hb8997 hp
            refine wp_exit <| c_thenE <| c_exit <| ct ?_
            have ho := oI hp
            subst ho
            exact ⟨y8690, y8695, yv8691, m8692, cs8693, yv8696, m8697, cs8698, rfl, hw, hf.to ⟨rfl, rfl, rfl, rfl, rfl, rfl, rfl, rfl, rfl, trivial⟩, hRR8694, hRR8699⟩
           ·replace hp := cond_f hb8997 hp
            refine wp_skip <| ct <| wq ?_
            obtain ⟨out9019, hp, hq9020⟩ := bS hp
            refine c_cut (fun a w => ∃ y9018 : Bool, y9018 = out9019 ∧ Ok E I (.blk b8243 (.cells ⟨.int .i64 ((gt a0 y5706).kind_) :: .string ((gt a0 y5706).path_) :: .bool ((gt a0 y5706).has_) :: .string ((gt a0 y5706).value_) :: arrC .i64 ((gt a0 y5706).kids_)⟩ 51 (0, 0)) :: .row yv8315 55 2 m8316 cs8317 :: .row yv8691 4 1 m8692 cs8693 :: .row yv8696 9 1 m8697 cs8698 :: .blk b1 (.cells ⟨[.slice none 0 0, .bool false]⟩ 83 (0, 0)) :: F) w ∧ Fr 133 ([(0, a0v4), (2, .pointer (some ⟨b1, 0, none⟩)), (3, yv8696), (4, yv8691), (5, yv8315), (6, .int .i64 y5706), (7, .pointer (some ⟨b8243, 0, none⟩)), (8, .string ((gt y5701 y5706) ++ ((gt a0 y5706).path_))), (10, .int .i64 y8700), (11, .int .i64 (vg ((gt a0 y5706).kids_) y8700)), (96, .bool y9018)]) a) ?_ ?_
            ·refine wr <| om hf rfl rfl fun a hf => om hf rfl rfl fun a hf => oR hf (iC hf rfl rfl rfl) rfl fun a hf => om hf rfl rfl fun a hf => g_split hf (g := 85) rfl (fun hb9021 hf => ?_) (fun hb9021 hf => ?_)
             ·replace hp := cond_t hb9021 hp
              refine oQ hf (g := 85) rfl fun a hf => oQ hf (g := 85) rfl fun a hf => oQ hf (g := 85) rfl fun a hf => oQ hf (g := 85) rfl fun a hf => oR hf (pT hf rfl rfl) rfl fun a hf => om hf rfl rfl fun a hf => oQ hf (g := 91) rfl fun a hf => oQ hf (g := 91) rfl fun a hf => oQ hf (g := 91) rfl fun a hf => oQ hf (g := 91) rfl fun a hf => oR hf (pT hf rfl rfl) rfl fun a hf => oN <| ct ?_
              have ho := oI hp
              subst ho
              exact ⟨true, rfl, hw, hf.to ⟨rfl, rfl, rfl, rfl, rfl, rfl, rfl, rfl, rfl, rfl, rfl, trivial⟩⟩
             ·replace hp := cond_f hb9021 hp
              refine oW hf (g := 85) rfl rfl <| om hf rfl rfl fun a hf => oW hf (g := 85) rfl rfl <| om hf rfl rfl fun a hf => oW hf (g := 85) rfl rfl <| oR hf (r_lenL (K := ek_Node) hf el_23 rfl (hR5.rd hw)) rfl fun a hf => oW hf (g := 85) rfl rfl <| oR hf (iC hf rfl rfl rfl) rfl fun a hf => oR hf (pF hf rfl rfl) rfl fun a hf => om hf rfl rfl fun a hf => g_split hf (g := 91) rfl (fun hb9022 hf => ?_) (fun hb9022 hf => ?_)
              ·replace hp := cond_t hb9022 hp
               refine oQ hf (g := 91) rfl fun a hf => oQ hf (g := 91) rfl fun a hf => oQ hf (g := 91) rfl fun a hf => oQ hf (g := 91) rfl fun a hf => oR hf (pT hf rfl rfl) rfl fun a hf => oN <| ct ?_
               have ho := oI hp
               subst ho
               exact ⟨true, rfl, hw, hf.to ⟨rfl, rfl, rfl, rfl, rfl, rfl, rfl, rfl, rfl, rfl, rfl, trivial⟩⟩
              ·replace hp := cond_f hb9022 hp
               refine oW hf (g := 91) rfl rfl <| om hf rfl rfl fun a hf => oW hf (g := 91) rfl rfl <| om hf rfl rfl fun a hf => ?_
               obtain ⟨hg9023, hp⟩ := gS hp
               refine oW hf (g := 91) rfl rfl <| oR hf (rI (K := ekB) hf el_91 rfl rfl (rR (K := ekB) hw (i := 2) rfl hRR8694) hg9023) rfl fun a hf => oW hf (g := 91) rfl rfl <| oR hf (r_loadH (K := ekB) hf rfl ty_4 (rR (K := ekB) hw (i := 2) rfl hRR8694) hg9023 rfl (fun cs h => ekB_f0 h)) rfl fun a hf => oR hf (pF hf rfl rfl) rfl fun a hf => oN <| ct ?_
               have ho := oI hp
               subst ho
               exact ⟨(gt y8690 (vg ((gt a0 y5706).kids_) y8700)), rfl, hw, hf.to ⟨rfl, rfl, rfl, rfl, rfl, rfl, rfl, rfl, rfl, rfl, rfl, trivial⟩⟩
            ·intro a w hM
             obtain ⟨y9018, rfl, hw, hf⟩ := hM
             replace hp := hq9020
             refine cC hf rfl (fun hb9024 => ?_) (fun hb9024 => ?_)
             ·replace hp := cond_t hb9024 hp
              refine wq <| wr <| oR hf (r_build hf bd_83 (vs := []) rfl trivial (by decide) (out := [.slice none 0 0, .bool false]) rfl) rfl fun a hf => ?_
              obtain ⟨w, hrun9025, hw⟩ := e_store (P := P) hw hf (x := .tmp 2) (y := .tmp 97) rfl rfl ty_83 4 rfl (vs := [.slice none 0 0, .bool false]) rfl rfl (oC rfl (oC rfl ones_nil)) (by simp [arrC_len]) (cs' := [.slice none 0 0, .bool false]) rfl
              dsimp only [List.set] at hw
              refine o_effU (hrun9025 ..) <| oN <| ct <| wp_ret <| c_thenR <| c_blockR <| c_thenR ?_
              have ho := oI hp
              subst ho
              replace hp := hq8995
              refine c_thenR <| c_blockR <| c_thenR ?_
              have ho := oI hp
              subst ho
              replace hp := hq8879
              refine c_blockR <| c_thenR <| c_thenR <| c_blockR <| c_thenR ?_
              have ho := oI hp
              subst ho
              replace hp := hq7386
              refine c_thenR ?_
              replace hw : Ok E I (.blk b1 (.cells ⟨[.slice none 0 0, .bool false]⟩ 83 (0, 0)) :: F) w := hw.sub (sc (sc (sc (sc (scc sr)))))
              have ho := oI hp
              subst ho
              exact b_retC hw hf results37 ty_83 rfl 0 rfl (vs := [.slice none 0 0, .bool false]) rfl rfl ⟨_, rfl, ⟨I, (Value.slice none 0 0), rfl, (IH.le_refl _), hw.tail, RS.nil⟩⟩
             ·replace hp := cond_f hb9024 hp
              refine wp_skip <| ct <| wq <| wr <| om hf rfl rfl fun a hf => om hf rfl rfl fun a hf => ?_
              obtain ⟨hg9026, hp⟩ := gS hp
              refine oR hf (rI (K := ekB) hf el_91 rfl rfl (rR (K := ekB) hw (i := 2) rfl hRR8694) hg9026) rfl fun a hf => ?_
              obtain ⟨w, cs9028, hrun9027, hw, hRR9029⟩ := e_storeH (P := P) (K := ekB) hw hf (x := .tmp 100) (y := .const (Value.bool true)) rfl rfl ty_4 2 rfl hRR8694 hg9026 rfl (vs := [.bool true]) (oE rfl) rfl (oC rfl ones_nil) (Nat.le_of_eq (by rfl)) (x' := true) (whole_store rfl)
              replace hw : Ok E I (.blk b8243 (.cells ⟨.int .i64 ((gt a0 y5706).kind_) :: .string ((gt a0 y5706).path_) :: .bool ((gt a0 y5706).has_) :: .string ((gt a0 y5706).value_) :: arrC .i64 ((gt a0 y5706).kids_)⟩ 51 (0, 0)) :: .row yv8315 55 2 m8316 cs8317 :: .row yv8691 4 1 m8692 cs9028 :: .row yv8696 9 1 m8697 cs8698 :: .blk b1 (.cells ⟨[.slice none 0 0, .bool false]⟩ 83 (0, 0)) :: F) w := hw
              refine o_effU (hrun9027 ..) <| oN <| ct <| wq <| wr <| om hf rfl rfl fun a hf => om hf rfl rfl fun a hf => om hf rfl rfl fun a hf => ?_
              obtain ⟨hg9030, hp⟩ := gS hp
              refine oR hf (rI (K := ekS) hf el_45 rfl rfl (rR (K := ekS) hw (i := 3) rfl hRR8699) hg9030) rfl fun a hf => ?_
              obtain ⟨w, cs9032, hrun9031, hw, hRR9033⟩ := e_storeH (P := P) (K := ekS) hw hf (x := .tmp 104) (y := .tmp 103) rfl rfl ty_9 3 rfl hRR8699 hg9030 rfl (vs := [.string ((gt y5701 y5706) ++ ((gt a0 y5706).path_))]) (oE rfl) rfl (oC rfl ones_nil) (Nat.le_of_eq (by rfl)) (x' := (gt y5701 y5706) ++ ((gt a0 y5706).path_)) (whole_store rfl)
              replace hw : Ok E I (.blk b8243 (.cells ⟨.int .i64 ((gt a0 y5706).kind_) :: .string ((gt a0 y5706).path_) :: .bool ((gt a0 y5706).has_) :: .string ((gt a0 y5706).value_) :: arrC .i64 ((gt a0 y5706).kids_)⟩ 51 (0, 0)) :: .row yv8315 55 2 m8316 cs8317 :: .row yv8691 4 1 m8692 cs9028 :: .row yv8696 9 1 m8697 cs9032 :: .blk b1 (.cells ⟨[.slice none 0 0, .bool false]⟩ 83 (0, 0)) :: F) w := hw
              refine o_effU (hrun9031 ..) <| oN <| ct <| wq <| wr <| oR hf (rF hf rfl fd_51_0) rfl fun a hf => oR hf (rL hw hf rfl ty_3 0 rfl rfl) rfl fun a hf => oR hf (iC hf rfl rfl rfl) rfl fun a hf => oN <| ct <| cC hf rfl (fun hb9034 => ?_) (fun hb9034 => ?_)
              ·replace hp := cond_t hb9034 hp
               refine c_drawn mix [10] (.rd 0 (.rd 1 (.rd 2 (.rd 3 (.rd 4 (.rd 5 (.ef 6 (.ef 7 (.rd 8 (.rd 9 (.ef 10 .done))))))))))) (by kernel_rfl) hw (fun w => Ok E I (.blk b8243 (.cells ⟨.int .i64 ((gt a0 y5706).kind_) :: .string ((gt a0 y5706).path_) :: .bool ((gt a0 y5706).has_) :: .string ((gt a0 y5706).value_) :: arrC .i64 ((gt a0 y5706).kids_)⟩ 51 (0, 0)) :: .row yv8315 55 2 m8316 cs8317 :: .row yv8691 4 1 m8692 cs9028 :: .row yv8696 9 1 m8697 cs9032 :: .blk b1 (.cells ⟨[.slice none 0 0, .bool false]⟩ 83 (0, 0)) :: F) w) (fun w hw => ⟨hw.sub (scc (scc (scc (scc (scc sr))))), ?_⟩)
               refine tm rfl hf rfl rfl fun a hf => tm rfl hf rfl rfl fun a hf => ?_
               obtain ⟨hg9036, hp⟩ := gS hp
               refine tR rfl hf (fun w hw => rI (K := ekS) hf el_45 rfl rfl (rR (K := ekS) hw (i := 3) rfl hRR9033) hg9036) rfl fun a hf => tR rfl hf (fun w hw => r_loadH (K := ekS) hf rfl ty_9 (rR (K := ekS) hw (i := 3) rfl hRR9033) hg9036 rfl (fun cs h => ekS_f0 h)) rfl fun a hf => tm rfl hf rfl rfl fun a hf => tR rfl hf (fun w hw => r_convI hf und_3 und_5 rfl) rfl fun a hf => t_ef rfl ?_
               obtain ⟨w, v9037, hrun9038, hw, hRR9039⟩ := e_buildSlice (P := P) (K := (ekI .u8)) (m := 1) hw hf (parts := [(0, .tmp 113)]) el_53 ty_5 rfl rfl rfl (ccs := [[Value.int .u8 (wu8 y8700)]]) rfl (xs := [wu8 y8700]) ⟨rfl, trivial⟩ rfl
               obtain ⟨cs9040, hcs⟩ : ∃ cs, cs = ([[Value.int .u8 (wu8 y8700)]] : List (List Value)).flatten := ⟨_, rfl⟩
               rw [← hcs] at hw hRR9039; clear hcs
               refine t_eff hf (hrun9038 ..) rfl fun a hf => ⟨.inr (hw.back (IH.le_refl _) (sc (scc (scc (scc (scc (scc sr))))))), ?_⟩
               refine t_ef rfl <| t_eff hf (r_convB hf und_53 und_5 und_9 rfl (rR (K := (ekI .u8)) hw (i := 0) rfl hRR9039)) rfl fun a hf => ⟨.inr (hw.back (IH.le_refl _) (sc (scc (scc (scc (scc (scc sr))))))), ?_⟩
               obtain ⟨hg9042, hp⟩ := gS hp
               refine tR rfl hf (fun w hw => r_sadd hf rfl rfl hg9042) rfl fun a hf => ?_
               obtain ⟨hg9043, hp⟩ := gS hp
               refine tR rfl hf (fun w hw => rI (K := ekS) hf el_45 rfl rfl (rR (K := ekS) hw (i := 3) rfl hRR9033) hg9043) rfl fun a hf => t_ef rfl ?_
               obtain ⟨w, cs9045, hrun9044, hw, hRR9046⟩ := e_storeH (P := P) (K := ekS) hw hf (x := .tmp 117) (y := .tmp 116) rfl rfl ty_9 4 rfl hRR9033 hg9043 rfl (vs := [.string ((gt (y8695.set (vg ((gt a0 y5706).kids_) y8700).toNat ((gt y5701 y5706) ++ ((gt a0 y5706).path_))) (vg ((gt a0 y5706).kids_) y8700)) ++ (strOfNums [wu8 y8700]))]) (oE rfl) rfl (oC rfl ones_nil) (Nat.le_of_eq (by rfl)) (x' := (gt (y8695.set (vg ((gt a0 y5706).kids_) y8700).toNat ((gt y5701 y5706) ++ ((gt a0 y5706).path_))) (vg ((gt a0 y5706).kids_) y8700)) ++ (strOfNums [wu8 y8700])) (whole_store rfl)
               replace hw : Ok E I (.row v9037 5 1 1 cs9040 :: .blk b8243 (.cells ⟨.int .i64 ((gt a0 y5706).kind_) :: .string ((gt a0 y5706).path_) :: .bool ((gt a0 y5706).has_) :: .string ((gt a0 y5706).value_) :: arrC .i64 ((gt a0 y5706).kids_)⟩ 51 (0, 0)) :: .row yv8315 55 2 m8316 cs8317 :: .row yv8691 4 1 m8692 cs9028 :: .row yv8696 9 1 m8697 cs9045 :: .blk b1 (.cells ⟨[.slice none 0 0, .bool false]⟩ 83 (0, 0)) :: F) w := hw
               refine t_effU (hrun9044 ..) ⟨.inl rfl, ?_⟩
               refine t_done <| c_blockN <| ct ?_
               have ho := oI hp
               subst ho
               replace hw : Ok E I (.blk b8243 (.cells ⟨.int .i64 ((gt a0 y5706).kind_) :: .string ((gt a0 y5706).path_) :: .bool ((gt a0 y5706).has_) :: .string ((gt a0 y5706).value_) :: arrC .i64 ((gt a0 y5706).kids_)⟩ 51 (0, 0)) :: .row yv8315 55 2 m8316 cs8317 :: .row yv8691 4 1 m8692 cs9028 :: .row yv8696 9 1 m8697 cs9045 :: .blk b1 (.cells ⟨[.slice none 0 0, .bool false]⟩ 83 (0, 0)) :: F) w := hw.sub (sc (scc (scc (scc (scc (scc sr))))))
               exact ⟨(y8690.set (vg ((gt a0 y5706).kids_) y8700).toNat true), ((y8695.set (vg ((gt a0 y5706).kids_) y8700).toNat ((gt y5701 y5706) ++ ((gt a0 y5706).path_))).set (vg ((gt a0 y5706).kids_) y8700).toNat ((gt (y8695.set (vg ((gt a0 y5706).kids_) y8700).toNat ((gt y5701 y5706) ++ ((gt a0 y5706).path_))) (vg ((gt a0 y5706).kids_) y8700)) ++ (strOfNums [wu8 y8700]))), yv8691, m8692, cs9028, yv8696, m8697, cs9045, rfl, hw, hf.to ⟨rfl, rfl, rfl, rfl, rfl, rfl, rfl, rfl, rfl, trivial⟩, hRR9029, hRR9046⟩
              ·replace hp := cond_f hb9034 hp
               refine wp_skip <| c_blockN <| ct ?_
               have ho := oI hp
               subst ho
               exact ⟨(y8690.set (vg ((gt a0 y5706).kids_) y8700).toNat true), (y8695.set (vg ((gt a0 y5706).kids_) y8700).toNat ((gt y5701 y5706) ++ ((gt a0 y5706).path_))), yv8691, m8692, cs9028, yv8696, m8697, cs9032, rfl, hw, hf.to ⟨rfl, rfl, rfl, rfl, rfl, rfl, rfl, rfl, rfl, trivial⟩, hRR9029, hRR9033⟩
          ·intro a w hM
           obtain ⟨y8984, y8989, yv8985, m8986, cs8987, yv8990, m8991, cs8992, rfl, hw, hf, hRR8988, hRR8993⟩ := hM
           replace hp := hq8995
           refine wr <| om hf rfl rfl fun a hf => oR hf (r_add hf rfl rfl) rfl fun a hf => oa hf rfl rfl fun a hf => oN <| ct ?_
           exact ih (y8984, y8989, w64 (y8700 + 1)) _ _ ⟨yv8985, m8986, cs8987, yv8990, m8991, cs8992, hw, hf.to ⟨rfl, rfl, rfl, rfl, rfl, rfl, rfl, rfl, rfl, trivial⟩, hRR8988, hRR8993⟩ hp
         ·replace hp := cond_f hb8881 hp
          refine wp_exit <| c_thenE <| c_thenE <| c_exit <| ct ?_
          have ho := oI hp
          subst ho
          exact ⟨y8690, y8695, yv8691, m8692, cs8693, yv8696, m8697, cs8698, rfl, hw, hf.to ⟨rfl, rfl, rfl, rfl, rfl, rfl, trivial⟩, hRR8694, hRR8699⟩
        ·intro a w hM
         obtain ⟨y8868, y8873, yv8869, m8870, cs8871, yv8874, m8875, cs8876, rfl, hw, hf, hRR8872, hRR8877⟩ := hM
         replace hp := hq8879
         refine c_blockN <| ct <| wr <| om hf rfl rfl fun a hf => oR hf (r_add hf rfl rfl) rfl fun a hf => oa hf rfl rfl fun a hf => oN <| ct ?_
         replace hw : Ok E I (.row yv8315 55 2 m8316 cs8317 :: .row yv8869 4 1 m8870 cs8871 :: .row yv8874 9 1 m8875 cs8876 :: .blk b1 (.cells ⟨[.slice none 0 0, .bool false]⟩ 83 (0, 0)) :: F) w := hw.sub (sc (scc (scc (scc (scc sr)))))
         exact ih (y8868, y8314, y8873, w64 (y5706 + 1)) _ _ ⟨yv8869, m8870, cs8871, yv8315, m8316, cs8317, yv8874, m8875, cs8876, hw, hf.to ⟨rfl, rfl, rfl, rfl, rfl, rfl, trivial⟩, hRR8872, hRR8318, hRR8877⟩ hp
  ·replace hp := cond_f hb7388 hp
   refine wp_exit <| c_thenE <| c_thenE <| c_exit <| ct ?_
   have ho := oI hp
   subst ho
   exact ⟨y5691, y5696, y5701, yv5692, m5693, cs5694, yv5697, m5698, cs5699, yv5702, m5703, cs5704, rfl, hw, hf.to ⟨rfl, rfl, rfl, trivial⟩, hRR5695, hRR5700, hRR5705⟩
 ·intro a w hM
  obtain ⟨y7370, y7375, y7380, yv7371, m7372, cs7373, yv7376, m7377, cs7378, yv7381, m7382, cs7383, rfl, hw, hf, hRR7374, hRR7379, hRR7384⟩ := hM
  replace hp := hq7386
  refine ct <| wq <| wr <| om hf rfl rfl fun a hf => ?_
  have hw : Ok E I (.row yv7376 55 2 m7377 cs7378 :: .row yv7371 4 1 m7372 cs7373 :: .row yv7381 9 1 m7382 cs7383 :: .blk b1 (.cells ⟨[Value.slice none 0 0, Value.bool false]⟩ 83 (0, 0)) :: F) w := hw.front (i := 0) rfl
  obtain ⟨I9052, hle9053, hw, hR9054⟩ := row_freeze (K := ek_Pair) hw hRR7379
  replace hR5 := hR5.mono hle9053
  replace hRR7374 := hRR7374.mono hle9053
  replace hRR7384 := hRR7384.mono hle9053
  obtain ⟨y9055, hy9056, hp⟩ := bS hp
  have hc9058 := ref10_Build_ok hw hR9054 hy9056
  refine o_call hf cb_24 rfl rfl hc9058 (fun v9064 w a hK9059 hf => ?_)
  obtain ⟨I2_9059, rvv9060, rvv9062, rfl, hle9065, hw, hR9061, hR9063⟩ := hK9059
  replace hR5 := hR5.mono hle9065
  replace hR9054 := hR9054.mono hle9065
  replace hRR7374 := hRR7374.mono hle9065
  replace hRR7384 := hRR7384.mono hle9065
  obtain ⟨b9066, w, hrun9067, hw⟩ := e_alloc (P := P) (a := a) hw ty_47
  replace hw : Ok E I2_9059 (.blk b9066 (.cells ⟨[.slice none 0 0, .slice none 0 0, .bool false]⟩ 47 (0, 0)) :: .row yv7371 4 1 m7372 cs7373 :: .row yv7381 9 1 m7382 cs7383 :: .blk b1 (.cells ⟨[.slice none 0 0, .bool false]⟩ 83 (0, 0)) :: F) w := hw
  refine o_eff hf (hrun9067 ..) rfl fun a hf => ?_
  obtain ⟨w, hrun9069, hw⟩ := e_store (P := P) hw hf (x := .tmp 12) (y := .tmp 119) rfl rfl ty_47 0 rfl (vs := [rvv9060, rvv9062, .bool y9055.ok_]) rfl rfl (oC hR9061.one (oC hR9063.one (oC rfl ones_nil))) (by simp [arrC_len]) (cs' := [rvv9060, rvv9062, .bool y9055.ok_]) rfl
  replace hw : Ok E I2_9059 (.blk b9066 (.cells ⟨[rvv9060, rvv9062, .bool y9055.ok_]⟩ 47 (0, 0)) :: .row yv7371 4 1 m7372 cs7373 :: .row yv7381 9 1 m7382 cs7383 :: .blk b1 (.cells ⟨[.slice none 0 0, .bool false]⟩ 83 (0, 0)) :: F) w := hw
  refine o_effU (hrun9069 ..) <| oN <| ct <| wq ?_
  obtain ⟨out69, hp, hq70⟩ := bS hp
  refine c_cut (fun a w => ∃ y68 : Bool, y68 = out69 ∧ Ok E I2_9059 (.blk b9066 (.cells ⟨[rvv9060, rvv9062, .bool y9055.ok_]⟩ 47 (0, 0)) :: .row yv7371 4 1 m7372 cs7373 :: .row yv7381 9 1 m7382 cs7383 :: .blk b1 (.cells ⟨[.slice none 0 0, .bool false]⟩ 83 (0, 0)) :: F) w ∧ Fr 133 ([(2, .pointer (some ⟨b1, 0, none⟩)), (5, yv7376), (129, .bool y68)]) a) ?_ ?_
  ·refine wr <| oR hf (rF hf rfl fd_47_2) rfl fun a hf => oR hf (rL hw hf rfl ty_4 0 rfl rfl) rfl fun a hf => oR hf (r_not hf rfl) rfl fun a hf => om hf rfl rfl fun a hf => g_split hf (g := 123) rfl (fun hb71 hf => ?_) (fun hb71 hf => ?_)
   ·replace hp := cond_t hb71 hp
    refine oQ hf (g := 123) rfl fun a hf => oQ hf (g := 123) rfl fun a hf => oQ hf (g := 123) rfl fun a hf => oQ hf (g := 123) rfl fun a hf => oQ hf (g := 123) rfl fun a hf => oR hf (pT hf rfl rfl) rfl fun a hf => oN <| ct ?_
    have ho := oI hp
    subst ho
    exact ⟨true, rfl, hw, hf.to ⟨rfl, rfl, rfl, trivial⟩⟩
   ·replace hp := cond_f hb71 hp
    refine oW hf (g := 123) rfl rfl <| oR hf (rF hf rfl fd_47_0) rfl fun a hf => oW hf (g := 123) rfl rfl <| oR hf (rL hw hf rfl ty_23 0 rfl rfl) rfl fun a hf => oW hf (g := 123) rfl rfl <| om hf rfl rfl fun a hf => oW hf (g := 123) rfl rfl ?_
    obtain ⟨y72, hy73, hp⟩ := bS hp
    have hc75 := ref10_Same_ok hw hR9061 hR5 hy73
    refine o_call hf cb_63 rfl rfl hc75 (fun v77 w a hK76 hf => ?_)
    obtain ⟨rfl, hw⟩ := hK76
    refine oW hf (g := 123) rfl rfl <| oR hf (r_not hf rfl) rfl fun a hf => oR hf (pF hf rfl rfl) rfl fun a hf => oN <| ct ?_
    have ho := oI hp
    subst ho
    exact ⟨(!y72), rfl, hw, hf.to ⟨rfl, rfl, rfl, trivial⟩⟩
  ·intro a w hM
   obtain ⟨y68, rfl, hw, hf⟩ := hM
   replace hp := hq70
   refine cC hf rfl (fun hb78 => ?_) (fun hb78 => ?_)
   ·replace hp := cond_t hb78 hp
    refine wq <| wr <| oR hf (r_build hf bd_83 (vs := []) rfl trivial (by decide) (out := [.slice none 0 0, .bool false]) rfl) rfl fun a hf => ?_
    obtain ⟨w, hrun79, hw⟩ := e_store (P := P) hw hf (x := .tmp 2) (y := .tmp 130) rfl rfl ty_83 3 rfl (vs := [.slice none 0 0, .bool false]) rfl rfl (oC rfl (oC rfl ones_nil)) (by simp [arrC_len]) (cs' := [.slice none 0 0, .bool false]) rfl
    replace hw : Ok E I2_9059 (.blk b9066 (.cells ⟨[rvv9060, rvv9062, .bool y9055.ok_]⟩ 47 (0, 0)) :: .row yv7371 4 1 m7372 cs7373 :: .row yv7381 9 1 m7382 cs7383 :: .blk b1 (.cells ⟨[.slice none 0 0, .bool false]⟩ 83 (0, 0)) :: F) w := hw
    refine o_effU (hrun79 ..) <| oN <| ct <| wp_ret <| c_thenR ?_
    replace hw : Ok E I2_9059 (.blk b1 (.cells ⟨[.slice none 0 0, .bool false]⟩ 83 (0, 0)) :: F) w := hw.sub (sc (sc (sc (scc sr))))
    have ho := oI hp
    subst ho
    exact b_retC hw hf results37 ty_83 rfl 0 rfl (vs := [.slice none 0 0, .bool false]) rfl rfl ⟨_, rfl, ⟨I2_9059, (Value.slice none 0 0), rfl, (IH.le_trans hle9053 hle9065), hw.tail, RS.nil⟩⟩
   ·replace hp := cond_f hb78 hp
    refine wp_skip <| ct <| wq <| wr <| om hf rfl rfl fun a hf => oR hf (r_build hf bd_83 (vs := [yv7376, .bool true]) rfl ⟨hR9054.one, rfl, trivial⟩ (by decide) (out := [yv7376, .bool true]) rfl) rfl fun a hf => ?_
    obtain ⟨w, hrun80, hw⟩ := e_store (P := P) hw hf (x := .tmp 2) (y := .tmp 132) rfl rfl ty_83 3 rfl (vs := [yv7376, .bool true]) rfl rfl (oC hR9054.one (oC rfl ones_nil)) (by simp [arrC_len]) (cs' := [yv7376, .bool true]) rfl
    replace hw : Ok E I2_9059 (.blk b9066 (.cells ⟨[rvv9060, rvv9062, .bool y9055.ok_]⟩ 47 (0, 0)) :: .row yv7371 4 1 m7372 cs7373 :: .row yv7381 9 1 m7382 cs7383 :: .blk b1 (.cells ⟨[yv7376, .bool true]⟩ 83 (0, 0)) :: F) w := hw
    refine o_effU (hrun80 ..) <| oN <| ct <| wp_ret ?_
    replace hw : Ok E I2_9059 (.blk b1 (.cells ⟨[yv7376, .bool true]⟩ 83 (0, 0)) :: F) w := hw.sub (sc (sc (sc (scc sr))))
    have ho := oI hp
    subst ho
    exact b_retC hw hf results37 ty_83 rfl 0 rfl (vs := [yv7376, .bool true]) rfl rfl ⟨_, rfl, ⟨I2_9059, yv7376, rfl, (IH.le_trans hle9053 hle9065), hw.tail, hR9054⟩⟩
end Go.Lf
