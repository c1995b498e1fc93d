import Derived.Test.YtckhmgglgbnaaaaZD
import Derived.Test.YtckhmgglgbnaaaaZF
import Derived.Test.YtckhmgglgbnaaaaUB
import Derived.Test.YtckhmgglgbnaaaaN
import Derived.Test.YtckhmgglgbnaaaaBL
set_option linter.unusedVariables false
set_option linter.unusedSimpArgs false
set_option maxHeartbeats 1000000
set_option maxRecDepth 20000
namespace Go.Lf
open Go Go.Proofs.Try
theorem ref10_May_ok {E : World} {I : IH} {F : List Atom} {w : World} {a0 : List Pair} {a0v4 : Value} {res0 : Bool} (hw : Ok E I (F) w) (hR5 : RS ek_Pair I a0v4 a0) (hp : ref10_May.f a0 = some res0) :
  Calls P 23 ⟨[a0v4]⟩ w fun e w' => ∃ v, e = .returned v ∧ v = Value.bool res0 ∧ Ok E I (F) w' := by
 refine c_enter func23 rfl ntmps23 rfl fun a hf => ?_
 replace hf : Fr 53 [(0, a0v4)] a := hf
 unfold ref10_May.f at hp
 refine wq <| wr <| oa hf rfl rfl fun a hf => oN <| ct <| wq <| wq <| wr <| oa hf rfl rfl fun a hf => oN <| ct ?_
 obtain ⟨out210, hp, hq211⟩ := bS hp
 refine c_cutX (fun a w => (.inl ()) = out210 ∧ Ok E I (F) w ∧ Fr 53 ([]) a) ?_ ?_
 ·refine wp_block <| c_loop <| c_fuel (ref10_May.l0 a0) out210 (fun (y140 : Int) a w => Ok E I (F) w ∧ Fr 53 ([(0, a0v4), (3, .int .i64 y140)]) a) (fun _ => rfl) ?_ BIG 0 _ _ ⟨hw, hf.to ⟨rfl, rfl, trivial⟩⟩ hp
  intro k y140 a w hI hp ih
  obtain ⟨hw, hf⟩ := hI
  rw [ref10_May.l0] at hp
  refine wq <| wq <| wr <| om hf rfl rfl fun a hf => om hf rfl rfl fun a hf => oR hf (r_lenL (K := ek_Pair) hf el_43 rfl (hR5.rd hw)) rfl fun a hf => oR hf (iC hf rfl rfl rfl) rfl fun a hf => oN <| ct <| cC hf rfl (fun hb213 => ?_) (fun hb213 => ?_)
  ·replace hp := cond_t hb213 hp
   refine wp_skip <| ct <| wq <| wp_block ?_
   obtain ⟨out269, hp, hq270⟩ := bS hp
   refine c_cut (fun a w => ∃ y268 : Bool, y268 = out269 ∧ Ok E I (F) w ∧ Fr 53 ([(0, a0v4), (3, .int .i64 y140), (52, .bool y268)]) a) ?_ ?_
   ·refine c_drawn mix [] (.rd 0 (.rd 1 (.rd 2 (.rd 3 (.rd 4 (.rd 5 (.rd 6 (.rd 7 (.rd 8 (.rd 9 (.rd 10 (.rd 11 (.rd 12 (.rd 13 (.rd 14 (.rd 15 (.rd 16 (.rd 17 (.rd 18 (.rd 19 (.rd 20 (.rd 21 (.rd 22 (.rd 23 (.rd 24 (.rd 25 (.rd 26 (.rd 27 (.rd 28 (.rd 29 (.rd 30 (.rd 31 (.rd 32 (.rd 33 (.rd 34 (.rd 35 (.rd 36 (.rd 37 (.rd 38 (.rd 39 (.rd 40 (.rd 41 (.rd 42 .done))))))))))))))))))))))))))))))))))))))))))) (by kernel_rfl) hw (fun w => Ok E I (F) w) (fun w hw => ⟨hw.sub sr, ?_⟩)
    refine tm rfl hf rfl rfl fun a hf => tm rfl hf rfl rfl fun a hf => ?_
    obtain ⟨hg272, hp⟩ := gS hp
    refine tR rfl hf (fun w hw => rI (K := ek_Pair) hf el_43 rfl rfl (hR5.rd hw) hg272) rfl fun a hf => tR rfl hf (fun w hw => r_fieldAddrH hf rfl fd_55_0) rfl fun a hf => tR rfl hf (fun w hw => r_loadH (K := ek_Pair) hf rfl ty_9 (hR5.rd hw) hg272 rfl (fun cs h => Pair_f0 h)) rfl fun a hf => tR rfl hf (fun w hw => r_lenS hf und_9 rfl) rfl fun a hf => tR rfl hf (fun w hw => iC hf rfl rfl rfl) rfl fun a hf => tm rfl hf rfl rfl fun a hf => g_split hf (g := 17) rfl (fun hb273 hf => ?_) (fun hb273 hf => ?_)
    ·replace hp := cond_t hb273 hp
     refine tS rfl rfl hf rfl rfl rfl fun a hf => tS rfl rfl hf rfl rfl rfl fun a hf => tS rfl rfl hf rfl rfl rfl fun a hf => tS rfl rfl hf rfl rfl rfl fun a hf => tS rfl rfl hf rfl rfl rfl fun a hf => tS rfl rfl hf rfl rfl rfl fun a hf => tS rfl rfl hf rfl rfl rfl fun a hf => tR rfl hf (fun w hw => pT hf rfl rfl) rfl fun a hf => tm rfl hf rfl rfl fun a hf => tS rfl rfl hf rfl rfl rfl fun a hf => tS rfl rfl hf rfl rfl rfl fun a hf => tS rfl rfl hf rfl rfl rfl fun a hf => tS rfl rfl hf rfl rfl rfl fun a hf => tS rfl rfl hf rfl rfl rfl fun a hf => tS rfl rfl hf rfl rfl rfl fun a hf => tS rfl rfl hf rfl rfl rfl fun a hf => ?_
     refine tR rfl hf (fun w hw => pT hf rfl rfl) rfl fun a hf => tm rfl hf rfl rfl fun a hf => tS rfl rfl hf rfl rfl rfl fun a hf => tS rfl rfl hf rfl rfl rfl fun a hf => tS rfl rfl hf rfl rfl rfl fun a hf => t_rdU rfl rfl hf rfl rfl fun a hf => t_rdU rfl rfl hf rfl rfl fun a hf => t_rdU rfl rfl hf rfl rfl fun a hf => t_rdU rfl rfl hf rfl rfl fun a hf => t_rdU rfl rfl hf rfl rfl fun a hf => t_rdU rfl rfl hf rfl rfl fun a hf => t_rdU rfl rfl hf rfl rfl fun a hf => t_rdU rfl rfl hf rfl rfl fun a hf => t_rdU rfl rfl hf rfl rfl fun a hf => t_rdU rfl rfl hf rfl rfl fun a hf => t_rdU rfl rfl hf rfl rfl fun a hf => ?_
     refine t_rdU rfl rfl hf rfl rfl fun a hf => tS rfl rfl hf rfl rfl rfl fun a hf => tR rfl hf (fun w hw => pT hf rfl rfl) rfl fun a hf => t_done <| ct ?_
     have ho := oI hp
     subst ho
     exact ⟨true, rfl, hw, hf.to ⟨rfl, rfl, rfl, trivial⟩⟩
    ·replace hp := cond_f hb273 hp
     refine tG rfl rfl hf rfl (fun w hw => r_move hf rfl) rfl fun a hf => tG rfl rfl hf rfl (fun w hw => r_move hf rfl) rfl fun a hf => ?_
     obtain ⟨hg274, hp⟩ := gS hp
     refine tG rfl rfl hf rfl (fun w hw => rI (K := ek_Pair) hf el_43 rfl rfl (hR5.rd hw) hg274) rfl fun a hf => tG rfl rfl hf rfl (fun w hw => r_fieldAddrH hf rfl fd_55_0) rfl fun a hf => tG rfl rfl hf rfl (fun w hw => r_loadH (K := ek_Pair) hf rfl ty_9 (hR5.rd hw) hg274 rfl (fun cs h => Pair_f0 h)) rfl fun a hf => tG rfl rfl hf rfl (fun w hw => r_lenS hf und_9 rfl) rfl fun a hf => tG rfl rfl hf rfl (fun w hw => iC hf rfl rfl rfl) rfl fun a hf => tR rfl hf (fun w hw => pF hf rfl rfl) rfl fun a hf => tm rfl hf rfl rfl fun a hf => g_split hf (g := 26) rfl (fun hb275 hf => ?_) (fun hb275 hf => ?_)
     ·replace hp := cond_t hb275 hp
      refine tS rfl rfl hf rfl rfl rfl fun a hf => tS rfl rfl hf rfl rfl rfl fun a hf => tS rfl rfl hf rfl rfl rfl fun a hf => tS rfl rfl hf rfl rfl rfl fun a hf => tS rfl rfl hf rfl rfl rfl fun a hf => tS rfl rfl hf rfl rfl rfl fun a hf => tS rfl rfl hf rfl rfl rfl fun a hf => tR rfl hf (fun w hw => pT hf rfl rfl) rfl fun a hf => tm rfl hf rfl rfl fun a hf => tS rfl rfl hf rfl rfl rfl fun a hf => tS rfl rfl hf rfl rfl rfl fun a hf => tS rfl rfl hf rfl rfl rfl fun a hf => t_rdU rfl rfl hf rfl rfl fun a hf => t_rdU rfl rfl hf rfl rfl fun a hf => t_rdU rfl rfl hf rfl rfl fun a hf => t_rdU rfl rfl hf rfl rfl fun a hf => ?_
      refine t_rdU rfl rfl hf rfl rfl fun a hf => t_rdU rfl rfl hf rfl rfl fun a hf => t_rdU rfl rfl hf rfl rfl fun a hf => t_rdU rfl rfl hf rfl rfl fun a hf => t_rdU rfl rfl hf rfl rfl fun a hf => t_rdU rfl rfl hf rfl rfl fun a hf => t_rdU rfl rfl hf rfl rfl fun a hf => t_rdU rfl rfl hf rfl rfl fun a hf => tS rfl rfl hf rfl rfl rfl fun a hf => tR rfl hf (fun w hw => pT hf rfl rfl) rfl fun a hf => t_done <| ct ?_
      have ho := oI hp
      subst ho
      exact ⟨true, rfl, hw, hf.to ⟨rfl, rfl, rfl, trivial⟩⟩
     ·replace hp := cond_f hb275 hp
      refine tG rfl rfl hf rfl (fun w hw => r_move hf rfl) rfl fun a hf => tG rfl rfl hf rfl (fun w hw => r_move hf rfl) rfl fun a hf => ?_
      obtain ⟨hg276, hp⟩ := gS hp
      refine tG rfl rfl hf rfl (fun w hw => rI (K := ek_Pair) hf el_43 rfl rfl (hR5.rd hw) hg276) rfl fun a hf => tG rfl rfl hf rfl (fun w hw => r_fieldAddrH hf rfl fd_55_1) rfl fun a hf => tG rfl rfl hf rfl (fun w hw => r_loadH (K := ek_Pair) hf rfl ty_9 (hR5.rd hw) hg276 rfl (fun cs h => Pair_f1 h)) rfl fun a hf => tG rfl rfl hf rfl (fun w hw => r_lenS hf und_9 rfl) rfl fun a hf => tG rfl rfl hf rfl (fun w hw => iC hf rfl rfl rfl) rfl fun a hf => tR rfl hf (fun w hw => pF hf rfl rfl) rfl fun a hf => tm rfl hf rfl rfl fun a hf => g_split hf (g := 35) rfl (fun hb277 hf => ?_) (fun hb277 hf => ?_)
      ·replace hp := cond_t hb277 hp
       refine tS rfl rfl hf rfl rfl rfl fun a hf => tS rfl rfl hf rfl rfl rfl fun a hf => tS rfl rfl hf rfl rfl rfl fun a hf => t_rdU rfl rfl hf rfl rfl fun a hf => t_rdU rfl rfl hf rfl rfl fun a hf => t_rdU rfl rfl hf rfl rfl fun a hf => t_rdU rfl rfl hf rfl rfl fun a hf => t_rdU rfl rfl hf rfl rfl fun a hf => t_rdU rfl rfl hf rfl rfl fun a hf => t_rdU rfl rfl hf rfl rfl fun a hf => t_rdU rfl rfl hf rfl rfl fun a hf => t_rdU rfl rfl hf rfl rfl fun a hf => t_rdU rfl rfl hf rfl rfl fun a hf => t_rdU rfl rfl hf rfl rfl fun a hf => t_rdU rfl rfl hf rfl rfl fun a hf => tS rfl rfl hf rfl rfl rfl fun a hf => ?_
       refine tR rfl hf (fun w hw => pT hf rfl rfl) rfl fun a hf => t_done <| ct ?_
       have ho := oI hp
       subst ho
       exact ⟨true, rfl, hw, hf.to ⟨rfl, rfl, rfl, trivial⟩⟩
      ·replace hp := cond_f hb277 hp
       refine tG rfl rfl hf rfl (fun w hw => r_move hf rfl) rfl fun a hf => tG rfl rfl hf rfl (fun w hw => iC hf rfl rfl rfl) rfl fun a hf => tG rfl rfl hf rfl (fun w hw => r_move hf rfl) rfl fun a hf => g_split hf (g := 38) rfl (fun hb278 hf => ?_) (fun hb278 hf => ?_)
       ·replace hp := cond_t hb278 hp
        refine tG rfl rfl hf rfl (fun w hw => r_move hf rfl) rfl fun a hf => tG rfl rfl hf rfl (fun w hw => r_move hf rfl) rfl fun a hf => ?_
        obtain ⟨hg279, hp⟩ := gS hp
        refine tG rfl rfl hf rfl (fun w hw => rI (K := ek_Pair) hf el_43 rfl rfl (hR5.rd hw) hg279) rfl fun a hf => tG rfl rfl hf rfl (fun w hw => r_fieldAddrH hf rfl fd_55_0) rfl fun a hf => tG rfl rfl hf rfl (fun w hw => r_loadH (K := ek_Pair) hf rfl ty_9 (hR5.rd hw) hg279 rfl (fun cs h => Pair_f0 h)) rfl fun a hf => tG rfl rfl hf rfl (fun w hw => r_move hf rfl) rfl fun a hf => tG rfl rfl hf rfl (fun w hw => r_move hf rfl) rfl fun a hf => tG rfl rfl hf rfl (fun w hw => r_sub hf rfl rfl) rfl fun a hf => ?_
        obtain ⟨hg280, hp⟩ := gS hp
        refine tG rfl rfl hf rfl (fun w hw => rI (K := ek_Pair) hf el_43 rfl rfl (hR5.rd hw) hg280) rfl fun a hf => tG rfl rfl hf rfl (fun w hw => r_fieldAddrH hf rfl fd_55_0) rfl fun a hf => tG rfl rfl hf rfl (fun w hw => r_loadH (K := ek_Pair) hf rfl ty_9 (hR5.rd hw) hg280 rfl (fun cs h => Pair_f0 h)) rfl fun a hf => tG rfl rfl hf rfl (fun w hw => r_scmp hf rfl rfl rfl) rfl fun a hf => tG rfl rfl hf rfl (fun w hw => pT hf rfl rfl) rfl fun a hf => tR rfl hf (fun w hw => pF hf rfl rfl) rfl fun a hf => t_done <| ct ?_
        have ho := oI hp
        subst ho
        exact ⟨(slt ((gt a0 y140).key_) ((gt a0 (w64 (y140 - 1))).key_) || seq_ ((gt a0 y140).key_) ((gt a0 (w64 (y140 - 1))).key_)), rfl, hw, hf.to ⟨rfl, rfl, rfl, trivial⟩⟩
       ·replace hp := cond_f hb278 hp
        refine tS rfl rfl hf rfl rfl rfl fun a hf => tS rfl rfl hf rfl rfl rfl fun a hf => tS rfl rfl hf rfl rfl rfl fun a hf => tS rfl rfl hf rfl rfl rfl fun a hf => tS rfl rfl hf rfl rfl rfl fun a hf => tS rfl rfl hf rfl rfl rfl fun a hf => tS rfl rfl hf rfl rfl rfl fun a hf => tS rfl rfl hf rfl rfl rfl fun a hf => tS rfl rfl hf rfl rfl rfl fun a hf => tS rfl rfl hf rfl rfl rfl fun a hf => tS rfl rfl hf rfl rfl rfl fun a hf => tS rfl rfl hf rfl rfl rfl fun a hf => tG rfl rfl hf rfl (fun w hw => pF hf rfl rfl) rfl fun a hf => tR rfl hf (fun w hw => pF hf rfl rfl) rfl fun a hf => t_done <| ct ?_
        have ho := oI hp
        subst ho
        exact ⟨false, rfl, hw, hf.to ⟨rfl, rfl, rfl, trivial⟩⟩
   ·intro a w hM
    obtain ⟨y268, rfl, hw, hf⟩ := hM
    replace hp := hq270
    refine cC hf rfl (fun hb281 => ?_) (fun hb281 => ?_)
    ·replace hp := cond_t hb281 hp
     refine wq <| wr <| oa hf rfl rfl fun a hf => oN <| ct <| wp_ret <| c_blockR <| c_thenR <| c_thenR <| c_blockR <| c_thenR ?_
     have ho := oI hp
     subst ho
     replace hp := hq211
     refine c_thenR ?_
     have ho := oI hp
     subst ho
     exact b_ret1 hf results23 rfl ⟨_, rfl, ⟨rfl, hw⟩⟩
    ·replace hp := cond_f hb281 hp
     refine wp_skip <| c_blockN <| ct <| wr <| om hf rfl rfl fun a hf => oR hf (r_add hf rfl rfl) rfl fun a hf => oa hf rfl rfl fun a hf => oN <| ct ?_
     exact ih (w64 (y140 + 1)) _ _ ⟨hw, hf.to ⟨rfl, rfl, trivial⟩⟩ hp
  ·replace hp := cond_f hb213 hp
   refine wp_exit <| c_thenE <| c_thenE <| c_exit <| ct ?_
   have ho := oI hp
   subst ho
   exact ⟨rfl, hw, hf.to trivial⟩
 ·intro a w hM
  obtain ⟨rfl, hw, hf⟩ := hM
  replace hp := hq211
  refine ct <| wq <| wr <| oa hf rfl rfl fun a hf => oN <| ct <| wp_ret ?_
  have ho := oI hp
  subst ho
  exact b_ret1 hf results23 rfl ⟨_, rfl, ⟨rfl, hw⟩⟩

theorem ref02_Of_ok {E : World} {I : IH} {F : List Atom} {w : World} {a0 : ByteArray} {res0 : ByteArray} (hw : Ok E I (F) w) (hp : ref02_Of.f a0 = some res0) :
  Calls P 46 ⟨[Value.string a0]⟩ w fun e w' => ∃ v, e = .returned v ∧ v = Value.string res0 ∧ Ok E I (F) w' := by
 refine c_enter func46 rfl ntmps46 rfl fun a hf => ?_
 replace hf : Fr 24 [(0, .string a0)] a := hf
 unfold ref02_Of.f at hp
 refine wq <| wr <| oa hf rfl rfl fun a hf => oN <| ct <| wq <| wr <| oa hf rfl rfl fun a hf => oN <| ct <| wq <| wq <| wr <| oa hf rfl rfl fun a hf => oN <| ct ?_
 replace hw := hw.nilrow 5 1
 have hRR19 : RowR (ekI .u8) I [] [] := RowR.nil
 obtain ⟨out82, hp, hq83⟩ := bS hp
 refine c_cutX (fun a w => ∃ y77 : List Int, ∃ yv78 : Value, ∃ m79 : Nat, ∃ cs80 : List Value, y77 = out82 ∧ Ok E I (.row yv78 5 1 m79 cs80 :: F) w ∧ Fr 24 ([(3, yv78)]) a ∧ RowR (ekI .u8) I cs80 y77) ?_ ?_
 ·refine wp_block <| c_loop <| c_fuel (ref02_Of.l0 a0) out82 (fun (y56, y61) a w => ∃ yv57 : Value, ∃ m58 : Nat, ∃ cs59 : List Value, Ok E I (.row yv57 5 1 m58 cs59 :: F) w ∧ Fr 24 ([(0, .string a0), (3, yv57), (4, .int .i64 y61)]) a ∧ RowR (ekI .u8) I cs59 y56) (fun _ => rfl) ?_ BIG (([] : List Int), 0) _ _ ⟨(.slice none 0 0), 0, [], hw, hf.to ⟨rfl, rfl, rfl, trivial⟩, hRR19⟩ hp
  intro k st a w hI hp ih
  obtain ⟨y56, y61⟩ := st
  obtain ⟨yv57, m58, cs59, hw, hf, hRR60⟩ := hI
  rw [ref02_Of.l0] at hp
  refine wq <| wq <| wr <| om hf rfl rfl fun a hf => om hf rfl rfl fun a hf => oR hf (r_lenS hf und_9 rfl) rfl fun a hf => oR hf (iC hf rfl rfl rfl) rfl fun a hf => oN <| ct <| cC hf rfl (fun hb85 => ?_) (fun hb85 => ?_)
  ·replace hp := cond_t hb85 hp
   refine wp_skip <| ct <| wq <| wp_block <| c_drawn mix [] (.rd 0 (.rd 1 (.rd 2 (.rd 3 (.rd 4 (.rd 5 (.rd 6 (.rd 7 (.rd 8 (.ef 9 (.ef 10 (.rd 11 .done)))))))))))) (by kernel_rfl) hw (fun w => Ok E I (F) w) (fun w hw => ⟨hw.sub (sc sr), ?_⟩)
   refine tm rfl hf rfl rfl fun a hf => tm rfl hf rfl rfl fun a hf => tm rfl hf rfl rfl fun a hf => ?_
   obtain ⟨hg87, hp⟩ := gS hp
   refine tR rfl hf (fun w hw => r_indexS hf und_9 rfl rfl hg87) rfl fun a hf => tR rfl hf (fun w hw => r_quo hf rfl rfl (by decide)) rfl fun a hf => tm rfl hf rfl rfl fun a hf => tm rfl hf rfl rfl fun a hf => ?_
   obtain ⟨hg88, hp⟩ := gS hp
   refine tR rfl hf (fun w hw => r_indexS hf und_9 rfl rfl hg88) rfl fun a hf => tR rfl hf (fun w hw => r_rem hf rfl rfl (by decide)) rfl fun a hf => t_ef rfl ?_
   obtain ⟨w, v89, hrun90, hw, hRR91⟩ := e_buildSlice (P := P) (K := (ekI .u8)) (m := 2) hw hf (parts := [(0, .tmp 15), (1, .tmp 19)]) el_53 ty_5 rfl rfl rfl (ccs := [[Value.int .u8 (wu8 ((bt a0 y61).tdiv 16))], [Value.int .u8 ((bt a0 y61).tmod 16)]]) rfl (xs := [wu8 ((bt a0 y61).tdiv 16), (bt a0 y61).tmod 16]) ⟨rfl, rfl, trivial⟩ rfl
   obtain ⟨cs92, hcs⟩ : ∃ cs, cs = ([[Value.int .u8 (wu8 ((bt a0 y61).tdiv 16))], [Value.int .u8 ((bt a0 y61).tmod 16)]] : List (List Value)).flatten := ⟨_, rfl⟩
   rw [← hcs] at hw hRR91; clear hcs
   refine t_eff hf (hrun90 ..) rfl fun a hf => ⟨.inr (hw.back (IH.le_refl _) (sc (sc sr))), ?_⟩
   refine t_ef rfl ?_
   obtain ⟨hg94, hp⟩ := gS hp
   obtain ⟨w, v95, m96, cs97, hrun99, hw, hRR98⟩ := e_append (P := P) (K := (ekI .u8)) (ty := 53) hw hf (s := .tmp 11) (x := .tmp 20) el_53 ty_5 rfl (by decide) 1 rfl rfl rfl hRR60 (ys := [wu8 ((bt a0 y61).tdiv 16), (bt a0 y61).tmod 16]) (rR (K := (ekI .u8)) hw (i := 0) rfl hRR91) hg94
   replace hw : Ok E I (.row v89 5 1 2 cs92 :: .row v95 5 1 m96 cs97 :: F) w := hw
   refine t_eff hf (hrun99 ..) rfl fun a hf => ⟨.inr (hw.back (IH.le_refl _) (sc (sc sr))), ?_⟩
   refine tR rfl hf (fun w hw => r_assign hf rfl) rfl fun a hf => t_done <| c_blockN <| ct <| wr <| om hf rfl rfl fun a hf => oR hf (r_add hf rfl rfl) rfl fun a hf => oa hf rfl rfl fun a hf => oN <| ct ?_
   replace hw : Ok E I (.row v95 5 1 m96 cs97 :: F) w := hw.sub (sc (scc sr))
   exact ih (y56 ++ [wu8 ((bt a0 y61).tdiv 16), (bt a0 y61).tmod 16], w64 (y61 + 1)) _ _ ⟨v95, m96, cs97, hw, hf.to ⟨rfl, rfl, rfl, trivial⟩, hRR98⟩ hp
  ·replace hp := cond_f hb85 hp
   refine wp_exit <| c_thenE <| c_thenE <| c_exit <| ct ?_
   have ho := oI hp
   subst ho
   exact ⟨y56, yv57, m58, cs59, rfl, hw, hf.to ⟨rfl, trivial⟩, hRR60⟩
 ·intro a w hM
  obtain ⟨y77, yv78, m79, cs80, rfl, hw, hf, hRR81⟩ := hM
  replace hp := hq83
  refine ct <| wq <| wr <| om hf rfl rfl fun a hf => oR hf (r_convB hf und_53 und_5 und_9 rfl (rR (K := (ekI .u8)) hw (i := 0) rfl hRR81)) rfl fun a hf => oa hf rfl rfl fun a hf => oN <| ct <| wp_ret ?_
  replace hw : Ok E I (F) w := hw.sub (sc sr)
  have ho := oI hp
  subst ho
  exact b_ret1 hf results46 rfl ⟨_, rfl, ⟨rfl, hw⟩⟩

theorem ref02_Common_ok {E : World} {I : IH} {F : List Atom} {w : World} {a0 : ByteArray} {a1 : ByteArray} {res0 : Int} (hw : Ok E I (F) w) (hp : ref02_Common.f a0 a1 = some res0) :
  Calls P 67 ⟨[Value.string a0, Value.string a1]⟩ w fun e w' => ∃ v, e = .returned v ∧ v = Value.int .i64 res0 ∧ Ok E I (F) w' := by
 refine c_enter func67 rfl ntmps67 rfl fun a hf => ?_
 replace hf : Fr 28 [(0, .string a0), (1, .string a1)] a := hf
 unfold ref02_Common.f at hp
 refine wq <| wr <| oa hf rfl rfl fun a hf => oN <| ct <| wq <| wr <| oa hf rfl rfl fun a hf => oN <| ct <| wq ?_
 obtain ⟨out118, hp, hq119⟩ := bS hp
 refine c_cutX (fun a w => ∃ y117 : Int, y117 = out118 ∧ Ok E I (F) w ∧ Fr 28 ([(5, .int .i64 y117)]) a) ?_ ?_
 ·refine wp_block <| c_loop <| c_fuel (ref02_Common.l0 a0 a1) out118 (fun (y78 : Int) a w => Ok E I (F) w ∧ Fr 28 ([(0, .string a0), (1, .string a1), (5, .int .i64 y78)]) a) (fun _ => rfl) ?_ BIG 0 _ _ ⟨hw, hf.to ⟨rfl, rfl, rfl, trivial⟩⟩ hp
  intro k y78 a w hI hp ih
  obtain ⟨hw, hf⟩ := hI
  rw [ref02_Common.l0] at hp
  refine wq ?_
  obtain ⟨out151, hp, hq152⟩ := bS hp
  refine c_cut (fun a w => ∃ y150 : Bool, y150 = out151 ∧ Ok E I (F) w ∧ Fr 28 ([(0, .string a0), (1, .string a1), (5, .int .i64 y78), (24, .bool y150)]) a) ?_ ?_
  ·refine c_drawn mix [] (.rd 0 (.rd 1 (.rd 2 (.rd 3 (.rd 4 (.rd 5 (.rd 6 (.rd 7 (.rd 8 (.rd 9 (.rd 10 (.rd 11 (.rd 12 (.rd 13 (.rd 14 (.rd 15 (.rd 16 (.rd 17 (.rd 18 .done))))))))))))))))))) (by kernel_rfl) hw (fun w => Ok E I (F) w) (fun w hw => ⟨hw.sub sr, ?_⟩)
   refine tm rfl hf rfl rfl fun a hf => tm rfl hf rfl rfl fun a hf => tR rfl hf (fun w hw => r_lenS hf und_9 rfl) rfl fun a hf => tR rfl hf (fun w hw => iC hf rfl rfl rfl) rfl fun a hf => tm rfl hf rfl rfl fun a hf => g_split hf (g := 10) rfl (fun hb154 hf => ?_) (fun hb154 hf => ?_)
   ·replace hp := cond_t hb154 hp
    refine tG rfl rfl hf rfl (fun w hw => r_move hf rfl) rfl fun a hf => tG rfl rfl hf rfl (fun w hw => r_move hf rfl) rfl fun a hf => tG rfl rfl hf rfl (fun w hw => r_lenS hf und_9 rfl) rfl fun a hf => tG rfl rfl hf rfl (fun w hw => iC hf rfl rfl rfl) rfl fun a hf => tR rfl hf (fun w hw => pT hf rfl rfl) rfl fun a hf => tm rfl hf rfl rfl fun a hf => g_split hf (g := 16) rfl (fun hb155 hf => ?_) (fun hb155 hf => ?_)
    ·replace hp := cond_t hb155 hp
     refine tG rfl rfl hf rfl (fun w hw => r_move hf rfl) rfl fun a hf => tG rfl rfl hf rfl (fun w hw => r_move hf rfl) rfl fun a hf => ?_
     obtain ⟨hg156, hp⟩ := gS hp
     refine tG rfl rfl hf rfl (fun w hw => r_indexS hf und_9 rfl rfl hg156) rfl fun a hf => tG rfl rfl hf rfl (fun w hw => r_move hf rfl) rfl fun a hf => tG rfl rfl hf rfl (fun w hw => r_move hf rfl) rfl fun a hf => ?_
     obtain ⟨hg157, hp⟩ := gS hp
     refine tG rfl rfl hf rfl (fun w hw => r_indexS hf und_9 rfl rfl hg157) rfl fun a hf => tG rfl rfl hf rfl (fun w hw => iC hf rfl rfl rfl) rfl fun a hf => tR rfl hf (fun w hw => pT hf rfl rfl) rfl fun a hf => t_done <| ct ?_
     have ho := oI hp
     subst ho
     exact ⟨((bt a0 y78) == (bt a1 y78)), rfl, hw, hf.to ⟨rfl, rfl, rfl, rfl, trivial⟩⟩
    ·replace hp := cond_f hb155 hp
     refine tS rfl rfl hf rfl rfl rfl fun a hf => tS rfl rfl hf rfl rfl rfl fun a hf => tS rfl rfl hf rfl rfl rfl fun a hf => tS rfl rfl hf rfl rfl rfl fun a hf => tS rfl rfl hf rfl rfl rfl fun a hf => tS rfl rfl hf rfl rfl rfl fun a hf => tS rfl rfl hf rfl rfl rfl fun a hf => tR rfl hf (fun w hw => pF hf rfl rfl) rfl fun a hf => t_done <| ct ?_
     have ho := oI hp
     subst ho
     exact ⟨false, rfl, hw, hf.to ⟨rfl, rfl, rfl, rfl, trivial⟩⟩
   ·replace hp := cond_f hb154 hp
    refine tS rfl rfl hf rfl rfl rfl fun a hf => tS rfl rfl hf rfl rfl rfl fun a hf => tS rfl rfl hf rfl rfl rfl fun a hf => tS rfl rfl hf rfl rfl rfl fun a hf => tR rfl hf (fun w hw => pF hf rfl rfl) rfl fun a hf => tm rfl hf rfl rfl fun a hf => tS rfl rfl hf rfl rfl rfl fun a hf => tS rfl rfl hf rfl rfl rfl fun a hf => tS rfl rfl hf rfl rfl rfl fun a hf => tS rfl rfl hf rfl rfl rfl fun a hf => tS rfl rfl hf rfl rfl rfl fun a hf => tS rfl rfl hf rfl rfl rfl fun a hf => tS rfl rfl hf rfl rfl rfl fun a hf => tR rfl hf (fun w hw => pF hf rfl rfl) rfl fun a hf => t_done <| ct ?_
    have ho := oI hp
    subst ho
    exact ⟨false, rfl, hw, hf.to ⟨rfl, rfl, rfl, rfl, trivial⟩⟩
  ·intro a w hM
   obtain ⟨y150, rfl, hw, hf⟩ := hM
   replace hp := hq152
   refine cC hf rfl (fun hb158 => ?_) (fun hb158 => ?_)
   ·replace hp := cond_t hb158 hp
    refine wp_skip <| ct <| wp_block <| wr <| om hf rfl rfl fun a hf => oR hf (r_add hf rfl rfl) rfl fun a hf => oa hf rfl rfl fun a hf => oN <| c_blockN <| ct ?_
    exact ih (w64 (y78 + 1)) _ _ ⟨hw, hf.to ⟨rfl, rfl, rfl, trivial⟩⟩ hp
   ·replace hp := cond_f hb158 hp
    refine wp_exit <| c_thenE <| c_thenE <| c_exit <| ct ?_
    have ho := oI hp
    subst ho
    exact ⟨y78, rfl, hw, hf.to ⟨rfl, trivial⟩⟩
 ·intro a w hM
  obtain ⟨y117, rfl, hw, hf⟩ := hM
  replace hp := hq119
  refine ct <| wq <| wr <| om hf rfl rfl fun a hf => oa hf rfl rfl fun a hf => oN <| ct <| wp_ret ?_
  have ho := oI hp
  subst ho
  exact b_ret1 hf results67 rfl ⟨_, rfl, ⟨rfl, hw⟩⟩
end Go.Lf
