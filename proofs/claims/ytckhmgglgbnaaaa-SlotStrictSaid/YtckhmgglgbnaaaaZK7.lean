import Derived.Test.YtckhmgglgbnaaaaZD
import Derived.Test.YtckhmgglgbnaaaaZF
import Derived.Test.YtckhmgglgbnaaaaUB
import Derived.Test.YtckhmgglgbnaaaaN
import Derived.Test.YtckhmgglgbnaaaaBL
set_option linter.unusedVariables false
set_option linter.unusedSimpArgs false
set_option maxHeartbeats 1000000
set_option maxRecDepth 20000
namespace Go.Lf
open Go Go.Proofs.Try
theorem trie_may_ok {E : World} {I : IH} {F : List Atom} {w : World} {a0 : List Pair} {a0v1 : Value} {res0 : Bool} (hw : Ok E I (F) w) (hR2 : RS ek_Pair I a0v1 a0) (hp : trie_may.f a0 = some res0) :
  Calls P 95 ⟨[a0v1]⟩ w fun e w' => ∃ v, e = .returned v ∧ v = Value.bool res0 ∧ Ok E I (F) w' := by
 refine c_enter func95 rfl ntmps95 rfl fun a hf => ?_
 replace hf : Fr 43 [(0, a0v1)] a := hf
 unfold trie_may.f at hp
 refine wq <| wr <| oa hf rfl rfl fun a hf => oN <| ct <| wq <| wq <| wr <| om hf rfl rfl fun a hf => oR hf (r_lenL (K := ek_Pair) hf el_43 rfl (hR2.rd hw)) rfl fun a hf => om hf rfl rfl fun a hf => oN <| ct ?_
 obtain ⟨out168, hp, hq169⟩ := bS hp
 refine c_cutX (fun a w => (.inl ()) = out168 ∧ Ok E I (F) w ∧ Fr 43 ([]) a) ?_ ?_
 ·refine wp_block <| c_loop <| c_fuel (trie_may.l0 a0) out168 (fun (y112 : Int) a w => Ok E I (F) w ∧ Fr 43 ([(0, a0v1), (5, a0v1), (6, .int .i64 (a0.length : Int)), (7, .int .i64 y112)]) a) (fun _ => rfl) ?_ BIG 0 _ _ ⟨hw, hf.to ⟨rfl, rfl, rfl, rfl, trivial⟩⟩ hp
  intro k y112 a w hI hp ih
  obtain ⟨hw, hf⟩ := hI
  rw [trie_may.l0] at hp
  refine wq <| wr <| oR hf (iC hf rfl rfl rfl) rfl fun a hf => oN <| ct <| wq <| cC hf rfl (fun hb171 => ?_) (fun hb171 => ?_)
  ·replace hp := cond_t hb171 hp
   refine wp_skip <| ct <| wq <| wp_block <| wq <| wr <| om hf rfl rfl fun a hf => ?_
   obtain ⟨hg199, hp⟩ := gS hp
   refine oR hf (rI (K := ek_Pair) hf el_43 rfl rfl (hR2.rd hw) hg199) rfl fun a hf => oR hf (r_loadHP (K := ek_Pair) hf rfl ty_55 (hR2.rd hw) hg199 rfl (vs := [.string ((gt a0 y112).key_), .string ((gt a0 y112).value_)]) (fun cs h => Pair_all h) (by simp [arrC_len])) rfl fun a hf => ?_
   obtain ⟨b200, w, hrun201, hw⟩ := e_alloc (P := P) (a := a) hw ty_55
   refine o_eff hf (hrun201 ..) rfl fun a hf => oa hf rfl rfl fun a hf => ?_
   obtain ⟨w, hrun203, hw⟩ := e_store (P := P) hw hf (x := .tmp 4) (y := .tmp 11) rfl rfl ty_55 0 rfl (vs := [.string ((gt a0 y112).key_), .string ((gt a0 y112).value_)]) rfl rfl (oC rfl (oC rfl ones_nil)) (by simp [arrC_len]) (cs' := [.string ((gt a0 y112).key_), .string ((gt a0 y112).value_)]) rfl
   dsimp only [List.set] at hw
   refine o_effU (hrun203 ..) <| oN <| ct ?_
   obtain ⟨out217, hp, hq218⟩ := bS hp
   refine c_cut (fun a w => ∃ y216 : Bool, y216 = out217 ∧ Ok E I (.blk b200 (.cells ⟨[.string ((gt a0 y112).key_), .string ((gt a0 y112).value_)]⟩ 55 (0, 0)) :: F) w ∧ Fr 43 ([(0, a0v1), (5, a0v1), (6, .int .i64 (a0.length : Int)), (7, .int .i64 y112), (41, .bool y216)]) a) ?_ ?_
   ·refine c_drawn mix [] (.rd 0 (.rd 1 (.rd 2 (.rd 3 (.rd 4 (.rd 5 (.rd 6 (.rd 7 (.rd 8 (.rd 9 (.rd 10 (.rd 11 (.rd 12 (.rd 13 (.rd 14 (.rd 15 (.rd 16 (.rd 17 (.rd 18 (.rd 19 (.rd 20 (.rd 21 (.rd 22 (.rd 23 (.rd 24 (.rd 25 (.rd 26 (.rd 27 (.rd 28 (.rd 29 .done)))))))))))))))))))))))))))))) (by kernel_rfl) hw (fun w => Ok E I (.blk b200 (.cells ⟨[.string ((gt a0 y112).key_), .string ((gt a0 y112).value_)]⟩ 55 (0, 0)) :: F) w) (fun w hw => ⟨hw.sub (scc sr), ?_⟩)
    refine tR rfl hf (fun w hw => rF hf rfl fd_55_0) rfl fun a hf => tR rfl hf (fun w hw => rL hw hf rfl ty_9 0 rfl rfl) rfl fun a hf => tR rfl hf (fun w hw => r_scmp hf rfl rfl rfl) rfl fun a hf => tm rfl hf rfl rfl fun a hf => g_split hf (g := 15) rfl (fun hb220 hf => ?_) (fun hb220 hf => ?_)
    ·replace hp := cond_t hb220 hp
     refine tS rfl rfl hf rfl rfl rfl fun a hf => tS rfl rfl hf rfl rfl rfl fun a hf => tS rfl rfl hf rfl rfl rfl fun a hf => tS rfl rfl hf rfl rfl rfl fun a hf => tR rfl hf (fun w hw => pT hf rfl rfl) rfl fun a hf => tm rfl hf rfl rfl fun a hf => tS rfl rfl hf rfl rfl rfl fun a hf => tS rfl rfl hf rfl rfl rfl fun a hf => tS rfl rfl hf rfl rfl rfl fun a hf => tS rfl rfl hf rfl rfl rfl fun a hf => tR rfl hf (fun w hw => pT hf rfl rfl) rfl fun a hf => tm rfl hf rfl rfl fun a hf => tS rfl rfl hf rfl rfl rfl fun a hf => tS rfl rfl hf rfl rfl rfl fun a hf => tS rfl rfl hf rfl rfl rfl fun a hf => t_rdU rfl rfl hf rfl rfl fun a hf => ?_
     refine t_rdU rfl rfl hf rfl rfl fun a hf => t_rdU rfl rfl hf rfl rfl fun a hf => t_rdU rfl rfl hf rfl rfl fun a hf => t_rdU rfl rfl hf rfl rfl fun a hf => t_rdU rfl rfl hf rfl rfl fun a hf => t_rdU rfl rfl hf rfl rfl fun a hf => t_rdU rfl rfl hf rfl rfl fun a hf => t_rdU rfl rfl hf rfl rfl fun a hf => tS rfl rfl hf rfl rfl rfl fun a hf => tR rfl hf (fun w hw => pT hf rfl rfl) rfl fun a hf => t_done <| ct ?_
     have ho := oI hp
     subst ho
     exact ⟨true, rfl, hw, hf.to ⟨rfl, rfl, rfl, rfl, rfl, trivial⟩⟩
    ·replace hp := cond_f hb220 hp
     refine tG rfl rfl hf rfl (fun w hw => rF hf rfl fd_55_0) rfl fun a hf => tG rfl rfl hf rfl (fun w hw => rL hw hf rfl ty_9 0 rfl rfl) rfl fun a hf => tG rfl rfl hf rfl (fun w hw => r_lenS hf und_9 rfl) rfl fun a hf => tG rfl rfl hf rfl (fun w hw => iC hf rfl rfl rfl) rfl fun a hf => tR rfl hf (fun w hw => pF hf rfl rfl) rfl fun a hf => tm rfl hf rfl rfl fun a hf => g_split hf (g := 21) rfl (fun hb221 hf => ?_) (fun hb221 hf => ?_)
     ·replace hp := cond_t hb221 hp
      refine tS rfl rfl hf rfl rfl rfl fun a hf => tS rfl rfl hf rfl rfl rfl fun a hf => tS rfl rfl hf rfl rfl rfl fun a hf => tS rfl rfl hf rfl rfl rfl fun a hf => tR rfl hf (fun w hw => pT hf rfl rfl) rfl fun a hf => tm rfl hf rfl rfl fun a hf => tS rfl rfl hf rfl rfl rfl fun a hf => tS rfl rfl hf rfl rfl rfl fun a hf => tS rfl rfl hf rfl rfl rfl fun a hf => t_rdU rfl rfl hf rfl rfl fun a hf => t_rdU rfl rfl hf rfl rfl fun a hf => t_rdU rfl rfl hf rfl rfl fun a hf => t_rdU rfl rfl hf rfl rfl fun a hf => t_rdU rfl rfl hf rfl rfl fun a hf => t_rdU rfl rfl hf rfl rfl fun a hf => t_rdU rfl rfl hf rfl rfl fun a hf => ?_
      refine t_rdU rfl rfl hf rfl rfl fun a hf => t_rdU rfl rfl hf rfl rfl fun a hf => tS rfl rfl hf rfl rfl rfl fun a hf => tR rfl hf (fun w hw => pT hf rfl rfl) rfl fun a hf => t_done <| ct ?_
      have ho := oI hp
      subst ho
      exact ⟨true, rfl, hw, hf.to ⟨rfl, rfl, rfl, rfl, rfl, trivial⟩⟩
     ·replace hp := cond_f hb221 hp
      refine tG rfl rfl hf rfl (fun w hw => rF hf rfl fd_55_1) rfl fun a hf => tG rfl rfl hf rfl (fun w hw => rL hw hf rfl ty_9 0 rfl rfl) rfl fun a hf => tG rfl rfl hf rfl (fun w hw => r_lenS hf und_9 rfl) rfl fun a hf => tG rfl rfl hf rfl (fun w hw => iC hf rfl rfl rfl) rfl fun a hf => tR rfl hf (fun w hw => pF hf rfl rfl) rfl fun a hf => tm rfl hf rfl rfl fun a hf => g_split hf (g := 27) rfl (fun hb222 hf => ?_) (fun hb222 hf => ?_)
      ·replace hp := cond_t hb222 hp
       refine tS rfl rfl hf rfl rfl rfl fun a hf => tS rfl rfl hf rfl rfl rfl fun a hf => tS rfl rfl hf rfl rfl rfl fun a hf => t_rdU rfl rfl hf rfl rfl fun a hf => t_rdU rfl rfl hf rfl rfl fun a hf => t_rdU rfl rfl hf rfl rfl fun a hf => t_rdU rfl rfl hf rfl rfl fun a hf => t_rdU rfl rfl hf rfl rfl fun a hf => t_rdU rfl rfl hf rfl rfl fun a hf => t_rdU rfl rfl hf rfl rfl fun a hf => t_rdU rfl rfl hf rfl rfl fun a hf => t_rdU rfl rfl hf rfl rfl fun a hf => tS rfl rfl hf rfl rfl rfl fun a hf => tR rfl hf (fun w hw => pT hf rfl rfl) rfl fun a hf => t_done <| ct ?_
       have ho := oI hp
       subst ho
       exact ⟨true, rfl, hw, hf.to ⟨rfl, rfl, rfl, rfl, rfl, trivial⟩⟩
      ·replace hp := cond_f hb222 hp
       refine tG rfl rfl hf rfl (fun w hw => r_move hf rfl) rfl fun a hf => tG rfl rfl hf rfl (fun w hw => iC hf rfl rfl rfl) rfl fun a hf => tG rfl rfl hf rfl (fun w hw => r_move hf rfl) rfl fun a hf => g_split hf (g := 30) rfl (fun hb223 hf => ?_) (fun hb223 hf => ?_)
       ·replace hp := cond_t hb223 hp
        refine tG rfl rfl hf rfl (fun w hw => rF hf rfl fd_55_0) rfl fun a hf => tG rfl rfl hf rfl (fun w hw => rL hw hf rfl ty_9 0 rfl rfl) rfl fun a hf => tG rfl rfl hf rfl (fun w hw => r_move hf rfl) rfl fun a hf => tG rfl rfl hf rfl (fun w hw => r_move hf rfl) rfl fun a hf => tG rfl rfl hf rfl (fun w hw => r_sub hf rfl rfl) rfl fun a hf => ?_
        obtain ⟨hg224, hp⟩ := gS hp
        refine tG rfl rfl hf rfl (fun w hw => rI (K := ek_Pair) hf el_43 rfl rfl (hR2.rd hw) hg224) rfl fun a hf => tG rfl rfl hf rfl (fun w hw => r_fieldAddrH hf rfl fd_55_0) rfl fun a hf => tG rfl rfl hf rfl (fun w hw => r_loadH (K := ek_Pair) hf rfl ty_9 (hR2.rd hw) hg224 rfl (fun cs h => Pair_f0 h)) rfl fun a hf => tG rfl rfl hf rfl (fun w hw => r_scmp hf rfl rfl rfl) rfl fun a hf => tG rfl rfl hf rfl (fun w hw => pT hf rfl rfl) rfl fun a hf => tR rfl hf (fun w hw => pF hf rfl rfl) rfl fun a hf => t_done <| ct ?_
        have ho := oI hp
        subst ho
        exact ⟨(slt ((gt a0 y112).key_) ((gt a0 (w64 (y112 - 1))).key_) || seq_ ((gt a0 y112).key_) ((gt a0 (w64 (y112 - 1))).key_)), rfl, hw, hf.to ⟨rfl, rfl, rfl, rfl, rfl, trivial⟩⟩
       ·replace hp := cond_f hb223 hp
        refine tS rfl rfl hf rfl rfl rfl fun a hf => tS rfl rfl hf rfl rfl rfl fun a hf => tS rfl rfl hf rfl rfl rfl fun a hf => tS rfl rfl hf rfl rfl rfl fun a hf => tS rfl rfl hf rfl rfl rfl fun a hf => tS rfl rfl hf rfl rfl rfl fun a hf => tS rfl rfl hf rfl rfl rfl fun a hf => tS rfl rfl hf rfl rfl rfl fun a hf => tS rfl rfl hf rfl rfl rfl fun a hf => tG rfl rfl hf rfl (fun w hw => pF hf rfl rfl) rfl fun a hf => tR rfl hf (fun w hw => pF hf rfl rfl) rfl fun a hf => t_done <| ct ?_
        have ho := oI hp
        subst ho
        exact ⟨false, rfl, hw, hf.to ⟨rfl, rfl, rfl, rfl, rfl, trivial⟩⟩
   ·intro a w hM
    obtain ⟨y216, rfl, hw, hf⟩ := hM
    replace hp := hq218
    refine cC hf rfl (fun hb225 => ?_) (fun hb225 => ?_)
    ·replace hp := cond_t hb225 hp
     refine wq <| wr <| oa hf rfl rfl fun a hf => oN <| ct <| wp_ret <| c_blockR <| c_thenR <| c_thenR <| c_blockR <| c_thenR ?_
     have ho := oI hp
     subst ho
     replace hp := hq169
     refine c_thenR ?_
     replace hw : Ok E I (F) w := hw.sub (sc sr)
     have ho := oI hp
     subst ho
     exact b_ret1 hf results95 rfl ⟨_, rfl, ⟨rfl, hw⟩⟩
    ·replace hp := cond_f hb225 hp
     refine wp_skip <| c_blockN <| ct <| wr <| oR hf (r_add hf rfl rfl) rfl fun a hf => om hf rfl rfl fun a hf => oN <| ct ?_
     replace hw : Ok E I (F) w := hw.sub (sc sr)
     exact ih (w64 (y112 + 1)) _ _ ⟨hw, hf.to ⟨rfl, rfl, rfl, rfl, trivial⟩⟩ hp
  ·replace hp := cond_f hb171 hp
   refine wp_exit <| c_thenE <| c_thenE <| c_exit <| ct ?_
   have ho := oI hp
   subst ho
   exact ⟨rfl, hw, hf.to trivial⟩
 ·intro a w hM
  obtain ⟨rfl, hw, hf⟩ := hM
  replace hp := hq169
  refine ct <| wq <| wr <| oa hf rfl rfl fun a hf => oN <| ct <| wp_ret ?_
  have ho := oI hp
  subst ho
  exact b_ret1 hf results95 rfl ⟨_, rfl, ⟨rfl, hw⟩⟩

theorem nibble_Of_ok {E : World} {I : IH} {F : List Atom} {w : World} {a0 : ByteArray} {res0 : ByteArray} (hw : Ok E I (F) w) (hp : nibble_Of.f a0 = some res0) :
  Calls P 96 ⟨[Value.string a0]⟩ w fun e w' => ∃ v, e = .returned v ∧ v = Value.string res0 ∧ Ok E I (F) w' := by
 refine c_enter func96 rfl ntmps96 rfl fun a hf => ?_
 replace hf : Fr 28 [(0, .string a0)] a := hf
 unfold nibble_Of.f at hp
 refine wq <| wr <| oa hf rfl rfl fun a hf => oN <| ct <| wq <| wr <| om hf rfl rfl fun a hf => oR hf (r_lenS hf und_9 rfl) rfl fun a hf => oR hf (r_mul hf rfl rfl) rfl fun a hf => ?_
 obtain ⟨hg2, hp⟩ := gS hp
 obtain ⟨w, v3, hrun4, hw⟩ := e_make0 (P := P) (K := (ekI .u8)) hw hf (l := .const (Value.int .i64 0)) (c := .tmp 7) el_53 ty_5 (by decide) rfl rfl hg2
 have hRR5 : RowR (ekI .u8) I [] [] := RowR.nil
 refine o_eff hf (hrun4 ..) rfl fun a hf => oa hf rfl rfl fun a hf => oN <| ct <| wq <| wq <| wr <| om hf rfl rfl fun a hf => oR hf (r_lenS hf und_9 rfl) rfl fun a hf => om hf rfl rfl fun a hf => oN <| ct ?_
 obtain ⟨out69, hp, hq70⟩ := bS hp
 refine c_cutX (fun a w => ∃ y64 : List Int, ∃ yv65 : Value, ∃ m66 : Nat, ∃ cs67 : List Value, y64 = out69 ∧ Ok E I (.row yv65 5 1 m66 cs67 :: F) w ∧ Fr 28 ([(3, yv65)]) a ∧ RowR (ekI .u8) I cs67 y64) ?_ ?_
 ·refine wp_block <| c_loop <| c_fuel (nibble_Of.l0 a0) out69 (fun (y43, y48) a w => ∃ yv44 : Value, ∃ m45 : Nat, ∃ cs46 : List Value, Ok E I (.row yv44 5 1 m45 cs46 :: F) w ∧ Fr 28 ([(0, .string a0), (3, yv44), (10, .int .i64 (a0.size : Int)), (11, .int .i64 y48)]) a ∧ RowR (ekI .u8) I cs46 y43) (fun _ => rfl) ?_ BIG (([] : List Int), 0) _ _ ⟨v3, 0, [], hw, hf.to ⟨rfl, rfl, rfl, rfl, trivial⟩, hRR5⟩ hp
  intro k st a w hI hp ih
  obtain ⟨y43, y48⟩ := st
  obtain ⟨yv44, m45, cs46, hw, hf, hRR47⟩ := hI
  rw [nibble_Of.l0] at hp
  refine wq <| wr <| oR hf (iC hf rfl rfl rfl) rfl fun a hf => oN <| ct <| wq <| cC hf rfl (fun hb72 => ?_) (fun hb72 => ?_)
  ·replace hp := cond_t hb72 hp
   refine wp_skip <| ct <| wq <| wp_block <| wq <| wr <| om hf rfl rfl fun a hf => oa hf rfl rfl fun a hf => oN <| ct <| c_drawn mix [] (.rd 0 (.rd 1 (.rd 2 (.rd 3 (.rd 4 (.rd 5 (.rd 6 (.rd 7 (.rd 8 (.ef 9 (.ef 10 (.rd 11 .done)))))))))))) (by kernel_rfl) hw (fun w => Ok E I (F) w) (fun w hw => ⟨hw.sub (sc sr), ?_⟩)
   refine tm rfl hf rfl rfl fun a hf => tm rfl hf rfl rfl fun a hf => tm rfl hf rfl rfl fun a hf => ?_
   obtain ⟨hg74, hp⟩ := gS hp
   refine tR rfl hf (fun w hw => r_indexS hf und_9 rfl rfl hg74) rfl fun a hf => tR rfl hf (fun w hw => r_shr hf rfl rfl (by decide)) rfl fun a hf => tm rfl hf rfl rfl fun a hf => tm rfl hf rfl rfl fun a hf => ?_
   obtain ⟨hg75, hp⟩ := gS hp
   refine tR rfl hf (fun w hw => r_indexS hf und_9 rfl rfl hg75) rfl fun a hf => tR rfl hf (fun w hw => r_and hf rfl rfl) rfl fun a hf => t_ef rfl ?_
   obtain ⟨w, v76, hrun77, hw, hRR78⟩ := e_buildSlice (P := P) (K := (ekI .u8)) (m := 2) hw hf (parts := [(0, .tmp 18), (1, .tmp 22)]) el_53 ty_5 rfl rfl rfl (ccs := [[Value.int .u8 (shr .u8 (bt a0 y48) 4)], [Value.int .u8 (band .u8 (bt a0 y48) 15)]]) rfl (xs := [shr .u8 (bt a0 y48) 4, band .u8 (bt a0 y48) 15]) ⟨rfl, rfl, trivial⟩ rfl
   obtain ⟨cs79, hcs⟩ : ∃ cs, cs = ([[Value.int .u8 (shr .u8 (bt a0 y48) 4)], [Value.int .u8 (band .u8 (bt a0 y48) 15)]] : List (List Value)).flatten := ⟨_, rfl⟩
   rw [← hcs] at hw hRR78; clear hcs
   refine t_eff hf (hrun77 ..) rfl fun a hf => ⟨.inr (hw.back (IH.le_refl _) (sc (sc sr))), ?_⟩
   refine t_ef rfl ?_
   obtain ⟨hg81, hp⟩ := gS hp
   obtain ⟨w, v82, m83, cs84, hrun86, hw, hRR85⟩ := e_append (P := P) (K := (ekI .u8)) (ty := 53) hw hf (s := .tmp 14) (x := .tmp 23) el_53 ty_5 rfl (by decide) 1 rfl rfl rfl hRR47 (ys := [shr .u8 (bt a0 y48) 4, band .u8 (bt a0 y48) 15]) (rR (K := (ekI .u8)) hw (i := 0) rfl hRR78) hg81
   replace hw : Ok E I (.row v76 5 1 2 cs79 :: .row v82 5 1 m83 cs84 :: F) w := hw
   refine t_eff hf (hrun86 ..) rfl fun a hf => ⟨.inr (hw.back (IH.le_refl _) (sc (sc sr))), ?_⟩
   refine tR rfl hf (fun w hw => r_assign hf rfl) rfl fun a hf => t_done <| c_blockN <| ct <| wr <| oR hf (r_add hf rfl rfl) rfl fun a hf => om hf rfl rfl fun a hf => oN <| ct ?_
   replace hw : Ok E I (.row v82 5 1 m83 cs84 :: F) w := hw.sub (sc (scc sr))
   exact ih (y43 ++ [shr .u8 (bt a0 y48) 4, band .u8 (bt a0 y48) 15], w64 (y48 + 1)) _ _ ⟨v82, m83, cs84, hw, hf.to ⟨rfl, rfl, rfl, rfl, trivial⟩, hRR85⟩ hp
  ·replace hp := cond_f hb72 hp
   refine wp_exit <| c_thenE <| c_thenE <| c_exit <| ct ?_
   have ho := oI hp
   subst ho
   exact ⟨y43, yv44, m45, cs46, rfl, hw, hf.to ⟨rfl, trivial⟩, hRR47⟩
 ·intro a w hM
  obtain ⟨y64, yv65, m66, cs67, rfl, hw, hf, hRR68⟩ := hM
  replace hp := hq70
  refine ct <| wq <| wr <| om hf rfl rfl fun a hf => oR hf (r_convB hf und_53 und_5 und_9 rfl (rR (K := (ekI .u8)) hw (i := 0) rfl hRR68)) rfl fun a hf => oa hf rfl rfl fun a hf => oN <| ct <| wp_ret ?_
  replace hw : Ok E I (F) w := hw.sub (sc sr)
  have ho := oI hp
  subst ho
  exact b_ret1 hf results96 rfl ⟨_, rfl, ⟨rfl, hw⟩⟩

theorem nibble_Common_ok {E : World} {I : IH} {F : List Atom} {w : World} {a0 : ByteArray} {a1 : ByteArray} {res0 : Int} (hw : Ok E I (F) w) (hp : nibble_Common.f a0 a1 = some res0) :
  Calls P 102 ⟨[Value.string a0, Value.string a1]⟩ w fun e w' => ∃ v, e = .returned v ∧ v = Value.int .i64 res0 ∧ Ok E I (F) w' := by
 refine c_enter func102 rfl ntmps102 rfl fun a hf => ?_
 replace hf : Fr 25 [(0, .string a0), (1, .string a1)] a := hf
 unfold nibble_Common.f at hp
 refine wq <| wr <| oa hf rfl rfl fun a hf => oN <| ct <| wq <| wr <| oa hf rfl rfl fun a hf => oN <| ct <| wq ?_
 obtain ⟨out100, hp, hq101⟩ := bS hp
 refine c_cutX (fun a w => ∃ y99 : Int, y99 = out100 ∧ Ok E I (F) w ∧ Fr 25 ([(5, .int .i64 y99)]) a) ?_ ?_
 ·refine wp_block <| c_loop <| c_fuel (nibble_Common.l0 a0 a1) out100 (fun (y66 : Int) a w => Ok E I (F) w ∧ Fr 25 ([(0, .string a0), (1, .string a1), (5, .int .i64 y66)]) a) (fun _ => rfl) ?_ BIG 0 _ _ ⟨hw, hf.to ⟨rfl, rfl, rfl, trivial⟩⟩ hp
  intro k y66 a w hI hp ih
  obtain ⟨hw, hf⟩ := hI
  rw [nibble_Common.l0] at hp
  refine wq ?_
  obtain ⟨out128, hp, hq129⟩ := bS hp
  refine c_cut (fun a w => ∃ y127 : Bool, y127 = out128 ∧ Ok E I (F) w ∧ Fr 25 ([(0, .string a0), (1, .string a1), (5, .int .i64 y66), (21, .bool y127)]) a) ?_ ?_
  ·refine c_drawn mix [] (.rd 0 (.rd 1 (.rd 2 (.rd 3 (.rd 4 (.rd 5 (.rd 6 (.rd 7 (.rd 8 (.rd 9 (.rd 10 (.rd 11 (.rd 12 (.rd 13 (.rd 14 (.rd 15 .done)))))))))))))))) (by kernel_rfl) hw (fun w => Ok E I (F) w) (fun w hw => ⟨hw.sub sr, ?_⟩)
   refine tm rfl hf rfl rfl fun a hf => tm rfl hf rfl rfl fun a hf => tR rfl hf (fun w hw => r_lenS hf und_9 rfl) rfl fun a hf => tm rfl hf rfl rfl fun a hf => tR rfl hf (fun w hw => r_lenS hf und_9 rfl) rfl fun a hf => tR rfl hf (fun w hw => r_min hf rfl rfl) rfl fun a hf => tR rfl hf (fun w hw => iC hf rfl rfl rfl) rfl fun a hf => tm rfl hf rfl rfl fun a hf => g_split hf (g := 13) rfl (fun hb131 hf => ?_) (fun hb131 hf => ?_)
   ·replace hp := cond_t hb131 hp
    refine tG rfl rfl hf rfl (fun w hw => r_move hf rfl) rfl fun a hf => tG rfl rfl hf rfl (fun w hw => r_move hf rfl) rfl fun a hf => ?_
    obtain ⟨hg132, hp⟩ := gS hp
    refine tG rfl rfl hf rfl (fun w hw => r_indexS hf und_9 rfl rfl hg132) rfl fun a hf => tG rfl rfl hf rfl (fun w hw => r_move hf rfl) rfl fun a hf => tG rfl rfl hf rfl (fun w hw => r_move hf rfl) rfl fun a hf => ?_
    obtain ⟨hg133, hp⟩ := gS hp
    refine tG rfl rfl hf rfl (fun w hw => r_indexS hf und_9 rfl rfl hg133) rfl fun a hf => tG rfl rfl hf rfl (fun w hw => iC hf rfl rfl rfl) rfl fun a hf => tR rfl hf (fun w hw => pT hf rfl rfl) rfl fun a hf => t_done <| ct ?_
    have ho := oI hp
    subst ho
    exact ⟨((bt a0 y66) == (bt a1 y66)), rfl, hw, hf.to ⟨rfl, rfl, rfl, rfl, trivial⟩⟩
   ·replace hp := cond_f hb131 hp
    refine tS rfl rfl hf rfl rfl rfl fun a hf => tS rfl rfl hf rfl rfl rfl fun a hf => tS rfl rfl hf rfl rfl rfl fun a hf => tS rfl rfl hf rfl rfl rfl fun a hf => tS rfl rfl hf rfl rfl rfl fun a hf => tS rfl rfl hf rfl rfl rfl fun a hf => tS rfl rfl hf rfl rfl rfl fun a hf => tR rfl hf (fun w hw => pF hf rfl rfl) rfl fun a hf => t_done <| ct ?_
    have ho := oI hp
    subst ho
    exact ⟨false, rfl, hw, hf.to ⟨rfl, rfl, rfl, rfl, trivial⟩⟩
  ·intro a w hM
   obtain ⟨y127, rfl, hw, hf⟩ := hM
   replace hp := hq129
   refine cC hf rfl (fun hb134 => ?_) (fun hb134 => ?_)
   ·replace hp := cond_t hb134 hp
    refine wp_skip <| ct <| wp_block <| wr <| om hf rfl rfl fun a hf => oR hf (r_add hf rfl rfl) rfl fun a hf => oa hf rfl rfl fun a hf => oN <| c_blockN <| ct ?_
    exact ih (w64 (y66 + 1)) _ _ ⟨hw, hf.to ⟨rfl, rfl, rfl, trivial⟩⟩ hp
   ·replace hp := cond_f hb134 hp
    refine wp_exit <| c_thenE <| c_thenE <| c_exit <| ct ?_
    have ho := oI hp
    subst ho
    exact ⟨y66, rfl, hw, hf.to ⟨rfl, trivial⟩⟩
 ·intro a w hM
  obtain ⟨y99, rfl, hw, hf⟩ := hM
  replace hp := hq101
  refine ct <| wq <| wr <| om hf rfl rfl fun a hf => oa hf rfl rfl fun a hf => oN <| ct <| wp_ret ?_
  have ho := oI hp
  subst ho
  exact b_ret1 hf results102 rfl ⟨_, rfl, ⟨rfl, hw⟩⟩
end Go.Lf
