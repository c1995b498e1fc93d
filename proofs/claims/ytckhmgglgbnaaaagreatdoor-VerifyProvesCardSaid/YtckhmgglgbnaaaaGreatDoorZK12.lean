import Derived.Test.YtckhmgglgbnaaaaGreatDoorZD
import Derived.Test.YtckhmgglgbnaaaaGreatDoorZF
import Derived.Test.YtckhmgglgbnaaaaGreatDoorJ
import Derived.Test.YtckhmgglgbnaaaaGreatDoorUB
set_option linter.unusedVariables false
set_option linter.unusedSimpArgs false
set_option maxHeartbeats 1000000
set_option maxRecDepth 20000
namespace Go.Lf
open Go Go.Proofs.Tryz
theorem nibble_Of_ok {E : World} {I : IH} {F : List Atom} {w : World} {a0 : ByteArray} {res0 : ByteArray} (hw : Ok E I (F) w) (hG : Gl I) (hp : nibble_Of.f a0 = some res0) :
  Calls P 69 ⟨[Value.string a0]⟩ w fun e w' => ∃ v, e = .returned v ∧ v = Value.string res0 ∧ Ok E I (F) w' := by
 refine c_enter func69 rfl ntmps69 rfl fun a hf => ?_
 replace hf : Fr 28 [(0, .string a0)] a := hf
 unfold nibble_Of.f at hp
 refine wq <| wr <| oa hf rfl rfl fun a hf => oN <| ct <| wq <| wr <| om hf rfl rfl fun a hf => oR hf (r_lenS hf und_9 rfl) rfl fun a hf => oR hf (r_mul hf rfl rfl) rfl fun a hf => ?_
 obtain ⟨hg2, hp⟩ := gS hp
 obtain ⟨w, v3, hrun4, hw⟩ := e_make0 (P := P) (K := (ekI .u8)) hw hf (l := .const (Value.int .i64 0)) (c := .tmp 7) el_45 ty_5 (by decide) rfl rfl hg2
 have hRR5 : RowR (ekI .u8) I [] [] := RowR.nil
 refine o_eff hf (hrun4 ..) rfl fun a hf => oa hf rfl rfl fun a hf => oN <| ct <| wq <| wq <| wr <| om hf rfl rfl fun a hf => oR hf (r_lenS hf und_9 rfl) rfl fun a hf => om hf rfl rfl fun a hf => oN <| ct ?_
 obtain ⟨out69, hp, hq70⟩ := bS hp
 refine c_cutX (fun a w => ∃ y64 : List Int, ∃ yv65 : Value, ∃ m66 : Nat, ∃ cs67 : List Value, y64 = out69 ∧ Ok E I (.row yv65 5 1 m66 cs67 :: F) w ∧ Fr 28 ([(3, yv65)]) a ∧ RowR (ekI .u8) I cs67 y64) ?_ ?_
 ·refine wp_block <| c_loop <| c_fuel (nibble_Of.l0 a0) out69 (fun (y43, y48) a w => ∃ yv44 : Value, ∃ m45 : Nat, ∃ cs46 : List Value, Ok E I (.row yv44 5 1 m45 cs46 :: F) w ∧ Fr 28 ([(0, .string a0), (3, yv44), (10, .int .i64 (a0.size : Int)), (11, .int .i64 y48)]) a ∧ RowR (ekI .u8) I cs46 y43) (fun _ => rfl) ?_ BIG (([] : List Int), 0) _ _ ⟨v3, 0, [], hw, hf.to ⟨rfl, rfl, rfl, rfl, trivial⟩, hRR5⟩ hp
  intro k st a w hI hp ih
  obtain ⟨y43, y48⟩ := st
  obtain ⟨yv44, m45, cs46, hw, hf, hRR47⟩ := hI
  rw [nibble_Of.l0] at hp
  refine wq <| wr <| oR hf (iC hf rfl rfl rfl) rfl fun a hf => oN <| ct <| wq <| cC hf rfl (fun hb72 => ?_) (fun hb72 => ?_)
  ·replace hp := cond_t hb72 hp
   refine wp_skip <| ct <| wq <| wp_block <| wq <| wr <| om hf rfl rfl fun a hf => oa hf rfl rfl fun a hf => oN <| ct <| c_drawn mix [] (.rd 0 (.rd 1 (.rd 2 (.rd 3 (.rd 4 (.rd 5 (.rd 6 (.rd 7 (.rd 8 (.ef 9 (.ef 10 (.rd 11 .done)))))))))))) (by kernel_rfl) hw (fun w => Ok E I (F) w) (fun w hw => ⟨hw.sub (sc sr), ?_⟩)
   refine tm rfl hf rfl rfl fun a hf => tm rfl hf rfl rfl fun a hf => tm rfl hf rfl rfl fun a hf => ?_
   obtain ⟨hg74, hp⟩ := gS hp
   refine tR rfl hf (fun w hw => r_indexS hf und_9 rfl rfl hg74) rfl fun a hf => tR rfl hf (fun w hw => r_shr hf rfl rfl (by decide)) rfl fun a hf => tm rfl hf rfl rfl fun a hf => tm rfl hf rfl rfl fun a hf => ?_
   obtain ⟨hg75, hp⟩ := gS hp
   refine tR rfl hf (fun w hw => r_indexS hf und_9 rfl rfl hg75) rfl fun a hf => tR rfl hf (fun w hw => r_and hf rfl rfl) rfl fun a hf => t_ef rfl ?_
   obtain ⟨w, v76, hrun77, hw, hRR78⟩ := e_buildSlice (P := P) (K := (ekI .u8)) (m := 2) hw hf (parts := [(0, .tmp 18), (1, .tmp 22)]) el_45 ty_5 rfl rfl rfl (ccs := [[Value.int .u8 (shr .u8 (bt a0 y48) 4)], [Value.int .u8 (band .u8 (bt a0 y48) 15)]]) rfl (xs := [shr .u8 (bt a0 y48) 4, band .u8 (bt a0 y48) 15]) ⟨rfl, rfl, trivial⟩ rfl
   obtain ⟨cs79, hcs⟩ : ∃ cs, cs = ([[Value.int .u8 (shr .u8 (bt a0 y48) 4)], [Value.int .u8 (band .u8 (bt a0 y48) 15)]] : List (List Value)).flatten := ⟨_, rfl⟩
   rw [← hcs] at hw hRR78; clear hcs
   refine t_eff hf (hrun77 ..) rfl fun a hf => ⟨.inr (hw.back (IH.le_refl _) (sc (sc sr))), ?_⟩
   refine t_ef rfl ?_
   obtain ⟨hg81, hp⟩ := gS hp
   obtain ⟨w, v82, m83, cs84, hrun86, hw, hRR85⟩ := e_append (P := P) (K := (ekI .u8)) (ty := 45) hw hf (s := .tmp 14) (x := .tmp 23) el_45 ty_5 rfl (by decide) 1 rfl rfl rfl hRR47 (ys := [shr .u8 (bt a0 y48) 4, band .u8 (bt a0 y48) 15]) (rR (K := (ekI .u8)) hw (i := 0) rfl hRR78) hg81
   replace hw : Ok E I (.row v76 5 1 2 cs79 :: .row v82 5 1 m83 cs84 :: F) w := hw
   refine t_eff hf (hrun86 ..) rfl fun a hf => ⟨.inr (hw.back (IH.le_refl _) (sc (sc sr))), ?_⟩
   refine tR rfl hf (fun w hw => r_assign hf rfl) rfl fun a hf => t_done <| c_blockN <| ct <| wr <| oR hf (r_add hf rfl rfl) rfl fun a hf => om hf rfl rfl fun a hf => oN <| ct ?_
   replace hw : Ok E I (.row v82 5 1 m83 cs84 :: F) w := hw.sub (sc (scc sr))
   exact ih (y43 ++ [shr .u8 (bt a0 y48) 4, band .u8 (bt a0 y48) 15], w64 (y48 + 1)) _ _ ⟨v82, m83, cs84, hw, hf.to ⟨rfl, rfl, rfl, rfl, trivial⟩, hRR85⟩ hp
  ·replace hp := cond_f hb72 hp
   refine wp_exit <| c_thenE <| c_thenE <| c_exit <| ct ?_
   have ho := oI hp
   subst ho
   exact ⟨y43, yv44, m45, cs46, rfl, hw, hf.to ⟨rfl, trivial⟩, hRR47⟩
 ·intro a w hM
  obtain ⟨y64, yv65, m66, cs67, rfl, hw, hf, hRR68⟩ := hM
  replace hp := hq70
  refine ct <| wq <| wr <| om hf rfl rfl fun a hf => oR hf (r_convB hf und_45 und_5 und_9 rfl (rR (K := (ekI .u8)) hw (i := 0) rfl hRR68)) rfl fun a hf => oa hf rfl rfl fun a hf => oN <| ct <| wp_ret ?_
  replace hw : Ok E I (F) w := hw.sub (sc sr)
  have ho := oI hp
  subst ho
  exact b_ret1 hf results69 rfl ⟨_, rfl, ⟨rfl, hw⟩⟩

theorem node_reader_take_ok {E : World} {I : IH} {F : List Atom} {w : World} {a0b : Nat} {a0_p_s : ByteArray} {a1 : Int} {res0 : ByteArray} {new_a0_p_s : ByteArray} (hw : Ok E I (.blk a0b (.cells ⟨[Value.string a0_p_s]⟩ 250 (0, 0)) :: F) w) (hG : Gl I) (hp : node_reader_take.f a0_p_s a1 = some (res0, new_a0_p_s)) :
  Calls P 142 ⟨[Value.pointer (some ⟨a0b, 0, none⟩), Value.int .i64 a1]⟩ w fun e w' => ∃ v, e = .returned v ∧ v = Value.string res0 ∧ Ok E I (.blk a0b (.cells ⟨[Value.string new_a0_p_s]⟩ 250 (0, 0)) :: F) w' := by
 refine c_enter func142 rfl ntmps142 rfl fun a hf => ?_
 replace hf : Fr 29 [(0, .pointer (some ⟨a0b, 0, none⟩)), (1, .int .i64 a1)] a := hf
 unfold node_reader_take.f at hp
 refine wq <| wr <| oa hf rfl rfl fun a hf => oN <| ct <| wq <| wr <| om hf rfl rfl fun a hf => om hf rfl rfl fun a hf => oR hf (nC hf rfl) rfl fun a hf => oR hf (rF hf rfl fd_250_0) rfl fun a hf => oR hf (rL hw hf rfl ty_9 0 rfl rfl) rfl fun a hf => oR hf (r_lenS hf und_9 rfl) rfl fun a hf => oR hf (r_min hf rfl rfl) rfl fun a hf => oa hf rfl rfl fun a hf => oN ?_
 refine ct <| wq <| wr <| om hf rfl rfl fun a hf => oR hf (nC hf rfl) rfl fun a hf => oR hf (rF hf rfl fd_250_0) rfl fun a hf => oR hf (rL hw hf rfl ty_9 0 rfl rfl) rfl fun a hf => om hf rfl rfl fun a hf => ?_
 obtain ⟨hg1, hp⟩ := gS hp
 refine oR hf (r_sliceSh hf und_9 rfl rfl hg1) rfl fun a hf => oa hf rfl rfl fun a hf => oN <| ct <| wq <| wr <| om hf rfl rfl fun a hf => om hf rfl rfl fun a hf => oR hf (nC hf rfl) rfl fun a hf => oR hf (rF hf rfl fd_250_0) rfl fun a hf => oR hf (rL hw hf rfl ty_9 0 rfl rfl) rfl fun a hf => om hf rfl rfl fun a hf => ?_
 obtain ⟨hg2, hp⟩ := gS hp
 refine oR hf (r_sliceSl hf und_9 rfl rfl hg2) rfl fun a hf => oR hf (nC hf rfl) rfl fun a hf => oR hf (rF hf rfl fd_250_0) rfl fun a hf => ?_
 obtain ⟨w, hrun3, hw⟩ := e_store (P := P) hw hf (x := .tmp 27) (y := .tmp 25) rfl rfl ty_9 0 rfl (vs := [.string (sub a0_p_s (if (a0_p_s.size : Int) < a1 then (a0_p_s.size : Int) else a1) (a0_p_s.size : Int))]) (oE rfl) rfl (oC rfl ones_nil) (by simp [arrC_len]) (cs' := [.string (sub a0_p_s (if (a0_p_s.size : Int) < a1 then (a0_p_s.size : Int) else a1) (a0_p_s.size : Int))]) rfl
 dsimp only [List.set] at hw
 refine o_effU (hrun3 ..) <| oN <| ct <| wq <| wr <| om hf rfl rfl fun a hf => oa hf rfl rfl fun a hf => oN <| ct <| wp_ret ?_
 have ho := oI hp
 simp only [Prod.mk.injEq] at ho
 obtain ⟨rfl, rfl⟩ := ho
 exact b_ret1 hf results142 rfl ⟨_, rfl, ⟨rfl, hw⟩⟩

theorem node_reader_number_ok {E : World} {I : IH} {F : List Atom} {w : World} {a0b : Nat} {a0_p_s : ByteArray} {res0 : Int} {new_a0_p_s : ByteArray} (hw : Ok E I (.blk a0b (.cells ⟨[Value.string a0_p_s]⟩ 250 (0, 0)) :: F) w) (hG : Gl I) (hp : node_reader_number.f a0_p_s = some (res0, new_a0_p_s)) :
  Calls P 140 ⟨[Value.pointer (some ⟨a0b, 0, none⟩)]⟩ w fun e w' => ∃ v, e = .returned v ∧ v = Value.int .i64 res0 ∧ Ok E I (.blk a0b (.cells ⟨[Value.string new_a0_p_s]⟩ 250 (0, 0)) :: F) w' := by
 refine c_enter func140 rfl ntmps140 rfl fun a hf => ?_
 replace hf : Fr 11 [(0, .pointer (some ⟨a0b, 0, none⟩))] a := hf
 unfold node_reader_number.f at hp
 refine wq <| wr <| oa hf rfl rfl fun a hf => oN <| ct <| wq <| wq <| wr <| om hf rfl rfl fun a hf => ?_
 replace hw : Ok E I (.blk a0b (.cells ⟨[.string a0_p_s]⟩ 250 (0, 0)) :: F) w := hw.front (i := 0) rfl
 obtain ⟨y4, hy3, hp⟩ := bS hp
 obtain ⟨y1, y2⟩ := y4
 have hc5 := node_reader_take_ok hw hG hy3
 refine o_call hf cb_142 rfl rfl hc5 (fun v7 w a hK6 hf => ?_)
 obtain ⟨rfl, hw⟩ := hK6
 refine oa hf rfl rfl fun a hf => oN <| ct <| wq <| wr <| om hf rfl rfl fun a hf => oR hf (r_scmp hf rfl rfl rfl) rfl fun a hf => oN <| ct <| cC hf rfl (fun hb8 => ?_) (fun hb8 => ?_)
 ·replace hp := cond_t hb8 hp
  refine wq <| wr <| om hf rfl rfl fun a hf => ?_
  obtain ⟨hg9, hp⟩ := gS hp
  refine oR hf (r_indexS hf und_9 rfl rfl hg9) rfl fun a hf => oR hf (r_convI hf und_5 und_3 rfl) rfl fun a hf => oa hf rfl rfl fun a hf => oN <| ct <| wp_ret <| c_thenR ?_
  have ho := oI hp
  simp only [Prod.mk.injEq] at ho
  obtain ⟨rfl, rfl⟩ := ho
  exact b_ret1 hf results140 rfl ⟨_, rfl, ⟨rfl, hw⟩⟩
 ·replace hp := cond_f hb8 hp
  refine wp_skip <| ct <| wq <| wr <| oa hf rfl rfl fun a hf => oN <| ct <| wp_ret ?_
  have ho := oI hp
  simp only [Prod.mk.injEq] at ho
  obtain ⟨rfl, rfl⟩ := ho
  exact b_ret1 hf results140 rfl ⟨_, rfl, ⟨rfl, hw⟩⟩

theorem nibble_Unpack_ok {E : World} {I : IH} {F : List Atom} {w : World} {a0 : ByteArray} {res0 : ByteArray} {res1 : Int} {res2 : Bool} (hw : Ok E I (F) w) (hG : Gl I) (hp : nibble_Unpack.f a0 = some (res0, res1, res2)) :
  Calls P 183 ⟨[Value.string a0]⟩ w fun e w' => ∃ v, e = .returned v ∧ v = Value.tuple ⟨[Value.string res0, Value.int .i64 res1, Value.bool res2]⟩ ∧ Ok E I (F) w' := by
 refine c_enter func183 rfl ntmps183 rfl fun a hf => ?_
 replace hf : Fr 44 [(0, .string a0)] a := hf
 unfold nibble_Unpack.f at hp
 refine wq <| wr <| oa hf rfl rfl fun a hf => oa hf rfl rfl fun a hf => oa hf rfl rfl fun a hf => oN <| ct <| wq ?_
 obtain ⟨out16, hp, hq17⟩ := bS hp
 refine c_cut (fun a w => ∃ y15 : Bool, y15 = out16 ∧ Ok E I (F) w ∧ Fr 44 ([(0, .string a0), (14, .bool y15)]) a) ?_ ?_
 ·refine wr <| om hf rfl rfl fun a hf => oR hf (r_scmp hf rfl rfl rfl) rfl fun a hf => om hf rfl rfl fun a hf => g_split hf (g := 9) rfl (fun hb18 hf => ?_) (fun hb18 hf => ?_)
  ·replace hp := cond_t hb18 hp
   refine oQ hf (g := 9) rfl fun a hf => oQ hf (g := 9) rfl fun a hf => oQ hf (g := 9) rfl fun a hf => oQ hf (g := 9) rfl fun a hf => oR hf (pT hf rfl rfl) rfl fun a hf => oN <| ct ?_
   have ho := oI hp
   subst ho
   exact ⟨true, rfl, hw, hf.to ⟨rfl, rfl, trivial⟩⟩
  ·replace hp := cond_f hb18 hp
   refine oW hf (g := 9) rfl rfl <| om hf rfl rfl fun a hf => ?_
   obtain ⟨hg19, hp⟩ := gS hp
   refine oW hf (g := 9) rfl rfl <| oR hf (r_indexS hf und_9 rfl rfl hg19) rfl fun a hf => oW hf (g := 9) rfl rfl <| oR hf (r_convI hf und_5 und_3 rfl) rfl fun a hf => oW hf (g := 9) rfl rfl <| oR hf (iC hf rfl rfl rfl) rfl fun a hf => oR hf (pF hf rfl rfl) rfl fun a hf => oN <| ct ?_
   have ho := oI hp
   subst ho
   exact ⟨(decide ((w64 (bt a0 0)) > 16)), rfl, hw, hf.to ⟨rfl, rfl, trivial⟩⟩
 ·intro a w hM
  obtain ⟨y15, rfl, hw, hf⟩ := hM
  replace hp := hq17
  refine cC hf rfl (fun hb20 => ?_) (fun hb20 => ?_)
  ·replace hp := cond_t hb20 hp
   refine wq <| wr <| oa hf rfl rfl fun a hf => oa hf rfl rfl fun a hf => oa hf rfl rfl fun a hf => oN <| ct <| wp_ret <| c_thenR ?_
   have ho := oI hp
   simp only [Prod.mk.injEq] at ho
   obtain ⟨rfl, rfl, rfl⟩ := ho
   exact b_ret3 hf results183 rfl rfl rfl ⟨_, rfl, ⟨rfl, hw⟩⟩
  ·replace hp := cond_f hb20 hp
   refine wp_skip <| ct <| wq <| wr <| om hf rfl rfl fun a hf => ?_
   obtain ⟨hg21, hp⟩ := gS hp
   refine oR hf (r_indexS hf und_9 rfl rfl hg21) rfl fun a hf => oR hf (r_convI hf und_5 und_3 rfl) rfl fun a hf => oa hf rfl rfl fun a hf => oN <| ct <| wq <| wr <| om hf rfl rfl fun a hf => oR hf (r_add hf rfl rfl) rfl fun a hf => oR hf (r_quo hf rfl rfl (by decide)) rfl fun a hf => oR hf (r_add hf rfl rfl) rfl fun a hf => oa hf rfl rfl fun a hf => oN <| ct <| wq <| wq ?_
   refine wr <| om hf rfl rfl fun a hf => om hf rfl rfl fun a hf => oR hf (r_lenS hf und_9 rfl) rfl fun a hf => oR hf (iC hf rfl rfl rfl) rfl fun a hf => oN <| ct <| cC hf rfl (fun hb22 => ?_) (fun hb22 => ?_)
   ·replace hp := cond_t hb22 hp
    refine wq <| wr <| oa hf rfl rfl fun a hf => oa hf rfl rfl fun a hf => oa hf rfl rfl fun a hf => oN <| ct <| wp_ret <| c_thenR ?_
    have ho := oI hp
    simp only [Prod.mk.injEq] at ho
    obtain ⟨rfl, rfl, rfl⟩ := ho
    exact b_ret3 hf results183 rfl rfl rfl ⟨_, rfl, ⟨rfl, hw⟩⟩
   ·replace hp := cond_f hb22 hp
    refine wp_skip <| ct <| wq <| wr <| om hf rfl rfl fun a hf => om hf rfl rfl fun a hf => ?_
    obtain ⟨hg23, hp⟩ := gS hp
    refine oR hf (r_sliceS hf und_9 rfl rfl rfl hg23) rfl fun a hf => ?_
    obtain ⟨y24, hy25, hp⟩ := bS hp
    have hc27 := nibble_Of_ok hw hG hy25
    refine o_call hf cb_69 rfl rfl hc27 (fun v29 w a hK28 hf => ?_)
    obtain ⟨rfl, hw⟩ := hK28
    refine oa hf rfl rfl fun a hf => oN <| ct <| wq ?_
    obtain ⟨out45, hp, hq46⟩ := bS hp
    refine c_cut (fun a w => ∃ y44 : Bool, y44 = out45 ∧ Ok E I (F) w ∧ Fr 44 ([(3, .int .i64 (w64 (1 + (w64 ((w64 ((w64 (bt a0 0)) + 1)).tdiv 2))))), (5, .int .i64 (w64 (bt a0 0))), (6, .string y24), (39, .bool y44)]) a) ?_ ?_
    ·refine wr <| om hf rfl rfl fun a hf => om hf rfl rfl fun a hf => oR hf (r_lenS hf und_9 rfl) rfl fun a hf => oR hf (iC hf rfl rfl rfl) rfl fun a hf => om hf rfl rfl fun a hf => g_split hf (g := 34) rfl (fun hb47 hf => ?_) (fun hb47 hf => ?_)
     ·replace hp := cond_t hb47 hp
      refine oW hf (g := 34) rfl rfl <| om hf rfl rfl fun a hf => oW hf (g := 34) rfl rfl <| om hf rfl rfl fun a hf => ?_
      obtain ⟨hg48, hp⟩ := gS hp
      refine oW hf (g := 34) rfl rfl <| oR hf (r_indexS hf und_9 rfl rfl hg48) rfl fun a hf => oW hf (g := 34) rfl rfl <| oR hf (iC hf rfl rfl rfl) rfl fun a hf => oR hf (pT hf rfl rfl) rfl fun a hf => oN <| ct ?_
      have ho := oI hp
      subst ho
      exact ⟨((bt y24 (w64 (bt a0 0))) != 0), rfl, hw, hf.to ⟨rfl, rfl, rfl, rfl, trivial⟩⟩
     ·replace hp := cond_f hb47 hp
      refine oQ hf (g := 34) rfl fun a hf => oQ hf (g := 34) rfl fun a hf => oQ hf (g := 34) rfl fun a hf => oQ hf (g := 34) rfl fun a hf => oR hf (pF hf rfl rfl) rfl fun a hf => oN <| ct ?_
      have ho := oI hp
      subst ho
      exact ⟨false, rfl, hw, hf.to ⟨rfl, rfl, rfl, rfl, trivial⟩⟩
    ·intro a w hM
     obtain ⟨y44, rfl, hw, hf⟩ := hM
     replace hp := hq46
     refine cC hf rfl (fun hb49 => ?_) (fun hb49 => ?_)
     ·replace hp := cond_t hb49 hp
      refine wq <| wr <| oa hf rfl rfl fun a hf => oa hf rfl rfl fun a hf => oa hf rfl rfl fun a hf => oN <| ct <| wp_ret <| c_thenR ?_
      have ho := oI hp
      simp only [Prod.mk.injEq] at ho
      obtain ⟨rfl, rfl, rfl⟩ := ho
      exact b_ret3 hf results183 rfl rfl rfl ⟨_, rfl, ⟨rfl, hw⟩⟩
     ·replace hp := cond_f hb49 hp
      refine wp_skip <| ct <| wq <| wr <| om hf rfl rfl fun a hf => om hf rfl rfl fun a hf => ?_
      obtain ⟨hg50, hp⟩ := gS hp
      refine oR hf (r_sliceSh hf und_9 rfl rfl hg50) rfl fun a hf => om hf rfl rfl fun a hf => oa hf rfl rfl fun a hf => oa hf rfl rfl fun a hf => oa hf rfl rfl fun a hf => oN <| ct <| wp_ret ?_
      have ho := oI hp
      simp only [Prod.mk.injEq] at ho
      obtain ⟨rfl, rfl, rfl⟩ := ho
      exact b_ret3 hf results183 rfl rfl rfl ⟨_, rfl, ⟨rfl, hw⟩⟩

theorem node_reader_path_ok {E : World} {I : IH} {F : List Atom} {w : World} {a0b : Nat} {a0_p_s : ByteArray} {res0 : ByteArray} {new_a0_p_s : ByteArray} (hw : Ok E I (.blk a0b (.cells ⟨[Value.string a0_p_s]⟩ 250 (0, 0)) :: F) w) (hG : Gl I) (hp : node_reader_path.f a0_p_s = some (res0, new_a0_p_s)) :
  Calls P 141 ⟨[Value.pointer (some ⟨a0b, 0, none⟩)]⟩ w fun e w' => ∃ v, e = .returned v ∧ v = Value.string res0 ∧ Ok E I (.blk a0b (.cells ⟨[Value.string new_a0_p_s]⟩ 250 (0, 0)) :: F) w' := by
 refine c_enter func141 rfl ntmps141 rfl fun a hf => ?_
 replace hf : Fr 19 [(0, .pointer (some ⟨a0b, 0, none⟩))] a := hf
 unfold node_reader_path.f at hp
 refine wq <| wr <| oa hf rfl rfl fun a hf => oN <| ct <| wq <| wr <| om hf rfl rfl fun a hf => oR hf (nC hf rfl) rfl fun a hf => oR hf (rF hf rfl fd_250_0) rfl fun a hf => oR hf (rL hw hf rfl ty_9 0 rfl rfl) rfl fun a hf => ?_
 obtain ⟨y5, hy4, hp⟩ := bS hp
 obtain ⟨y1, y2, y3⟩ := y5
 have hc6 := nibble_Unpack_ok hw hG hy4
 refine o_call hf cb_183 rfl rfl hc6 (fun v8 w a hK7 hf => ?_)
 obtain ⟨rfl, hw⟩ := hK7
 refine om hf rfl rfl fun a hf => oR hf (rE hf rfl rfl) rfl fun a hf => oR hf (rE hf rfl rfl) rfl fun a hf => oR hf (rE hf rfl rfl) rfl fun a hf => oa hf rfl rfl fun a hf => oa hf rfl rfl fun a hf => oa hf rfl rfl fun a hf => oN <| ct <| wq <| wr <| om hf rfl rfl fun a hf => om hf rfl rfl fun a hf => ?_
 replace hw : Ok E I (.blk a0b (.cells ⟨[.string a0_p_s]⟩ 250 (0, 0)) :: F) w := hw.front (i := 0) rfl
 obtain ⟨y12, hy11, hp⟩ := bS hp
 obtain ⟨y9, y10⟩ := y12
 have hc13 := node_reader_take_ok hw hG hy11
 refine o_call hf cb_142 rfl rfl hc13 (fun v15 w a hK14 hf => ?_)
 obtain ⟨rfl, hw⟩ := hK14
 refine oN <| ct <| wq <| wr <| om hf rfl rfl fun a hf => oa hf rfl rfl fun a hf => oN <| ct <| wp_ret ?_
 have ho := oI hp
 simp only [Prod.mk.injEq] at ho
 obtain ⟨rfl, rfl⟩ := ho
 exact b_ret1 hf results141 rfl ⟨_, rfl, ⟨rfl, hw⟩⟩

theorem node_reader_rest_ok {E : World} {I : IH} {F : List Atom} {w : World} {a0b : Nat} {a0_p_s : ByteArray} {res0 : List ByteArray} {new_a0_p_s : ByteArray} (hw : Ok E I (.blk a0b (.cells ⟨[Value.string a0_p_s]⟩ 250 (0, 0)) :: F) w) (hG : Gl I) (hp : node_reader_rest.f a0_p_s = some (res0, new_a0_p_s)) :
  Calls P 143 ⟨[Value.pointer (some ⟨a0b, 0, none⟩)]⟩ w fun e w' => ∃ v, e = .returned v ∧ ∃ I2 : IH, ∃ rvv181 : Value, v = rvv181 ∧ IH.le I I2 ∧ Ok E I2 (.blk a0b (.cells ⟨[Value.string new_a0_p_s]⟩ 250 (0, 0)) :: F) w' ∧ RS ekS I2 rvv181 res0 := by
 refine c_enter func143 rfl ntmps143 rfl fun a hf => ?_
 replace hf : Fr 15 [(0, .pointer (some ⟨a0b, 0, none⟩))] a := hf
 unfold node_reader_rest.f at hp
 refine wq <| wr <| oa hf rfl rfl fun a hf => oN <| ct <| wq <| wr <| oa hf rfl rfl fun a hf => oN <| ct <| wq ?_
 replace hw := hw.nilrow 9 1
 have hRR23 : RowR ekS I [] [] := RowR.nil
 obtain ⟨out99, hp, hq100⟩ := bS hp
 refine c_cutX (fun a w => ∃ y93 : List ByteArray, ∃ y98 : ByteArray, ∃ yv94 : Value, ∃ m95 : Nat, ∃ cs96 : List Value, (y93, y98) = out99 ∧ Ok E I (.row yv94 9 1 m95 cs96 :: .blk a0b (.cells ⟨[.string y98]⟩ 250 (0, 0)) :: F) w ∧ Fr 15 ([(3, yv94)]) a ∧ RowR ekS I cs96 y93) ?_ ?_
 ·refine wp_block <| c_loop <| c_fuel (node_reader_rest.l0) out99 (fun (y68, y73) a w => ∃ yv69 : Value, ∃ m70 : Nat, ∃ cs71 : List Value, Ok E I (.row yv69 9 1 m70 cs71 :: .blk a0b (.cells ⟨[.string y73]⟩ 250 (0, 0)) :: F) w ∧ Fr 15 ([(0, .pointer (some ⟨a0b, 0, none⟩)), (3, yv69)]) a ∧ RowR ekS I cs71 y68) (fun _ => rfl) ?_ BIG (([] : List ByteArray), a0_p_s) _ _ ⟨(.slice none 0 0), 0, [], hw, hf.to ⟨rfl, rfl, trivial⟩, hRR23⟩ hp
  intro k st a w hI hp ih
  obtain ⟨y68, y73⟩ := st
  obtain ⟨yv69, m70, cs71, hw, hf, hRR72⟩ := hI
  rw [node_reader_rest.l0] at hp
  refine wq <| wq <| wr <| om hf rfl rfl fun a hf => oR hf (nC hf rfl) rfl fun a hf => oR hf (rF hf rfl fd_250_0) rfl fun a hf => oR hf (rL hw hf rfl ty_9 1 rfl rfl) rfl fun a hf => oR hf (r_scmp hf rfl rfl rfl) rfl fun a hf => oN <| ct <| cC hf rfl (fun hb102 => ?_) (fun hb102 => ?_)
  ·replace hp := cond_t hb102 hp
   refine wp_skip <| ct <| wp_block <| wr <| om hf rfl rfl fun a hf => om hf rfl rfl fun a hf => ?_
   replace hw : Ok E I (.blk a0b (.cells ⟨[.string y73]⟩ 250 (0, 0)) :: .row yv69 9 1 m70 cs71 :: F) w := hw.front (i := 1) rfl
   obtain ⟨y106, hy105, hp⟩ := bS hp
   obtain ⟨y103, y104⟩ := y106
   have hc107 := node_reader_take_ok hw hG hy105
   refine o_call hf cb_142 rfl rfl hc107 (fun v109 w a hK108 hf => ?_)
   obtain ⟨rfl, hw⟩ := hK108
   obtain ⟨w, v110, hrun111, hw, hRR112⟩ := e_buildSlice (P := P) (K := ekS) (m := 1) hw hf (parts := [(0, .tmp 11)]) el_28 ty_9 rfl rfl rfl (ccs := [[Value.string y103]]) rfl (xs := [y103]) ⟨rfl, trivial⟩ rfl
   obtain ⟨cs113, hcs⟩ : ∃ cs, cs = ([[Value.string y103]] : List (List Value)).flatten := ⟨_, rfl⟩
   rw [← hcs] at hw hRR112; clear hcs
   refine o_eff hf (hrun111 ..) rfl fun a hf => ?_
   obtain ⟨hg115, hp⟩ := gS hp
   obtain ⟨w, v116, m117, cs118, hrun120, hw, hRR119⟩ := e_append (P := P) (K := ekS) (ty := 28) hw hf (s := .tmp 9) (x := .tmp 12) el_28 ty_9 rfl (by decide) 2 rfl rfl rfl hRR72 (ys := [y103]) (rR (K := ekS) hw (i := 0) rfl hRR112) hg115
   replace hw : Ok E I (.row v110 9 1 1 cs113 :: .blk a0b (.cells ⟨[.string y104]⟩ 250 (0, 0)) :: .row v116 9 1 m117 cs118 :: F) w := hw
   refine o_eff hf (hrun120 ..) rfl fun a hf => oa hf rfl rfl fun a hf => oN <| c_blockN <| ct ?_
   replace hw : Ok E I (.row v116 9 1 m117 cs118 :: .blk a0b (.cells ⟨[.string y104]⟩ 250 (0, 0)) :: .row v110 9 1 1 cs113 :: F) w := (hw.front (i := 1) rfl).front (i := 2) rfl
   replace hw : Ok E I (.row v116 9 1 m117 cs118 :: .blk a0b (.cells ⟨[.string y104]⟩ 250 (0, 0)) :: F) w := hw.sub (scc (scc (sc sr)))
   exact ih (y68 ++ [y103], y104) _ _ ⟨v116, m117, cs118, hw, hf.to ⟨rfl, rfl, trivial⟩, hRR119⟩ hp
  ·replace hp := cond_f hb102 hp
   refine wp_exit <| c_thenE <| c_thenE <| c_exit <| ct ?_
   have ho := oI hp
   subst ho
   exact ⟨y68, y73, yv69, m70, cs71, rfl, hw, hf.to ⟨rfl, trivial⟩, hRR72⟩
 ·intro a w hM
  obtain ⟨y93, y98, yv94, m95, cs96, rfl, hw, hf, hRR97⟩ := hM
  replace hp := hq100
  refine ct <| wq <| wr <| om hf rfl rfl fun a hf => oa hf rfl rfl fun a hf => oN <| ct <| wp_ret ?_
  have hw : Ok E I (.row yv94 9 1 m95 cs96 :: .blk a0b (.cells ⟨[Value.string y98]⟩ 250 (0, 0)) :: F) w := hw.front (i := 0) rfl
  obtain ⟨I122, hle123, hw, hR124⟩ := row_freeze (K := ekS) hw hRR97
  replace hG := hG.mono hle123
  have ho := oI hp
  simp only [Prod.mk.injEq] at ho
  obtain ⟨rfl, rfl⟩ := ho
  exact b_ret1 hf results143 rfl ⟨_, rfl, ⟨I122, yv94, rfl, hle123, hw, hR124⟩⟩

theorem node_read_ok {E : World} {I : IH} {F : List Atom} {w : World} {a0 : ByteArray} {res0 : Item} (hw : Ok E I (F) w) (hG : Gl I) (hp : node_read.f a0 = some res0) :
  Calls P 104 ⟨[Value.string a0]⟩ w fun e w' => ∃ v, e = .returned v ∧ ∃ I2 : IH, ∃ rvv183 : Value, v = Value.agg ⟨[Value.int .i64 res0.kind_, Value.string res0.path_, Value.bool res0.has_, Value.string res0.value_, Value.int .i64 res0.mask_, rvv183]⟩ ∧ IH.le I I2 ∧ Ok E I2 (F) w' ∧ RS ekS I2 rvv183 res0.hashes_ := by
 refine c_enter func104 rfl ntmps104 rfl fun a hf => ?_
 replace hf : Fr 57 [(0, .string a0)] a := hf
 unfold node_read.f at hp
 refine wq <| wr ?_
 obtain ⟨b1, w, hrun2, hw⟩ := e_alloc (P := P) (a := a) hw ty_86
 refine o_eff hf (hrun2 ..) rfl fun a hf => oN <| ct <| wq <| wr <| om hf rfl rfl fun a hf => oR hf (r_build hf bd_250 (vs := [.string a0]) rfl ⟨rfl, trivial⟩ (by decide) (out := [.string a0]) rfl) rfl fun a hf => ?_
 obtain ⟨b4, w, hrun5, hw⟩ := e_box (P := P) hw hf (e := 250) (x := .tmp 6) rfl (cs := [Value.string a0]) rfl
 refine o_eff hf (hrun5 ..) rfl fun a hf => oa hf rfl rfl fun a hf => oN <| ct <| wq <| wr <| om hf rfl rfl fun a hf => ?_
 replace hw : Ok E I (.blk b4 (.cells ⟨[.string a0]⟩ 250 (0, 0)) :: .blk b1 (.cells ⟨[.int .i64 0, .string e0, .bool false, .string e0, .int .i64 0, .slice none 0 0]⟩ 86 (0, 0)) :: F) w := hw.front (i := 0) rfl
 obtain ⟨y13, hy12, hp⟩ := bS hp
 obtain ⟨y10, y11⟩ := y13
 have hc14 := node_reader_number_ok hw hG hy12
 refine o_call hf cb_140 rfl rfl hc14 (fun v16 w a hK15 hf => ?_)
 obtain ⟨rfl, hw⟩ := hK15
 refine oR hf (r_build hf bd_86 (vs := [.int .i64 y10]) rfl ⟨rfl, trivial⟩ (by decide) (out := [.int .i64 y10, .string e0, .bool false, .string e0, .int .i64 0, .slice none 0 0]) rfl) rfl fun a hf => ?_
 obtain ⟨b17, w, hrun18, hw⟩ := e_alloc (P := P) (a := a) hw ty_86
 refine o_eff hf (hrun18 ..) rfl fun a hf => ?_
 obtain ⟨w, hrun20, hw⟩ := e_store (P := P) hw hf (x := .tmp 4) (y := .tmp 10) rfl rfl ty_86 0 rfl (vs := [.int .i64 y10, .string e0, .bool false, .string e0, .int .i64 0, .slice none 0 0]) rfl rfl (oC rfl (oC rfl (oC rfl (oC rfl (oC rfl (oC rfl ones_nil)))))) (by simp [arrC_len]) (cs' := [.int .i64 y10, .string e0, .bool false, .string e0, .int .i64 0, .slice none 0 0]) rfl
 dsimp only [List.set] at hw
 refine o_effU (hrun20 ..) <| oN <| ct ?_
 obtain ⟨out174, hp, hq175⟩ := bS hp
 refine c_cut (fun a w => ∃ y169 : ByteArray, ∃ y170 : Bool, ∃ y171 : ByteArray, ∃ y172 : Int, ∃ y173 : ByteArray, (y169, y170, y171, y172, y173) = out174 ∧ Ok E I (.blk b17 (.cells ⟨[.int .i64 y10, .string y169, .bool y170, .string y171, .int .i64 y172, .slice none 0 0]⟩ 86 (0, 0)) :: .blk b4 (.cells ⟨[.string y173]⟩ 250 (0, 0)) :: .blk b1 (.cells ⟨[.int .i64 0, .string e0, .bool false, .string e0, .int .i64 0, .slice none 0 0]⟩ 86 (0, 0)) :: F) w ∧ Fr 57 ([(2, .pointer (some ⟨b1, 0, none⟩)), (3, .pointer (some ⟨b4, 0, none⟩)), (4, .pointer (some ⟨b17, 0, none⟩))]) a) ?_ ?_
 ·refine wq <| wr <| oR hf (rF hf rfl fd_86_0) rfl fun a hf => oR hf (rL hw hf rfl ty_3 0 rfl rfl) rfl fun a hf => oN <| ct <| wp_block <| wq <| wr <| oR hf (iC hf rfl rfl rfl) rfl fun a hf => oa hf rfl rfl fun a hf => oN <| ct <| cC hf rfl (fun hb176 => ?_) (fun hb176 => ?_)
  ·replace hp := cond_t hb176 hp
   refine wq <| wr <| om hf rfl rfl fun a hf => ?_
   replace hw : Ok E I (.blk b4 (.cells ⟨[.string y11]⟩ 250 (0, 0)) :: .blk b17 (.cells ⟨[.int .i64 y10, .string e0, .bool false, .string e0, .int .i64 0, .slice none 0 0]⟩ 86 (0, 0)) :: .blk b1 (.cells ⟨[.int .i64 0, .string e0, .bool false, .string e0, .int .i64 0, .slice none 0 0]⟩ 86 (0, 0)) :: F) w := hw.front (i := 1) rfl
   obtain ⟨y180, hy179, hp⟩ := bS hp
   obtain ⟨y177, y178⟩ := y180
   have hc181 := node_reader_path_ok hw hG hy179
   refine o_call hf cb_141 rfl rfl hc181 (fun v183 w a hK182 hf => ?_)
   obtain ⟨rfl, hw⟩ := hK182
   refine oR hf (rF hf rfl fd_86_1) rfl fun a hf => ?_
   obtain ⟨w, hrun184, hw⟩ := e_store (P := P) hw hf (x := .tmp 17) (y := .tmp 16) rfl rfl ty_9 1 rfl (vs := [.string y177]) (oE rfl) rfl (oC rfl ones_nil) (by simp [arrC_len]) (cs' := [.int .i64 y10, .string y177, .bool false, .string e0, .int .i64 0, .slice none 0 0]) rfl
   dsimp only [List.set] at hw
   refine o_effU (hrun184 ..) <| oR hf (rF hf rfl fd_86_2) rfl fun a hf => ?_
   obtain ⟨w, hrun185, hw⟩ := e_store (P := P) hw hf (x := .tmp 18) (y := .const (Value.bool true)) rfl rfl ty_4 1 rfl (vs := [.bool true]) (oE rfl) rfl (oC rfl ones_nil) (by simp [arrC_len]) (cs' := [.int .i64 y10, .string y177, .bool true, .string e0, .int .i64 0, .slice none 0 0]) rfl
   dsimp only [List.set] at hw
   refine o_effU (hrun185 ..) <| oN <| ct <| wr <| om hf rfl rfl fun a hf => om hf rfl rfl fun a hf => ?_
   replace hw : Ok E I (.blk b4 (.cells ⟨[.string y178]⟩ 250 (0, 0)) :: .blk b17 (.cells ⟨[.int .i64 y10, .string y177, .bool true, .string e0, .int .i64 0, .slice none 0 0]⟩ 86 (0, 0)) :: .blk b1 (.cells ⟨[.int .i64 0, .string e0, .bool false, .string e0, .int .i64 0, .slice none 0 0]⟩ 86 (0, 0)) :: F) w := hw.front (i := 0) rfl
   obtain ⟨y189, hy188, hp⟩ := bS hp
   obtain ⟨y186, y187⟩ := y189
   have hc190 := node_reader_number_ok hw hG hy188
   refine o_call hf cb_140 rfl rfl hc190 (fun v192 w a hK191 hf => ?_)
   obtain ⟨rfl, hw⟩ := hK191
   replace hw : Ok E I (.blk b4 (.cells ⟨[.string y187]⟩ 250 (0, 0)) :: .blk b17 (.cells ⟨[.int .i64 y10, .string y177, .bool true, .string e0, .int .i64 0, .slice none 0 0]⟩ 86 (0, 0)) :: .blk b1 (.cells ⟨[.int .i64 0, .string e0, .bool false, .string e0, .int .i64 0, .slice none 0 0]⟩ 86 (0, 0)) :: F) w := hw.front (i := 0) rfl
   obtain ⟨y196, hy195, hp⟩ := bS hp
   obtain ⟨y193, y194⟩ := y196
   have hc197 := node_reader_take_ok hw hG hy195
   refine o_call hf cb_142 rfl rfl hc197 (fun v199 w a hK198 hf => ?_)
   obtain ⟨rfl, hw⟩ := hK198
   refine oR hf (rF hf rfl fd_86_3) rfl fun a hf => ?_
   obtain ⟨w, hrun200, hw⟩ := e_store (P := P) hw hf (x := .tmp 23) (y := .tmp 22) rfl rfl ty_9 1 rfl (vs := [.string y193]) (oE rfl) rfl (oC rfl ones_nil) (by simp [arrC_len]) (cs' := [.int .i64 y10, .string y177, .bool true, .string y193, .int .i64 0, .slice none 0 0]) rfl
   dsimp only [List.set] at hw
   refine o_effU (hrun200 ..) <| oN <| c_blockN <| ct ?_
   have ho := oI hp
   subst ho
   replace hw : Ok E I (.blk b17 (.cells ⟨[.int .i64 y10, .string y177, .bool true, .string y193, .int .i64 0, .slice none 0 0]⟩ 86 (0, 0)) :: .blk b4 (.cells ⟨[.string y194]⟩ 250 (0, 0)) :: .blk b1 (.cells ⟨[.int .i64 0, .string e0, .bool false, .string e0, .int .i64 0, .slice none 0 0]⟩ 86 (0, 0)) :: F) w := ((hw.front (i := 2) rfl).front (i := 1) rfl).front (i := 2) rfl
   exact ⟨y177, true, y193, 0, y194, rfl, hw, hf.to ⟨rfl, rfl, rfl, trivial⟩⟩
  ·replace hp := cond_f hb176 hp
   refine wq <| wr <| oR hf (iC hf rfl rfl rfl) rfl fun a hf => oa hf rfl rfl fun a hf => oN <| ct <| cC hf rfl (fun hb201 => ?_) (fun hb201 => ?_)
   ·replace hp := cond_t hb201 hp
    refine wr <| om hf rfl rfl fun a hf => ?_
    replace hw : Ok E I (.blk b4 (.cells ⟨[.string y11]⟩ 250 (0, 0)) :: .blk b17 (.cells ⟨[.int .i64 y10, .string e0, .bool false, .string e0, .int .i64 0, .slice none 0 0]⟩ 86 (0, 0)) :: .blk b1 (.cells ⟨[.int .i64 0, .string e0, .bool false, .string e0, .int .i64 0, .slice none 0 0]⟩ 86 (0, 0)) :: F) w := hw.front (i := 1) rfl
    obtain ⟨y205, hy204, hp⟩ := bS hp
    obtain ⟨y202, y203⟩ := y205
    have hc206 := node_reader_path_ok hw hG hy204
    refine o_call hf cb_141 rfl rfl hc206 (fun v208 w a hK207 hf => ?_)
    obtain ⟨rfl, hw⟩ := hK207
    refine oR hf (rF hf rfl fd_86_1) rfl fun a hf => ?_
    obtain ⟨w, hrun209, hw⟩ := e_store (P := P) hw hf (x := .tmp 28) (y := .tmp 27) rfl rfl ty_9 1 rfl (vs := [.string y202]) (oE rfl) rfl (oC rfl ones_nil) (by simp [arrC_len]) (cs' := [.int .i64 y10, .string y202, .bool false, .string e0, .int .i64 0, .slice none 0 0]) rfl
    dsimp only [List.set] at hw
    refine o_effU (hrun209 ..) <| oR hf (rF hf rfl fd_86_4) rfl fun a hf => ?_
    obtain ⟨w, hrun210, hw⟩ := e_store (P := P) hw hf (x := .tmp 29) (y := .const (Value.int .i64 1)) rfl rfl ty_3 1 rfl (vs := [.int .i64 1]) (oE rfl) rfl (oC rfl ones_nil) (by simp [arrC_len]) (cs' := [.int .i64 y10, .string y202, .bool false, .string e0, .int .i64 1, .slice none 0 0]) rfl
    dsimp only [List.set] at hw
    refine o_effU (hrun210 ..) <| oN <| c_blockN <| ct ?_
    have ho := oI hp
    subst ho
    replace hw : Ok E I (.blk b17 (.cells ⟨[.int .i64 y10, .string y202, .bool false, .string e0, .int .i64 1, .slice none 0 0]⟩ 86 (0, 0)) :: .blk b4 (.cells ⟨[.string y203]⟩ 250 (0, 0)) :: .blk b1 (.cells ⟨[.int .i64 0, .string e0, .bool false, .string e0, .int .i64 0, .slice none 0 0]⟩ 86 (0, 0)) :: F) w := ((hw.front (i := 2) rfl).front (i := 1) rfl).front (i := 2) rfl
    exact ⟨y202, false, e0, 1, y203, rfl, hw, hf.to ⟨rfl, rfl, rfl, trivial⟩⟩
   ·replace hp := cond_f hb201 hp
    refine wq <| wr <| oR hf (iC hf rfl rfl rfl) rfl fun a hf => oa hf rfl rfl fun a hf => oN <| ct <| cC hf rfl (fun hb211 => ?_) (fun hb211 => ?_)
    ·replace hp := cond_t hb211 hp
     refine wq <| wr <| om hf rfl rfl fun a hf => ?_
     replace hw : Ok E I (.blk b4 (.cells ⟨[.string y11]⟩ 250 (0, 0)) :: .blk b17 (.cells ⟨[.int .i64 y10, .string e0, .bool false, .string e0, .int .i64 0, .slice none 0 0]⟩ 86 (0, 0)) :: .blk b1 (.cells ⟨[.int .i64 0, .string e0, .bool false, .string e0, .int .i64 0, .slice none 0 0]⟩ 86 (0, 0)) :: F) w := hw.front (i := 1) rfl
     obtain ⟨y215, hy214, hp⟩ := bS hp
     obtain ⟨y212, y213⟩ := y215
     have hc216 := node_reader_number_ok hw hG hy214
     refine o_call hf cb_140 rfl rfl hc216 (fun v218 w a hK217 hf => ?_)
     obtain ⟨rfl, hw⟩ := hK217
     refine oR hf (r_shl hf rfl rfl (by decide)) rfl fun a hf => oR hf (rF hf rfl fd_86_4) rfl fun a hf => ?_
     obtain ⟨w, hrun219, hw⟩ := e_store (P := P) hw hf (x := .tmp 35) (y := .tmp 34) rfl rfl ty_3 1 rfl (vs := [.int .i64 (shl .i64 y212 8)]) (oE rfl) rfl (oC rfl ones_nil) (by simp [arrC_len]) (cs' := [.int .i64 y10, .string e0, .bool false, .string e0, .int .i64 (shl .i64 y212 8), .slice none 0 0]) rfl
     dsimp only [List.set] at hw
     refine o_effU (hrun219 ..) <| oN <| ct <| wq <| c_drawn mix [6] (.rd 0 (.rd 1 (.rd 2 (.ef 3 (.rd 4 (.rd 5 (.ef 6 .done))))))) (by kernel_rfl) hw (fun w => Ok E I (.blk b17 (.cells ⟨[.int .i64 y10, .string e0, .bool false, .string e0, .int .i64 (shl .i64 y212 8), .slice none 0 0]⟩ 86 (0, 0)) :: .blk b1 (.cells ⟨[.int .i64 0, .string e0, .bool false, .string e0, .int .i64 0, .slice none 0 0]⟩ 86 (0, 0)) :: F) w) (fun w hw => ⟨hw.sub (sc (scc (scc sr))), ?_⟩)
     refine tR rfl hf (fun w hw => rF hf rfl fd_86_4) rfl fun a hf => tR rfl hf (fun w hw => rL hw hf rfl ty_3 0 rfl rfl) rfl fun a hf => tm rfl hf rfl rfl fun a hf => t_ef rfl ?_
     replace hw : Ok E I (.blk b4 (.cells ⟨[.string y213]⟩ 250 (0, 0)) :: .blk b17 (.cells ⟨[.int .i64 y10, .string e0, .bool false, .string e0, .int .i64 (shl .i64 y212 8), .slice none 0 0]⟩ 86 (0, 0)) :: .blk b1 (.cells ⟨[.int .i64 0, .string e0, .bool false, .string e0, .int .i64 0, .slice none 0 0]⟩ 86 (0, 0)) :: F) w := hw.front (i := 0) rfl
     obtain ⟨y224, hy223, hp⟩ := bS hp
     obtain ⟨y221, y222⟩ := y224
     have hc225 := node_reader_number_ok hw hG hy223
     refine t_call hf cb_140 rfl rfl hc225 (fun v227 w a hK226 hf => ?_)
     obtain ⟨rfl, hw⟩ := hK226
     refine ⟨.inr (hw.back (IH.le_refl _) (sc (scc (scc sr)))), ?_⟩
     refine tR rfl hf (fun w hw => r_or hf rfl rfl) rfl fun a hf => tR rfl hf (fun w hw => rF hf rfl fd_86_4) rfl fun a hf => t_ef rfl ?_
     obtain ⟨w, hrun228, hw⟩ := e_store (P := P) hw hf (x := .tmp 41) (y := .tmp 40) rfl rfl ty_3 1 rfl (vs := [.int .i64 (bor .i64 (shl .i64 y212 8) y221)]) (oE rfl) rfl (oC rfl ones_nil) (by simp [arrC_len]) (cs' := [.int .i64 y10, .string e0, .bool false, .string e0, .int .i64 (bor .i64 (shl .i64 y212 8) y221), .slice none 0 0]) rfl
     dsimp only [List.set] at hw
     refine t_effU (hrun228 ..) ⟨.inl rfl, ?_⟩
     refine t_done <| ct <| wq <| wr <| om hf rfl rfl fun a hf => ?_
     replace hw : Ok E I (.blk b4 (.cells ⟨[.string y222]⟩ 250 (0, 0)) :: .blk b17 (.cells ⟨[.int .i64 y10, .string e0, .bool false, .string e0, .int .i64 (bor .i64 (shl .i64 y212 8) y221), .slice none 0 0]⟩ 86 (0, 0)) :: .blk b1 (.cells ⟨[.int .i64 0, .string e0, .bool false, .string e0, .int .i64 0, .slice none 0 0]⟩ 86 (0, 0)) :: F) w := hw.front (i := 0) rfl
     obtain ⟨y232, hy231, hp⟩ := bS hp
     obtain ⟨y229, y230⟩ := y232
     have hc233 := node_reader_number_ok hw hG hy231
     refine o_call hf cb_140 rfl rfl hc233 (fun v235 w a hK234 hf => ?_)
     obtain ⟨rfl, hw⟩ := hK234
     refine oR hf (iC hf rfl rfl rfl) rfl fun a hf => oR hf (rF hf rfl fd_86_2) rfl fun a hf => ?_
     obtain ⟨w, hrun236, hw⟩ := e_store (P := P) hw hf (x := .tmp 45) (y := .tmp 44) rfl rfl ty_4 1 rfl (vs := [.bool (y229 == 1)]) (oE rfl) rfl (oC rfl ones_nil) (by simp [arrC_len]) (cs' := [.int .i64 y10, .string e0, .bool (y229 == 1), .string e0, .int .i64 (bor .i64 (shl .i64 y212 8) y221), .slice none 0 0]) rfl
     dsimp only [List.set] at hw
     refine o_effU (hrun236 ..) <| oN <| ct <| wq <| wr <| oR hf (rF hf rfl fd_86_2) rfl fun a hf => oR hf (rL hw hf rfl ty_4 1 rfl rfl) rfl fun a hf => oN <| ct <| cC hf rfl (fun hb237 => ?_) (fun hb237 => ?_)
     ·replace hp := cond_t hb237 hp
      refine wr <| om hf rfl rfl fun a hf => om hf rfl rfl fun a hf => ?_
      replace hw : Ok E I (.blk b4 (.cells ⟨[.string y230]⟩ 250 (0, 0)) :: .blk b17 (.cells ⟨[.int .i64 y10, .string e0, .bool (y229 == 1), .string e0, .int .i64 (bor .i64 (shl .i64 y212 8) y221), .slice none 0 0]⟩ 86 (0, 0)) :: .blk b1 (.cells ⟨[.int .i64 0, .string e0, .bool false, .string e0, .int .i64 0, .slice none 0 0]⟩ 86 (0, 0)) :: F) w := hw.front (i := 0) rfl
      obtain ⟨y241, hy240, hp⟩ := bS hp
      obtain ⟨y238, y239⟩ := y241
      have hc242 := node_reader_number_ok hw hG hy240
      refine o_call hf cb_140 rfl rfl hc242 (fun v244 w a hK243 hf => ?_)
      obtain ⟨rfl, hw⟩ := hK243
      replace hw : Ok E I (.blk b4 (.cells ⟨[.string y239]⟩ 250 (0, 0)) :: .blk b17 (.cells ⟨[.int .i64 y10, .string e0, .bool (y229 == 1), .string e0, .int .i64 (bor .i64 (shl .i64 y212 8) y221), .slice none 0 0]⟩ 86 (0, 0)) :: .blk b1 (.cells ⟨[.int .i64 0, .string e0, .bool false, .string e0, .int .i64 0, .slice none 0 0]⟩ 86 (0, 0)) :: F) w := hw.front (i := 0) rfl
      obtain ⟨y248, hy247, hp⟩ := bS hp
      obtain ⟨y245, y246⟩ := y248
      have hc249 := node_reader_take_ok hw hG hy247
      refine o_call hf cb_142 rfl rfl hc249 (fun v251 w a hK250 hf => ?_)
      obtain ⟨rfl, hw⟩ := hK250
      refine oR hf (rF hf rfl fd_86_3) rfl fun a hf => ?_
      obtain ⟨w, hrun252, hw⟩ := e_store (P := P) hw hf (x := .tmp 52) (y := .tmp 51) rfl rfl ty_9 1 rfl (vs := [.string y245]) (oE rfl) rfl (oC rfl ones_nil) (by simp [arrC_len]) (cs' := [.int .i64 y10, .string e0, .bool (y229 == 1), .string y245, .int .i64 (bor .i64 (shl .i64 y212 8) y221), .slice none 0 0]) rfl
      dsimp only [List.set] at hw
      refine o_effU (hrun252 ..) <| oN <| c_blockN <| ct ?_
      have ho := oI hp
      subst ho
      replace hw : Ok E I (.blk b17 (.cells ⟨[.int .i64 y10, .string e0, .bool (y229 == 1), .string y245, .int .i64 (bor .i64 (shl .i64 y212 8) y221), .slice none 0 0]⟩ 86 (0, 0)) :: .blk b4 (.cells ⟨[.string y246]⟩ 250 (0, 0)) :: .blk b1 (.cells ⟨[.int .i64 0, .string e0, .bool false, .string e0, .int .i64 0, .slice none 0 0]⟩ 86 (0, 0)) :: F) w := ((hw.front (i := 2) rfl).front (i := 1) rfl).front (i := 2) rfl
      exact ⟨e0, (y229 == 1), y245, (bor .i64 (shl .i64 y212 8) y221), y246, rfl, hw, hf.to ⟨rfl, rfl, rfl, trivial⟩⟩
     ·replace hp := cond_f hb237 hp
      refine wp_skip <| c_blockN <| ct ?_
      have ho := oI hp
      subst ho
      replace hw : Ok E I (.blk b17 (.cells ⟨[.int .i64 y10, .string e0, .bool (y229 == 1), .string e0, .int .i64 (bor .i64 (shl .i64 y212 8) y221), .slice none 0 0]⟩ 86 (0, 0)) :: .blk b4 (.cells ⟨[.string y230]⟩ 250 (0, 0)) :: .blk b1 (.cells ⟨[.int .i64 0, .string e0, .bool false, .string e0, .int .i64 0, .slice none 0 0]⟩ 86 (0, 0)) :: F) w := ((hw.front (i := 2) rfl).front (i := 1) rfl).front (i := 2) rfl
      exact ⟨e0, (y229 == 1), e0, (bor .i64 (shl .i64 y212 8) y221), y230, rfl, hw, hf.to ⟨rfl, rfl, rfl, trivial⟩⟩
    ·replace hp := cond_f hb211 hp
     refine wp_skip <| c_blockN <| ct ?_
     have ho := oI hp
     subst ho
     exact ⟨e0, false, e0, 0, y11, rfl, hw, hf.to ⟨rfl, rfl, rfl, trivial⟩⟩
 ·intro a w hM
  obtain ⟨y169, y170, y171, y172, y173, rfl, hw, hf⟩ := hM
  replace hp := hq175
  refine wq <| wr <| om hf rfl rfl fun a hf => ?_
  replace hw : Ok E I (.blk b4 (.cells ⟨[.string y173]⟩ 250 (0, 0)) :: .blk b17 (.cells ⟨[.int .i64 y10, .string y169, .bool y170, .string y171, .int .i64 y172, .slice none 0 0]⟩ 86 (0, 0)) :: .blk b1 (.cells ⟨[.int .i64 0, .string e0, .bool false, .string e0, .int .i64 0, .slice none 0 0]⟩ 86 (0, 0)) :: F) w := hw.front (i := 1) rfl
  obtain ⟨y128, hy127, hp⟩ := bS hp
  obtain ⟨y125, y126⟩ := y128
  have hc129 := node_reader_rest_ok hw hG hy127
  refine o_call hf cb_143 rfl rfl hc129 (fun v133 w a hK130 hf => ?_)
  obtain ⟨I2_130, rvv131, hv0, hle134, hw, hR132⟩ := hK130
  subst v133
  replace hG := hG.mono hle134
  refine oR hf (rF hf rfl fd_86_5) rfl fun a hf => ?_
  obtain ⟨w, hrun135, hw⟩ := e_store (P := P) hw hf (x := .tmp 55) (y := .tmp 54) rfl rfl ty_28 1 rfl (vs := [rvv131]) (oE hR132.one) rfl (oC hR132.one ones_nil) (by simp [arrC_len]) (cs' := [.int .i64 y10, .string y169, .bool y170, .string y171, .int .i64 y172, rvv131]) rfl
  replace hw : Ok E I2_130 (.blk b4 (.cells ⟨[.string y126]⟩ 250 (0, 0)) :: .blk b17 (.cells ⟨[.int .i64 y10, .string y169, .bool y170, .string y171, .int .i64 y172, rvv131]⟩ 86 (0, 0)) :: .blk b1 (.cells ⟨[.int .i64 0, .string e0, .bool false, .string e0, .int .i64 0, .slice none 0 0]⟩ 86 (0, 0)) :: F) w := hw
  refine o_effU (hrun135 ..) <| oN <| ct <| wq <| wr <| oR hf (r_loadA hw hf rfl ty_86 1 rfl (vs := [.int .i64 y10, .string y169, .bool y170, .string y171, .int .i64 y172, rvv131]) rfl rfl) rfl fun a hf => ?_
  obtain ⟨w, hrun136, hw⟩ := e_store (P := P) hw hf (x := .tmp 2) (y := .tmp 56) rfl rfl ty_86 2 rfl (vs := [.int .i64 y10, .string y169, .bool y170, .string y171, .int .i64 y172, rvv131]) rfl rfl (oC rfl (oC rfl (oC rfl (oC rfl (oC rfl (oC hR132.one ones_nil)))))) (by simp [arrC_len]) (cs' := [.int .i64 y10, .string y169, .bool y170, .string y171, .int .i64 y172, rvv131]) rfl
  replace hw : Ok E I2_130 (.blk b4 (.cells ⟨[.string y126]⟩ 250 (0, 0)) :: .blk b17 (.cells ⟨[.int .i64 y10, .string y169, .bool y170, .string y171, .int .i64 y172, rvv131]⟩ 86 (0, 0)) :: .blk b1 (.cells ⟨[.int .i64 y10, .string y169, .bool y170, .string y171, .int .i64 y172, rvv131]⟩ 86 (0, 0)) :: F) w := hw
  refine o_effU (hrun136 ..) <| oN <| ct <| wp_ret ?_
  replace hw : Ok E I2_130 (.blk b1 (.cells ⟨[.int .i64 y10, .string y169, .bool y170, .string y171, .int .i64 y172, rvv131]⟩ 86 (0, 0)) :: F) w := hw.sub (sc (sc (scc sr)))
  have ho := oI hp
  subst ho
  exact b_retC hw hf results104 ty_86 rfl 0 rfl (vs := [.int .i64 y10, .string y169, .bool y170, .string y171, .int .i64 y172, rvv131]) rfl rfl ⟨_, rfl, ⟨I2_130, rvv131, rfl, hle134, hw.tail, hR132⟩⟩
end Go.Lf
