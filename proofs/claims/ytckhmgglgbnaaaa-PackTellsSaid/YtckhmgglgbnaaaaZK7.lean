/- The Go functions compute the plain Lean functions (printed by our lift.py). -/
import Derived.Test.YtckhmgglgbnaaaaZD
import Derived.Test.YtckhmgglgbnaaaaZF
import Derived.Test.YtckhmgglgbnaaaaN
import Derived.Test.YtckhmgglgbnaaaaZK5
import Derived.Test.YtckhmgglgbnaaaaZK6
set_option linter.unusedVariables false
set_option linter.unusedSimpArgs false
namespace Go.Lf
open Go
set_option maxHeartbeats 1000000 in
set_option maxRecDepth 20000 in
theorem slices_Index_int_ok {E : World} {I : IH} {F : List Atom} {w : World} {a0 : List Int} {a0v1 : Value} {a1 : Int} {res0 : Int} (hw : Ok E I (F) w) (hR2 : RS (ekI .i64) I a0v1 a0) (hp : slices_Index_int.f a0 a1 = some res0) :
    Calls P 66 ⟨[a0v1, Value.int .i64 a1]⟩ w fun e w' => ∃ v, e = .returned v ∧ v = Value.int .i64 res0 ∧ Ok E I (F) w' := by
  refine c_enter Go.Proofs.Try.func66 rfl Go.Proofs.Try.ntmps66 rfl fun a hf => ?_
  replace hf : Fr 19 [(0, a0v1), (1, Value.int .i64 a1)] a := hf
  unfold slices_Index_int.f at hp
  refine wp_seq ?_
  refine wp_region_lit ?_
  refine o_run hf (r_assign hf rfl) rfl fun a hf => ?_
  refine o_nil ?_
  refine c_then ?_
  refine wp_seq ?_
  refine wp_seq ?_
  refine wp_region_lit ?_
  refine o_run hf (r_move hf rfl) rfl fun a hf => ?_
  refine o_run hf (r_lenL (K := (ekI .i64)) hf el_24 rfl (hR2.rd hw)) rfl fun a hf => ?_
  refine o_run hf (r_move hf rfl) rfl fun a hf => ?_
  refine o_nil ?_
  refine c_then ?_
  obtain ⟨out12, hp, hq13⟩ := bind_some hp
  refine c_cutX (fun a w => (.inl ()) = out12 ∧ Ok E I (F) w ∧ Fr 19 ([]) a) ?_ ?_
  · refine wp_block ?_
    refine c_loop ?_
    refine c_fuel (slices_Index_int.l0 a0 a1) out12 (fun (y8 : Int) a w => Ok E I (F) w ∧ Fr 19 ([(0, a0v1), (1, Value.int .i64 a1), (7, Value.int .i64 (a0.length : Int)), (8, Value.int .i64 y8)]) a) (fun _ => rfl) ?_ BIG 0 _ _ ⟨hw, hf.to ⟨rfl, rfl, rfl, rfl, trivial⟩⟩ hp
    intro k y8 a w hI hp ih
    obtain ⟨hw, hf⟩ := hI
    rw [slices_Index_int.l0] at hp
    refine wp_seq ?_
    refine wp_region_lit ?_
    refine o_run hf (r_icmp hf rfl rfl rfl) rfl fun a hf => ?_
    refine o_nil ?_
    refine c_then ?_
    refine wp_seq ?_
    refine c_cond hf rfl (fun hb15 => ?_) (fun hb15 => ?_)
    · replace hp := cond_t hb15 hp
      refine wp_skip ?_
      refine c_then ?_
      refine wp_seq ?_
      refine wp_block ?_
      refine wp_seq ?_
      refine wp_region_lit ?_
      refine o_run hf (r_move hf rfl) rfl fun a hf => ?_
      refine o_run hf (r_assign hf rfl) rfl fun a hf => ?_
      refine o_nil ?_
      refine c_then ?_
      refine wp_seq ?_
      refine wp_region_lit ?_
      refine o_run hf (r_move hf rfl) rfl fun a hf => ?_
      refine o_run hf (r_move hf rfl) rfl fun a hf => ?_
      refine o_run hf (r_move hf rfl) rfl fun a hf => ?_
      obtain ⟨hg16, hp⟩ := gd_some hp
      refine o_run hf (r_indexAddr (K := (ekI .i64)) hf el_24 rfl rfl (hR2.rd hw) hg16) rfl fun a hf => ?_
      refine o_run hf (r_loadH (K := (ekI .i64)) hf rfl ty_3 (hR2.rd hw) hg16 rfl (fun cs h => ekI_f0 h)) rfl fun a hf => ?_
      refine o_run hf (r_icmp hf rfl rfl rfl) rfl fun a hf => ?_
      refine o_nil ?_
      refine c_then ?_
      refine c_cond hf rfl (fun hb17 => ?_) (fun hb17 => ?_)
      · replace hp := cond_t hb17 hp
        refine wp_seq ?_
        refine wp_region_lit ?_
        refine o_run hf (r_move hf rfl) rfl fun a hf => ?_
        refine o_run hf (r_assign hf rfl) rfl fun a hf => ?_
        refine o_nil ?_
        refine c_then ?_
        refine wp_ret ?_
        refine c_blockR ?_
        refine c_thenR ?_
        refine c_thenR ?_
        refine c_blockR ?_
        refine c_thenR ?_
        have ho := out_inj hp
        subst ho
        replace hp := hq13
        refine c_thenR ?_
        have ho := out_inj hp
        subst ho
        exact b_ret1 hf Go.Proofs.Try.results66 rfl ⟨_, rfl, ⟨rfl, hw⟩⟩
      · replace hp := cond_f hb17 hp
        refine wp_skip ?_
        refine c_blockN ?_
        refine c_then ?_
        refine wp_region_lit ?_
        refine o_run hf (r_add hf rfl rfl) rfl fun a hf => ?_
        refine o_run hf (r_move hf rfl) rfl fun a hf => ?_
        refine o_nil ?_
        refine c_then ?_
        exact ih (w64 (y8 + 1)) _ _ ⟨hw, hf.to ⟨rfl, rfl, rfl, rfl, trivial⟩⟩ hp
    · replace hp := cond_f hb15 hp
      refine wp_exit ?_
      refine c_thenE ?_
      refine c_thenE ?_
      refine c_exit ?_
      refine c_then ?_
      have ho := out_inj hp
      subst ho
      exact ⟨rfl, hw, hf.to trivial⟩
  · intro a w hM
    obtain ⟨rfl, hw, hf⟩ := hM
    replace hp := hq13
    refine c_then ?_
    refine wp_seq ?_
    refine wp_region_lit ?_
    refine o_run hf (r_assign hf rfl) rfl fun a hf => ?_
    refine o_nil ?_
    refine c_then ?_
    refine wp_ret ?_
    have ho := out_inj hp
    subst ho
    exact b_ret1 hf Go.Proofs.Try.results66 rfl ⟨_, rfl, ⟨rfl, hw⟩⟩

set_option maxHeartbeats 1000000 in
set_option maxRecDepth 20000 in
theorem slices_Contains_int_ok {E : World} {I : IH} {F : List Atom} {w : World} {a0 : List Int} {a0v7 : Value} {a1 : Int} {res0 : Bool} (hw : Ok E I (F) w) (hR8 : RS (ekI .i64) I a0v7 a0) (hp : slices_Contains_int.f a0 a1 = some res0) :
    Calls P 45 ⟨[a0v7, Value.int .i64 a1]⟩ w fun e w' => ∃ v, e = .returned v ∧ v = Value.bool res0 ∧ Ok E I (F) w' := by
  refine c_enter Go.Proofs.Try.func45 rfl Go.Proofs.Try.ntmps45 rfl fun a hf => ?_
  replace hf : Fr 9 [(0, a0v7), (1, Value.int .i64 a1)] a := hf
  unfold slices_Contains_int.f at hp
  refine wp_seq ?_
  refine wp_region_lit ?_
  refine o_run hf (r_assign hf rfl) rfl fun a hf => ?_
  refine o_nil ?_
  refine c_then ?_
  refine wp_seq ?_
  refine wp_region_lit ?_
  refine o_run hf (r_move hf rfl) rfl fun a hf => ?_
  refine o_run hf (r_move hf rfl) rfl fun a hf => ?_
  obtain ⟨y20, hy21, hp⟩ := bind_some hp
  have hc23 := slices_Index_int_ok hw hR8 hy21
  refine o_call hf cb_66 rfl rfl hc23 (fun v25 w a hK24 hf => ?_)
  obtain ⟨rfl, hw⟩ := hK24
  refine o_run hf (r_icmp hf rfl rfl rfl) rfl fun a hf => ?_
  refine o_run hf (r_assign hf rfl) rfl fun a hf => ?_
  refine o_nil ?_
  refine c_then ?_
  refine wp_ret ?_
  have ho := out_inj hp
  subst ho
  exact b_ret1 hf Go.Proofs.Try.results45 rfl ⟨_, rfl, ⟨rfl, hw⟩⟩

set_option maxHeartbeats 1000000 in
set_option maxRecDepth 20000 in
theorem pack_Bytes_c1_ok {E : World} {I : IH} {F : List Atom} {w : World} {a0 : Int} {a1b : Nat} {a1 : Int} {a2b : Nat} {a2 : List Node} {a2v3 : Value} {res0 : Bool} (hw : Ok E I (.blk a1b (.cells ⟨[Value.int .i64 a1]⟩ 3 (0, 0)) :: .blk a2b (.cells ⟨[a2v3]⟩ 23 (0, 0)) :: F) w) (hR4 : RS ek_Node I a2v3 a2) (hp : pack_Bytes_c1.f a0 a1 a2 = some res0) :
    Calls P 44 ⟨[Value.int .i64 a0, Value.pointer (some ⟨a1b, 0, none⟩), Value.pointer (some ⟨a2b, 0, none⟩)]⟩ w fun e w' => ∃ v, e = .returned v ∧ v = Value.bool res0 ∧ Ok E I (.blk a1b (.cells ⟨[Value.int .i64 a1]⟩ 3 (0, 0)) :: .blk a2b (.cells ⟨[a2v3]⟩ 23 (0, 0)) :: F) w' := by
  refine c_enter Go.Proofs.Try.func44 rfl Go.Proofs.Try.ntmps44 rfl fun a hf => ?_
  replace hf : Fr 16 [(0, Value.int .i64 a0), (1, Value.pointer (some ⟨a1b, 0, none⟩)), (2, Value.pointer (some ⟨a2b, 0, none⟩))] a := hf
  unfold pack_Bytes_c1.f at hp
  refine wp_seq ?_
  refine wp_region_lit ?_
  refine o_run hf (r_assign hf rfl) rfl fun a hf => ?_
  refine o_nil ?_
  refine c_then ?_
  obtain ⟨out45, hp, hq46⟩ := bind_some hp
  refine c_cut (fun a w => ∃ y44 : Bool, y44 = out45 ∧ Ok E I (.blk a1b (.cells ⟨[Value.int .i64 a1]⟩ 3 (0, 0)) :: .blk a2b (.cells ⟨[a2v3]⟩ 23 (0, 0)) :: F) w ∧ Fr 16 ([(4, Value.bool y44)]) a) ?_ ?_
  · refine c_drawn mix [] (.rd 0 (.rd 1 (.rd 2 (.rd 3 (.rd 4 (.rd 5 (.rd 6 (.rd 7 (.rd 8 (.ef 9 (.rd 10 (.rd 11 .done)))))))))))) (by kernel_rfl) hw (fun w => Ok E I (.blk a1b (.cells ⟨[Value.int .i64 a1]⟩ 3 (0, 0)) :: .blk a2b (.cells ⟨[a2v3]⟩ 23 (0, 0)) :: F) w) (fun w hw => ⟨hw.sub (List.Sublist.cons_cons _ (List.Sublist.cons_cons _ (List.Sublist.refl _))), ?_⟩)
    refine t_rd rfl hf (fun w hw => r_load hw hf rfl ty_3 0 rfl rfl) rfl fun a hf => ?_
    refine t_rd rfl hf (fun w hw => r_icmp hf rfl rfl rfl) rfl fun a hf => ?_
    refine t_rd rfl hf (fun w hw => r_move hf rfl) rfl fun a hf => ?_
    refine g_split hf (g := 7) rfl (fun hb48 hf => ?_) (fun hb48 hf => ?_)
    · replace hp := cond_t hb48 hp
      refine t_rdG rfl rfl hf rfl (fun w hw => r_load hw hf rfl ty_23 1 rfl rfl) rfl fun a hf => ?_
      refine t_rdG rfl rfl hf rfl (fun w hw => r_move hf rfl) rfl fun a hf => ?_
      obtain ⟨hg49, hp⟩ := gd_some hp
      refine t_rdG rfl rfl hf rfl (fun w hw => r_indexAddr (K := ek_Node) hf el_23 rfl rfl (hR4.rd hw) hg49) rfl fun a hf => ?_
      refine t_rdG rfl rfl hf rfl (fun w hw => r_fieldAddrH hf rfl fd_51_4) rfl fun a hf => ?_
      obtain ⟨v50, hR51, hrun52⟩ := rs_sliceArrH (P := P) el_49 hR4 hg49 rfl (f := fun z => z.kids_) (fun cs h => Node_arr h) (by decide) (by decide)
      refine t_rdG rfl rfl hf rfl (fun w hw => hrun52 _ _ _ _ _ _ _ _ _ _ hf rfl) rfl fun a hf => ?_
      refine t_rdG rfl rfl hf rfl (fun w hw => r_load hw hf rfl ty_3 0 rfl rfl) rfl fun a hf => ?_
      refine t_ef rfl ?_
      obtain ⟨y53, hy54, hp⟩ := bind_some hp
      have hc56 := slices_Contains_int_ok hw hR51 hy54
      refine t_callG rfl hf rfl cb_45 rfl rfl hc56 (fun v58 w a hK57 hf => ?_)
      obtain ⟨rfl, hw⟩ := hK57
      refine ⟨.inr (hw.back (IH.le_refl _) (List.Sublist.cons_cons _ (List.Sublist.cons_cons _ (List.Sublist.refl _)))), ?_⟩
      refine t_rd rfl hf (fun w hw => r_pickT hf rfl rfl) rfl fun a hf => ?_
      refine t_rd rfl hf (fun w hw => r_assign hf rfl) rfl fun a hf => ?_
      refine t_done ?_
      refine c_then ?_
      have ho := out_inj hp
      subst ho
      exact ⟨y53, rfl, hw, hf.to ⟨rfl, trivial⟩⟩
    · replace hp := cond_f hb48 hp
      refine t_rdS rfl rfl hf rfl rfl rfl fun a hf => ?_
      refine t_rdS rfl rfl hf rfl rfl rfl fun a hf => ?_
      refine t_rdS rfl rfl hf rfl rfl rfl fun a hf => ?_
      refine t_rdS rfl rfl hf rfl rfl rfl fun a hf => ?_
      refine t_rdS rfl rfl hf rfl rfl rfl fun a hf => ?_
      refine t_rdS rfl rfl hf rfl rfl rfl fun a hf => ?_
      refine t_ef rfl ?_
      refine t_skipE rfl hf rfl rfl rfl fun a hf => ⟨.inr (hw.back (IH.le_refl _) (List.Sublist.cons_cons _ (List.Sublist.cons_cons _ (List.Sublist.refl _)))), ?_⟩
      refine t_rd rfl hf (fun w hw => r_pickF hf rfl rfl) rfl fun a hf => ?_
      refine t_rd rfl hf (fun w hw => r_assign hf rfl) rfl fun a hf => ?_
      refine t_done ?_
      refine c_then ?_
      have ho := out_inj hp
      subst ho
      exact ⟨false, rfl, hw, hf.to ⟨rfl, trivial⟩⟩
  · intro a w hM
    obtain ⟨y44, rfl, hw, hf⟩ := hM
    replace hp := hq46
    refine wp_ret ?_
    have ho := out_inj hp
    subst ho
    exact b_ret1 hf Go.Proofs.Try.results44 rfl ⟨_, rfl, ⟨rfl, hw⟩⟩

set_option maxHeartbeats 1000000 in
set_option maxRecDepth 20000 in
theorem slices_IndexFunc_int_pack_Bytes_c1_ok {E : World} {I : IH} {F : List Atom} {w : World} {a0 : List Int} {a0v1 : Value} {a1c0b : Nat} {a1c0 : Int} {a1c1b : Nat} {a1c1 : List Node} {a1c1v3 : Value} {res0 : Int} (hw : Ok E I (.blk a1c0b (.cells ⟨[Value.int .i64 a1c0]⟩ 3 (0, 0)) :: .blk a1c1b (.cells ⟨[a1c1v3]⟩ 23 (0, 0)) :: F) w) (hR2 : RS (ekI .i64) I a0v1 a0) (hR4 : RS ek_Node I a1c1v3 a1c1) (hp : slices_IndexFunc_int_pack_Bytes_c1.f a0 a1c0 a1c1 = some res0) :
    Calls P 65 ⟨[a0v1, Value.func (.func 44) #[] ⟨[Value.pointer (some ⟨a1c0b, 0, none⟩), Value.pointer (some ⟨a1c1b, 0, none⟩)]⟩]⟩ w fun e w' => ∃ v, e = .returned v ∧ v = Value.int .i64 res0 ∧ Ok E I (.blk a1c0b (.cells ⟨[Value.int .i64 a1c0]⟩ 3 (0, 0)) :: .blk a1c1b (.cells ⟨[a1c1v3]⟩ 23 (0, 0)) :: F) w' := by
  refine c_enter Go.Proofs.Try.func65 rfl Go.Proofs.Try.ntmps65 rfl fun a hf => ?_
  replace hf : Fr 19 [(0, a0v1), (1, Value.func (.func 44) #[] ⟨[Value.pointer (some ⟨a1c0b, 0, none⟩), Value.pointer (some ⟨a1c1b, 0, none⟩)]⟩)] a := hf
  unfold slices_IndexFunc_int_pack_Bytes_c1.f at hp
  refine wp_seq ?_
  refine wp_region_lit ?_
  refine o_run hf (r_assign hf rfl) rfl fun a hf => ?_
  refine o_nil ?_
  refine c_then ?_
  refine wp_seq ?_
  refine wp_seq ?_
  refine wp_region_lit ?_
  refine o_run hf (r_move hf rfl) rfl fun a hf => ?_
  refine o_run hf (r_lenL (K := (ekI .i64)) hf el_24 rfl (hR2.rd hw)) rfl fun a hf => ?_
  refine o_run hf (r_move hf rfl) rfl fun a hf => ?_
  refine o_nil ?_
  refine c_then ?_
  obtain ⟨out86, hp, hq87⟩ := bind_some hp
  refine c_cutX (fun a w => (.inl ()) = out86 ∧ Ok E I (.blk a1c0b (.cells ⟨[Value.int .i64 a1c0]⟩ 3 (0, 0)) :: .blk a1c1b (.cells ⟨[a1c1v3]⟩ 23 (0, 0)) :: F) w ∧ Fr 19 ([]) a) ?_ ?_
  · refine wp_block ?_
    refine c_loop ?_
    refine c_fuel (slices_IndexFunc_int_pack_Bytes_c1.l0 a0 a1c0 a1c1) out86 (fun (y76 : Int) a w => Ok E I (.blk a1c0b (.cells ⟨[Value.int .i64 a1c0]⟩ 3 (0, 0)) :: .blk a1c1b (.cells ⟨[a1c1v3]⟩ 23 (0, 0)) :: F) w ∧ Fr 19 ([(0, a0v1), (1, Value.func (.func 44) #[] ⟨[Value.pointer (some ⟨a1c0b, 0, none⟩), Value.pointer (some ⟨a1c1b, 0, none⟩)]⟩), (7, Value.int .i64 (a0.length : Int)), (8, Value.int .i64 y76)]) a) (fun _ => rfl) ?_ BIG 0 _ _ ⟨hw, hf.to ⟨rfl, rfl, rfl, rfl, trivial⟩⟩ hp
    intro k y76 a w hI hp ih
    obtain ⟨hw, hf⟩ := hI
    rw [slices_IndexFunc_int_pack_Bytes_c1.l0] at hp
    refine wp_seq ?_
    refine wp_region_lit ?_
    refine o_run hf (r_icmp hf rfl rfl rfl) rfl fun a hf => ?_
    refine o_nil ?_
    refine c_then ?_
    refine wp_seq ?_
    refine c_cond hf rfl (fun hb89 => ?_) (fun hb89 => ?_)
    · replace hp := cond_t hb89 hp
      refine wp_skip ?_
      refine c_then ?_
      refine wp_seq ?_
      refine wp_block ?_
      refine wp_seq ?_
      refine wp_region_lit ?_
      refine o_run hf (r_move hf rfl) rfl fun a hf => ?_
      refine o_run hf (r_assign hf rfl) rfl fun a hf => ?_
      refine o_nil ?_
      refine c_then ?_
      refine wp_seq ?_
      refine wp_region_lit ?_
      refine o_run hf (r_move hf rfl) rfl fun a hf => ?_
      refine o_run hf (r_move hf rfl) rfl fun a hf => ?_
      refine o_run hf (r_move hf rfl) rfl fun a hf => ?_
      obtain ⟨hg90, hp⟩ := gd_some hp
      refine o_run hf (r_indexAddr (K := (ekI .i64)) hf el_24 rfl rfl (hR2.rd hw) hg90) rfl fun a hf => ?_
      refine o_run hf (r_loadH (K := (ekI .i64)) hf rfl ty_3 (hR2.rd hw) hg90 rfl (fun cs h => ekI_f0 h)) rfl fun a hf => ?_
      replace hw : Ok E I (.blk a1c1b (.cells ⟨[a1c1v3]⟩ 23 (0, 0)) :: .blk a1c0b (.cells ⟨[Value.int .i64 a1c0]⟩ 3 (0, 0)) :: F) w := hw.front (i := 1) rfl
      replace hw : Ok E I (.blk a1c0b (.cells ⟨[Value.int .i64 a1c0]⟩ 3 (0, 0)) :: .blk a1c1b (.cells ⟨[a1c1v3]⟩ 23 (0, 0)) :: F) w := hw.front (i := 1) rfl
      obtain ⟨y91, hy92, hp⟩ := bind_some hp
      have hc94 := pack_Bytes_c1_ok hw hR4 hy92
      refine o_callV hf rfl cb_44 rfl rfl hc94 (fun v96 w a hK95 hf => ?_)
      obtain ⟨rfl, hw⟩ := hK95
      refine o_nil ?_
      refine c_then ?_
      refine c_cond hf rfl (fun hb97 => ?_) (fun hb97 => ?_)
      · replace hp := cond_t hb97 hp
        refine wp_seq ?_
        refine wp_region_lit ?_
        refine o_run hf (r_move hf rfl) rfl fun a hf => ?_
        refine o_run hf (r_assign hf rfl) rfl fun a hf => ?_
        refine o_nil ?_
        refine c_then ?_
        refine wp_ret ?_
        refine c_blockR ?_
        refine c_thenR ?_
        refine c_thenR ?_
        refine c_blockR ?_
        refine c_thenR ?_
        have ho := out_inj hp
        subst ho
        replace hp := hq87
        refine c_thenR ?_
        have ho := out_inj hp
        subst ho
        exact b_ret1 hf Go.Proofs.Try.results65 rfl ⟨_, rfl, ⟨rfl, hw⟩⟩
      · replace hp := cond_f hb97 hp
        refine wp_skip ?_
        refine c_blockN ?_
        refine c_then ?_
        refine wp_region_lit ?_
        refine o_run hf (r_add hf rfl rfl) rfl fun a hf => ?_
        refine o_run hf (r_move hf rfl) rfl fun a hf => ?_
        refine o_nil ?_
        refine c_then ?_
        exact ih (w64 (y76 + 1)) _ _ ⟨hw, hf.to ⟨rfl, rfl, rfl, rfl, trivial⟩⟩ hp
    · replace hp := cond_f hb89 hp
      refine wp_exit ?_
      refine c_thenE ?_
      refine c_thenE ?_
      refine c_exit ?_
      refine c_then ?_
      have ho := out_inj hp
      subst ho
      exact ⟨rfl, hw, hf.to trivial⟩
  · intro a w hM
    obtain ⟨rfl, hw, hf⟩ := hM
    replace hp := hq87
    refine c_then ?_
    refine wp_seq ?_
    refine wp_region_lit ?_
    refine o_run hf (r_assign hf rfl) rfl fun a hf => ?_
    refine o_nil ?_
    refine c_then ?_
    refine wp_ret ?_
    have ho := out_inj hp
    subst ho
    exact b_ret1 hf Go.Proofs.Try.results65 rfl ⟨_, rfl, ⟨rfl, hw⟩⟩

set_option maxHeartbeats 1000000 in
set_option maxRecDepth 20000 in
theorem slices_ContainsFunc_int_pack_Bytes_c1_ok {E : World} {I : IH} {F : List Atom} {w : World} {a0 : List Int} {a0v159 : Value} {a1c0b : Nat} {a1c0 : Int} {a1c1b : Nat} {a1c1 : List Node} {a1c1v161 : Value} {res0 : Bool} (hw : Ok E I (.blk a1c0b (.cells ⟨[Value.int .i64 a1c0]⟩ 3 (0, 0)) :: .blk a1c1b (.cells ⟨[a1c1v161]⟩ 23 (0, 0)) :: F) w) (hR160 : RS (ekI .i64) I a0v159 a0) (hR162 : RS ek_Node I a1c1v161 a1c1) (hp : slices_ContainsFunc_int_pack_Bytes_c1.f a0 a1c0 a1c1 = some res0) :
    Calls P 43 ⟨[a0v159, Value.func (.func 44) #[] ⟨[Value.pointer (some ⟨a1c0b, 0, none⟩), Value.pointer (some ⟨a1c1b, 0, none⟩)]⟩]⟩ w fun e w' => ∃ v, e = .returned v ∧ v = Value.bool res0 ∧ Ok E I (.blk a1c0b (.cells ⟨[Value.int .i64 a1c0]⟩ 3 (0, 0)) :: .blk a1c1b (.cells ⟨[a1c1v161]⟩ 23 (0, 0)) :: F) w' := by
  refine c_enter Go.Proofs.Try.func43 rfl Go.Proofs.Try.ntmps43 rfl fun a hf => ?_
  replace hf : Fr 9 [(0, a0v159), (1, Value.func (.func 44) #[] ⟨[Value.pointer (some ⟨a1c0b, 0, none⟩), Value.pointer (some ⟨a1c1b, 0, none⟩)]⟩)] a := hf
  unfold slices_ContainsFunc_int_pack_Bytes_c1.f at hp
  refine wp_seq ?_
  refine wp_region_lit ?_
  refine o_run hf (r_assign hf rfl) rfl fun a hf => ?_
  refine o_nil ?_
  refine c_then ?_
  refine wp_seq ?_
  refine wp_region_lit ?_
  refine o_run hf (r_move hf rfl) rfl fun a hf => ?_
  refine o_run hf (r_move hf rfl) rfl fun a hf => ?_
  replace hw : Ok E I (.blk a1c1b (.cells ⟨[a1c1v161]⟩ 23 (0, 0)) :: .blk a1c0b (.cells ⟨[Value.int .i64 a1c0]⟩ 3 (0, 0)) :: F) w := hw.front (i := 1) rfl
  replace hw : Ok E I (.blk a1c0b (.cells ⟨[Value.int .i64 a1c0]⟩ 3 (0, 0)) :: .blk a1c1b (.cells ⟨[a1c1v161]⟩ 23 (0, 0)) :: F) w := hw.front (i := 1) rfl
  obtain ⟨y100, hy101, hp⟩ := bind_some hp
  have hc103 := slices_IndexFunc_int_pack_Bytes_c1_ok hw hR160 hR162 hy101
  refine o_call hf cb_65 rfl rfl hc103 (fun v105 w a hK104 hf => ?_)
  obtain ⟨rfl, hw⟩ := hK104
  refine o_run hf (r_icmp hf rfl rfl rfl) rfl fun a hf => ?_
  refine o_run hf (r_assign hf rfl) rfl fun a hf => ?_
  refine o_nil ?_
  refine c_then ?_
  refine wp_ret ?_
  have ho := out_inj hp
  subst ho
  exact b_ret1 hf Go.Proofs.Try.results43 rfl ⟨_, rfl, ⟨rfl, hw⟩⟩

set_option maxHeartbeats 1000000 in
set_option maxRecDepth 20000 in
theorem pack_Bytes_ok {E : World} {I : IH} {F : List Atom} {w : World} {a0 : List Node} {a0v130 : Value} {a1 : Plan} {a1v132 : Value} {a1v134 : Value} {res0 : Int} {res1 : Bool} (hw : Ok E I (F) w) (hR131 : RS ek_Node I a0v130 a0) (hR133 : RS (ekI .i64) I a1v132 a1.nodes_) (hR135 : RS (ekI .i64) I a1v134 a1.kids_) (hp : pack_Bytes.f a0 a1 = some (res0, res1)) :
    Calls P 18 ⟨[a0v130, Value.agg ⟨[Value.string a1.prefix_, Value.int .i64 a1.top_, a1v132, a1v134]⟩]⟩ w fun e w' => ∃ v, e = .returned v ∧ v = Value.tuple ⟨[Value.int .i64 res0, Value.bool res1]⟩ ∧ Ok E I (F) w' := by
  refine c_enter Go.Proofs.Try.func18 rfl Go.Proofs.Try.ntmps18 rfl fun a hf => ?_
  replace hf : Fr 55 [(0, a0v130), (1, Value.agg ⟨[Value.string a1.prefix_, Value.int .i64 a1.top_, a1v132, a1v134]⟩)] a := hf
  unfold pack_Bytes.f at hp
  refine wp_seq ?_
  refine wp_region_lit ?_
  obtain ⟨b1, w, hrun2, hw⟩ := e_box (P := P) hw hf (e := 23) (x := .tmp 0) rfl (cs := [a0v130]) (one_cells hR131.one)
  refine o_eff hf (hrun2 ..) rfl fun a hf => ?_
  obtain ⟨b4, w, hrun5, hw⟩ := e_box (P := P) hw hf (e := 26) (x := .tmp 1) rfl (cs := [Value.string a1.prefix_, Value.int .i64 a1.top_, a1v132, a1v134]) rfl
  refine o_eff hf (hrun5 ..) rfl fun a hf => ?_
  refine o_run hf (r_assign hf rfl) rfl fun a hf => ?_
  refine o_run hf (r_assign hf rfl) rfl fun a hf => ?_
  refine o_nil ?_
  refine c_then ?_
  refine wp_seq ?_
  refine wp_region_lit ?_
  refine o_run hf (r_assign hf rfl) rfl fun a hf => ?_
  refine o_nil ?_
  refine c_then ?_
  refine wp_seq ?_
  refine wp_seq ?_
  refine wp_region_lit ?_
  refine o_run hf (r_fieldAddr hf rfl fd_26_2) rfl fun a hf => ?_
  refine o_run hf (r_load hw hf rfl ty_24 0 rfl rfl) rfl fun a hf => ?_
  refine o_run hf (r_lenL (K := (ekI .i64)) hf el_24 rfl (hR133.rd hw)) rfl fun a hf => ?_
  refine o_run hf (r_move hf rfl) rfl fun a hf => ?_
  refine o_nil ?_
  refine c_then ?_
  obtain ⟨out104, hp, hq105⟩ := bind_some hp
  refine c_cutX (fun a w => (.inl ()) = out104 ∧ Ok E I (.blk b4 (.cells ⟨[Value.string a1.prefix_, Value.int .i64 a1.top_, a1v132, a1v134]⟩ 26 (0, 0)) :: .blk b1 (.cells ⟨[a0v130]⟩ 23 (0, 0)) :: F) w ∧ Fr 55 ([(2, Value.pointer (some ⟨b1, 0, none⟩)), (3, Value.pointer (some ⟨b4, 0, none⟩))]) a) ?_ ?_
  · refine wp_block ?_
    refine c_loop ?_
    refine c_fuel (pack_Bytes.l0 a0 a1) out104 (fun (y71, y72) a w => Ok E I (.blk b4 (.cells ⟨[Value.string a1.prefix_, Value.int .i64 a1.top_, a1v132, a1v134]⟩ 26 (0, 0)) :: .blk b1 (.cells ⟨[a0v130]⟩ 23 (0, 0)) :: F) w ∧ Fr 55 ([(2, Value.pointer (some ⟨b1, 0, none⟩)), (3, Value.pointer (some ⟨b4, 0, none⟩)), (6, Value.int .i64 y72), (13, a1v132), (14, Value.int .i64 (a1.nodes_.length : Int)), (15, Value.int .i64 y71)]) a) (fun _ => rfl) ?_ BIG (0, (-1)) _ _ ⟨hw, hf.to ⟨rfl, rfl, rfl, rfl, rfl, rfl, trivial⟩⟩ hp
    intro k st a w hI hp ih
    obtain ⟨y71, y72⟩ := st
    obtain ⟨hw, hf⟩ := hI
    rw [pack_Bytes.l0] at hp
    refine wp_seq ?_
    refine wp_region_lit ?_
    refine o_run hf (r_icmp hf rfl rfl rfl) rfl fun a hf => ?_
    refine o_nil ?_
    refine c_then ?_
    refine wp_seq ?_
    refine c_cond hf rfl (fun hb107 => ?_) (fun hb107 => ?_)
    · replace hp := cond_t hb107 hp
      refine wp_skip ?_
      refine c_then ?_
      refine wp_seq ?_
      refine wp_block ?_
      refine wp_seq ?_
      refine wp_region_lit ?_
      obtain ⟨hg123, hp⟩ := gd_some hp
      refine o_run hf (r_indexAddr (K := (ekI .i64)) hf el_24 rfl rfl (hR133.rd hw) hg123) rfl fun a hf => ?_
      refine o_run hf (r_loadH (K := (ekI .i64)) hf rfl ty_3 (hR133.rd hw) hg123 rfl (fun cs h => ekI_f0 h)) rfl fun a hf => ?_
      refine o_run hf (r_assign hf rfl) rfl fun a hf => ?_
      refine o_nil ?_
      refine c_then ?_
      refine wp_seq ?_
      obtain ⟨out134, hp, hq135⟩ := bind_some hp
      refine c_cut (fun a w => ∃ y133 : Bool, y133 = out134 ∧ Ok E I (.blk b4 (.cells ⟨[Value.string a1.prefix_, Value.int .i64 a1.top_, a1v132, a1v134]⟩ 26 (0, 0)) :: .blk b1 (.cells ⟨[a0v130]⟩ 23 (0, 0)) :: F) w ∧ Fr 55 ([(2, Value.pointer (some ⟨b1, 0, none⟩)), (3, Value.pointer (some ⟨b4, 0, none⟩)), (8, Value.int .i64 (gt a1.nodes_ y71)), (13, a1v132), (14, Value.int .i64 (a1.nodes_.length : Int)), (15, Value.int .i64 y71), (27, Value.bool y133)]) a) ?_ ?_
      · refine wp_region_lit ?_
        refine o_run hf (r_move hf rfl) rfl fun a hf => ?_
        refine o_run hf (r_move hf rfl) rfl fun a hf => ?_
        refine o_run hf (r_icmp hf rfl rfl rfl) rfl fun a hf => ?_
        refine o_run hf (r_move hf rfl) rfl fun a hf => ?_
        refine g_split hf (g := 22) rfl (fun hb136 hf => ?_) (fun hb136 hf => ?_)
        · replace hp := cond_t hb136 hp
          refine o_skip hf (g := 22) rfl rfl rfl rfl rfl rfl fun a hf => ?_
          refine o_skip hf (g := 22) rfl rfl rfl rfl rfl rfl fun a hf => ?_
          refine o_skip hf (g := 22) rfl rfl rfl rfl rfl rfl fun a hf => ?_
          refine o_skip hf (g := 22) rfl rfl rfl rfl rfl rfl fun a hf => ?_
          refine o_run hf (r_pickT hf rfl rfl) rfl fun a hf => ?_
          refine o_nil ?_
          refine c_then ?_
          have ho := out_inj hp
          subst ho
          exact ⟨true, rfl, hw, hf.to ⟨rfl, rfl, rfl, rfl, rfl, rfl, rfl, trivial⟩⟩
        · replace hp := cond_f hb136 hp
          refine o_want hf (g := 22) rfl rfl ?_
          refine o_run hf (r_move hf rfl) rfl fun a hf => ?_
          refine o_want hf (g := 22) rfl rfl ?_
          refine o_run hf (r_load hw hf rfl ty_23 1 rfl rfl) rfl fun a hf => ?_
          refine o_want hf (g := 22) rfl rfl ?_
          refine o_run hf (r_lenL (K := ek_Node) hf el_23 rfl (hR131.rd hw)) rfl fun a hf => ?_
          refine o_want hf (g := 22) rfl rfl ?_
          refine o_run hf (r_icmp hf rfl rfl rfl) rfl fun a hf => ?_
          refine o_run hf (r_pickF hf rfl rfl) rfl fun a hf => ?_
          refine o_nil ?_
          refine c_then ?_
          have ho := out_inj hp
          subst ho
          exact ⟨(decide ((gt a1.nodes_ y71) ≥ (a0.length : Int))), rfl, hw, hf.to ⟨rfl, rfl, rfl, rfl, rfl, rfl, rfl, trivial⟩⟩
      · intro a w hM
        obtain ⟨y133, rfl, hw, hf⟩ := hM
        replace hp := hq135
        refine c_cond hf rfl (fun hb137 => ?_) (fun hb137 => ?_)
        · replace hp := cond_t hb137 hp
          refine wp_seq ?_
          refine wp_region_lit ?_
          refine o_run hf (r_assign hf rfl) rfl fun a hf => ?_
          refine o_run hf (r_assign hf rfl) rfl fun a hf => ?_
          refine o_nil ?_
          refine c_then ?_
          refine wp_ret ?_
          refine c_thenR ?_
          refine c_blockR ?_
          refine c_thenR ?_
          refine c_thenR ?_
          refine c_blockR ?_
          refine c_thenR ?_
          have ho := out_inj hp
          subst ho
          replace hp := hq105
          refine c_thenR ?_
          replace hw : Ok E I (F) w := hw.sub (List.Sublist.cons _ (List.Sublist.cons _ (List.Sublist.refl _)))
          have ho := out_inj hp
          simp only [Prod.mk.injEq] at ho
          obtain ⟨rfl, rfl⟩ := ho
          exact b_ret2 hf Go.Proofs.Try.results18 rfl rfl ⟨_, rfl, ⟨rfl, hw⟩⟩
        · replace hp := cond_f hb137 hp
          refine wp_skip ?_
          refine c_then ?_
          refine wp_region_lit ?_
          refine o_run hf (r_move hf rfl) rfl fun a hf => ?_
          refine o_run hf (r_assign hf rfl) rfl fun a hf => ?_
          refine o_nil ?_
          refine c_blockN ?_
          refine c_then ?_
          refine wp_region_lit ?_
          refine o_run hf (r_add hf rfl rfl) rfl fun a hf => ?_
          refine o_run hf (r_move hf rfl) rfl fun a hf => ?_
          refine o_nil ?_
          refine c_then ?_
          exact ih (w64 (y71 + 1), gt a1.nodes_ y71) _ _ ⟨hw, hf.to ⟨rfl, rfl, rfl, rfl, rfl, rfl, trivial⟩⟩ hp
    · replace hp := cond_f hb107 hp
      refine wp_exit ?_
      refine c_thenE ?_
      refine c_thenE ?_
      refine c_exit ?_
      refine c_then ?_
      have ho := out_inj hp
      subst ho
      exact ⟨rfl, hw, hf.to ⟨rfl, rfl, trivial⟩⟩
  · intro a w hM
    obtain ⟨rfl, hw, hf⟩ := hM
    replace hp := hq105
    refine c_then ?_
    refine wp_seq ?_
    refine wp_seq ?_
    refine wp_region_lit ?_
    refine o_run hf (r_load hw hf rfl ty_23 1 rfl rfl) rfl fun a hf => ?_
    obtain ⟨y139, hy140, hp⟩ := bind_some hp
    have hc142 := trie_Good_ok hw hR131 hy140
    refine o_call hf cb_40 rfl rfl hc142 (fun v144 w a hK143 hf => ?_)
    obtain ⟨rfl, hw⟩ := hK143
    refine o_run hf (r_not hf rfl) rfl fun a hf => ?_
    refine o_nil ?_
    refine c_then ?_
    refine c_cond hf rfl (fun hb145 => ?_) (fun hb145 => ?_)
    · replace hp := cond_t hb145 hp
      refine wp_seq ?_
      refine wp_region_lit ?_
      refine o_run hf (r_assign hf rfl) rfl fun a hf => ?_
      refine o_run hf (r_assign hf rfl) rfl fun a hf => ?_
      refine o_nil ?_
      refine c_then ?_
      refine wp_ret ?_
      refine c_thenR ?_
      replace hw : Ok E I (F) w := hw.sub (List.Sublist.cons _ (List.Sublist.cons _ (List.Sublist.refl _)))
      have ho := out_inj hp
      simp only [Prod.mk.injEq] at ho
      obtain ⟨rfl, rfl⟩ := ho
      exact b_ret2 hf Go.Proofs.Try.results18 rfl rfl ⟨_, rfl, ⟨rfl, hw⟩⟩
    · replace hp := cond_f hb145 hp
      refine wp_skip ?_
      refine c_then ?_
      refine wp_seq ?_
      refine wp_region_lit ?_
      refine o_run hf (r_assign hf rfl) rfl fun a hf => ?_
      refine o_nil ?_
      refine c_then ?_
      refine wp_seq ?_
      refine wp_seq ?_
      refine wp_region_lit ?_
      refine o_run hf (r_fieldAddr hf rfl fd_26_2) rfl fun a hf => ?_
      refine o_run hf (r_load hw hf rfl ty_24 0 rfl rfl) rfl fun a hf => ?_
      refine o_run hf (r_lenL (K := (ekI .i64)) hf el_24 rfl (hR133.rd hw)) rfl fun a hf => ?_
      refine o_run hf (r_move hf rfl) rfl fun a hf => ?_
      refine o_nil ?_
      refine c_then ?_
      obtain ⟨out281, hp, hq282⟩ := bind_some hp
      refine c_cutX (fun a w => ∃ y280 : Int, y280 = out281 ∧ Ok E I (.blk b4 (.cells ⟨[Value.string a1.prefix_, Value.int .i64 a1.top_, a1v132, a1v134]⟩ 26 (0, 0)) :: .blk b1 (.cells ⟨[a0v130]⟩ 23 (0, 0)) :: F) w ∧ Fr 55 ([(9, Value.int .i64 y280)]) a) ?_ ?_
      · refine wp_block ?_
        refine c_loop ?_
        refine c_fuel (pack_Bytes.l1 a0 a1) out281 (fun (y217, y218) a w => Ok E I (.blk b4 (.cells ⟨[Value.string a1.prefix_, Value.int .i64 a1.top_, a1v132, a1v134]⟩ 26 (0, 0)) :: .blk b1 (.cells ⟨[a0v130]⟩ 23 (0, 0)) :: F) w ∧ Fr 55 ([(2, Value.pointer (some ⟨b1, 0, none⟩)), (3, Value.pointer (some ⟨b4, 0, none⟩)), (9, Value.int .i64 y218), (34, a1v132), (35, Value.int .i64 (a1.nodes_.length : Int)), (36, Value.int .i64 y217)]) a) (fun _ => rfl) ?_ BIG (0, 0) _ _ ⟨hw, hf.to ⟨rfl, rfl, rfl, rfl, rfl, rfl, trivial⟩⟩ hp
        intro k st a w hI hp ih
        obtain ⟨y217, y218⟩ := st
        obtain ⟨hw, hf⟩ := hI
        rw [pack_Bytes.l1] at hp
        refine wp_seq ?_
        refine wp_region_lit ?_
        refine o_run hf (r_icmp hf rfl rfl rfl) rfl fun a hf => ?_
        refine o_nil ?_
        refine c_then ?_
        refine wp_seq ?_
        refine c_cond hf rfl (fun hb284 => ?_) (fun hb284 => ?_)
        · replace hp := cond_t hb284 hp
          refine wp_skip ?_
          refine c_then ?_
          obtain ⟨out324, hp, hq325⟩ := bind_some hp
          refine c_cut (fun a w => ∃ y323 : Int, y323 = out324 ∧ Ok E I (.blk b4 (.cells ⟨[Value.string a1.prefix_, Value.int .i64 a1.top_, a1v132, a1v134]⟩ 26 (0, 0)) :: .blk b1 (.cells ⟨[a0v130]⟩ 23 (0, 0)) :: F) w ∧ Fr 55 ([(2, Value.pointer (some ⟨b1, 0, none⟩)), (3, Value.pointer (some ⟨b4, 0, none⟩)), (9, Value.int .i64 y323), (34, a1v132), (35, Value.int .i64 (a1.nodes_.length : Int)), (36, Value.int .i64 y217)]) a) ?_ ?_
          · refine wp_block ?_
            refine wp_seq ?_
            refine wp_region_lit ?_
            obtain ⟨hg326, hp⟩ := gd_some hp
            refine o_run hf (r_indexAddr (K := (ekI .i64)) hf el_24 rfl rfl (hR133.rd hw) hg326) rfl fun a hf => ?_
            refine o_run hf (r_loadH (K := (ekI .i64)) hf rfl ty_3 (hR133.rd hw) hg326 rfl (fun cs h => ekI_f0 h)) rfl fun a hf => ?_
            obtain ⟨b327, w, hrun328, hw⟩ := e_alloc (P := P) (a := a) hw ty_3
            replace hw : Ok E I (.blk b327 (.cells ⟨[Value.int .i64 0]⟩ 3 (0, 0)) :: .blk b4 (.cells ⟨[Value.string a1.prefix_, Value.int .i64 a1.top_, a1v132, a1v134]⟩ 26 (0, 0)) :: .blk b1 (.cells ⟨[a0v130]⟩ 23 (0, 0)) :: F) w := hw
            refine o_eff hf (hrun328 ..) rfl fun a hf => ?_
            obtain ⟨w, hrun330, hw⟩ := e_store (P := P) hw hf (x := .tmp 11) (y := .tmp 39) rfl rfl ty_3 0 rfl (vs := [Value.int .i64 (gt a1.nodes_ y217)]) (one_cells rfl) rfl (ones_cons rfl ones_nil) (by simp [arrC_len]) (cs' := [Value.int .i64 (gt a1.nodes_ y217)]) rfl
            replace hw : Ok E I (.blk b327 (.cells ⟨[Value.int .i64 (gt a1.nodes_ y217)]⟩ 3 (0, 0)) :: .blk b4 (.cells ⟨[Value.string a1.prefix_, Value.int .i64 a1.top_, a1v132, a1v134]⟩ 26 (0, 0)) :: .blk b1 (.cells ⟨[a0v130]⟩ 23 (0, 0)) :: F) w := hw
            refine o_effU (hrun330 ..) ?_
            refine o_nil ?_
            refine c_then ?_
            refine wp_seq ?_
            refine wp_region_lit ?_
            refine o_run hf (r_move hf rfl) rfl fun a hf => ?_
            refine o_run hf (r_load hw hf rfl ty_23 2 rfl rfl) rfl fun a hf => ?_
            refine o_run hf (r_load hw hf rfl ty_3 0 rfl rfl) rfl fun a hf => ?_
            obtain ⟨hg331, hp⟩ := gd_some hp
            refine o_run hf (r_indexAddr (K := ek_Node) hf el_23 rfl rfl (hR131.rd hw) hg331) rfl fun a hf => ?_
            refine o_run hf (r_loadHP (K := ek_Node) hf rfl ty_51 (hR131.rd hw) hg331 rfl (vs := (Value.int .i64 ((gt a0 (gt a1.nodes_ y217)).kind_) :: Value.string ((gt a0 (gt a1.nodes_ y217)).path_) :: Value.bool ((gt a0 (gt a1.nodes_ y217)).has_) :: Value.string ((gt a0 (gt a1.nodes_ y217)).value_) :: arrC .i64 ((gt a0 (gt a1.nodes_ y217)).kids_))) (fun cs h => Node_all h) (by simp [arrC_len])) rfl fun a hf => ?_
            obtain ⟨y332, hy333, hp⟩ := bind_some hp
            have hc335 := pack_size_ok hw hy333
            refine o_call hf cb_41 rfl rfl hc335 (fun v337 w a hK336 hf => ?_)
            obtain ⟨rfl, hw⟩ := hK336
            refine o_run hf (r_add hf rfl rfl) rfl fun a hf => ?_
            refine o_run hf (r_assign hf rfl) rfl fun a hf => ?_
            refine o_nil ?_
            refine c_then ?_
            refine wp_seq ?_
            refine wp_region_lit ?_
            refine o_run hf (r_fieldAddr hf rfl fd_26_2) rfl fun a hf => ?_
            refine o_run hf (r_load hw hf rfl ty_24 1 rfl rfl) rfl fun a hf => ?_
            refine o_run hf (r_makeFunc hf (vs := [Value.pointer (some ⟨b327, 0, none⟩), Value.pointer (some ⟨b1, 0, none⟩)]) rfl) rfl fun a hf => ?_
            replace hw : Ok E I (.blk b1 (.cells ⟨[a0v130]⟩ 23 (0, 0)) :: .blk b327 (.cells ⟨[Value.int .i64 (gt a1.nodes_ y217)]⟩ 3 (0, 0)) :: .blk b4 (.cells ⟨[Value.string a1.prefix_, Value.int .i64 a1.top_, a1v132, a1v134]⟩ 26 (0, 0)) :: F) w := hw.front (i := 2) rfl
            replace hw : Ok E I (.blk b327 (.cells ⟨[Value.int .i64 (gt a1.nodes_ y217)]⟩ 3 (0, 0)) :: .blk b1 (.cells ⟨[a0v130]⟩ 23 (0, 0)) :: .blk b4 (.cells ⟨[Value.string a1.prefix_, Value.int .i64 a1.top_, a1v132, a1v134]⟩ 26 (0, 0)) :: F) w := hw.front (i := 1) rfl
            obtain ⟨y338, hy339, hp⟩ := bind_some hp
            have hc341 := slices_ContainsFunc_int_pack_Bytes_c1_ok hw hR133 hR131 hy339
            refine o_call hf cb_43 rfl rfl hc341 (fun v343 w a hK342 hf => ?_)
            obtain ⟨rfl, hw⟩ := hK342
            refine o_nil ?_
            refine c_then ?_
            refine c_cond hf rfl (fun hb344 => ?_) (fun hb344 => ?_)
            · replace hp := cond_t hb344 hp
              refine wp_region_lit ?_
              refine o_run hf (r_move hf rfl) rfl fun a hf => ?_
              refine o_run hf (r_sub hf rfl rfl) rfl fun a hf => ?_
              refine o_run hf (r_assign hf rfl) rfl fun a hf => ?_
              refine o_nil ?_
              refine c_blockN ?_
              refine c_then ?_
              have ho := out_inj hp
              subst ho
              replace hw : Ok E I (.blk b1 (.cells ⟨[a0v130]⟩ 23 (0, 0)) :: .blk b327 (.cells ⟨[Value.int .i64 (gt a1.nodes_ y217)]⟩ 3 (0, 0)) :: .blk b4 (.cells ⟨[Value.string a1.prefix_, Value.int .i64 a1.top_, a1v132, a1v134]⟩ 26 (0, 0)) :: F) w := hw.front (i := 1) rfl
              replace hw : Ok E I (.blk b4 (.cells ⟨[Value.string a1.prefix_, Value.int .i64 a1.top_, a1v132, a1v134]⟩ 26 (0, 0)) :: .blk b1 (.cells ⟨[a0v130]⟩ 23 (0, 0)) :: .blk b327 (.cells ⟨[Value.int .i64 (gt a1.nodes_ y217)]⟩ 3 (0, 0)) :: F) w := hw.front (i := 2) rfl
              replace hw : Ok E I (.blk b4 (.cells ⟨[Value.string a1.prefix_, Value.int .i64 a1.top_, a1v132, a1v134]⟩ 26 (0, 0)) :: .blk b1 (.cells ⟨[a0v130]⟩ 23 (0, 0)) :: F) w := hw.sub (List.Sublist.cons_cons _ (List.Sublist.cons_cons _ (List.Sublist.cons _ (List.Sublist.refl _))))
              exact ⟨(w64 ((w64 (y218 + y332)) - 3)), rfl, hw, hf.to ⟨rfl, rfl, rfl, rfl, rfl, rfl, trivial⟩⟩
            · replace hp := cond_f hb344 hp
              refine wp_skip ?_
              refine c_blockN ?_
              refine c_then ?_
              have ho := out_inj hp
              subst ho
              replace hw : Ok E I (.blk b1 (.cells ⟨[a0v130]⟩ 23 (0, 0)) :: .blk b327 (.cells ⟨[Value.int .i64 (gt a1.nodes_ y217)]⟩ 3 (0, 0)) :: .blk b4 (.cells ⟨[Value.string a1.prefix_, Value.int .i64 a1.top_, a1v132, a1v134]⟩ 26 (0, 0)) :: F) w := hw.front (i := 1) rfl
              replace hw : Ok E I (.blk b4 (.cells ⟨[Value.string a1.prefix_, Value.int .i64 a1.top_, a1v132, a1v134]⟩ 26 (0, 0)) :: .blk b1 (.cells ⟨[a0v130]⟩ 23 (0, 0)) :: .blk b327 (.cells ⟨[Value.int .i64 (gt a1.nodes_ y217)]⟩ 3 (0, 0)) :: F) w := hw.front (i := 2) rfl
              replace hw : Ok E I (.blk b4 (.cells ⟨[Value.string a1.prefix_, Value.int .i64 a1.top_, a1v132, a1v134]⟩ 26 (0, 0)) :: .blk b1 (.cells ⟨[a0v130]⟩ 23 (0, 0)) :: F) w := hw.sub (List.Sublist.cons_cons _ (List.Sublist.cons_cons _ (List.Sublist.cons _ (List.Sublist.refl _))))
              exact ⟨(w64 (y218 + y332)), rfl, hw, hf.to ⟨rfl, rfl, rfl, rfl, rfl, rfl, trivial⟩⟩
          · intro a w hM
            obtain ⟨y323, rfl, hw, hf⟩ := hM
            replace hp := hq325
            refine wp_region_lit ?_
            refine o_run hf (r_add hf rfl rfl) rfl fun a hf => ?_
            refine o_run hf (r_move hf rfl) rfl fun a hf => ?_
            refine o_nil ?_
            refine c_then ?_
            exact ih (w64 (y217 + 1), y323) _ _ ⟨hw, hf.to ⟨rfl, rfl, rfl, rfl, rfl, rfl, trivial⟩⟩ hp
        · replace hp := cond_f hb284 hp
          refine wp_exit ?_
          refine c_thenE ?_
          refine c_thenE ?_
          refine c_exit ?_
          refine c_then ?_
          have ho := out_inj hp
          subst ho
          exact ⟨y218, rfl, hw, hf.to ⟨rfl, trivial⟩⟩
      · intro a w hM
        obtain ⟨y280, rfl, hw, hf⟩ := hM
        replace hp := hq282
        refine c_then ?_
        refine wp_seq ?_
        refine wp_region_lit ?_
        refine o_run hf (r_move hf rfl) rfl fun a hf => ?_
        refine o_run hf (r_assign hf rfl) rfl fun a hf => ?_
        refine o_run hf (r_assign hf rfl) rfl fun a hf => ?_
        refine o_nil ?_
        refine c_then ?_
        refine wp_ret ?_
        replace hw : Ok E I (F) w := hw.sub (List.Sublist.cons _ (List.Sublist.cons _ (List.Sublist.refl _)))
        have ho := out_inj hp
        simp only [Prod.mk.injEq] at ho
        obtain ⟨rfl, rfl⟩ := ho
        exact b_ret2 hf Go.Proofs.Try.results18 rfl rfl ⟨_, rfl, ⟨rfl, hw⟩⟩

set_option maxHeartbeats 1000000 in
set_option maxRecDepth 20000 in
theorem keep_Ints_ok {E : World} {I : IH} {F : List Atom} {w : World} {a0 : List Int} {a0v363 : Value} {a1 : List Int} {a1v365 : Value} {res0 : Bool} (hw : Ok E I (F) w) (hR364 : RS (ekI .i64) I a0v363 a0) (hR366 : RS (ekI .i64) I a1v365 a1) (hp : keep_Ints.f a0 a1 = some res0) :
    Calls P 34 ⟨[a0v363, a1v365]⟩ w fun e w' => ∃ v, e = .returned v ∧ v = Value.bool res0 ∧ Ok E I (F) w' := by
  refine c_enter Go.Proofs.Try.func34 rfl Go.Proofs.Try.ntmps34 rfl fun a hf => ?_
  replace hf : Fr 26 [(0, a0v363), (1, a1v365)] a := hf
  unfold keep_Ints.f at hp
  refine wp_seq ?_
  refine wp_region_lit ?_
  refine o_run hf (r_assign hf rfl) rfl fun a hf => ?_
  refine o_nil ?_
  refine c_then ?_
  refine wp_seq ?_
  refine wp_seq ?_
  refine wp_region_lit ?_
  refine o_run hf (r_move hf rfl) rfl fun a hf => ?_
  refine o_run hf (r_lenL (K := (ekI .i64)) hf el_24 rfl (hR364.rd hw)) rfl fun a hf => ?_
  refine o_run hf (r_move hf rfl) rfl fun a hf => ?_
  refine o_run hf (r_lenL (K := (ekI .i64)) hf el_24 rfl (hR366.rd hw)) rfl fun a hf => ?_
  refine o_run hf (r_icmp hf rfl rfl rfl) rfl fun a hf => ?_
  refine o_nil ?_
  refine c_then ?_
  refine c_cond hf rfl (fun hb1 => ?_) (fun hb1 => ?_)
  · replace hp := cond_t hb1 hp
    refine wp_seq ?_
    refine wp_region_lit ?_
    refine o_run hf (r_assign hf rfl) rfl fun a hf => ?_
    refine o_nil ?_
    refine c_then ?_
    refine wp_ret ?_
    refine c_thenR ?_
    have ho := out_inj hp
    subst ho
    exact b_ret1 hf Go.Proofs.Try.results34 rfl ⟨_, rfl, ⟨rfl, hw⟩⟩
  · replace hp := cond_f hb1 hp
    refine wp_skip ?_
    refine c_then ?_
    refine wp_seq ?_
    refine wp_seq ?_
    refine wp_region_lit ?_
    refine o_run hf (r_assign hf rfl) rfl fun a hf => ?_
    refine o_nil ?_
    refine c_then ?_
    obtain ⟨out19, hp, hq20⟩ := bind_some hp
    refine c_cutX (fun a w => (.inl ()) = out19 ∧ Ok E I (F) w ∧ Fr 26 ([]) a) ?_ ?_
    · refine wp_block ?_
      refine c_loop ?_
      refine c_fuel (keep_Ints.l0 a0 a1) out19 (fun (y13 : Int) a w => Ok E I (F) w ∧ Fr 26 ([(0, a0v363), (1, a1v365), (5, Value.int .i64 y13)]) a) (fun _ => rfl) ?_ BIG 0 _ _ ⟨hw, hf.to ⟨rfl, rfl, rfl, trivial⟩⟩ hp
      intro k y13 a w hI hp ih
      obtain ⟨hw, hf⟩ := hI
      rw [keep_Ints.l0] at hp
      refine wp_seq ?_
      refine wp_seq ?_
      refine wp_region_lit ?_
      refine o_run hf (r_move hf rfl) rfl fun a hf => ?_
      refine o_run hf (r_move hf rfl) rfl fun a hf => ?_
      refine o_run hf (r_lenL (K := (ekI .i64)) hf el_24 rfl (hR364.rd hw)) rfl fun a hf => ?_
      refine o_run hf (r_icmp hf rfl rfl rfl) rfl fun a hf => ?_
      refine o_nil ?_
      refine c_then ?_
      refine c_cond hf rfl (fun hb22 => ?_) (fun hb22 => ?_)
      · replace hp := cond_t hb22 hp
        refine wp_skip ?_
        refine c_then ?_
        refine wp_seq ?_
        refine wp_block ?_
        refine wp_seq ?_
        refine c_drawn mix [] (.rd 0 (.rd 1 (.rd 2 (.rd 3 (.rd 4 (.rd 5 (.rd 6 (.rd 7 (.rd 8 .done))))))))) (by kernel_rfl) hw (fun w => Ok E I (F) w) (fun w hw => ⟨hw.sub (List.Sublist.refl _), ?_⟩)
        refine t_rd rfl hf (fun w hw => r_move hf rfl) rfl fun a hf => ?_
        refine t_rd rfl hf (fun w hw => r_move hf rfl) rfl fun a hf => ?_
        obtain ⟨hg24, hp⟩ := gd_some hp
        refine t_rd rfl hf (fun w hw => r_indexAddr (K := (ekI .i64)) hf el_24 rfl rfl (hR364.rd hw) hg24) rfl fun a hf => ?_
        refine t_rd rfl hf (fun w hw => r_loadH (K := (ekI .i64)) hf rfl ty_3 (hR364.rd hw) hg24 rfl (fun cs h => ekI_f0 h)) rfl fun a hf => ?_
        refine t_rd rfl hf (fun w hw => r_move hf rfl) rfl fun a hf => ?_
        refine t_rd rfl hf (fun w hw => r_move hf rfl) rfl fun a hf => ?_
        obtain ⟨hg25, hp⟩ := gd_some hp
        refine t_rd rfl hf (fun w hw => r_indexAddr (K := (ekI .i64)) hf el_24 rfl rfl (hR366.rd hw) hg25) rfl fun a hf => ?_
        refine t_rd rfl hf (fun w hw => r_loadH (K := (ekI .i64)) hf rfl ty_3 (hR366.rd hw) hg25 rfl (fun cs h => ekI_f0 h)) rfl fun a hf => ?_
        refine t_rd rfl hf (fun w hw => r_icmp hf rfl rfl rfl) rfl fun a hf => ?_
        refine t_done ?_
        refine c_then ?_
        refine c_cond hf rfl (fun hb26 => ?_) (fun hb26 => ?_)
        · replace hp := cond_t hb26 hp
          refine wp_seq ?_
          refine wp_region_lit ?_
          refine o_run hf (r_assign hf rfl) rfl fun a hf => ?_
          refine o_nil ?_
          refine c_then ?_
          refine wp_ret ?_
          refine c_blockR ?_
          refine c_thenR ?_
          refine c_thenR ?_
          refine c_blockR ?_
          refine c_thenR ?_
          have ho := out_inj hp
          subst ho
          replace hp := hq20
          refine c_thenR ?_
          have ho := out_inj hp
          subst ho
          exact b_ret1 hf Go.Proofs.Try.results34 rfl ⟨_, rfl, ⟨rfl, hw⟩⟩
        · replace hp := cond_f hb26 hp
          refine wp_skip ?_
          refine c_blockN ?_
          refine c_then ?_
          refine wp_region_lit ?_
          refine o_run hf (r_move hf rfl) rfl fun a hf => ?_
          refine o_run hf (r_add hf rfl rfl) rfl fun a hf => ?_
          refine o_run hf (r_assign hf rfl) rfl fun a hf => ?_
          refine o_nil ?_
          refine c_then ?_
          exact ih (w64 (y13 + 1)) _ _ ⟨hw, hf.to ⟨rfl, rfl, rfl, trivial⟩⟩ hp
      · replace hp := cond_f hb22 hp
        refine wp_exit ?_
        refine c_thenE ?_
        refine c_thenE ?_
        refine c_exit ?_
        refine c_then ?_
        have ho := out_inj hp
        subst ho
        exact ⟨rfl, hw, hf.to trivial⟩
    · intro a w hM
      obtain ⟨rfl, hw, hf⟩ := hM
      replace hp := hq20
      refine c_then ?_
      refine wp_seq ?_
      refine wp_region_lit ?_
      refine o_run hf (r_assign hf rfl) rfl fun a hf => ?_
      refine o_nil ?_
      refine c_then ?_
      refine wp_ret ?_
      have ho := out_inj hp
      subst ho
      exact b_ret1 hf Go.Proofs.Try.results34 rfl ⟨_, rfl, ⟨rfl, hw⟩⟩
end Go.Lf
