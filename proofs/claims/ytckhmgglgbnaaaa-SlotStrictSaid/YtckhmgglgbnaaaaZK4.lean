import Derived.Test.YtckhmgglgbnaaaaZD
import Derived.Test.YtckhmgglgbnaaaaZF
import Derived.Test.YtckhmgglgbnaaaaUB
import Derived.Test.YtckhmgglgbnaaaaN
import Derived.Test.YtckhmgglgbnaaaaBL
set_option linter.unusedVariables false
set_option linter.unusedSimpArgs false
set_option maxHeartbeats 1000000
set_option maxRecDepth 20000
namespace Go.Lf
open Go Go.Proofs.Try
theorem ref19_size_ok {E : World} {I : IH} {F : List Atom} {w : World} {a0 : Node} {res0 : Int} (hw : Ok E I (F) w) (hp : ref19_size.f a0 = some res0) :
  Calls P 39 ⟨[Value.agg ⟨Value.int .i64 a0.kind_ :: Value.string a0.path_ :: Value.bool a0.has_ :: Value.string a0.value_ :: arrC .i64 a0.kids_⟩]⟩ w fun e w' => ∃ v, e = .returned v ∧ v = Value.int .i64 res0 ∧ Ok E I (F) w' := by
 refine c_enter func39 rfl ntmps39 rfl fun a hf => ?_
 replace hf : Fr 48 [(0, Value.agg ⟨.int .i64 a0.kind_ :: .string a0.path_ :: .bool a0.has_ :: .string a0.value_ :: arrC .i64 a0.kids_⟩)] a := hf
 unfold ref19_size.f at hp
 refine wq <| wr ?_
 obtain ⟨b1, w, hrun2, hw⟩ := e_box (P := P) hw hf (e := 51) (x := .tmp 0) rfl (cs := (Value.int .i64 a0.kind_ :: Value.string a0.path_ :: Value.bool a0.has_ :: Value.string a0.value_ :: arrC .i64 a0.kids_)) rfl
 refine o_eff hf (hrun2 ..) rfl fun a hf => oa hf rfl rfl fun a hf => oN <| ct <| wq <| wr <| oR hf (rF hf rfl fd_51_1) rfl fun a hf => oR hf (rL hw hf rfl ty_9 0 rfl rfl) rfl fun a hf => oR hf (r_lenS hf und_9 rfl) rfl fun a hf => oR hf (r_add hf rfl rfl) rfl fun a hf => oR hf (r_quo hf rfl rfl (by decide)) rfl fun a hf => oR hf (r_add hf rfl rfl) rfl fun a hf => oa hf rfl rfl fun a hf => oN <| ct <| wq ?_
 refine wq <| wr <| oR hf (rF hf rfl fd_51_0) rfl fun a hf => oR hf (rL hw hf rfl ty_3 0 rfl rfl) rfl fun a hf => oN <| ct <| wp_block <| wq <| wr <| oR hf (iC hf rfl rfl rfl) rfl fun a hf => oa hf rfl rfl fun a hf => oN <| ct <| cC hf rfl (fun hb4 => ?_) (fun hb4 => ?_)
 ·replace hp := cond_t hb4 hp
  refine wq <| wr <| om hf rfl rfl fun a hf => oR hf (r_add hf rfl rfl) rfl fun a hf => oR hf (r_add hf rfl rfl) rfl fun a hf => oR hf (rF hf rfl fd_51_3) rfl fun a hf => oR hf (rL hw hf rfl ty_9 0 rfl rfl) rfl fun a hf => oR hf (r_lenS hf und_9 rfl) rfl fun a hf => oR hf (r_add hf rfl rfl) rfl fun a hf => oa hf rfl rfl fun a hf => oN <| ct <| wp_ret <| c_blockR <| c_thenR ?_
  replace hw : Ok E I (F) w := hw.sub (sc sr)
  have ho := oI hp
  subst ho
  exact b_ret1 hf results39 rfl ⟨_, rfl, ⟨rfl, hw⟩⟩
 ·replace hp := cond_f hb4 hp
  refine wq <| wr <| oR hf (iC hf rfl rfl rfl) rfl fun a hf => oa hf rfl rfl fun a hf => oN <| ct <| cC hf rfl (fun hb5 => ?_) (fun hb5 => ?_)
  ·replace hp := cond_t hb5 hp
   refine wq <| wr <| om hf rfl rfl fun a hf => oR hf (r_add hf rfl rfl) rfl fun a hf => oR hf (r_add hf rfl rfl) rfl fun a hf => oa hf rfl rfl fun a hf => oN <| ct <| wp_ret <| c_blockR <| c_thenR ?_
   replace hw : Ok E I (F) w := hw.sub (sc sr)
   have ho := oI hp
   subst ho
   exact b_ret1 hf results39 rfl ⟨_, rfl, ⟨rfl, hw⟩⟩
  ·replace hp := cond_f hb5 hp
   refine wp_skip <| c_blockN <| ct <| wq <| wr <| oa hf rfl rfl fun a hf => oN <| ct ?_
   obtain ⟨out9, hp, hq10⟩ := bS hp
   refine c_cut (fun a w => ∃ y8 : Int, y8 = out9 ∧ Ok E I (.blk b1 (.cells ⟨.int .i64 a0.kind_ :: .string a0.path_ :: .bool a0.has_ :: .string a0.value_ :: arrC .i64 a0.kids_⟩ 51 (0, 0)) :: F) w ∧ Fr 48 ([(1, .pointer (some ⟨b1, 0, none⟩)), (4, .int .i64 y8)]) a) ?_ ?_
   ·refine wq <| wr <| oR hf (rF hf rfl fd_51_2) rfl fun a hf => oR hf (rL hw hf rfl ty_4 0 rfl rfl) rfl fun a hf => oN <| ct <| cC hf rfl (fun hb11 => ?_) (fun hb11 => ?_)
    ·replace hp := cond_t hb11 hp
     refine wr <| om hf rfl rfl fun a hf => oR hf (rF hf rfl fd_51_3) rfl fun a hf => oR hf (rL hw hf rfl ty_9 0 rfl rfl) rfl fun a hf => oR hf (r_lenS hf und_9 rfl) rfl fun a hf => oR hf (r_add hf rfl rfl) rfl fun a hf => oR hf (r_add hf rfl rfl) rfl fun a hf => oa hf rfl rfl fun a hf => oN <| ct ?_
     have ho := oI hp
     subst ho
     exact ⟨(w64 (4 + (w64 (1 + (a0.value_.size : Int))))), rfl, hw, hf.to ⟨rfl, rfl, trivial⟩⟩
    ·replace hp := cond_f hb11 hp
     refine wp_skip <| ct ?_
     have ho := oI hp
     subst ho
     exact ⟨4, rfl, hw, hf.to ⟨rfl, rfl, trivial⟩⟩
   ·intro a w hM
    obtain ⟨y8, rfl, hw, hf⟩ := hM
    replace hp := hq10
    refine wq <| wq <| wr <| oa hf rfl rfl fun a hf => oN <| ct ?_
    obtain ⟨out47, hp, hq48⟩ := bS hp
    refine c_cutX (fun a w => ∃ y46 : Int, y46 = out47 ∧ Ok E I (.blk b1 (.cells ⟨.int .i64 a0.kind_ :: .string a0.path_ :: .bool a0.has_ :: .string a0.value_ :: arrC .i64 a0.kids_⟩ 51 (0, 0)) :: F) w ∧ Fr 48 ([(4, .int .i64 y46)]) a) ?_ ?_
    ·refine wp_block <| c_loop <| c_fuel (ref19_size.l0 a0) out47 (fun (y34, y35) a w => Ok E I (.blk b1 (.cells ⟨.int .i64 a0.kind_ :: .string a0.path_ :: .bool a0.has_ :: .string a0.value_ :: arrC .i64 a0.kids_⟩ 51 (0, 0)) :: F) w ∧ Fr 48 ([(1, .pointer (some ⟨b1, 0, none⟩)), (4, .int .i64 y34), (5, .int .i64 y35)]) a) (fun _ => rfl) ?_ BIG (y8, 0) _ _ ⟨hw, hf.to ⟨rfl, rfl, rfl, trivial⟩⟩ hp
     intro k st a w hI hp ih
     obtain ⟨y34, y35⟩ := st
     obtain ⟨hw, hf⟩ := hI
     rw [ref19_size.l0] at hp
     refine wq <| wq <| wr <| om hf rfl rfl fun a hf => oR hf (iC hf rfl rfl rfl) rfl fun a hf => oN <| ct <| cC hf rfl (fun hb50 => ?_) (fun hb50 => ?_)
     ·replace hp := cond_t hb50 hp
      refine wp_skip <| ct ?_
      obtain ⟨out56, hp, hq57⟩ := bS hp
      refine c_cut (fun a w => ∃ y55 : Int, y55 = out56 ∧ Ok E I (.blk b1 (.cells ⟨.int .i64 a0.kind_ :: .string a0.path_ :: .bool a0.has_ :: .string a0.value_ :: arrC .i64 a0.kids_⟩ 51 (0, 0)) :: F) w ∧ Fr 48 ([(1, .pointer (some ⟨b1, 0, none⟩)), (4, .int .i64 y55), (5, .int .i64 y35)]) a) ?_ ?_
      ·refine wp_block <| wq <| wr <| om hf rfl rfl fun a hf => oR hf (rF hf rfl fd_51_4) rfl fun a hf => ?_
       obtain ⟨hg58, hp⟩ := gS hp
       refine oR hf (r_indexAddrA hf el_49 rfl rfl hg58) rfl fun a hf => oR hf (rL hw hf rfl ty_3 0 rfl (arr_at (k := .i64) (v := a0.kids_) rfl hg58)) rfl fun a hf => oR hf (iC hf rfl rfl rfl) rfl fun a hf => oN <| ct <| cC hf rfl (fun hb59 => ?_) (fun hb59 => ?_)
       ·replace hp := cond_t hb59 hp
        refine wr <| om hf rfl rfl fun a hf => oR hf (r_add hf rfl rfl) rfl fun a hf => oa hf rfl rfl fun a hf => oN <| c_blockN <| ct ?_
        have ho := oI hp
        subst ho
        exact ⟨(w64 (y34 + 3)), rfl, hw, hf.to ⟨rfl, rfl, rfl, trivial⟩⟩
       ·replace hp := cond_f hb59 hp
        refine wp_skip <| c_blockN <| ct ?_
        have ho := oI hp
        subst ho
        exact ⟨y34, rfl, hw, hf.to ⟨rfl, rfl, rfl, trivial⟩⟩
      ·intro a w hM
       obtain ⟨y55, rfl, hw, hf⟩ := hM
       replace hp := hq57
       refine wr <| om hf rfl rfl fun a hf => oR hf (r_add hf rfl rfl) rfl fun a hf => oa hf rfl rfl fun a hf => oN <| ct ?_
       exact ih (y55, w64 (y35 + 1)) _ _ ⟨hw, hf.to ⟨rfl, rfl, rfl, trivial⟩⟩ hp
     ·replace hp := cond_f hb50 hp
      refine wp_exit <| c_thenE <| c_thenE <| c_exit <| ct ?_
      have ho := oI hp
      subst ho
      exact ⟨y34, rfl, hw, hf.to ⟨rfl, trivial⟩⟩
    ·intro a w hM
     obtain ⟨y46, rfl, hw, hf⟩ := hM
     replace hp := hq48
     refine ct <| wq <| wr <| om hf rfl rfl fun a hf => oa hf rfl rfl fun a hf => oN <| ct <| wp_ret ?_
     replace hw : Ok E I (F) w := hw.sub (sc sr)
     have ho := oI hp
     subst ho
     exact b_ret1 hf results39 rfl ⟨_, rfl, ⟨rfl, hw⟩⟩

set_option maxHeartbeats 2000000 in
theorem ref19_maker_grow_ok (kk : Nat) : ∀ {E : World} {I : IH} {F : List Atom} {w : World} {a0b : Nat} {a0_p_t : List Node} {a0_p_tv474 : Value} {a0_p_p : List ByteArray} {a0_p_pv476 : Value} {a0_p_of : List Int} {a0_p_ofv : Value} {a0_p_ofm : Nat} {a0_p_ofcs : List Value} {a0_p_tops : List Int} {a0_p_topsv : Value} {a0_p_topsm : Nat} {a0_p_topscs : List Value} {a0_p_plansv : Value} {a1 : Int} {a2 : Int} {a3 : Int} {res0 : Int} {new_a0_p_of : List Int} {new_a0_p_tops : List Int} (hw : Ok E I (.blk a0b (.cells ⟨[a0_p_tv474, a0_p_pv476, a0_p_ofv, a0_p_topsv, a0_p_plansv]⟩ 87 (0, 0)) :: .row a0_p_ofv 3 1 a0_p_ofm a0_p_ofcs :: .row a0_p_topsv 3 1 a0_p_topsm a0_p_topscs :: F) w) (hR475 : RS ek_Node I a0_p_tv474 a0_p_t) (hR477 : RS ekS I a0_p_pv476 a0_p_p) (ha0_p_of : RowR (ekI .i64) I a0_p_ofcs a0_p_of) (ha0_p_tops : RowR (ekI .i64) I a0_p_topscs a0_p_tops) (hp : ref19_maker_grow.f kk a0_p_t a0_p_p a0_p_of a0_p_tops a1 a2 a3 = some (res0, new_a0_p_of, new_a0_p_tops)),
  Calls P 38 ⟨[Value.pointer (some ⟨a0b, 0, none⟩), Value.int .i64 a1, Value.int .i64 a2, Value.int .i64 a3]⟩ w fun e w' => ∃ v, e = .returned v ∧ ∃ rv14095 : Value, ∃ rm14096 : Nat, ∃ rcs14097 : List Value, ∃ rv14099 : Value, ∃ rm14100 : Nat, ∃ rcs14101 : List Value, v = Value.int .i64 res0 ∧ Ok E I (.blk a0b (.cells ⟨[a0_p_tv474, a0_p_pv476, rv14095, rv14099, a0_p_plansv]⟩ 87 (0, 0)) :: .row rv14095 3 1 rm14096 rcs14097 :: .row rv14099 3 1 rm14100 rcs14101 :: F) w' ∧ RowR (ekI .i64) I rcs14097 new_a0_p_of ∧ RowR (ekI .i64) I rcs14101 new_a0_p_tops := by
 induction kk with
 | zero =>
  intro E I F w a0b a0_p_t a0_p_tv474 a0_p_p a0_p_pv476 a0_p_of a0_p_ofv a0_p_ofm a0_p_ofcs a0_p_tops a0_p_topsv a0_p_topsm a0_p_topscs a0_p_plansv a1 a2 a3 res0 new_a0_p_of new_a0_p_tops hw hR475 hR477 ha0_p_of ha0_p_tops hp
  rw [ref19_maker_grow.f] at hp
  cases hp
 | succ kk ihr =>
  intro E I F w a0b a0_p_t a0_p_tv474 a0_p_p a0_p_pv476 a0_p_of a0_p_ofv a0_p_ofm a0_p_ofcs a0_p_tops a0_p_topsv a0_p_topsm a0_p_topscs a0_p_plansv a1 a2 a3 res0 new_a0_p_of new_a0_p_tops hw hR475 hR477 ha0_p_of ha0_p_tops hp
  refine c_enter func38 rfl ntmps38 rfl fun a hf => ?_
  replace hf : Fr 68 [(0, .pointer (some ⟨a0b, 0, none⟩)), (1, .int .i64 a1), (2, .int .i64 a2), (3, .int .i64 a3)] a := hf
  rw [ref19_maker_grow.f] at hp
  refine wq <| wr <| oa hf rfl rfl fun a hf => oN <| ct <| wq <| wq <| wr <| oa hf rfl rfl fun a hf => oN <| ct ?_
  obtain ⟨out456, hp, hq457⟩ := bS hp
  refine c_cutX (fun a w => ∃ y445 : List Int, ∃ y450 : List Int, ∃ y455 : Int, ∃ yv446 : Value, ∃ m447 : Nat, ∃ cs448 : List Value, ∃ yv451 : Value, ∃ m452 : Nat, ∃ cs453 : List Value, (y445, y450, y455) = out456 ∧ Ok E I (.blk a0b (.cells ⟨[a0_p_tv474, a0_p_pv476, yv446, yv451, a0_p_plansv]⟩ 87 (0, 0)) :: .row yv446 3 1 m447 cs448 :: .row yv451 3 1 m452 cs453 :: F) w ∧ Fr 68 ([(3, .int .i64 y455)]) a ∧ RowR (ekI .i64) I cs448 y445 ∧ RowR (ekI .i64) I cs453 y450) ?_ ?_
  ·refine wp_block <| c_loop <| c_fuel (ref19_maker_grow.l0 a0_p_t a0_p_p a1 a2 (ref19_maker_grow.f kk)) out456 (fun (y293, y298, y303, y304) a w => ∃ yv294 : Value, ∃ m295 : Nat, ∃ cs296 : List Value, ∃ yv299 : Value, ∃ m300 : Nat, ∃ cs301 : List Value, Ok E I (.blk a0b (.cells ⟨[a0_p_tv474, a0_p_pv476, yv294, yv299, a0_p_plansv]⟩ 87 (0, 0)) :: .row yv294 3 1 m295 cs296 :: .row yv299 3 1 m300 cs301 :: F) w ∧ Fr 68 ([(0, .pointer (some ⟨a0b, 0, none⟩)), (1, .int .i64 a1), (2, .int .i64 a2), (3, .int .i64 y303), (9, .int .i64 y304)]) a ∧ RowR (ekI .i64) I cs296 y293 ∧ RowR (ekI .i64) I cs301 y298) (fun _ => rfl) ?_ BIG (a0_p_of, a0_p_tops, a3, 0) _ _ ⟨a0_p_ofv, a0_p_ofm, a0_p_ofcs, a0_p_topsv, a0_p_topsm, a0_p_topscs, hw, hf.to ⟨rfl, rfl, rfl, rfl, rfl, trivial⟩, ha0_p_of, ha0_p_tops⟩ hp
   intro k st a w hI hp ih
   obtain ⟨y293, y298, y303, y304⟩ := st
   obtain ⟨yv294, m295, cs296, yv299, m300, cs301, hw, hf, hRR297, hRR302⟩ := hI
   rw [ref19_maker_grow.l0] at hp
   refine wq <| wq <| wr <| om hf rfl rfl fun a hf => oR hf (iC hf rfl rfl rfl) rfl fun a hf => oN <| ct <| cC hf rfl (fun hb459 => ?_) (fun hb459 => ?_)
   ·replace hp := cond_t hb459 hp
    refine wp_skip <| ct ?_
    obtain ⟨out555, hp, hq556⟩ := bS hp
    refine c_cut (fun a w => ∃ y544 : List Int, ∃ y549 : List Int, ∃ y554 : Int, ∃ yv545 : Value, ∃ m546 : Nat, ∃ cs547 : List Value, ∃ yv550 : Value, ∃ m551 : Nat, ∃ cs552 : List Value, (y544, y549, y554) = out555 ∧ Ok E I (.blk a0b (.cells ⟨[a0_p_tv474, a0_p_pv476, yv545, yv550, a0_p_plansv]⟩ 87 (0, 0)) :: .row yv545 3 1 m546 cs547 :: .row yv550 3 1 m551 cs552 :: F) w ∧ Fr 68 ([(0, .pointer (some ⟨a0b, 0, none⟩)), (1, .int .i64 a1), (2, .int .i64 a2), (3, .int .i64 y554), (9, .int .i64 y304)]) a ∧ RowR (ekI .i64) I cs547 y544 ∧ RowR (ekI .i64) I cs552 y549) ?_ ?_
    ·refine wp_block <| wq <| wr <| om hf rfl rfl fun a hf => oR hf (nC hf rfl) rfl fun a hf => oR hf (rF hf rfl fd_87_0) rfl fun a hf => oR hf (rL hw hf rfl ty_23 0 rfl rfl) rfl fun a hf => om hf rfl rfl fun a hf => om hf rfl rfl fun a hf => ?_
     obtain ⟨hg557, hp⟩ := gS hp
     refine oR hf (rI (K := ek_Node) hf el_23 rfl rfl (hR475.rd hw) hg557) rfl fun a hf => oR hf (r_fieldAddrH hf rfl fd_51_4) rfl fun a hf => ?_
     obtain ⟨hg558, hp⟩ := gS hp
     refine oR hf (r_indexAddrAH hf el_49 rfl rfl hg558) rfl fun a hf => oR hf (r_loadH (K := ek_Node) hf rfl ty_3 (hR475.rd hw) hg557 (Nat.add_assoc ..) (fun cs h => Node_at h hg558)) rfl fun a hf => oa hf rfl rfl fun a hf => oN <| ct <| wq <| wq <| wr <| om hf rfl rfl fun a hf => oR hf (iC hf rfl rfl rfl) rfl fun a hf => oN <| ct <| cC hf rfl (fun hb559 => ?_) (fun hb559 => ?_)
     ·replace hp := cond_t hb559 hp
      refine wp_exit <| c_thenE <| c_exit <| ct ?_
      have ho := oI hp
      subst ho
      exact ⟨y293, y298, y303, yv294, m295, cs296, yv299, m300, cs301, rfl, hw, hf.to ⟨rfl, rfl, rfl, rfl, rfl, trivial⟩, hRR297, hRR302⟩
     ·replace hp := cond_f hb559 hp
      refine wp_skip <| ct <| wq <| wr <| om hf rfl rfl fun a hf => om hf rfl rfl fun a hf => oR hf (nC hf rfl) rfl fun a hf => oR hf (rF hf rfl fd_87_0) rfl fun a hf => oR hf (rL hw hf rfl ty_23 0 rfl rfl) rfl fun a hf => om hf rfl rfl fun a hf => ?_
      obtain ⟨hg560, hp⟩ := gS hp
      refine oR hf (rI (K := ek_Node) hf el_23 rfl rfl (hR475.rd hw) hg560) rfl fun a hf => oR hf (r_loadHP (K := ek_Node) hf rfl ty_51 (hR475.rd hw) hg560 rfl (vs := (.int .i64 ((gt a0_p_t (vg (gt a0_p_t a1).kids_ y304)).kind_) :: .string ((gt a0_p_t (vg (gt a0_p_t a1).kids_ y304)).path_) :: .bool ((gt a0_p_t (vg (gt a0_p_t a1).kids_ y304)).has_) :: .string ((gt a0_p_t (vg (gt a0_p_t a1).kids_ y304)).value_) :: arrC .i64 ((gt a0_p_t (vg (gt a0_p_t a1).kids_ y304)).kids_))) (fun cs h => Node_all h) (by simp [arrC_len])) rfl fun a hf => ?_
      obtain ⟨y561, hy562, hp⟩ := bS hp
      have hc564 := ref19_size_ok hw hy562
      refine o_call hf cb_39 rfl rfl hc564 (fun v566 w a hK565 hf => ?_)
      obtain ⟨rfl, hw⟩ := hK565
      refine oR hf (r_add hf rfl rfl) rfl fun a hf => oR hf (r_sub hf rfl rfl) rfl fun a hf => oR hf (iC hf rfl rfl rfl) rfl fun a hf => oN <| ct <| cC hf rfl (fun hb567 => ?_) (fun hb567 => ?_)
      ·replace hp := cond_t hb567 hp
       refine wq <| wr <| om hf rfl rfl fun a hf => oR hf (nC hf rfl) rfl fun a hf => oR hf (rF hf rfl fd_87_2) rfl fun a hf => oR hf (rL hw hf rfl ty_24 0 rfl rfl) rfl fun a hf => om hf rfl rfl fun a hf => om hf rfl rfl fun a hf => ?_
       obtain ⟨hg568, hp⟩ := gS hp
       refine oR hf (rI (K := (ekI .i64)) hf el_24 rfl rfl (rR (K := (ekI .i64)) hw (i := 1) rfl hRR297) hg568) rfl fun a hf => ?_
       obtain ⟨w, cs570, hrun569, hw, hRR571⟩ := e_storeH (P := P) (K := (ekI .i64)) hw hf (x := .tmp 45) (y := .tmp 44) rfl rfl ty_3 1 rfl hRR297 hg568 rfl (vs := [.int .i64 a2]) (oE rfl) rfl (oC rfl ones_nil) (Nat.le_of_eq (by rfl)) (x' := a2) (whole_store rfl)
       replace hw : Ok E I (.blk a0b (.cells ⟨[a0_p_tv474, a0_p_pv476, yv294, yv299, a0_p_plansv]⟩ 87 (0, 0)) :: .row yv294 3 1 m295 cs570 :: .row yv299 3 1 m300 cs301 :: F) w := hw
       refine o_effU (hrun569 ..) <| oN <| ct <| wr <| om hf rfl rfl fun a hf => om hf rfl rfl fun a hf => om hf rfl rfl fun a hf => om hf rfl rfl fun a hf => om hf rfl rfl fun a hf => oR hf (nC hf rfl) rfl fun a hf => oR hf (rF hf rfl fd_87_0) rfl fun a hf => oR hf (rL hw hf rfl ty_23 0 rfl rfl) rfl fun a hf => om hf rfl rfl fun a hf => ?_
       obtain ⟨hg572, hp⟩ := gS hp
       refine oR hf (rI (K := ek_Node) hf el_23 rfl rfl (hR475.rd hw) hg572) rfl fun a hf => oR hf (r_loadHP (K := ek_Node) hf rfl ty_51 (hR475.rd hw) hg572 rfl (vs := (.int .i64 ((gt a0_p_t (vg (gt a0_p_t a1).kids_ y304)).kind_) :: .string ((gt a0_p_t (vg (gt a0_p_t a1).kids_ y304)).path_) :: .bool ((gt a0_p_t (vg (gt a0_p_t a1).kids_ y304)).has_) :: .string ((gt a0_p_t (vg (gt a0_p_t a1).kids_ y304)).value_) :: arrC .i64 ((gt a0_p_t (vg (gt a0_p_t a1).kids_ y304)).kids_))) (fun cs h => Node_all h) (by simp [arrC_len])) rfl fun a hf => ?_
       obtain ⟨y573, hy574, hp⟩ := bS hp
       have hc576 := ref19_size_ok hw hy574
       refine o_call hf cb_39 rfl rfl hc576 (fun v578 w a hK577 hf => ?_)
       obtain ⟨rfl, hw⟩ := hK577
       refine oR hf (r_add hf rfl rfl) rfl fun a hf => oR hf (r_sub hf rfl rfl) rfl fun a hf => ?_
       replace hw : Ok E I (.blk a0b (.cells ⟨[a0_p_tv474, a0_p_pv476, yv294, yv299, a0_p_plansv]⟩ 87 (0, 0)) :: .row yv294 3 1 m295 cs570 :: .row yv299 3 1 m300 cs301 :: F) w := ((hw.front (i := 2) rfl).front (i := 2) rfl).front (i := 2) rfl
       obtain ⟨y583, hy582, hp⟩ := bS hp
       obtain ⟨y579, y580, y581⟩ := y583
       have hc584 := ihr hw hR475 hR477 hRR571 hRR302 hy582
       refine o_call hf cb_38 rfl rfl hc584 (fun v594 w a hK585 hf => ?_)
       obtain ⟨rv586, rm587, rcs588, rv590, rm591, rcs592, rfl, hw, hRR589, hRR593⟩ := hK585
       refine oa hf rfl rfl fun a hf => oN <| c_blockN <| ct ?_
       have ho := oI hp
       subst ho
       exact ⟨y580, y581, y579, rv586, rm587, rcs588, rv590, rm591, rcs592, rfl, hw, hf.to ⟨rfl, rfl, rfl, rfl, rfl, trivial⟩, hRR589, hRR593⟩
      ·replace hp := cond_f hb567 hp
       refine wr <| om hf rfl rfl fun a hf => oR hf (nC hf rfl) rfl fun a hf => oR hf (rF hf rfl fd_87_3) rfl fun a hf => oR hf (rL hw hf rfl ty_24 0 rfl rfl) rfl fun a hf => om hf rfl rfl fun a hf => ?_
       obtain ⟨hg595, hp⟩ := gS hp
       refine oR hf (rI (K := (ekI .i64)) hf el_24 rfl rfl (rR (K := (ekI .i64)) hw (i := 2) rfl hRR302) hg595) rfl fun a hf => ?_
       obtain ⟨w, cs597, hrun596, hw, hRR598⟩ := e_storeH (P := P) (K := (ekI .i64)) hw hf (x := .tmp 66) (y := .const (Value.int .i64 1)) rfl rfl ty_3 2 rfl hRR302 hg595 rfl (vs := [.int .i64 1]) (oE rfl) rfl (oC rfl ones_nil) (Nat.le_of_eq (by rfl)) (x' := 1) (whole_store rfl)
       replace hw : Ok E I (.blk a0b (.cells ⟨[a0_p_tv474, a0_p_pv476, yv294, yv299, a0_p_plansv]⟩ 87 (0, 0)) :: .row yv294 3 1 m295 cs296 :: .row yv299 3 1 m300 cs597 :: F) w := hw
       refine o_effU (hrun596 ..) <| oN <| c_blockN <| ct ?_
       have ho := oI hp
       subst ho
       exact ⟨y293, (y298.set (vg (gt a0_p_t a1).kids_ y304).toNat 1), y303, yv294, m295, cs296, yv299, m300, cs597, rfl, hw, hf.to ⟨rfl, rfl, rfl, rfl, rfl, trivial⟩, hRR297, hRR598⟩
    ·intro a w hM
     obtain ⟨y544, y549, y554, yv545, m546, cs547, yv550, m551, cs552, rfl, hw, hf, hRR548, hRR553⟩ := hM
     replace hp := hq556
     refine wr <| om hf rfl rfl fun a hf => oR hf (r_add hf rfl rfl) rfl fun a hf => oa hf rfl rfl fun a hf => oN <| ct ?_
     exact ih (y544, y549, y554, w64 (y304 + 1)) _ _ ⟨yv545, m546, cs547, yv550, m551, cs552, hw, hf.to ⟨rfl, rfl, rfl, rfl, rfl, trivial⟩, hRR548, hRR553⟩ hp
   ·replace hp := cond_f hb459 hp
    refine wp_exit <| c_thenE <| c_thenE <| c_exit <| ct ?_
    have ho := oI hp
    subst ho
    exact ⟨y293, y298, y303, yv294, m295, cs296, yv299, m300, cs301, rfl, hw, hf.to ⟨rfl, trivial⟩, hRR297, hRR302⟩
  ·intro a w hM
   obtain ⟨y445, y450, y455, yv446, m447, cs448, yv451, m452, cs453, rfl, hw, hf, hRR449, hRR454⟩ := hM
   replace hp := hq457
   refine ct <| wq <| wr <| om hf rfl rfl fun a hf => oa hf rfl rfl fun a hf => oN <| ct <| wp_ret ?_
   have ho := oI hp
   simp only [Prod.mk.injEq] at ho
   obtain ⟨rfl, rfl, rfl⟩ := ho
   exact b_ret1 hf results38 rfl ⟨_, rfl, ⟨yv446, m447, cs448, yv451, m452, cs453, rfl, hw, hRR449, hRR454⟩⟩
end Go.Lf
