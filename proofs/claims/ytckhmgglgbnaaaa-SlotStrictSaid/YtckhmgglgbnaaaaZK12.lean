import Derived.Test.YtckhmgglgbnaaaaZD
import Derived.Test.YtckhmgglgbnaaaaZF
import Derived.Test.YtckhmgglgbnaaaaUB
import Derived.Test.YtckhmgglgbnaaaaN
import Derived.Test.YtckhmgglgbnaaaaBL
import Derived.Test.YtckhmgglgbnaaaaZK10
import Derived.Test.YtckhmgglgbnaaaaZK11
set_option linter.unusedVariables false
set_option linter.unusedSimpArgs false
set_option maxHeartbeats 1000000
set_option maxRecDepth 20000
namespace Go.Lf
open Go Go.Proofs.Try
set_option maxHeartbeats 2000000 in
theorem slot_writer_node_scc (kk : Nat) : (∀ {E : World} {I : IH} {F : List Atom} {w : World} {a0b : Nat} {a0_p_t : List Node} {a0_p_tv216 : Value} {a0_p_p_prefix : ByteArray} {a0_p_p_top : Int} {a0_p_p_nodes : List Int} {a0_p_p_nodesv218 : Value} {a0_p_p_kids : List Int} {a0_p_p_kidsv220 : Value} {a0_p_tops : List (Int × Int)} {a0_p_topsv : Nat} {a0_p_topsm : Nat} {a0_p_topscs : Array MapEntry} {a0_p_b_p_addrv : Value} {a0_p_b_p_buf : List Int} {a0_p_b_p_bufv : Value} {a0_p_b_p_bufm : Nat} {a0_p_b_p_bufcs : List Value} {a0_p_plans : List Plan} {a0_p_plansv222 : Value} {a1 : Int} {new_a0_p_b_p_buf : List Int} (hw : Ok E I (.blk a0b (.cells ⟨[a0_p_tv216, Value.string a0_p_p_prefix, Value.int .i64 a0_p_p_top, a0_p_p_nodesv218, a0_p_p_kidsv220, Value.map (some a0_p_topsv), a0_p_b_p_addrv, a0_p_b_p_bufv, a0_p_plansv222]⟩ 105 (0, 0)) :: .blk a0_p_topsv (.map a0_p_topscs a0_p_topsm) :: .row a0_p_b_p_bufv 5 1 a0_p_b_p_bufm a0_p_b_p_bufcs :: F) w) (hR217 : RS ek_Node I a0_p_tv216 a0_p_t) (hR219 : RS (ekI .i64) I a0_p_p_nodesv218 a0_p_p_nodes) (hR221 : RS (ekI .i64) I a0_p_p_kidsv220 a0_p_p_kids) (ha0_p_tops : MapR a0_p_topscs a0_p_topsm a0_p_tops) (ha0_p_b_p_addr : OwnA a0b a0_p_b_p_addrv) (ha0_p_b_p_buf : RowR (ekI .u8) I a0_p_b_p_bufcs a0_p_b_p_buf) (hR223 : RS ek_Plan I a0_p_plansv222 a0_p_plans) (hp : slot_writer_node.f kk a0_p_t a0_p_p_prefix a0_p_p_top a0_p_p_nodes a0_p_p_kids a0_p_tops a0_p_b_p_buf a0_p_plans a1 = some new_a0_p_b_p_buf),
  Calls P 53 ⟨[Value.pointer (some ⟨a0b, 0, none⟩), Value.int .i64 a1]⟩ w fun e w' => ∃ v, e = .returned v ∧ ∃ rv14175 : Value, ∃ rm14176 : Nat, ∃ rcs14177 : List Value, ∃ rv14179 : Value, v = Value.tuple ⟨[]⟩ ∧ Ok E I (.blk a0b (.cells ⟨[a0_p_tv216, Value.string a0_p_p_prefix, Value.int .i64 a0_p_p_top, a0_p_p_nodesv218, a0_p_p_kidsv220, Value.map (some a0_p_topsv), rv14179, rv14175, a0_p_plansv222]⟩ 105 (0, 0)) :: .blk a0_p_topsv (.map a0_p_topscs a0_p_topsm) :: .row rv14175 5 1 rm14176 rcs14177 :: F) w' ∧ RowR (ekI .u8) I rcs14177 new_a0_p_b_p_buf ∧ OwnA a0b rv14179) ∧
 (∀ {E : World} {I : IH} {F : List Atom} {w : World} {a0b : Nat} {a0_p_t : List Node} {a0_p_tv224 : Value} {a0_p_p_prefix : ByteArray} {a0_p_p_top : Int} {a0_p_p_nodes : List Int} {a0_p_p_nodesv226 : Value} {a0_p_p_kids : List Int} {a0_p_p_kidsv228 : Value} {a0_p_tops : List (Int × Int)} {a0_p_topsv : Nat} {a0_p_topsm : Nat} {a0_p_topscs : Array MapEntry} {a0_p_b_p_addrv : Value} {a0_p_b_p_buf : List Int} {a0_p_b_p_bufv : Value} {a0_p_b_p_bufm : Nat} {a0_p_b_p_bufcs : List Value} {a0_p_plans : List Plan} {a0_p_plansv230 : Value} {a1 : Int} {new_a0_p_b_p_buf : List Int} (hw : Ok E I (.blk a0b (.cells ⟨[a0_p_tv224, Value.string a0_p_p_prefix, Value.int .i64 a0_p_p_top, a0_p_p_nodesv226, a0_p_p_kidsv228, Value.map (some a0_p_topsv), a0_p_b_p_addrv, a0_p_b_p_bufv, a0_p_plansv230]⟩ 105 (0, 0)) :: .blk a0_p_topsv (.map a0_p_topscs a0_p_topsm) :: .row a0_p_b_p_bufv 5 1 a0_p_b_p_bufm a0_p_b_p_bufcs :: F) w) (hR225 : RS ek_Node I a0_p_tv224 a0_p_t) (hR227 : RS (ekI .i64) I a0_p_p_nodesv226 a0_p_p_nodes) (hR229 : RS (ekI .i64) I a0_p_p_kidsv228 a0_p_p_kids) (ha0_p_tops : MapR a0_p_topscs a0_p_topsm a0_p_tops) (ha0_p_b_p_addr : OwnA a0b a0_p_b_p_addrv) (ha0_p_b_p_buf : RowR (ekI .u8) I a0_p_b_p_bufcs a0_p_b_p_buf) (hR231 : RS ek_Plan I a0_p_plansv230 a0_p_plans) (hp : slot_writer_child.f kk a0_p_t a0_p_p_prefix a0_p_p_top a0_p_p_nodes a0_p_p_kids a0_p_tops a0_p_b_p_buf a0_p_plans a1 = some new_a0_p_b_p_buf),
  Calls P 74 ⟨[Value.pointer (some ⟨a0b, 0, none⟩), Value.int .i64 a1]⟩ w fun e w' => ∃ v, e = .returned v ∧ ∃ rv14181 : Value, ∃ rm14182 : Nat, ∃ rcs14183 : List Value, ∃ rv14185 : Value, v = Value.tuple ⟨[]⟩ ∧ Ok E I (.blk a0b (.cells ⟨[a0_p_tv224, Value.string a0_p_p_prefix, Value.int .i64 a0_p_p_top, a0_p_p_nodesv226, a0_p_p_kidsv228, Value.map (some a0_p_topsv), rv14185, rv14181, a0_p_plansv230]⟩ 105 (0, 0)) :: .blk a0_p_topsv (.map a0_p_topscs a0_p_topsm) :: .row rv14181 5 1 rm14182 rcs14183 :: F) w' ∧ RowR (ekI .u8) I rcs14183 new_a0_p_b_p_buf ∧ OwnA a0b rv14185) := by
 induction kk with
 | zero =>
  refine ⟨?_, ?_⟩
  ·intro E I F w a0b a0_p_t a0_p_tv216 a0_p_p_prefix a0_p_p_top a0_p_p_nodes a0_p_p_nodesv218 a0_p_p_kids a0_p_p_kidsv220 a0_p_tops a0_p_topsv a0_p_topsm a0_p_topscs a0_p_b_p_addrv a0_p_b_p_buf a0_p_b_p_bufv a0_p_b_p_bufm a0_p_b_p_bufcs a0_p_plans a0_p_plansv222 a1 new_a0_p_b_p_buf hw hR217 hR219 hR221 ha0_p_tops ha0_p_b_p_addr ha0_p_b_p_buf hR223 hp
   rw [slot_writer_node.f] at hp
   cases hp
  ·intro E I F w a0b a0_p_t a0_p_tv224 a0_p_p_prefix a0_p_p_top a0_p_p_nodes a0_p_p_nodesv226 a0_p_p_kids a0_p_p_kidsv228 a0_p_tops a0_p_topsv a0_p_topsm a0_p_topscs a0_p_b_p_addrv a0_p_b_p_buf a0_p_b_p_bufv a0_p_b_p_bufm a0_p_b_p_bufcs a0_p_plans a0_p_plansv230 a1 new_a0_p_b_p_buf hw hR225 hR227 hR229 ha0_p_tops ha0_p_b_p_addr ha0_p_b_p_buf hR231 hp
   rw [slot_writer_child.f] at hp
   cases hp
 | succ kk ihr =>
  obtain ⟨ihr_slot_writer_node, ihr_slot_writer_child⟩ := ihr
  refine ⟨?_, ?_⟩
  ·intro E I F w a0b a0_p_t a0_p_tv216 a0_p_p_prefix a0_p_p_top a0_p_p_nodes a0_p_p_nodesv218 a0_p_p_kids a0_p_p_kidsv220 a0_p_tops a0_p_topsv a0_p_topsm a0_p_topscs a0_p_b_p_addrv a0_p_b_p_buf a0_p_b_p_bufv a0_p_b_p_bufm a0_p_b_p_bufcs a0_p_plans a0_p_plansv222 a1 new_a0_p_b_p_buf hw hR217 hR219 hR221 ha0_p_tops ha0_p_b_p_addr ha0_p_b_p_buf hR223 hp
   refine c_enter func53 rfl ntmps53 rfl fun a hf => ?_
   replace hf : Fr 53 [(0, .pointer (some ⟨a0b, 0, none⟩)), (1, .int .i64 a1)] a := hf
   rw [slot_writer_node.f] at hp
   refine wq <| wr <| om hf rfl rfl fun a hf => oR hf (nC hf rfl) rfl fun a hf => oR hf (rF hf rfl fd_105_0) rfl fun a hf => oR hf (rL hw hf rfl ty_23 0 rfl rfl) rfl fun a hf => om hf rfl rfl fun a hf => ?_
   obtain ⟨hg1, hp⟩ := gS hp
   refine oR hf (rI (K := ek_Node) hf el_23 rfl rfl (hR217.rd hw) hg1) rfl fun a hf => oR hf (r_loadHP (K := ek_Node) hf rfl ty_51 (hR217.rd hw) hg1 rfl (vs := (.int .i64 ((gt a0_p_t a1).kind_) :: .string ((gt a0_p_t a1).path_) :: .bool ((gt a0_p_t a1).has_) :: .string ((gt a0_p_t a1).value_) :: arrC .i64 ((gt a0_p_t a1).kids_))) (fun cs h => Node_all h) (by simp [arrC_len])) rfl fun a hf => ?_
   obtain ⟨b2, w, hrun3, hw⟩ := e_alloc (P := P) (a := a) hw ty_51
   refine o_eff hf (hrun3 ..) rfl fun a hf => ?_
   obtain ⟨w, hrun5, hw⟩ := e_store (P := P) hw hf (x := .tmp 4) (y := .tmp 13) rfl rfl ty_51 0 rfl (vs := (.int .i64 ((gt a0_p_t a1).kind_) :: .string ((gt a0_p_t a1).path_) :: .bool ((gt a0_p_t a1).has_) :: .string ((gt a0_p_t a1).value_) :: arrC .i64 ((gt a0_p_t a1).kids_))) rfl (by simp [arrC_len]) (oC rfl (oC rfl (oC rfl (oC rfl (arrC_one _ _))))) (by simp [arrC_len]) (cs' := (.int .i64 ((gt a0_p_t a1).kind_) :: .string ((gt a0_p_t a1).path_) :: .bool ((gt a0_p_t a1).has_) :: .string ((gt a0_p_t a1).value_) :: arrC .i64 ((gt a0_p_t a1).kids_))) (by simp [arrC_len])
   dsimp only [List.set] at hw
   refine o_effU (hrun5 ..) <| oN <| ct <| wq <| wr <| om hf rfl rfl fun a hf => oR hf (rF hf rfl fd_51_0) rfl fun a hf => oR hf (rL hw hf rfl ty_3 0 rfl rfl) rfl fun a hf => ?_
   obtain ⟨w, v6, hrun7, hw, hRR8⟩ := e_buildSlice (P := P) (K := (ekI .i64)) (m := 1) hw hf (parts := [(0, .tmp 16)]) el_24 ty_3 rfl rfl rfl (ccs := [[Value.int .i64 ((gt a0_p_t a1).kind_)]]) rfl (xs := [(gt a0_p_t a1).kind_]) ⟨rfl, trivial⟩ rfl
   obtain ⟨cs9, hcs⟩ : ∃ cs, cs = ([[Value.int .i64 ((gt a0_p_t a1).kind_)]] : List (List Value)).flatten := ⟨_, rfl⟩
   rw [← hcs] at hw hRR8; clear hcs
   refine o_eff hf (hrun7 ..) rfl fun a hf => ?_
   have hw : Ok E I (.row v6 3 1 1 cs9 :: .blk b2 (.cells ⟨Value.int .i64 ((gt a0_p_t a1).kind_) :: Value.string ((gt a0_p_t a1).path_) :: Value.bool ((gt a0_p_t a1).has_) :: Value.string ((gt a0_p_t a1).value_) :: arrC .i64 ((gt a0_p_t a1).kids_)⟩ 51 (0, 0)) :: .blk a0b (.cells ⟨[a0_p_tv216, Value.string a0_p_p_prefix, Value.int .i64 a0_p_p_top, a0_p_p_nodesv218, a0_p_p_kidsv220, Value.map (some a0_p_topsv), a0_p_b_p_addrv, a0_p_b_p_bufv, a0_p_plansv222]⟩ 105 (0, 0)) :: .blk a0_p_topsv (.map a0_p_topscs a0_p_topsm) :: .row a0_p_b_p_bufv 5 1 a0_p_b_p_bufm a0_p_b_p_bufcs :: F) w := hw.front (i := 0) rfl
   obtain ⟨I11, hle12, hw, hR13⟩ := row_freeze (K := (ekI .i64)) hw hRR8
   replace hR217 := hR217.mono hle12
   replace hR219 := hR219.mono hle12
   replace hR221 := hR221.mono hle12
   replace hR223 := hR223.mono hle12
   replace ha0_p_b_p_buf := ha0_p_b_p_buf.mono hle12
   replace hw : Ok E I11 (.blk a0b (.cells ⟨[a0_p_tv216, .string a0_p_p_prefix, .int .i64 a0_p_p_top, a0_p_p_nodesv218, a0_p_p_kidsv220, Value.map (some a0_p_topsv), a0_p_b_p_addrv, a0_p_b_p_bufv, a0_p_plansv222]⟩ 105 (0, 0)) :: .blk a0_p_topsv (.map a0_p_topscs a0_p_topsm) :: .row a0_p_b_p_bufv 5 1 a0_p_b_p_bufm a0_p_b_p_bufcs :: .blk b2 (.cells ⟨.int .i64 ((gt a0_p_t a1).kind_) :: .string ((gt a0_p_t a1).path_) :: .bool ((gt a0_p_t a1).has_) :: .string ((gt a0_p_t a1).value_) :: arrC .i64 ((gt a0_p_t a1).kids_)⟩ 51 (0, 0)) :: F) w := ((hw.front (i := 3) rfl).front (i := 3) rfl).front (i := 3) rfl
   obtain ⟨y14, hy15, hp⟩ := bS hp
   have hc17 := slot_writer_bytes_ok hw hR217 hR219 hR221 ha0_p_tops ha0_p_b_p_addr ha0_p_b_p_buf hR223 hR13 hy15
   refine o_call hf cb_70 rfl rfl hc17 (fun v25 w a hK18 hf => ?_)
   obtain ⟨rv19, rm20, rcs21, rv23, rfl, hw, hRR22, hA24⟩ := hK18
   refine oN <| ct ?_
   obtain ⟨out135, hp, hq136⟩ := bS hp
   refine c_cut (fun a w => ∃ y128 : List Int, ∃ yv129 : Value, ∃ m130 : Nat, ∃ cs131 : List Value, ∃ yv133 : Value, y128 = out135 ∧ Ok E I11 (.blk a0b (.cells ⟨[a0_p_tv216, .string a0_p_p_prefix, .int .i64 a0_p_p_top, a0_p_p_nodesv218, a0_p_p_kidsv220, Value.map (some a0_p_topsv), yv133, yv129, a0_p_plansv222]⟩ 105 (0, 0)) :: .blk a0_p_topsv (.map a0_p_topscs a0_p_topsm) :: .row yv129 5 1 m130 cs131 :: .blk b2 (.cells ⟨.int .i64 ((gt a0_p_t a1).kind_) :: .string ((gt a0_p_t a1).path_) :: .bool ((gt a0_p_t a1).has_) :: .string ((gt a0_p_t a1).value_) :: arrC .i64 ((gt a0_p_t a1).kids_)⟩ 51 (0, 0)) :: F) w ∧ Fr 53 ([(0, .pointer (some ⟨a0b, 0, none⟩)), (4, .pointer (some ⟨b2, 0, none⟩))]) a ∧ RowR (ekI .u8) I11 cs131 y128 ∧ OwnA a0b yv133) ?_ ?_
   ·refine wq <| wr <| oR hf (rF hf rfl fd_51_0) rfl fun a hf => oR hf (rL hw hf rfl ty_3 3 rfl rfl) rfl fun a hf => oN <| ct <| wp_block <| wq <| wr <| oR hf (iC hf rfl rfl rfl) rfl fun a hf => oa hf rfl rfl fun a hf => oN <| ct <| cC hf rfl (fun hb137 => ?_) (fun hb137 => ?_)
    ·replace hp := cond_t hb137 hp
     refine wq <| wr <| om hf rfl rfl fun a hf => oR hf (rF hf rfl fd_51_1) rfl fun a hf => oR hf (rL hw hf rfl ty_9 3 rfl rfl) rfl fun a hf => ?_
     replace hw : Ok E I11 (.blk a0b (.cells ⟨[a0_p_tv216, .string a0_p_p_prefix, .int .i64 a0_p_p_top, a0_p_p_nodesv218, a0_p_p_kidsv220, Value.map (some a0_p_topsv), rv23, rv19, a0_p_plansv222]⟩ 105 (0, 0)) :: .blk a0_p_topsv (.map a0_p_topscs a0_p_topsm) :: .row rv19 5 1 rm20 rcs21 :: .blk b2 (.cells ⟨.int .i64 ((gt a0_p_t a1).kind_) :: .string ((gt a0_p_t a1).path_) :: .bool ((gt a0_p_t a1).has_) :: .string ((gt a0_p_t a1).value_) :: arrC .i64 ((gt a0_p_t a1).kids_)⟩ 51 (0, 0)) :: F) w := ((hw.front (i := 2) rfl).front (i := 2) rfl).front (i := 2) rfl
     obtain ⟨y138, hy139, hp⟩ := bS hp
     have hc141 := slot_writer_path_ok hw hR217 hR219 hR221 ha0_p_tops hA24 hRR22 hR223 hy139
     refine o_call hf cb_71 rfl rfl hc141 (fun v149 w a hK142 hf => ?_)
     obtain ⟨rv143, rm144, rcs145, rv147, rfl, hw, hRR146, hA148⟩ := hK142
     refine oN <| ct <| wr <| om hf rfl rfl fun a hf => oR hf (rF hf rfl fd_51_3) rfl fun a hf => oR hf (rL hw hf rfl ty_9 3 rfl rfl) rfl fun a hf => ?_
     replace hw : Ok E I11 (.blk a0b (.cells ⟨[a0_p_tv216, .string a0_p_p_prefix, .int .i64 a0_p_p_top, a0_p_p_nodesv218, a0_p_p_kidsv220, Value.map (some a0_p_topsv), rv147, rv143, a0_p_plansv222]⟩ 105 (0, 0)) :: .blk a0_p_topsv (.map a0_p_topscs a0_p_topsm) :: .row rv143 5 1 rm144 rcs145 :: .blk b2 (.cells ⟨.int .i64 ((gt a0_p_t a1).kind_) :: .string ((gt a0_p_t a1).path_) :: .bool ((gt a0_p_t a1).has_) :: .string ((gt a0_p_t a1).value_) :: arrC .i64 ((gt a0_p_t a1).kids_)⟩ 51 (0, 0)) :: F) w := ((hw.front (i := 2) rfl).front (i := 2) rfl).front (i := 2) rfl
     obtain ⟨y150, hy151, hp⟩ := bS hp
     have hc153 := slot_writer_value_ok hw hR217 hR219 hR221 ha0_p_tops hA148 hRR146 hR223 hy151
     refine o_call hf cb_72 rfl rfl hc153 (fun v161 w a hK154 hf => ?_)
     obtain ⟨rv155, rm156, rcs157, rv159, rfl, hw, hRR158, hA160⟩ := hK154
     refine oN <| c_blockN <| ct ?_
     have ho := oI hp
     subst ho
     exact ⟨y150, rv155, rm156, rcs157, rv159, rfl, hw, hf.to ⟨rfl, rfl, trivial⟩, hRR158, hA160⟩
    ·replace hp := cond_f hb137 hp
     refine wq <| wr <| oR hf (iC hf rfl rfl rfl) rfl fun a hf => oa hf rfl rfl fun a hf => oN <| ct <| cC hf rfl (fun hb162 => ?_) (fun hb162 => ?_)
     ·replace hp := cond_t hb162 hp
      refine wr <| om hf rfl rfl fun a hf => oR hf (rF hf rfl fd_51_1) rfl fun a hf => oR hf (rL hw hf rfl ty_9 3 rfl rfl) rfl fun a hf => ?_
      replace hw : Ok E I11 (.blk a0b (.cells ⟨[a0_p_tv216, .string a0_p_p_prefix, .int .i64 a0_p_p_top, a0_p_p_nodesv218, a0_p_p_kidsv220, Value.map (some a0_p_topsv), rv23, rv19, a0_p_plansv222]⟩ 105 (0, 0)) :: .blk a0_p_topsv (.map a0_p_topscs a0_p_topsm) :: .row rv19 5 1 rm20 rcs21 :: .blk b2 (.cells ⟨.int .i64 ((gt a0_p_t a1).kind_) :: .string ((gt a0_p_t a1).path_) :: .bool ((gt a0_p_t a1).has_) :: .string ((gt a0_p_t a1).value_) :: arrC .i64 ((gt a0_p_t a1).kids_)⟩ 51 (0, 0)) :: F) w := ((hw.front (i := 2) rfl).front (i := 2) rfl).front (i := 2) rfl
      obtain ⟨y163, hy164, hp⟩ := bS hp
      have hc166 := slot_writer_path_ok hw hR217 hR219 hR221 ha0_p_tops hA24 hRR22 hR223 hy164
      refine o_call hf cb_71 rfl rfl hc166 (fun v174 w a hK167 hf => ?_)
      obtain ⟨rv168, rm169, rcs170, rv172, rfl, hw, hRR171, hA173⟩ := hK167
      refine oN <| c_blockN <| ct ?_
      have ho := oI hp
      subst ho
      exact ⟨y163, rv168, rm169, rcs170, rv172, rfl, hw, hf.to ⟨rfl, rfl, trivial⟩, hRR171, hA173⟩
     ·replace hp := cond_f hb162 hp
      refine wq <| wr <| oR hf (iC hf rfl rfl rfl) rfl fun a hf => oa hf rfl rfl fun a hf => oN <| ct <| cC hf rfl (fun hb175 => ?_) (fun hb175 => ?_)
      ·replace hp := cond_t hb175 hp
       refine wr <| om hf rfl rfl fun a hf => oR hf (r_loadA hw hf rfl ty_51 3 rfl (vs := (.int .i64 ((gt a0_p_t a1).kind_) :: .string ((gt a0_p_t a1).path_) :: .bool ((gt a0_p_t a1).has_) :: .string ((gt a0_p_t a1).value_) :: arrC .i64 ((gt a0_p_t a1).kids_))) (take_all (by simp [arrC_len])) (by simp [arrC_len])) rfl fun a hf => ?_
       replace hw : Ok E I11 (.blk a0b (.cells ⟨[a0_p_tv216, .string a0_p_p_prefix, .int .i64 a0_p_p_top, a0_p_p_nodesv218, a0_p_p_kidsv220, Value.map (some a0_p_topsv), rv23, rv19, a0_p_plansv222]⟩ 105 (0, 0)) :: .blk a0_p_topsv (.map a0_p_topscs a0_p_topsm) :: .row rv19 5 1 rm20 rcs21 :: .blk b2 (.cells ⟨.int .i64 ((gt a0_p_t a1).kind_) :: .string ((gt a0_p_t a1).path_) :: .bool ((gt a0_p_t a1).has_) :: .string ((gt a0_p_t a1).value_) :: arrC .i64 ((gt a0_p_t a1).kids_)⟩ 51 (0, 0)) :: F) w := ((hw.front (i := 2) rfl).front (i := 2) rfl).front (i := 2) rfl
       obtain ⟨y176, hy177, hp⟩ := bS hp
       have hc179 := slot_writer_branch_ok hw hR217 hR219 hR221 ha0_p_tops hA24 hRR22 hR223 hy177
       refine o_call hf cb_73 rfl rfl hc179 (fun v187 w a hK180 hf => ?_)
       obtain ⟨rv181, rm182, rcs183, rv185, rfl, hw, hRR184, hA186⟩ := hK180
       refine oN <| c_blockN <| ct ?_
       have ho := oI hp
       subst ho
       exact ⟨y176, rv181, rm182, rcs183, rv185, rfl, hw, hf.to ⟨rfl, rfl, trivial⟩, hRR184, hA186⟩
      ·replace hp := cond_f hb175 hp
       refine wp_skip <| c_blockN <| ct ?_
       have ho := oI hp
       subst ho
       exact ⟨y14, rv19, rm20, rcs21, rv23, rfl, hw, hf.to ⟨rfl, rfl, trivial⟩, hRR22, hA24⟩
   ·intro a w hM
    obtain ⟨y128, yv129, m130, cs131, yv133, rfl, hw, hf, hRR132, hA134⟩ := hM
    replace hp := hq136
    refine wq <| wr <| oR hf (rF hf rfl fd_51_4) rfl fun a hf => oR hf (r_loadA hw hf rfl ty_49 3 rfl (vs := (arrC .i64 ((gt a0_p_t a1).kids_))) (take_all (by simp [arrC_len])) (by simp [arrC_len])) rfl fun a hf => om hf rfl rfl fun a hf => oN <| ct ?_
    obtain ⟨out367, hp, hq368⟩ := bS hp
    refine c_cutX (fun a w => ∃ y360 : List Int, ∃ yv361 : Value, ∃ m362 : Nat, ∃ cs363 : List Value, ∃ yv365 : Value, y360 = out367 ∧ Ok E I11 (.blk a0b (.cells ⟨[a0_p_tv216, .string a0_p_p_prefix, .int .i64 a0_p_p_top, a0_p_p_nodesv218, a0_p_p_kidsv220, Value.map (some a0_p_topsv), yv365, yv361, a0_p_plansv222]⟩ 105 (0, 0)) :: .blk a0_p_topsv (.map a0_p_topscs a0_p_topsm) :: .row yv361 5 1 m362 cs363 :: .blk b2 (.cells ⟨.int .i64 ((gt a0_p_t a1).kind_) :: .string ((gt a0_p_t a1).path_) :: .bool ((gt a0_p_t a1).has_) :: .string ((gt a0_p_t a1).value_) :: arrC .i64 ((gt a0_p_t a1).kids_)⟩ 51 (0, 0)) :: F) w ∧ Fr 53 ([]) a ∧ RowR (ekI .u8) I11 cs363 y360 ∧ OwnA a0b yv365) ?_ ?_
    ·refine wp_block <| c_loop <| c_fuel (slot_writer_node.l0 a0_p_t a0_p_p_prefix a0_p_p_top a0_p_p_nodes a0_p_p_kids a0_p_tops a0_p_plans a1 (slot_writer_child.f kk)) out367 (fun (y300, y307) a w => ∃ yv301 : Value, ∃ m302 : Nat, ∃ cs303 : List Value, ∃ yv305 : Value, Ok E I11 (.blk a0b (.cells ⟨[a0_p_tv216, .string a0_p_p_prefix, .int .i64 a0_p_p_top, a0_p_p_nodesv218, a0_p_p_kidsv220, Value.map (some a0_p_topsv), yv305, yv301, a0_p_plansv222]⟩ 105 (0, 0)) :: .blk a0_p_topsv (.map a0_p_topscs a0_p_topsm) :: .row yv301 5 1 m302 cs303 :: .blk b2 (.cells ⟨.int .i64 ((gt a0_p_t a1).kind_) :: .string ((gt a0_p_t a1).path_) :: .bool ((gt a0_p_t a1).has_) :: .string ((gt a0_p_t a1).value_) :: arrC .i64 ((gt a0_p_t a1).kids_)⟩ 51 (0, 0)) :: F) w ∧ Fr 53 ([(0, .pointer (some ⟨a0b, 0, none⟩)), (43, Value.agg ⟨arrC .i64 ((gt a0_p_t a1).kids_)⟩), (44, .int .i64 y307)]) a ∧ RowR (ekI .u8) I11 cs303 y300 ∧ OwnA a0b yv305) (fun _ => rfl) ?_ BIG (y128, 0) _ _ ⟨yv129, m130, cs131, yv133, hw, hf.to ⟨rfl, rfl, rfl, trivial⟩, hRR132, hA134⟩ hp
     intro k st a w hI hp ih
     obtain ⟨y300, y307⟩ := st
     obtain ⟨yv301, m302, cs303, yv305, hw, hf, hRR304, hA306⟩ := hI
     rw [slot_writer_node.l0] at hp
     refine wq <| wr <| oR hf (iC hf rfl rfl rfl) rfl fun a hf => oN <| ct <| wq <| cC hf rfl (fun hb370 => ?_) (fun hb370 => ?_)
     ·replace hp := cond_t hb370 hp
      refine wp_skip <| ct ?_
      obtain ⟨out406, hp, hq407⟩ := bS hp
      refine c_cut (fun a w => ∃ y399 : List Int, ∃ yv400 : Value, ∃ m401 : Nat, ∃ cs402 : List Value, ∃ yv404 : Value, y399 = out406 ∧ Ok E I11 (.blk a0b (.cells ⟨[a0_p_tv216, .string a0_p_p_prefix, .int .i64 a0_p_p_top, a0_p_p_nodesv218, a0_p_p_kidsv220, Value.map (some a0_p_topsv), yv404, yv400, a0_p_plansv222]⟩ 105 (0, 0)) :: .blk a0_p_topsv (.map a0_p_topscs a0_p_topsm) :: .row yv400 5 1 m401 cs402 :: .blk b2 (.cells ⟨.int .i64 ((gt a0_p_t a1).kind_) :: .string ((gt a0_p_t a1).path_) :: .bool ((gt a0_p_t a1).has_) :: .string ((gt a0_p_t a1).value_) :: arrC .i64 ((gt a0_p_t a1).kids_)⟩ 51 (0, 0)) :: F) w ∧ Fr 53 ([(0, .pointer (some ⟨a0b, 0, none⟩)), (43, Value.agg ⟨arrC .i64 ((gt a0_p_t a1).kids_)⟩), (44, .int .i64 y307)]) a ∧ RowR (ekI .u8) I11 cs402 y399 ∧ OwnA a0b yv404) ?_ ?_
      ·refine wp_block <| wq <| wr ?_
       obtain ⟨hg408, hp⟩ := gS hp
       refine oR hf (r_indexArr hf el_49 ty_3 rfl rfl hg408) rfl fun a hf => oa hf rfl rfl fun a hf => oN <| ct <| wq <| wr <| om hf rfl rfl fun a hf => oR hf (iC hf rfl rfl rfl) rfl fun a hf => oN <| ct <| cC hf rfl (fun hb409 => ?_) (fun hb409 => ?_)
       ·replace hp := cond_t hb409 hp
        refine wr <| om hf rfl rfl fun a hf => om hf rfl rfl fun a hf => ?_
        replace hw : Ok E I11 (.blk a0b (.cells ⟨[a0_p_tv216, .string a0_p_p_prefix, .int .i64 a0_p_p_top, a0_p_p_nodesv218, a0_p_p_kidsv220, Value.map (some a0_p_topsv), yv305, yv301, a0_p_plansv222]⟩ 105 (0, 0)) :: .blk a0_p_topsv (.map a0_p_topscs a0_p_topsm) :: .row yv301 5 1 m302 cs303 :: .blk b2 (.cells ⟨.int .i64 ((gt a0_p_t a1).kind_) :: .string ((gt a0_p_t a1).path_) :: .bool ((gt a0_p_t a1).has_) :: .string ((gt a0_p_t a1).value_) :: arrC .i64 ((gt a0_p_t a1).kids_)⟩ 51 (0, 0)) :: F) w := ((hw.front (i := 2) rfl).front (i := 2) rfl).front (i := 2) rfl
        obtain ⟨y410, hy411, hp⟩ := bS hp
        have hc413 := ihr_slot_writer_child hw hR217 hR219 hR221 ha0_p_tops hA306 hRR304 hR223 hy411
        refine o_call hf cb_74 rfl rfl hc413 (fun v421 w a hK414 hf => ?_)
        obtain ⟨rv415, rm416, rcs417, rv419, rfl, hw, hRR418, hA420⟩ := hK414
        refine oN <| c_blockN <| ct ?_
        have ho := oI hp
        subst ho
        exact ⟨y410, rv415, rm416, rcs417, rv419, rfl, hw, hf.to ⟨rfl, rfl, rfl, trivial⟩, hRR418, hA420⟩
       ·replace hp := cond_f hb409 hp
        refine wp_skip <| c_blockN <| ct ?_
        have ho := oI hp
        subst ho
        exact ⟨y300, yv301, m302, cs303, yv305, rfl, hw, hf.to ⟨rfl, rfl, rfl, trivial⟩, hRR304, hA306⟩
      ·intro a w hM
       obtain ⟨y399, yv400, m401, cs402, yv404, rfl, hw, hf, hRR403, hA405⟩ := hM
       replace hp := hq407
       refine wr <| oR hf (r_add hf rfl rfl) rfl fun a hf => om hf rfl rfl fun a hf => oN <| ct ?_
       exact ih (y399, w64 (y307 + 1)) _ _ ⟨yv400, m401, cs402, yv404, hw, hf.to ⟨rfl, rfl, rfl, trivial⟩, hRR403, hA405⟩ hp
     ·replace hp := cond_f hb370 hp
      refine wp_exit <| c_thenE <| c_thenE <| c_exit <| ct ?_
      have ho := oI hp
      subst ho
      exact ⟨y300, yv301, m302, cs303, yv305, rfl, hw, hf.to trivial, hRR304, hA306⟩
    ·intro a w hM
     obtain ⟨y360, yv361, m362, cs363, yv365, rfl, hw, hf, hRR364, hA366⟩ := hM
     replace hp := hq368
     replace hw : Ok E I11 (.blk a0b (.cells ⟨[a0_p_tv216, .string a0_p_p_prefix, .int .i64 a0_p_p_top, a0_p_p_nodesv218, a0_p_p_kidsv220, Value.map (some a0_p_topsv), yv365, yv361, a0_p_plansv222]⟩ 105 (0, 0)) :: .blk a0_p_topsv (.map a0_p_topscs a0_p_topsm) :: .row yv361 5 1 m362 cs363 :: F) w := hw.sub (scc (scc (scc (sc sr))))
     have ho := oI hp
     subst ho
     exact b_end0 hf results53 ⟨_, rfl, ⟨yv361, m362, cs363, yv365, rfl, (hw.back hle12 sr), hRR364, hA366⟩⟩
  ·intro E I F w a0b a0_p_t a0_p_tv224 a0_p_p_prefix a0_p_p_top a0_p_p_nodes a0_p_p_nodesv226 a0_p_p_kids a0_p_p_kidsv228 a0_p_tops a0_p_topsv a0_p_topsm a0_p_topscs a0_p_b_p_addrv a0_p_b_p_buf a0_p_b_p_bufv a0_p_b_p_bufm a0_p_b_p_bufcs a0_p_plans a0_p_plansv230 a1 new_a0_p_b_p_buf hw hR225 hR227 hR229 ha0_p_tops ha0_p_b_p_addr ha0_p_b_p_buf hR231 hp
   refine c_enter func74 rfl ntmps74 rfl fun a hf => ?_
   replace hf : Fr 25 [(0, .pointer (some ⟨a0b, 0, none⟩)), (1, .int .i64 a1)] a := hf
   rw [slot_writer_child.f] at hp
   refine wq <| wq <| wr <| om hf rfl rfl fun a hf => oR hf (nC hf rfl) rfl fun a hf => oR hf (rF hf rfl fd_105_2) rfl fun a hf => oR hf (rL hw hf rfl ty_100 0 rfl rfl) rfl fun a hf => om hf rfl rfl fun a hf => oR hf (r_lookupT hw hf rfl rfl und_100 und_3 zf_3 1 rfl ha0_p_tops) rfl fun a hf => om hf rfl rfl fun a hf => oR hf (rE hf rfl rfl) rfl fun a hf => oR hf (rE hf rfl rfl) rfl fun a hf => oa hf rfl rfl fun a hf => oa hf rfl rfl fun a hf => oN <| ct ?_
   refine wq <| wr <| om hf rfl rfl fun a hf => oN <| ct <| cC hf rfl (fun hb1 => ?_) (fun hb1 => ?_)
   ·replace hp := cond_t hb1 hp
    refine wq <| wr <| om hf rfl rfl fun a hf => om hf rfl rfl fun a hf => oR hf (r_shr hf rfl rfl (by decide)) rfl fun a hf => om hf rfl rfl fun a hf => ?_
    obtain ⟨w, v2, hrun3, hw, hRR4⟩ := e_buildSlice (P := P) (K := (ekI .i64)) (m := 3) hw hf (parts := [(0, .const (Value.int .i64 0)), (1, .tmp 18), (2, .tmp 19)]) el_24 ty_3 rfl rfl rfl (ccs := [[Value.int .i64 0], [Value.int .i64 (shr .i64 (mget a0_p_tops a1) 8)], [Value.int .i64 (mget a0_p_tops a1)]]) rfl (xs := [0, shr .i64 (mget a0_p_tops a1) 8, (mget a0_p_tops a1)]) ⟨rfl, rfl, rfl, trivial⟩ rfl
    obtain ⟨cs5, hcs⟩ : ∃ cs, cs = ([[Value.int .i64 0], [Value.int .i64 (shr .i64 (mget a0_p_tops a1) 8)], [Value.int .i64 (mget a0_p_tops a1)]] : List (List Value)).flatten := ⟨_, rfl⟩
    rw [← hcs] at hw hRR4; clear hcs
    refine o_eff hf (hrun3 ..) rfl fun a hf => ?_
    have hw : Ok E I (.row v2 3 1 3 cs5 :: .blk a0b (.cells ⟨[a0_p_tv224, Value.string a0_p_p_prefix, Value.int .i64 a0_p_p_top, a0_p_p_nodesv226, a0_p_p_kidsv228, Value.map (some a0_p_topsv), a0_p_b_p_addrv, a0_p_b_p_bufv, a0_p_plansv230]⟩ 105 (0, 0)) :: .blk a0_p_topsv (.map a0_p_topscs a0_p_topsm) :: .row a0_p_b_p_bufv 5 1 a0_p_b_p_bufm a0_p_b_p_bufcs :: F) w := hw.front (i := 0) rfl
    obtain ⟨I7, hle8, hw, hR9⟩ := row_freeze (K := (ekI .i64)) hw hRR4
    replace hR225 := hR225.mono hle8
    replace hR227 := hR227.mono hle8
    replace hR229 := hR229.mono hle8
    replace hR231 := hR231.mono hle8
    replace ha0_p_b_p_buf := ha0_p_b_p_buf.mono hle8
    replace hw : Ok E I7 (.blk a0b (.cells ⟨[a0_p_tv224, .string a0_p_p_prefix, .int .i64 a0_p_p_top, a0_p_p_nodesv226, a0_p_p_kidsv228, Value.map (some a0_p_topsv), a0_p_b_p_addrv, a0_p_b_p_bufv, a0_p_plansv230]⟩ 105 (0, 0)) :: .blk a0_p_topsv (.map a0_p_topscs a0_p_topsm) :: .row a0_p_b_p_bufv 5 1 a0_p_b_p_bufm a0_p_b_p_bufcs :: F) w := ((hw.front (i := 2) rfl).front (i := 2) rfl).front (i := 2) rfl
    obtain ⟨y10, hy11, hp⟩ := bS hp
    have hc13 := slot_writer_bytes_ok hw hR225 hR227 hR229 ha0_p_tops ha0_p_b_p_addr ha0_p_b_p_buf hR231 hR9 hy11
    refine o_call hf cb_70 rfl rfl hc13 (fun v21 w a hK14 hf => ?_)
    obtain ⟨rv15, rm16, rcs17, rv19, rfl, hw, hRR18, hA20⟩ := hK14
    refine oN <| ct <| wp_ret <| c_thenR ?_
    have ho := oI hp
    subst ho
    exact b_ret0 hf results74 ⟨_, rfl, ⟨rv15, rm16, rcs17, rv19, rfl, (hw.back hle8 sr), hRR18, hA20⟩⟩
   ·replace hp := cond_f hb1 hp
    refine wp_skip <| ct <| wr <| om hf rfl rfl fun a hf => om hf rfl rfl fun a hf => ?_
    replace hw : Ok E I (.blk a0b (.cells ⟨[a0_p_tv224, .string a0_p_p_prefix, .int .i64 a0_p_p_top, a0_p_p_nodesv226, a0_p_p_kidsv228, Value.map (some a0_p_topsv), a0_p_b_p_addrv, a0_p_b_p_bufv, a0_p_plansv230]⟩ 105 (0, 0)) :: .blk a0_p_topsv (.map a0_p_topscs a0_p_topsm) :: .row a0_p_b_p_bufv 5 1 a0_p_b_p_bufm a0_p_b_p_bufcs :: F) w := ((hw.front (i := 2) rfl).front (i := 2) rfl).front (i := 2) rfl
    obtain ⟨y22, hy23, hp⟩ := bS hp
    have hc25 := ihr_slot_writer_node hw hR225 hR227 hR229 ha0_p_tops ha0_p_b_p_addr ha0_p_b_p_buf hR231 hy23
    refine o_call hf cb_53 rfl rfl hc25 (fun v33 w a hK26 hf => ?_)
    obtain ⟨rv27, rm28, rcs29, rv31, rfl, hw, hRR30, hA32⟩ := hK26
    refine oN ?_
    have ho := oI hp
    subst ho
    exact b_end0 hf results74 ⟨_, rfl, ⟨rv27, rm28, rcs29, rv31, rfl, hw, hRR30, hA32⟩⟩
theorem slot_writer_node_ok (kk : Nat) : ∀ {E : World} {I : IH} {F : List Atom} {w : World} {a0b : Nat} {a0_p_t : List Node} {a0_p_tv216 : Value} {a0_p_p_prefix : ByteArray} {a0_p_p_top : Int} {a0_p_p_nodes : List Int} {a0_p_p_nodesv218 : Value} {a0_p_p_kids : List Int} {a0_p_p_kidsv220 : Value} {a0_p_tops : List (Int × Int)} {a0_p_topsv : Nat} {a0_p_topsm : Nat} {a0_p_topscs : Array MapEntry} {a0_p_b_p_addrv : Value} {a0_p_b_p_buf : List Int} {a0_p_b_p_bufv : Value} {a0_p_b_p_bufm : Nat} {a0_p_b_p_bufcs : List Value} {a0_p_plans : List Plan} {a0_p_plansv222 : Value} {a1 : Int} {new_a0_p_b_p_buf : List Int} (hw : Ok E I (.blk a0b (.cells ⟨[a0_p_tv216, Value.string a0_p_p_prefix, Value.int .i64 a0_p_p_top, a0_p_p_nodesv218, a0_p_p_kidsv220, Value.map (some a0_p_topsv), a0_p_b_p_addrv, a0_p_b_p_bufv, a0_p_plansv222]⟩ 105 (0, 0)) :: .blk a0_p_topsv (.map a0_p_topscs a0_p_topsm) :: .row a0_p_b_p_bufv 5 1 a0_p_b_p_bufm a0_p_b_p_bufcs :: F) w) (hR217 : RS ek_Node I a0_p_tv216 a0_p_t) (hR219 : RS (ekI .i64) I a0_p_p_nodesv218 a0_p_p_nodes) (hR221 : RS (ekI .i64) I a0_p_p_kidsv220 a0_p_p_kids) (ha0_p_tops : MapR a0_p_topscs a0_p_topsm a0_p_tops) (ha0_p_b_p_addr : OwnA a0b a0_p_b_p_addrv) (ha0_p_b_p_buf : RowR (ekI .u8) I a0_p_b_p_bufcs a0_p_b_p_buf) (hR223 : RS ek_Plan I a0_p_plansv222 a0_p_plans) (hp : slot_writer_node.f kk a0_p_t a0_p_p_prefix a0_p_p_top a0_p_p_nodes a0_p_p_kids a0_p_tops a0_p_b_p_buf a0_p_plans a1 = some new_a0_p_b_p_buf),
  Calls P 53 ⟨[Value.pointer (some ⟨a0b, 0, none⟩), Value.int .i64 a1]⟩ w fun e w' => ∃ v, e = .returned v ∧ ∃ rv14175 : Value, ∃ rm14176 : Nat, ∃ rcs14177 : List Value, ∃ rv14179 : Value, v = Value.tuple ⟨[]⟩ ∧ Ok E I (.blk a0b (.cells ⟨[a0_p_tv216, Value.string a0_p_p_prefix, Value.int .i64 a0_p_p_top, a0_p_p_nodesv218, a0_p_p_kidsv220, Value.map (some a0_p_topsv), rv14179, rv14175, a0_p_plansv222]⟩ 105 (0, 0)) :: .blk a0_p_topsv (.map a0_p_topscs a0_p_topsm) :: .row rv14175 5 1 rm14176 rcs14177 :: F) w' ∧ RowR (ekI .u8) I rcs14177 new_a0_p_b_p_buf ∧ OwnA a0b rv14179 := (slot_writer_node_scc kk).1
theorem slot_writer_child_ok (kk : Nat) : ∀ {E : World} {I : IH} {F : List Atom} {w : World} {a0b : Nat} {a0_p_t : List Node} {a0_p_tv224 : Value} {a0_p_p_prefix : ByteArray} {a0_p_p_top : Int} {a0_p_p_nodes : List Int} {a0_p_p_nodesv226 : Value} {a0_p_p_kids : List Int} {a0_p_p_kidsv228 : Value} {a0_p_tops : List (Int × Int)} {a0_p_topsv : Nat} {a0_p_topsm : Nat} {a0_p_topscs : Array MapEntry} {a0_p_b_p_addrv : Value} {a0_p_b_p_buf : List Int} {a0_p_b_p_bufv : Value} {a0_p_b_p_bufm : Nat} {a0_p_b_p_bufcs : List Value} {a0_p_plans : List Plan} {a0_p_plansv230 : Value} {a1 : Int} {new_a0_p_b_p_buf : List Int} (hw : Ok E I (.blk a0b (.cells ⟨[a0_p_tv224, Value.string a0_p_p_prefix, Value.int .i64 a0_p_p_top, a0_p_p_nodesv226, a0_p_p_kidsv228, Value.map (some a0_p_topsv), a0_p_b_p_addrv, a0_p_b_p_bufv, a0_p_plansv230]⟩ 105 (0, 0)) :: .blk a0_p_topsv (.map a0_p_topscs a0_p_topsm) :: .row a0_p_b_p_bufv 5 1 a0_p_b_p_bufm a0_p_b_p_bufcs :: F) w) (hR225 : RS ek_Node I a0_p_tv224 a0_p_t) (hR227 : RS (ekI .i64) I a0_p_p_nodesv226 a0_p_p_nodes) (hR229 : RS (ekI .i64) I a0_p_p_kidsv228 a0_p_p_kids) (ha0_p_tops : MapR a0_p_topscs a0_p_topsm a0_p_tops) (ha0_p_b_p_addr : OwnA a0b a0_p_b_p_addrv) (ha0_p_b_p_buf : RowR (ekI .u8) I a0_p_b_p_bufcs a0_p_b_p_buf) (hR231 : RS ek_Plan I a0_p_plansv230 a0_p_plans) (hp : slot_writer_child.f kk a0_p_t a0_p_p_prefix a0_p_p_top a0_p_p_nodes a0_p_p_kids a0_p_tops a0_p_b_p_buf a0_p_plans a1 = some new_a0_p_b_p_buf),
  Calls P 74 ⟨[Value.pointer (some ⟨a0b, 0, none⟩), Value.int .i64 a1]⟩ w fun e w' => ∃ v, e = .returned v ∧ ∃ rv14181 : Value, ∃ rm14182 : Nat, ∃ rcs14183 : List Value, ∃ rv14185 : Value, v = Value.tuple ⟨[]⟩ ∧ Ok E I (.blk a0b (.cells ⟨[a0_p_tv224, Value.string a0_p_p_prefix, Value.int .i64 a0_p_p_top, a0_p_p_nodesv226, a0_p_p_kidsv228, Value.map (some a0_p_topsv), rv14185, rv14181, a0_p_plansv230]⟩ 105 (0, 0)) :: .blk a0_p_topsv (.map a0_p_topscs a0_p_topsm) :: .row rv14181 5 1 rm14182 rcs14183 :: F) w' ∧ RowR (ekI .u8) I rcs14183 new_a0_p_b_p_buf ∧ OwnA a0b rv14185 := (slot_writer_node_scc kk).2

theorem slot_Encode_ok {E : World} {I : IH} {F : List Atom} {w : World} {a0 : List Node} {a0v10420 : Value} {a1 : Plan} {a1v10422 : Value} {a1v10424 : Value} {a2 : List Int} {a2v10426 : Value} {res0 : ByteArray} {res1 : Bool} (hw : Ok E I (F) w) (hR10421 : RS ek_Node I a0v10420 a0) (hR10423 : RS (ekI .i64) I a1v10422 a1.nodes_) (hR10425 : RS (ekI .i64) I a1v10424 a1.kids_) (hR10427 : RS (ekI .i64) I a2v10426 a2) (hp : slot_Encode.f a0 a1 a2 = some (res0, res1)) :
  Calls P 27 ⟨[a0v10420, Value.agg ⟨[Value.string a1.prefix_, Value.int .i64 a1.top_, a1v10422, a1v10424]⟩, a2v10426]⟩ w fun e w' => ∃ v, e = .returned v ∧ v = Value.tuple ⟨[Value.string res0, Value.bool res1]⟩ ∧ Ok E I (F) w' := by
 refine c_enter func27 rfl ntmps27 rfl fun a hf => ?_
 replace hf : Fr 68 [(0, a0v10420), (1, Value.agg ⟨[.string a1.prefix_, .int .i64 a1.top_, a1v10422, a1v10424]⟩), (2, a2v10426)] a := hf
 unfold slot_Encode.f at hp
 refine wq <| wr ?_
 obtain ⟨b1, w, hrun2, hw⟩ := e_box (P := P) hw hf (e := 26) (x := .tmp 1) rfl (cs := [Value.string a1.prefix_, Value.int .i64 a1.top_, a1v10422, a1v10424]) rfl
 refine o_eff hf (hrun2 ..) rfl fun a hf => oa hf rfl rfl fun a hf => oa hf rfl rfl fun a hf => oN <| ct <| wq <| wr <| om hf rfl rfl fun a hf => ?_
 obtain ⟨y311, hy310, hp⟩ := bS hp
 obtain ⟨y308, y309⟩ := y311
 have hc312 := pack_Of_ok hw hR10421 hy310
 refine o_call hf cb_14 rfl rfl hc312 (fun v316 w a hK313 hf => ?_)
 obtain ⟨I2_313, rvv314, rfl, hle317, hw, hR315⟩ := hK313
 replace hR10421 := hR10421.mono hle317
 replace hR10423 := hR10423.mono hle317
 replace hR10425 := hR10425.mono hle317
 replace hR10427 := hR10427.mono hle317
 refine om hf rfl rfl fun a hf => oR hf (rE hf rfl rfl) rfl fun a hf => oR hf (rE hf rfl rfl) rfl fun a hf => oa hf rfl rfl fun a hf => oa hf rfl rfl fun a hf => oN <| ct <| wq ?_
 obtain ⟨out103, hp, hq104⟩ := bS hp
 refine c_cut (fun a w => ∃ y102 : Bool, y102 = out103 ∧ Ok E I2_313 (.blk b1 (.cells ⟨[.string a1.prefix_, .int .i64 a1.top_, a1v10422, a1v10424]⟩ 26 (0, 0)) :: F) w ∧ Fr 68 ([(0, a0v10420), (2, a2v10426), (4, .pointer (some ⟨b1, 0, none⟩)), (8, rvv314), (30, .bool y102)]) a) ?_ ?_
 ·refine wr <| om hf rfl rfl fun a hf => oR hf (r_not hf rfl) rfl fun a hf => om hf rfl rfl fun a hf => g_split hf (g := 20) rfl (fun hb105 hf => ?_) (fun hb105 hf => ?_)
  ·replace hp := cond_t hb105 hp
   refine oQ hf (g := 20) rfl fun a hf => oQ hf (g := 20) rfl fun a hf => oQ hf (g := 20) rfl fun a hf => oQ hf (g := 20) rfl fun a hf => oQ hf (g := 20) rfl fun a hf => oR hf (pT hf rfl rfl) rfl fun a hf => om hf rfl rfl fun a hf => oQ hf (g := 27) rfl fun a hf => oQ hf (g := 27) rfl fun a hf => oR hf (pT hf rfl rfl) rfl fun a hf => oN <| ct ?_
   have ho := oI hp
   subst ho
   exact ⟨true, rfl, hw, hf.to ⟨rfl, rfl, rfl, rfl, rfl, trivial⟩⟩
  ·replace hp := cond_f hb105 hp
   refine oW hf (g := 20) rfl rfl <| om hf rfl rfl fun a hf => oW hf (g := 20) rfl rfl <| oR hf (r_lenL (K := (ekI .i64)) hf el_24 rfl (hR10427.rd hw)) rfl fun a hf => oW hf (g := 20) rfl rfl <| om hf rfl rfl fun a hf => oW hf (g := 20) rfl rfl <| oR hf (r_lenL (K := ek_Plan) hf el_29 rfl (hR315.rd hw)) rfl fun a hf => oW hf (g := 20) rfl rfl <| oR hf (iC hf rfl rfl rfl) rfl fun a hf => oR hf (pF hf rfl rfl) rfl fun a hf => om hf rfl rfl fun a hf => g_split hf (g := 27) rfl (fun hb106 hf => ?_) (fun hb106 hf => ?_)
   ·replace hp := cond_t hb106 hp
    refine oQ hf (g := 27) rfl fun a hf => oQ hf (g := 27) rfl fun a hf => oR hf (pT hf rfl rfl) rfl fun a hf => oN <| ct ?_
    have ho := oI hp
    subst ho
    exact ⟨true, rfl, hw, hf.to ⟨rfl, rfl, rfl, rfl, rfl, trivial⟩⟩
   ·replace hp := cond_f hb106 hp
    refine oW hf (g := 27) rfl rfl <| om hf rfl rfl fun a hf => oW hf (g := 27) rfl rfl ?_
    obtain ⟨y107, hy108, hp⟩ := bS hp
    have hc110 := slices_ContainsFunc_int_slot_Encode_c1_ok hw hR10427 hy108
    refine o_call hf cb_43 rfl rfl hc110 (fun v112 w a hK111 hf => ?_)
    obtain ⟨rfl, hw⟩ := hK111
    refine oR hf (pF hf rfl rfl) rfl fun a hf => oN <| ct ?_
    have ho := oI hp
    subst ho
    exact ⟨y107, rfl, hw, hf.to ⟨rfl, rfl, rfl, rfl, rfl, trivial⟩⟩
 ·intro a w hM
  obtain ⟨y102, rfl, hw, hf⟩ := hM
  replace hp := hq104
  refine cC hf rfl (fun hb113 => ?_) (fun hb113 => ?_)
  ·replace hp := cond_t hb113 hp
   refine wq <| wr <| oa hf rfl rfl fun a hf => oa hf rfl rfl fun a hf => oN <| ct <| wp_ret <| c_thenR ?_
   replace hw : Ok E I2_313 (F) w := hw.sub (sc sr)
   have ho := oI hp
   simp only [Prod.mk.injEq] at ho
   obtain ⟨rfl, rfl⟩ := ho
   exact b_ret2 hf results27 rfl rfl ⟨_, rfl, ⟨rfl, (hw.back hle317 sr)⟩⟩
  ·replace hp := cond_f hb113 hp
   refine wp_skip <| ct <| wq <| wq <| wr <| om hf rfl rfl fun a hf => oR hf (r_makeFunc hf (vs := [.pointer (some ⟨b1, 0, none⟩)]) rfl) rfl fun a hf => ?_
   replace hw : Ok E I2_313 (.blk b1 (.cells ⟨[.string a1.prefix_, .int .i64 a1.top_, a1v10422, a1v10424]⟩ 26 (0, 0)) :: F) w := hw.front (i := 0) rfl
   obtain ⟨y146, hy147, hp⟩ := bS hp
   have hc149 := slices_ContainsFunc_api_Plan_slot_Encode_c2_ok hw hR315 hR10423 hR10425 hy147
   refine o_call hf cb_50 rfl rfl hc149 (fun v151 w a hK150 hf => ?_)
   obtain ⟨rfl, hw⟩ := hK150
   refine oR hf (r_not hf rfl) rfl fun a hf => oN <| ct <| cC hf rfl (fun hb152 => ?_) (fun hb152 => ?_)
   ·replace hp := cond_t hb152 hp
    refine wq <| wr <| oa hf rfl rfl fun a hf => oa hf rfl rfl fun a hf => oN <| ct <| wp_ret <| c_thenR ?_
    replace hw : Ok E I2_313 (F) w := hw.sub (sc sr)
    have ho := oI hp
    simp only [Prod.mk.injEq] at ho
    obtain ⟨rfl, rfl⟩ := ho
    exact b_ret2 hf results27 rfl rfl ⟨_, rfl, ⟨rfl, (hw.back hle317 sr)⟩⟩
   ·replace hp := cond_f hb152 hp
    refine wp_skip <| ct <| wq <| wr <| om hf rfl rfl fun a hf => ?_
    obtain ⟨b153, w, hrun154, hw⟩ := e_makeMap (P := P) (a := a) (t := 100) hw
    refine o_eff hf (hrun154 ..) rfl fun a hf => oR hf (r_build hf bd_105 (vs := [a0v10420, Value.map (some b153)]) rfl ⟨hR10421.one, rfl, trivial⟩ (by decide) (out := [a0v10420, .string e0, .int .i64 0, .slice none 0 0, .slice none 0 0, Value.map (some b153), .pointer none, .slice none 0 0, .slice none 0 0]) rfl) rfl fun a hf => ?_
    obtain ⟨b156, w, hrun157, hw⟩ := e_box (P := P) hw hf (e := 105) (x := .tmp 37) rfl (cs := [a0v10420, Value.string e0, Value.int .i64 0, Value.slice none 0 0, Value.slice none 0 0, Value.map (some b153), Value.pointer none, Value.slice none 0 0, Value.slice none 0 0]) rfl
    refine o_eff hf (hrun157 ..) rfl fun a hf => oa hf rfl rfl fun a hf => oN <| ct <| wq <| wq <| wr <| oR hf (rF hf rfl fd_26_3) rfl fun a hf => oR hf (rL hw hf rfl ty_24 2 rfl rfl) rfl fun a hf => oR hf (r_lenL (K := (ekI .i64)) hf el_24 rfl (hR10425.rd hw)) rfl fun a hf => om hf rfl rfl fun a hf => oN <| ct ?_
    obtain ⟨out203, hp, hq204⟩ := bS hp
    refine c_cutX (fun a w => ∃ y198 : List (Int × Int), ∃ m199 : Nat, ∃ m200 : Nat, ∃ es201 : Array MapEntry, y198 = out203 ∧ Ok E I2_313 (.blk b156 (.cells ⟨[a0v10420, .string e0, .int .i64 0, .slice none 0 0, .slice none 0 0, Value.map (some m199), .pointer none, .slice none 0 0, .slice none 0 0]⟩ 105 (0, 0)) :: .blk m199 (.map es201 m200) :: .blk b1 (.cells ⟨[.string a1.prefix_, .int .i64 a1.top_, a1v10422, a1v10424]⟩ 26 (0, 0)) :: F) w ∧ Fr 68 ([(4, .pointer (some ⟨b1, 0, none⟩)), (10, .pointer (some ⟨b156, 0, none⟩))]) a ∧ MapR es201 m200 y198) ?_ ?_
    ·refine wp_block <| c_loop <| c_fuel (slot_Encode.l0 a1 a2 y308) out203 (fun (y183, y188) a w => ∃ m184 : Nat, ∃ m185 : Nat, ∃ es186 : Array MapEntry, Ok E I2_313 (.blk b156 (.cells ⟨[a0v10420, .string e0, .int .i64 0, .slice none 0 0, .slice none 0 0, Value.map (some m184), .pointer none, .slice none 0 0, .slice none 0 0]⟩ 105 (0, 0)) :: .blk m184 (.map es186 m185) :: .blk b1 (.cells ⟨[.string a1.prefix_, .int .i64 a1.top_, a1v10422, a1v10424]⟩ 26 (0, 0)) :: F) w ∧ Fr 68 ([(2, a2v10426), (4, .pointer (some ⟨b1, 0, none⟩)), (8, rvv314), (10, .pointer (some ⟨b156, 0, none⟩)), (40, a1v10424), (41, .int .i64 (a1.kids_.length : Int)), (42, .int .i64 y188)]) a ∧ MapR es186 m185 y183) (fun _ => rfl) ?_ BIG (([] : List (Int × Int)), 0) _ _ ⟨b153, 0, (#[]), hw, hf.to ⟨rfl, rfl, rfl, rfl, rfl, rfl, rfl, trivial⟩, MapR.nil⟩ hp
     intro k st a w hI hp ih
     obtain ⟨y183, y188⟩ := st
     obtain ⟨m184, m185, es186, hw, hf, hRR187⟩ := hI
     rw [slot_Encode.l0] at hp
     refine wq <| wr <| oR hf (iC hf rfl rfl rfl) rfl fun a hf => oN <| ct <| wq <| cC hf rfl (fun hb206 => ?_) (fun hb206 => ?_)
     ·replace hp := cond_t hb206 hp
      refine wp_skip <| ct <| wq <| wp_block <| wq <| wr ?_
      obtain ⟨hg207, hp⟩ := gS hp
      refine oR hf (rI (K := (ekI .i64)) hf el_24 rfl rfl (hR10425.rd hw) hg207) rfl fun a hf => oR hf (r_loadH (K := (ekI .i64)) hf rfl ty_3 (hR10425.rd hw) hg207 rfl (fun cs h => ekI_f0 h)) rfl fun a hf => oa hf rfl rfl fun a hf => oN <| ct <| c_drawn mix [13] (.rd 0 (.rd 1 (.rd 2 (.rd 3 (.rd 4 (.rd 5 (.rd 6 (.rd 7 (.rd 8 (.rd 9 (.rd 10 (.rd 11 (.rd 12 (.ef 13 .done)))))))))))))) (by kernel_rfl) hw (fun w => Ok E I2_313 (.blk b156 (.cells ⟨[a0v10420, .string e0, .int .i64 0, .slice none 0 0, .slice none 0 0, Value.map (some m184), .pointer none, .slice none 0 0, .slice none 0 0]⟩ 105 (0, 0)) :: .blk m184 (.map es186 m185) :: .blk b1 (.cells ⟨[.string a1.prefix_, .int .i64 a1.top_, a1v10422, a1v10424]⟩ 26 (0, 0)) :: F) w) (fun w hw => ⟨hw.sub (scc (scc (scc sr))), ?_⟩)
      refine tm rfl hf rfl rfl fun a hf => tR rfl hf (fun w hw => nC hf rfl) rfl fun a hf => tR rfl hf (fun w hw => rF hf rfl fd_105_2) rfl fun a hf => tR rfl hf (fun w hw => rL hw hf rfl ty_100 0 rfl rfl) rfl fun a hf => tm rfl hf rfl rfl fun a hf => tm rfl hf rfl rfl fun a hf => ?_
      obtain ⟨hg209, hp⟩ := gS hp
      refine tR rfl hf (fun w hw => rI (K := ek_Plan) hf el_29 rfl rfl (hR315.rd hw) hg209) rfl fun a hf => tR rfl hf (fun w hw => r_fieldAddrH hf rfl fd_26_1) rfl fun a hf => tR rfl hf (fun w hw => r_loadH (K := ek_Plan) hf rfl ty_3 (hR315.rd hw) hg209 rfl (fun cs h => Plan_f1 h)) rfl fun a hf => tm rfl hf rfl rfl fun a hf => tm rfl hf rfl rfl fun a hf => ?_
      obtain ⟨hg210, hp⟩ := gS hp
      refine tR rfl hf (fun w hw => rI (K := (ekI .i64)) hf el_24 rfl rfl (hR10427.rd hw) hg210) rfl fun a hf => tR rfl hf (fun w hw => r_loadH (K := (ekI .i64)) hf rfl ty_3 (hR10427.rd hw) hg210 rfl (fun cs h => ekI_f0 h)) rfl fun a hf => t_ef rfl ?_
      obtain ⟨w, es212, m213, hrun211, hw, hRR214⟩ := e_mapUpdate (P := P) hw hf (x := .tmp 49) (y := .tmp 54) (z := .tmp 58) rfl rfl rfl und_100 und_3 1 rfl hRR187
      replace hw : Ok E I2_313 (.blk b156 (.cells ⟨[a0v10420, .string e0, .int .i64 0, .slice none 0 0, .slice none 0 0, Value.map (some m184), .pointer none, .slice none 0 0, .slice none 0 0]⟩ 105 (0, 0)) :: .blk m184 (.map es212 m213) :: .blk b1 (.cells ⟨[.string a1.prefix_, .int .i64 a1.top_, a1v10422, a1v10424]⟩ 26 (0, 0)) :: F) w := hw
      refine t_effU (hrun211 ..) ⟨.inl rfl, ?_⟩
      refine t_done <| c_blockN <| ct <| wr <| oR hf (r_add hf rfl rfl) rfl fun a hf => om hf rfl rfl fun a hf => oN <| ct ?_
      exact ih (mput y183 ((gt y308 (gt a1.kids_ y188)).top_) (gt a2 (gt a1.kids_ y188)), w64 (y188 + 1)) _ _ ⟨m184, m213, es212, hw, hf.to ⟨rfl, rfl, rfl, rfl, rfl, rfl, rfl, trivial⟩, hRR214⟩ hp
     ·replace hp := cond_f hb206 hp
      refine wp_exit <| c_thenE <| c_thenE <| c_exit <| ct ?_
      have ho := oI hp
      subst ho
      exact ⟨y183, m184, m185, es186, rfl, hw, hf.to ⟨rfl, rfl, trivial⟩, hRR187⟩
    ·intro a w hM
     obtain ⟨y198, m199, m200, es201, rfl, hw, hf, hRR202⟩ := hM
     replace hp := hq204
     refine ct <| wq <| wr <| om hf rfl rfl fun a hf => oR hf (rF hf rfl fd_26_1) rfl fun a hf => oR hf (rL hw hf rfl ty_3 2 rfl rfl) rfl fun a hf => ?_
     replace hw := hw.nilrow 5 1
     have hRR35 : RowR (ekI .u8) I2_313 [] [] := RowR.nil
     replace hw : Ok E I2_313 (.blk b156 (.cells ⟨[a0v10420, .string e0, .int .i64 0, .slice none 0 0, .slice none 0 0, Value.map (some m199), .pointer none, (.slice none 0 0), .slice none 0 0]⟩ 105 (0, 0)) :: .blk m199 (.map es201 m200) :: .row (.slice none 0 0) 5 1 0 [] :: .blk b1 (.cells ⟨[.string a1.prefix_, .int .i64 a1.top_, a1v10422, a1v10424]⟩ 26 (0, 0)) :: F) w := ((hw.front (i := 0) rfl).front (i := 2) rfl).front (i := 2) rfl
     obtain ⟨y36, hy37, hp⟩ := bS hp
     have hc39 := slot_writer_node_ok BIG hw hR10421 (RS.nil (K := (ekI .i64))) (RS.nil (K := (ekI .i64))) hRR202 (OwnA.nil _) hRR35 (RS.nil (K := ek_Plan)) hy37
     refine o_call hf cb_53 rfl rfl hc39 (fun v47 w a hK40 hf => ?_)
     obtain ⟨rv41, rm42, rcs43, rv45, rfl, hw, hRR44, hA46⟩ := hK40
     refine oN <| ct <| wq <| wr <| om hf rfl rfl fun a hf => oR hf (nC hf rfl) rfl fun a hf => oR hf (rF hf rfl fd_105_3) rfl fun a hf => ?_
     replace hw : Ok E I2_313 (.blk b156 (.cells ⟨[a0v10420, .string e0, .int .i64 0, .slice none 0 0, .slice none 0 0, Value.map (some m199), rv45, rv41, .slice none 0 0]⟩ 105 (0, 0)) :: .row rv41 5 1 rm42 rcs43 :: .blk m199 (.map es201 m200) :: .blk b1 (.cells ⟨[.string a1.prefix_, .int .i64 a1.top_, a1v10422, a1v10424]⟩ 26 (0, 0)) :: F) w := (hw.front (i := 2) rfl).front (i := 1) rfl
     obtain ⟨hg51, hp⟩ := gS hp
     have hc48 := builder_String_ok hw hRR44 hg51
     refine o_call hf cb_54 rfl rfl hc48 (fun v49 w a hK50 hf => ?_)
     obtain ⟨rfl, hw⟩ := hK50
     refine oa hf rfl rfl fun a hf => oa hf rfl rfl fun a hf => oN <| ct <| wp_ret ?_
     replace hw : Ok E I2_313 (F) w := hw.sub (sc (sc (sc sr)))
     have ho := oI hp
     simp only [Prod.mk.injEq] at ho
     obtain ⟨rfl, rfl⟩ := ho
     exact b_ret2 hf results27 rfl rfl ⟨_, rfl, ⟨rfl, (hw.back hle317 sr)⟩⟩

theorem slot_reader_take_ok {E : World} {I : IH} {F : List Atom} {w : World} {a0b : Nat} {a0_p_s : ByteArray} {a0_p_l : List Slot} {a0_p_lv : Value} {a0_p_lm : Nat} {a0_p_lcs : List Value} {a0_p_bad : Bool} {a1 : Int} {res0 : ByteArray} {new_a0_p_s : ByteArray} {new_a0_p_bad : Bool} (hw : Ok E I (.blk a0b (.cells ⟨[Value.string a0_p_s, a0_p_lv, Value.bool a0_p_bad]⟩ 111 (0, 0)) :: .row a0_p_lv 70 20 a0_p_lm a0_p_lcs :: F) w) (ha0_p_l : RowR ek_Slot I a0_p_lcs a0_p_l) (hp : slot_reader_take.f a0_p_s a0_p_l a0_p_bad a1 = some (res0, new_a0_p_s, new_a0_p_bad)) :
  Calls P 80 ⟨[Value.pointer (some ⟨a0b, 0, none⟩), Value.int .i64 a1]⟩ w fun e w' => ∃ v, e = .returned v ∧ v = Value.string res0 ∧ Ok E I (.blk a0b (.cells ⟨[Value.string new_a0_p_s, a0_p_lv, Value.bool new_a0_p_bad]⟩ 111 (0, 0)) :: .row a0_p_lv 70 20 a0_p_lm a0_p_lcs :: F) w' := by
 refine c_enter func80 rfl ntmps80 rfl fun a hf => ?_
 replace hf : Fr 32 [(0, .pointer (some ⟨a0b, 0, none⟩)), (1, .int .i64 a1)] a := hf
 unfold slot_reader_take.f at hp
 refine wq <| wr <| oa hf rfl rfl fun a hf => oN <| ct <| wq <| wq <| wr <| om hf rfl rfl fun a hf => om hf rfl rfl fun a hf => oR hf (nC hf rfl) rfl fun a hf => oR hf (rF hf rfl fd_111_0) rfl fun a hf => oR hf (rL hw hf rfl ty_9 0 rfl rfl) rfl fun a hf => oR hf (r_lenS hf und_9 rfl) rfl fun a hf => oR hf (iC hf rfl rfl rfl) rfl fun a hf => oN ?_
 refine ct <| cC hf rfl (fun hb1 => ?_) (fun hb1 => ?_)
 ·replace hp := cond_t hb1 hp
  refine wq <| wr <| om hf rfl rfl fun a hf => oR hf (nC hf rfl) rfl fun a hf => oR hf (rF hf rfl fd_111_2) rfl fun a hf => ?_
  obtain ⟨w, hrun2, hw⟩ := e_store (P := P) hw hf (x := .tmp 15) (y := .const (Value.bool true)) rfl rfl ty_4 0 rfl (vs := [.bool true]) (oE rfl) rfl (oC rfl ones_nil) (by simp [arrC_len]) (cs' := [.string a0_p_s, a0_p_lv, .bool true]) rfl
  dsimp only [List.set] at hw
  refine o_effU (hrun2 ..) <| oN <| ct <| wq <| wr <| oa hf rfl rfl fun a hf => oN <| ct <| wp_ret <| c_thenR ?_
  have ho := oI hp
  simp only [Prod.mk.injEq] at ho
  obtain ⟨rfl, rfl, rfl⟩ := ho
  exact b_ret1 hf results80 rfl ⟨_, rfl, ⟨rfl, hw⟩⟩
 ·replace hp := cond_f hb1 hp
  refine wp_skip <| ct <| wq <| wr <| om hf rfl rfl fun a hf => oR hf (nC hf rfl) rfl fun a hf => oR hf (rF hf rfl fd_111_0) rfl fun a hf => oR hf (rL hw hf rfl ty_9 0 rfl rfl) rfl fun a hf => om hf rfl rfl fun a hf => ?_
  obtain ⟨hg3, hp⟩ := gS hp
  refine oR hf (r_sliceSh hf und_9 rfl rfl hg3) rfl fun a hf => oa hf rfl rfl fun a hf => oN <| ct <| wq <| wr <| om hf rfl rfl fun a hf => om hf rfl rfl fun a hf => oR hf (nC hf rfl) rfl fun a hf => oR hf (rF hf rfl fd_111_0) rfl fun a hf => oR hf (rL hw hf rfl ty_9 0 rfl rfl) rfl fun a hf => om hf rfl rfl fun a hf => ?_
  obtain ⟨hg4, hp⟩ := gS hp
  refine oR hf (r_sliceSl hf und_9 rfl rfl hg4) rfl fun a hf => oR hf (nC hf rfl) rfl fun a hf => oR hf (rF hf rfl fd_111_0) rfl fun a hf => ?_
  obtain ⟨w, hrun5, hw⟩ := e_store (P := P) hw hf (x := .tmp 30) (y := .tmp 28) rfl rfl ty_9 0 rfl (vs := [.string (sub a0_p_s a1 (a0_p_s.size : Int))]) (oE rfl) rfl (oC rfl ones_nil) (by simp [arrC_len]) (cs' := [.string (sub a0_p_s a1 (a0_p_s.size : Int)), a0_p_lv, .bool a0_p_bad]) rfl
  dsimp only [List.set] at hw
  refine o_effU (hrun5 ..) <| oN <| ct <| wq <| wr <| om hf rfl rfl fun a hf => oa hf rfl rfl fun a hf => oN <| ct <| wp_ret ?_
  have ho := oI hp
  simp only [Prod.mk.injEq] at ho
  obtain ⟨rfl, rfl, rfl⟩ := ho
  exact b_ret1 hf results80 rfl ⟨_, rfl, ⟨rfl, hw⟩⟩

theorem slot_reader_number_ok {E : World} {I : IH} {F : List Atom} {w : World} {a0b : Nat} {a0_p_s : ByteArray} {a0_p_l : List Slot} {a0_p_lv : Value} {a0_p_lm : Nat} {a0_p_lcs : List Value} {a0_p_bad : Bool} {res0 : Int} {new_a0_p_s : ByteArray} {new_a0_p_bad : Bool} (hw : Ok E I (.blk a0b (.cells ⟨[Value.string a0_p_s, a0_p_lv, Value.bool a0_p_bad]⟩ 111 (0, 0)) :: .row a0_p_lv 70 20 a0_p_lm a0_p_lcs :: F) w) (ha0_p_l : RowR ek_Slot I a0_p_lcs a0_p_l) (hp : slot_reader_number.f a0_p_s a0_p_l a0_p_bad = some (res0, new_a0_p_s, new_a0_p_bad)) :
  Calls P 58 ⟨[Value.pointer (some ⟨a0b, 0, none⟩)]⟩ w fun e w' => ∃ v, e = .returned v ∧ v = Value.int .i64 res0 ∧ Ok E I (.blk a0b (.cells ⟨[Value.string new_a0_p_s, a0_p_lv, Value.bool new_a0_p_bad]⟩ 111 (0, 0)) :: .row a0_p_lv 70 20 a0_p_lm a0_p_lcs :: F) w' := by
 refine c_enter func58 rfl ntmps58 rfl fun a hf => ?_
 replace hf : Fr 11 [(0, .pointer (some ⟨a0b, 0, none⟩))] a := hf
 unfold slot_reader_number.f at hp
 refine wq <| wr <| oa hf rfl rfl fun a hf => oN <| ct <| wq <| wr <| om hf rfl rfl fun a hf => ?_
 replace hw : Ok E I (.blk a0b (.cells ⟨[.string a0_p_s, a0_p_lv, .bool a0_p_bad]⟩ 111 (0, 0)) :: .row a0_p_lv 70 20 a0_p_lm a0_p_lcs :: F) w := (hw.front (i := 1) rfl).front (i := 1) rfl
 obtain ⟨y5, hy4, hp⟩ := bS hp
 obtain ⟨y1, y2, y3⟩ := y5
 have hc6 := slot_reader_take_ok hw ha0_p_l hy4
 refine o_call hf cb_80 rfl rfl hc6 (fun v8 w a hK7 hf => ?_)
 obtain ⟨rfl, hw⟩ := hK7
 refine oa hf rfl rfl fun a hf => oN <| ct <| wq <| wq <| wr <| om hf rfl rfl fun a hf => oR hf (r_scmp hf rfl rfl rfl) rfl fun a hf => oN <| ct <| cC hf rfl (fun hb9 => ?_) (fun hb9 => ?_)
 ·replace hp := cond_t hb9 hp
  refine wq <| wr <| oa hf rfl rfl fun a hf => oN <| ct <| wp_ret <| c_thenR ?_
  have ho := oI hp
  simp only [Prod.mk.injEq] at ho
  obtain ⟨rfl, rfl, rfl⟩ := ho
  exact b_ret1 hf results58 rfl ⟨_, rfl, ⟨rfl, hw⟩⟩
 ·replace hp := cond_f hb9 hp
  refine wp_skip <| ct <| wq <| wr <| om hf rfl rfl fun a hf => ?_
  obtain ⟨hg10, hp⟩ := gS hp
  refine oR hf (r_indexS hf und_9 rfl rfl hg10) rfl fun a hf => oR hf (r_convI hf und_5 und_3 rfl) rfl fun a hf => oa hf rfl rfl fun a hf => oN <| ct <| wp_ret ?_
  have ho := oI hp
  simp only [Prod.mk.injEq] at ho
  obtain ⟨rfl, rfl, rfl⟩ := ho
  exact b_ret1 hf results58 rfl ⟨_, rfl, ⟨rfl, hw⟩⟩
end Go.Lf
