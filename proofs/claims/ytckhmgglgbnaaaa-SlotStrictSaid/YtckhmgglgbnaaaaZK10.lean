import Derived.Test.YtckhmgglgbnaaaaZD
import Derived.Test.YtckhmgglgbnaaaaZF
import Derived.Test.YtckhmgglgbnaaaaUB
import Derived.Test.YtckhmgglgbnaaaaN
import Derived.Test.YtckhmgglgbnaaaaBL
import Derived.Test.YtckhmgglgbnaaaaZK9
set_option linter.unusedVariables false
set_option linter.unusedSimpArgs false
set_option maxHeartbeats 1000000
set_option maxRecDepth 20000
namespace Go.Lf
open Go Go.Proofs.Try
set_option maxHeartbeats 2000000 in
theorem pack_packer_grow_ok (kk : Nat) : ∀ {E : World} {I : IH} {F : List Atom} {w : World} {a0b : Nat} {a0_p_t : List Node} {a0_p_tv81 : Value} {a0_p_paths : List ByteArray} {a0_p_pathsv83 : Value} {a0_p_sheets : List Plan} {a0_p_sheetsv : Value} {a0_p_sheetsm : Nat} {a0_p_sheetscs : List Value} {a1b : Nat} {a1_p_nodes : List Int} {a1_p_nodesv : Value} {a1_p_nodesm : Nat} {a1_p_nodescs : List Value} {a1_p_used : Int} {a1_p_tops : List Int} {a1_p_topsv : Value} {a1_p_topsm : Nat} {a1_p_topscs : List Value} {a2 : Int} {new_a1_p_used : Int} {new_a1_p_nodes : List Int} {new_a1_p_tops : List Int} (hw : Ok E I (.blk a0b (.cells ⟨[a0_p_tv81, a0_p_pathsv83, a0_p_sheetsv]⟩ 80 (0, 0)) :: .row a0_p_sheetsv 26 4 a0_p_sheetsm a0_p_sheetscs :: .blk a1b (.cells ⟨[a1_p_nodesv, Value.int .i64 a1_p_used, a1_p_topsv]⟩ 123 (0, 0)) :: .row a1_p_nodesv 3 1 a1_p_nodesm a1_p_nodescs :: .row a1_p_topsv 3 1 a1_p_topsm a1_p_topscs :: F) w) (hR82 : RS ek_Node I a0_p_tv81 a0_p_t) (hR84 : RS ekS I a0_p_pathsv83 a0_p_paths) (ha0_p_sheets : RowR ek_Plan I a0_p_sheetscs a0_p_sheets) (ha1_p_nodes : RowR (ekI .i64) I a1_p_nodescs a1_p_nodes) (ha1_p_tops : RowR (ekI .i64) I a1_p_topscs a1_p_tops) (hp : pack_packer_grow.f kk a0_p_t a0_p_paths a0_p_sheets a1_p_nodes a1_p_used a1_p_tops a2 = some (new_a1_p_used, new_a1_p_nodes, new_a1_p_tops)),
  Calls P 61 ⟨[Value.pointer (some ⟨a0b, 0, none⟩), Value.pointer (some ⟨a1b, 0, none⟩), Value.int .i64 a2]⟩ w fun e w' => ∃ v, e = .returned v ∧ ∃ rv14137 : Value, ∃ rm14138 : Nat, ∃ rcs14139 : List Value, ∃ rv14141 : Value, ∃ rm14142 : Nat, ∃ rcs14143 : List Value, v = Value.tuple ⟨[]⟩ ∧ Ok E I (.blk a0b (.cells ⟨[a0_p_tv81, a0_p_pathsv83, a0_p_sheetsv]⟩ 80 (0, 0)) :: .row a0_p_sheetsv 26 4 a0_p_sheetsm a0_p_sheetscs :: .blk a1b (.cells ⟨[rv14137, Value.int .i64 new_a1_p_used, rv14141]⟩ 123 (0, 0)) :: .row rv14137 3 1 rm14138 rcs14139 :: .row rv14141 3 1 rm14142 rcs14143 :: F) w' ∧ RowR (ekI .i64) I rcs14139 new_a1_p_nodes ∧ RowR (ekI .i64) I rcs14143 new_a1_p_tops := by
 induction kk with
 | zero =>
  intro E I F w a0b a0_p_t a0_p_tv81 a0_p_paths a0_p_pathsv83 a0_p_sheets a0_p_sheetsv a0_p_sheetsm a0_p_sheetscs a1b a1_p_nodes a1_p_nodesv a1_p_nodesm a1_p_nodescs a1_p_used a1_p_tops a1_p_topsv a1_p_topsm a1_p_topscs a2 new_a1_p_used new_a1_p_nodes new_a1_p_tops hw hR82 hR84 ha0_p_sheets ha1_p_nodes ha1_p_tops hp
  rw [pack_packer_grow.f] at hp
  cases hp
 | succ kk ihr =>
  intro E I F w a0b a0_p_t a0_p_tv81 a0_p_paths a0_p_pathsv83 a0_p_sheets a0_p_sheetsv a0_p_sheetsm a0_p_sheetscs a1b a1_p_nodes a1_p_nodesv a1_p_nodesm a1_p_nodescs a1_p_used a1_p_tops a1_p_topsv a1_p_topsm a1_p_topscs a2 new_a1_p_used new_a1_p_nodes new_a1_p_tops hw hR82 hR84 ha0_p_sheets ha1_p_nodes ha1_p_tops hp
  refine c_enter func61 rfl ntmps61 rfl fun a hf => ?_
  replace hf : Fr 71 [(0, .pointer (some ⟨a0b, 0, none⟩)), (1, .pointer (some ⟨a1b, 0, none⟩)), (2, .int .i64 a2)] a := hf
  rw [pack_packer_grow.f] at hp
  refine wq <| wr <| om hf rfl rfl fun a hf => om hf rfl rfl fun a hf => oR hf (nC hf rfl) rfl fun a hf => oR hf (rF hf rfl fd_123_0) rfl fun a hf => oR hf (rL hw hf rfl ty_24 2 rfl rfl) rfl fun a hf => om hf rfl rfl fun a hf => ?_
  obtain ⟨w, v1, hrun2, hw, hRR3⟩ := e_buildSlice (P := P) (K := (ekI .i64)) (m := 1) hw hf (parts := [(0, .tmp 14)]) el_24 ty_3 rfl rfl rfl (ccs := [[Value.int .i64 a2]]) rfl (xs := [a2]) ⟨rfl, trivial⟩ rfl
  obtain ⟨cs4, hcs⟩ : ∃ cs, cs = ([[Value.int .i64 a2]] : List (List Value)).flatten := ⟨_, rfl⟩
  rw [← hcs] at hw hRR3; clear hcs
  refine o_eff hf (hrun2 ..) rfl fun a hf => ?_
  obtain ⟨hg6, hp⟩ := gS hp
  obtain ⟨w, v7, m8, cs9, hrun11, hw, hRR10⟩ := e_append (P := P) (K := (ekI .i64)) (ty := 24) hw hf (s := .tmp 13) (x := .tmp 15) el_24 ty_3 rfl (by decide) 4 rfl rfl rfl ha1_p_nodes (ys := [a2]) (rR (K := (ekI .i64)) hw (i := 0) rfl hRR3) hg6
  replace hw : Ok E I (.row v1 3 1 1 cs4 :: .blk a0b (.cells ⟨[a0_p_tv81, a0_p_pathsv83, a0_p_sheetsv]⟩ 80 (0, 0)) :: .row a0_p_sheetsv 26 4 a0_p_sheetsm a0_p_sheetscs :: .blk a1b (.cells ⟨[a1_p_nodesv, .int .i64 a1_p_used, a1_p_topsv]⟩ 123 (0, 0)) :: .row v7 3 1 m8 cs9 :: .row a1_p_topsv 3 1 a1_p_topsm a1_p_topscs :: F) w := hw
  refine o_eff hf (hrun11 ..) rfl fun a hf => oR hf (nC hf rfl) rfl fun a hf => oR hf (rF hf rfl fd_123_0) rfl fun a hf => ?_
  obtain ⟨w, hrun12, hw⟩ := e_store (P := P) hw hf (x := .tmp 18) (y := .tmp 16) rfl rfl ty_24 3 rfl (vs := [v7]) (oE (row_one hw (i := 4) rfl)) rfl (oC (row_one hw (i := 4) rfl) ones_nil) (by simp [arrC_len]) (cs' := [v7, .int .i64 a1_p_used, a1_p_topsv]) rfl
  dsimp only [List.set] at hw
  refine o_effU (hrun12 ..) <| oN <| ct <| wq <| wr <| om hf rfl rfl fun a hf => oR hf (nC hf rfl) rfl fun a hf => oR hf (rF hf rfl fd_80_0) rfl fun a hf => oR hf (rL hw hf rfl ty_23 1 rfl rfl) rfl fun a hf => om hf rfl rfl fun a hf => ?_
  obtain ⟨hg13, hp⟩ := gS hp
  refine oR hf (rI (K := ek_Node) hf el_23 rfl rfl (hR82.rd hw) hg13) rfl fun a hf => oR hf (r_fieldAddrH hf rfl fd_51_4) rfl fun a hf => oR hf (r_loadHP (K := ek_Node) hf rfl ty_49 (hR82.rd hw) hg13 rfl (vs := arrC .i64 ((gt a0_p_t a2).kids_)) (fun cs h => Node_arr h) (arrC_len _ _)) rfl fun a hf => om hf rfl rfl fun a hf => oN <| ct ?_
  obtain ⟨out442, hp, hq443⟩ := bS hp
  refine c_cutX (fun a w => ∃ y431 : List Int, ∃ y436 : List Int, ∃ y441 : Int, ∃ yv432 : Value, ∃ m433 : Nat, ∃ cs434 : List Value, ∃ yv437 : Value, ∃ m438 : Nat, ∃ cs439 : List Value, (y431, y436, y441) = out442 ∧ Ok E I (.row v1 3 1 1 cs4 :: .blk a0b (.cells ⟨[a0_p_tv81, a0_p_pathsv83, a0_p_sheetsv]⟩ 80 (0, 0)) :: .row a0_p_sheetsv 26 4 a0_p_sheetsm a0_p_sheetscs :: .blk a1b (.cells ⟨[yv432, .int .i64 y441, yv437]⟩ 123 (0, 0)) :: .row yv432 3 1 m433 cs434 :: .row yv437 3 1 m438 cs439 :: F) w ∧ Fr 71 ([]) a ∧ RowR (ekI .i64) I cs434 y431 ∧ RowR (ekI .i64) I cs439 y436) ?_ ?_
  ·refine wp_block <| c_loop <| c_fuel (pack_packer_grow.l0 a0_p_t a0_p_paths a0_p_sheets a2 (pack_packer_grow.f kk)) out442 (fun (y288, y293, y298, y299) a w => ∃ yv289 : Value, ∃ m290 : Nat, ∃ cs291 : List Value, ∃ yv294 : Value, ∃ m295 : Nat, ∃ cs296 : List Value, Ok E I (.row v1 3 1 1 cs4 :: .blk a0b (.cells ⟨[a0_p_tv81, a0_p_pathsv83, a0_p_sheetsv]⟩ 80 (0, 0)) :: .row a0_p_sheetsv 26 4 a0_p_sheetsm a0_p_sheetscs :: .blk a1b (.cells ⟨[yv289, .int .i64 y298, yv294]⟩ 123 (0, 0)) :: .row yv289 3 1 m290 cs291 :: .row yv294 3 1 m295 cs296 :: F) w ∧ Fr 71 ([(0, .pointer (some ⟨a0b, 0, none⟩)), (1, .pointer (some ⟨a1b, 0, none⟩)), (26, Value.agg ⟨arrC .i64 ((gt a0_p_t a2).kids_)⟩), (27, .int .i64 y299)]) a ∧ RowR (ekI .i64) I cs291 y288 ∧ RowR (ekI .i64) I cs296 y293) (fun _ => rfl) ?_ BIG (a1_p_nodes ++ [a2], a1_p_tops, a1_p_used, 0) _ _ ⟨v7, m8, cs9, a1_p_topsv, a1_p_topsm, a1_p_topscs, hw, hf.to ⟨rfl, rfl, rfl, rfl, trivial⟩, hRR10, ha1_p_tops⟩ hp
   intro k st a w hI hp ih
   obtain ⟨y288, y293, y298, y299⟩ := st
   obtain ⟨yv289, m290, cs291, yv294, m295, cs296, hw, hf, hRR292, hRR297⟩ := hI
   rw [pack_packer_grow.l0] at hp
   refine wq <| wr <| oR hf (iC hf rfl rfl rfl) rfl fun a hf => oN <| ct <| wq <| cC hf rfl (fun hb445 => ?_) (fun hb445 => ?_)
   ·replace hp := cond_t hb445 hp
    refine wp_skip <| ct ?_
    obtain ⟨out535, hp, hq536⟩ := bS hp
    refine c_cut (fun a w => ∃ y524 : List Int, ∃ y529 : List Int, ∃ y534 : Int, ∃ yv525 : Value, ∃ m526 : Nat, ∃ cs527 : List Value, ∃ yv530 : Value, ∃ m531 : Nat, ∃ cs532 : List Value, (y524, y529, y534) = out535 ∧ Ok E I (.row v1 3 1 1 cs4 :: .blk a0b (.cells ⟨[a0_p_tv81, a0_p_pathsv83, a0_p_sheetsv]⟩ 80 (0, 0)) :: .row a0_p_sheetsv 26 4 a0_p_sheetsm a0_p_sheetscs :: .blk a1b (.cells ⟨[yv525, .int .i64 y534, yv530]⟩ 123 (0, 0)) :: .row yv525 3 1 m526 cs527 :: .row yv530 3 1 m531 cs532 :: F) w ∧ Fr 71 ([(0, .pointer (some ⟨a0b, 0, none⟩)), (1, .pointer (some ⟨a1b, 0, none⟩)), (26, Value.agg ⟨arrC .i64 ((gt a0_p_t a2).kids_)⟩), (27, .int .i64 y299)]) a ∧ RowR (ekI .i64) I cs527 y524 ∧ RowR (ekI .i64) I cs532 y529) ?_ ?_
    ·refine wp_block <| wq <| wr ?_
     obtain ⟨hg537, hp⟩ := gS hp
     refine oR hf (r_indexArr hf el_49 ty_3 rfl rfl hg537) rfl fun a hf => oa hf rfl rfl fun a hf => oN <| ct <| wq <| wq <| wr <| om hf rfl rfl fun a hf => oR hf (iC hf rfl rfl rfl) rfl fun a hf => oN <| ct <| cC hf rfl (fun hb538 => ?_) (fun hb538 => ?_)
     ·replace hp := cond_t hb538 hp
      refine wp_exit <| c_thenE <| c_exit <| ct ?_
      have ho := oI hp
      subst ho
      exact ⟨y288, y293, y298, yv289, m290, cs291, yv294, m295, cs296, rfl, hw, hf.to ⟨rfl, rfl, rfl, rfl, trivial⟩, hRR292, hRR297⟩
     ·replace hp := cond_f hb538 hp
      refine wp_skip <| ct <| wq <| wr <| om hf rfl rfl fun a hf => oR hf (nC hf rfl) rfl fun a hf => oR hf (rF hf rfl fd_80_0) rfl fun a hf => oR hf (rL hw hf rfl ty_23 1 rfl rfl) rfl fun a hf => om hf rfl rfl fun a hf => ?_
      obtain ⟨hg539, hp⟩ := gS hp
      refine oR hf (rI (K := ek_Node) hf el_23 rfl rfl (hR82.rd hw) hg539) rfl fun a hf => oR hf (r_loadHP (K := ek_Node) hf rfl ty_51 (hR82.rd hw) hg539 rfl (vs := (.int .i64 ((gt a0_p_t (vg ((gt a0_p_t a2).kids_) y299)).kind_) :: .string ((gt a0_p_t (vg ((gt a0_p_t a2).kids_) y299)).path_) :: .bool ((gt a0_p_t (vg ((gt a0_p_t a2).kids_) y299)).has_) :: .string ((gt a0_p_t (vg ((gt a0_p_t a2).kids_) y299)).value_) :: arrC .i64 ((gt a0_p_t (vg ((gt a0_p_t a2).kids_) y299)).kids_))) (fun cs h => Node_all h) (by simp [arrC_len])) rfl fun a hf => ?_
      obtain ⟨y540, hy541, hp⟩ := bS hp
      have hc543 := pack_size_ok hw hy541
      refine o_call hf cb_41 rfl rfl hc543 (fun v545 w a hK544 hf => ?_)
      obtain ⟨rfl, hw⟩ := hK544
      refine oR hf (r_sub hf rfl rfl) rfl fun a hf => oa hf rfl rfl fun a hf => oN <| ct <| wq <| wq <| wr <| om hf rfl rfl fun a hf => oR hf (nC hf rfl) rfl fun a hf => oR hf (rF hf rfl fd_123_1) rfl fun a hf => oR hf (rL hw hf rfl ty_3 3 rfl rfl) rfl fun a hf => om hf rfl rfl fun a hf => oR hf (r_add hf rfl rfl) rfl fun a hf => oR hf (iC hf rfl rfl rfl) rfl fun a hf => oN <| ct ?_
      refine cC hf rfl (fun hb546 => ?_) (fun hb546 => ?_)
      ·replace hp := cond_t hb546 hp
       refine wq <| wr <| om hf rfl rfl fun a hf => om hf rfl rfl fun a hf => oR hf (nC hf rfl) rfl fun a hf => oR hf (rF hf rfl fd_123_2) rfl fun a hf => oR hf (rL hw hf rfl ty_24 3 rfl rfl) rfl fun a hf => om hf rfl rfl fun a hf => ?_
       obtain ⟨w, v547, hrun548, hw, hRR549⟩ := e_buildSlice (P := P) (K := (ekI .i64)) (m := 1) hw hf (parts := [(0, .tmp 53)]) el_24 ty_3 rfl rfl rfl (ccs := [[Value.int .i64 (vg ((gt a0_p_t a2).kids_) y299)]]) rfl (xs := [vg ((gt a0_p_t a2).kids_) y299]) ⟨rfl, trivial⟩ rfl
       obtain ⟨cs550, hcs⟩ : ∃ cs, cs = ([[Value.int .i64 (vg ((gt a0_p_t a2).kids_) y299)]] : List (List Value)).flatten := ⟨_, rfl⟩
       rw [← hcs] at hw hRR549; clear hcs
       refine o_eff hf (hrun548 ..) rfl fun a hf => ?_
       obtain ⟨hg552, hp⟩ := gS hp
       obtain ⟨w, v553, m554, cs555, hrun557, hw, hRR556⟩ := e_append (P := P) (K := (ekI .i64)) (ty := 24) hw hf (s := .tmp 52) (x := .tmp 54) el_24 ty_3 rfl (by decide) 6 rfl rfl rfl hRR297 (ys := [vg ((gt a0_p_t a2).kids_) y299]) (rR (K := (ekI .i64)) hw (i := 0) rfl hRR549) hg552
       replace hw : Ok E I (.row v547 3 1 1 cs550 :: .row v1 3 1 1 cs4 :: .blk a0b (.cells ⟨[a0_p_tv81, a0_p_pathsv83, a0_p_sheetsv]⟩ 80 (0, 0)) :: .row a0_p_sheetsv 26 4 a0_p_sheetsm a0_p_sheetscs :: .blk a1b (.cells ⟨[yv289, .int .i64 y298, yv294]⟩ 123 (0, 0)) :: .row yv289 3 1 m290 cs291 :: .row v553 3 1 m554 cs555 :: F) w := hw
       refine o_eff hf (hrun557 ..) rfl fun a hf => oR hf (nC hf rfl) rfl fun a hf => oR hf (rF hf rfl fd_123_2) rfl fun a hf => ?_
       obtain ⟨w, hrun558, hw⟩ := e_store (P := P) hw hf (x := .tmp 57) (y := .tmp 55) rfl rfl ty_24 4 rfl (vs := [v553]) (oE (row_one hw (i := 6) rfl)) rfl (oC (row_one hw (i := 6) rfl) ones_nil) (by simp [arrC_len]) (cs' := [yv289, .int .i64 y298, v553]) rfl
       dsimp only [List.set] at hw
       refine o_effU (hrun558 ..) <| oN <| ct <| wp_exit <| c_thenE <| c_exit <| ct ?_
       have ho := oI hp
       subst ho
       replace hw : Ok E I (.row v1 3 1 1 cs4 :: .blk a0b (.cells ⟨[a0_p_tv81, a0_p_pathsv83, a0_p_sheetsv]⟩ 80 (0, 0)) :: .row a0_p_sheetsv 26 4 a0_p_sheetsm a0_p_sheetscs :: .blk a1b (.cells ⟨[yv289, .int .i64 y298, v553]⟩ 123 (0, 0)) :: .row yv289 3 1 m290 cs291 :: .row v553 3 1 m554 cs555 :: F) w := hw.sub (sc (scc (scc (scc (scc (scc (scc sr)))))))
       exact ⟨y288, (y293 ++ [vg ((gt a0_p_t a2).kids_) y299]), y298, yv289, m290, cs291, v553, m554, cs555, rfl, hw, hf.to ⟨rfl, rfl, rfl, rfl, trivial⟩, hRR292, hRR556⟩
      ·replace hp := cond_f hb546 hp
       refine wp_skip <| ct <| wq <| wr <| om hf rfl rfl fun a hf => oR hf (nC hf rfl) rfl fun a hf => oR hf (rF hf rfl fd_123_1) rfl fun a hf => oR hf (rL hw hf rfl ty_3 3 rfl rfl) rfl fun a hf => om hf rfl rfl fun a hf => oR hf (r_add hf rfl rfl) rfl fun a hf => oR hf (nC hf rfl) rfl fun a hf => oR hf (rF hf rfl fd_123_1) rfl fun a hf => ?_
       obtain ⟨w, hrun559, hw⟩ := e_store (P := P) hw hf (x := .tmp 65) (y := .tmp 63) rfl rfl ty_3 3 rfl (vs := [.int .i64 (w64 (y298 + (w64 (y540 - 3))))]) (oE rfl) rfl (oC rfl ones_nil) (by simp [arrC_len]) (cs' := [yv289, .int .i64 (w64 (y298 + (w64 (y540 - 3)))), yv294]) rfl
       dsimp only [List.set] at hw
       refine o_effU (hrun559 ..) <| oN <| ct <| wr <| om hf rfl rfl fun a hf => om hf rfl rfl fun a hf => om hf rfl rfl fun a hf => ?_
       replace hw : Ok E I (.blk a0b (.cells ⟨[a0_p_tv81, a0_p_pathsv83, a0_p_sheetsv]⟩ 80 (0, 0)) :: .row a0_p_sheetsv 26 4 a0_p_sheetsm a0_p_sheetscs :: .blk a1b (.cells ⟨[yv289, .int .i64 (w64 (y298 + (w64 (y540 - 3)))), yv294]⟩ 123 (0, 0)) :: .row yv289 3 1 m290 cs291 :: .row yv294 3 1 m295 cs296 :: .row v1 3 1 1 cs4 :: F) w := ((((hw.front (i := 5) rfl).front (i := 5) rfl).front (i := 5) rfl).front (i := 5) rfl).front (i := 5) rfl
       obtain ⟨y564, hy563, hp⟩ := bS hp
       obtain ⟨y560, y561, y562⟩ := y564
       have hc565 := ihr hw hR82 hR84 ha0_p_sheets hRR292 hRR297 hy563
       refine o_call hf cb_61 rfl rfl hc565 (fun v575 w a hK566 hf => ?_)
       obtain ⟨rv567, rm568, rcs569, rv571, rm572, rcs573, rfl, hw, hRR570, hRR574⟩ := hK566
       refine oN <| c_blockN <| ct ?_
       have ho := oI hp
       subst ho
       replace hw : Ok E I (.row v1 3 1 1 cs4 :: .blk a0b (.cells ⟨[a0_p_tv81, a0_p_pathsv83, a0_p_sheetsv]⟩ 80 (0, 0)) :: .row a0_p_sheetsv 26 4 a0_p_sheetsm a0_p_sheetscs :: .blk a1b (.cells ⟨[rv567, .int .i64 y560, rv571]⟩ 123 (0, 0)) :: .row rv567 3 1 rm568 rcs569 :: .row rv571 3 1 rm572 rcs573 :: F) w := (((((hw.front (i := 4) rfl).front (i := 4) rfl).front (i := 4) rfl).front (i := 4) rfl).front (i := 4) rfl).front (i := 5) rfl
       exact ⟨y561, y562, y560, rv567, rm568, rcs569, rv571, rm572, rcs573, rfl, hw, hf.to ⟨rfl, rfl, rfl, rfl, trivial⟩, hRR570, hRR574⟩
    ·intro a w hM
     obtain ⟨y524, y529, y534, yv525, m526, cs527, yv530, m531, cs532, rfl, hw, hf, hRR528, hRR533⟩ := hM
     replace hp := hq536
     refine wr <| oR hf (r_add hf rfl rfl) rfl fun a hf => om hf rfl rfl fun a hf => oN <| ct ?_
     exact ih (y524, y529, y534, w64 (y299 + 1)) _ _ ⟨yv525, m526, cs527, yv530, m531, cs532, hw, hf.to ⟨rfl, rfl, rfl, rfl, trivial⟩, hRR528, hRR533⟩ hp
   ·replace hp := cond_f hb445 hp
    refine wp_exit <| c_thenE <| c_thenE <| c_exit <| ct ?_
    have ho := oI hp
    subst ho
    exact ⟨y288, y293, y298, yv289, m290, cs291, yv294, m295, cs296, rfl, hw, hf.to trivial, hRR292, hRR297⟩
  ·intro a w hM
   obtain ⟨y431, y436, y441, yv432, m433, cs434, yv437, m438, cs439, rfl, hw, hf, hRR435, hRR440⟩ := hM
   replace hp := hq443
   replace hw : Ok E I (.blk a0b (.cells ⟨[a0_p_tv81, a0_p_pathsv83, a0_p_sheetsv]⟩ 80 (0, 0)) :: .row a0_p_sheetsv 26 4 a0_p_sheetsm a0_p_sheetscs :: .blk a1b (.cells ⟨[yv432, .int .i64 y441, yv437]⟩ 123 (0, 0)) :: .row yv432 3 1 m433 cs434 :: .row yv437 3 1 m438 cs439 :: F) w := hw.sub (sc (scc (scc (scc (scc (scc sr))))))
   have ho := oI hp
   simp only [Prod.mk.injEq] at ho
   obtain ⟨rfl, rfl, rfl⟩ := ho
   exact b_end0 hf results61 ⟨_, rfl, ⟨yv432, m433, cs434, yv437, m438, cs439, rfl, hw, hRR435, hRR440⟩⟩

set_option maxHeartbeats 2000000 in
theorem pack_packer_sheet_ok (kk : Nat) : ∀ {E : World} {I : IH} {F : List Atom} {w : World} {a0b : Nat} {a0_p_t : List Node} {a0_p_tv87 : Value} {a0_p_paths : List ByteArray} {a0_p_pathsv89 : Value} {a0_p_sheets : List Plan} {a0_p_sheetsv : Value} {a0_p_sheetsm : Nat} {a0_p_sheetscs : List Value} {a1 : Int} {res0 : Int} {new_a0_p_sheets : List Plan} (hw : Ok E I (.blk a0b (.cells ⟨[a0_p_tv87, a0_p_pathsv89, a0_p_sheetsv]⟩ 80 (0, 0)) :: .row a0_p_sheetsv 26 4 a0_p_sheetsm a0_p_sheetscs :: F) w) (hR88 : RS ek_Node I a0_p_tv87 a0_p_t) (hR90 : RS ekS I a0_p_pathsv89 a0_p_paths) (ha0_p_sheets : RowR ek_Plan I a0_p_sheetscs a0_p_sheets) (hp : pack_packer_sheet.f kk a0_p_t a0_p_paths a0_p_sheets a1 = some (res0, new_a0_p_sheets)),
  Calls P 36 ⟨[Value.pointer (some ⟨a0b, 0, none⟩), Value.int .i64 a1]⟩ w fun e w' => ∃ v, e = .returned v ∧ ∃ I2 : IH, ∃ rv14145 : Value, ∃ rm14146 : Nat, ∃ rcs14147 : List Value, v = Value.int .i64 res0 ∧ IH.le I I2 ∧ Ok E I2 (.blk a0b (.cells ⟨[a0_p_tv87, a0_p_pathsv89, rv14145]⟩ 80 (0, 0)) :: .row rv14145 26 4 rm14146 rcs14147 :: F) w' ∧ RowR ek_Plan I2 rcs14147 new_a0_p_sheets := by
 induction kk with
 | zero =>
  intro E I F w a0b a0_p_t a0_p_tv87 a0_p_paths a0_p_pathsv89 a0_p_sheets a0_p_sheetsv a0_p_sheetsm a0_p_sheetscs a1 res0 new_a0_p_sheets hw hR88 hR90 ha0_p_sheets hp
  rw [pack_packer_sheet.f] at hp
  cases hp
 | succ kk ihr =>
  intro E I F w a0b a0_p_t a0_p_tv87 a0_p_paths a0_p_pathsv89 a0_p_sheets a0_p_sheetsv a0_p_sheetsm a0_p_sheetscs a1 res0 new_a0_p_sheets hw hR88 hR90 ha0_p_sheets hp
  refine c_enter func36 rfl ntmps36 rfl fun a hf => ?_
  replace hf : Fr 78 [(0, .pointer (some ⟨a0b, 0, none⟩)), (1, .int .i64 a1)] a := hf
  rw [pack_packer_sheet.f] at hp
  refine wq <| wr <| oa hf rfl rfl fun a hf => oN <| ct <| wq <| wr <| om hf rfl rfl fun a hf => oR hf (nC hf rfl) rfl fun a hf => oR hf (rF hf rfl fd_80_2) rfl fun a hf => oR hf (rL hw hf rfl ty_29 0 rfl rfl) rfl fun a hf => oR hf (r_lenL (K := ek_Plan) hf el_29 rfl (rR (K := ek_Plan) hw (i := 1) rfl ha0_p_sheets)) rfl fun a hf => oa hf rfl rfl fun a hf => oN <| ct <| wq ?_
  refine wr <| om hf rfl rfl fun a hf => oR hf (nC hf rfl) rfl fun a hf => oR hf (rF hf rfl fd_80_0) rfl fun a hf => oR hf (rL hw hf rfl ty_23 0 rfl rfl) rfl fun a hf => om hf rfl rfl fun a hf => ?_
  obtain ⟨hg1, hp⟩ := gS hp
  refine oR hf (rI (K := ek_Node) hf el_23 rfl rfl (hR88.rd hw) hg1) rfl fun a hf => oR hf (r_loadHP (K := ek_Node) hf rfl ty_51 (hR88.rd hw) hg1 rfl (vs := (.int .i64 ((gt a0_p_t a1).kind_) :: .string ((gt a0_p_t a1).path_) :: .bool ((gt a0_p_t a1).has_) :: .string ((gt a0_p_t a1).value_) :: arrC .i64 ((gt a0_p_t a1).kids_))) (fun cs h => Node_all h) (by simp [arrC_len])) rfl fun a hf => ?_
  obtain ⟨y2, hy3, hp⟩ := bS hp
  have hc5 := pack_size_ok hw hy3
  refine o_call hf cb_41 rfl rfl hc5 (fun v7 w a hK6 hf => ?_)
  obtain ⟨rfl, hw⟩ := hK6
  refine oR hf (r_build hf bd_123 (vs := [.int .i64 y2]) rfl ⟨rfl, trivial⟩ (by decide) (out := [.slice none 0 0, .int .i64 y2, .slice none 0 0]) rfl) rfl fun a hf => ?_
  obtain ⟨b8, w, hrun9, hw⟩ := e_box (P := P) hw hf (e := 123) (x := .tmp 23) rfl (cs := [Value.slice none 0 0, Value.int .i64 y2, Value.slice none 0 0]) rfl
  refine o_eff hf (hrun9 ..) rfl fun a hf => oa hf rfl rfl fun a hf => oN <| ct <| wq <| wr <| om hf rfl rfl fun a hf => om hf rfl rfl fun a hf => om hf rfl rfl fun a hf => ?_
  replace hw := hw.nilrow 3 1
  have hRR12 : RowR (ekI .i64) I [] [] := RowR.nil
  replace hw := hw.nilrow 3 1
  have hRR14 : RowR (ekI .i64) I [] [] := RowR.nil
  replace hw : Ok E I (.blk a0b (.cells ⟨[a0_p_tv87, a0_p_pathsv89, a0_p_sheetsv]⟩ 80 (0, 0)) :: .row a0_p_sheetsv 26 4 a0_p_sheetsm a0_p_sheetscs :: .blk b8 (.cells ⟨[(.slice none 0 0), .int .i64 y2, (.slice none 0 0)]⟩ 123 (0, 0)) :: .row (.slice none 0 0) 3 1 0 [] :: .row (.slice none 0 0) 3 1 0 [] :: F) w := ((((hw.front (i := 0) rfl).front (i := 1) rfl).front (i := 2) rfl).front (i := 4) rfl).front (i := 4) rfl
  obtain ⟨y19, hy18, hp⟩ := bS hp
  obtain ⟨y15, y16, y17⟩ := y19
  have hc20 := pack_packer_grow_ok BIG hw hR88 hR90 ha0_p_sheets hRR12 hRR14 hy18
  refine o_call hf cb_61 rfl rfl hc20 (fun v30 w a hK21 hf => ?_)
  obtain ⟨rv22, rm23, rcs24, rv26, rm27, rcs28, rfl, hw, hRR25, hRR29⟩ := hK21
  refine oN <| ct <| wq <| wr <| om hf rfl rfl fun a hf => om hf rfl rfl fun a hf => oR hf (nC hf rfl) rfl fun a hf => oR hf (rF hf rfl fd_80_2) rfl fun a hf => oR hf (rL hw hf rfl ty_29 0 rfl rfl) rfl fun a hf => oR hf (r_build hf bd_26 (vs := []) rfl trivial (by decide) (out := [.string e0, .int .i64 0, .slice none 0 0, .slice none 0 0]) rfl) rfl fun a hf => ?_
  obtain ⟨w, v31, hrun32, hw, hRR33⟩ := e_buildSlice (P := P) (K := ek_Plan) (m := 1) hw hf (parts := [(0, .tmp 34)]) el_29 ty_26 rfl rfl rfl (ccs := [[Value.string e0, Value.int .i64 0, Value.slice none 0 0, Value.slice none 0 0]]) rfl (xs := [(⟨e0, 0, ([] : List Int), ([] : List Int)⟩ : Plan)]) ⟨⟨_, _, rfl, RS.nil, RS.nil⟩, trivial⟩ rfl
  obtain ⟨cs34, hcs⟩ : ∃ cs, cs = ([[Value.string e0, Value.int .i64 0, Value.slice none 0 0, Value.slice none 0 0]] : List (List Value)).flatten := ⟨_, rfl⟩
  rw [← hcs] at hw hRR33; clear hcs
  refine o_eff hf (hrun32 ..) rfl fun a hf => ?_
  obtain ⟨hg36, hp⟩ := gS hp
  obtain ⟨w, v37, m38, cs39, hrun41, hw, hRR40⟩ := e_append (P := P) (K := ek_Plan) (ty := 29) hw hf (s := .tmp 33) (x := .tmp 35) el_29 ty_26 rfl (by decide) 2 rfl rfl rfl ha0_p_sheets (ys := [(⟨e0, 0, ([] : List Int), ([] : List Int)⟩ : Plan)]) (rR (K := ek_Plan) hw (i := 0) rfl hRR33) hg36
  replace hw : Ok E I (.row v31 26 4 1 cs34 :: .blk a0b (.cells ⟨[a0_p_tv87, a0_p_pathsv89, a0_p_sheetsv]⟩ 80 (0, 0)) :: .row v37 26 4 m38 cs39 :: .blk b8 (.cells ⟨[rv22, .int .i64 y15, rv26]⟩ 123 (0, 0)) :: .row rv22 3 1 rm23 rcs24 :: .row rv26 3 1 rm27 rcs28 :: F) w := hw
  refine o_eff hf (hrun41 ..) rfl fun a hf => oR hf (nC hf rfl) rfl fun a hf => oR hf (rF hf rfl fd_80_2) rfl fun a hf => ?_
  obtain ⟨w, hrun42, hw⟩ := e_store (P := P) hw hf (x := .tmp 38) (y := .tmp 36) rfl rfl ty_29 1 rfl (vs := [v37]) (oE (row_one hw (i := 2) rfl)) rfl (oC (row_one hw (i := 2) rfl) ones_nil) (by simp [arrC_len]) (cs' := [a0_p_tv87, a0_p_pathsv89, v37]) rfl
  dsimp only [List.set] at hw
  refine o_effU (hrun42 ..) <| oN <| ct <| wq <| c_drawn mix [14] (.rd 0 (.rd 1 (.rd 2 (.rd 3 (.rd 4 (.rd 5 (.rd 6 (.rd 7 (.rd 8 (.rd 9 (.rd 10 (.rd 11 (.rd 12 (.ef 13 (.ef 14 .done))))))))))))))) (by kernel_rfl) hw (fun w => Ok E I (.row v31 26 4 1 cs34 :: .blk a0b (.cells ⟨[a0_p_tv87, a0_p_pathsv89, v37]⟩ 80 (0, 0)) :: .row v37 26 4 m38 cs39 :: .blk b8 (.cells ⟨[rv22, .int .i64 y15, rv26]⟩ 123 (0, 0)) :: .row rv22 3 1 rm23 rcs24 :: .row rv26 3 1 rm27 rcs28 :: F) w) (fun w hw => ⟨hw.sub (scc (scc (scc (scc (scc (scc sr)))))), ?_⟩)
  refine tm rfl hf rfl rfl fun a hf => tR rfl hf (fun w hw => nC hf rfl) rfl fun a hf => tR rfl hf (fun w hw => rF hf rfl fd_80_1) rfl fun a hf => tR rfl hf (fun w hw => rL hw hf rfl ty_45 1 rfl rfl) rfl fun a hf => tm rfl hf rfl rfl fun a hf => ?_
  obtain ⟨hg44, hp⟩ := gS hp
  refine tR rfl hf (fun w hw => rI (K := ekS) hf el_45 rfl rfl (hR90.rd hw) hg44) rfl fun a hf => tR rfl hf (fun w hw => r_loadH (K := ekS) hf rfl ty_9 (hR90.rd hw) hg44 rfl (fun cs h => ekS_f0 h)) rfl fun a hf => tm rfl hf rfl rfl fun a hf => tm rfl hf rfl rfl fun a hf => tR rfl hf (fun w hw => nC hf rfl) rfl fun a hf => tR rfl hf (fun w hw => rF hf rfl fd_123_0) rfl fun a hf => tR rfl hf (fun w hw => rL hw hf rfl ty_24 3 rfl rfl) rfl fun a hf => ?_
  have ho45 := row_one hw (i := 4) rfl
  refine tR rfl hf (fun w hw => r_build hf bd_26 (vs := [.string (gt a0_p_paths a1), .int .i64 a1, rv22]) rfl ⟨rfl, rfl, ho45, trivial⟩ (by decide) (out := [.string (gt a0_p_paths a1), .int .i64 a1, rv22, .slice none 0 0]) rfl) rfl fun a hf => t_ef rfl ?_
  obtain ⟨b46, w, hrun47, hw⟩ := e_alloc (P := P) (a := a) hw ty_26
  refine t_eff hf (hrun47 ..) rfl fun a hf => ⟨.inr (hw.back (IH.le_refl _) (sc (scc (scc (scc (scc (scc (scc sr)))))))), ?_⟩
  refine t_ef rfl ?_
  obtain ⟨w, hrun49, hw⟩ := e_store (P := P) hw hf (x := .tmp 7) (y := .tmp 51) rfl rfl ty_26 0 rfl (vs := [.string (gt a0_p_paths a1), .int .i64 a1, rv22, .slice none 0 0]) rfl rfl (oC rfl (oC rfl (oC (row_one hw (i := 5) rfl) (oC rfl ones_nil)))) (by simp [arrC_len]) (cs' := [.string (gt a0_p_paths a1), .int .i64 a1, rv22, .slice none 0 0]) rfl
  dsimp only [List.set] at hw
  refine t_effU (hrun49 ..) ⟨.inl rfl, ?_⟩
  refine t_done <| ct <| wq <| wq <| wr <| om hf rfl rfl fun a hf => oR hf (nC hf rfl) rfl fun a hf => oR hf (rF hf rfl fd_123_2) rfl fun a hf => oR hf (rL hw hf rfl ty_24 4 rfl rfl) rfl fun a hf => oR hf (r_lenL (K := (ekI .i64)) hf el_24 rfl (rR (K := (ekI .i64)) hw (i := 6) rfl hRR29)) rfl fun a hf => om hf rfl rfl fun a hf => oN <| ct ?_
  replace hw := hw.nilrow 3 1
  have hRR80 : RowR (ekI .i64) I [] [] := RowR.nil
  obtain ⟨out197, hp, hq198⟩ := bS hp
  refine c_cutX (fun a w => ∃ y187 : List Int, ∃ y192 : List Plan, ∃ I186 : IH, ∃ yv188 : Value, ∃ m189 : Nat, ∃ cs190 : List Value, ∃ yv193 : Value, ∃ m194 : Nat, ∃ cs195 : List Value, (y187, y192) = out197 ∧ IH.le I I186 ∧ Ok E I186 (.row yv188 3 1 m189 cs190 :: .blk b46 (.cells ⟨[.string (gt a0_p_paths a1), .int .i64 a1, rv22, yv188]⟩ 26 (0, 0)) :: .row v31 26 4 1 cs34 :: .blk a0b (.cells ⟨[a0_p_tv87, a0_p_pathsv89, yv193]⟩ 80 (0, 0)) :: .row yv193 26 4 m194 cs195 :: .blk b8 (.cells ⟨[rv22, .int .i64 y15, rv26]⟩ 123 (0, 0)) :: .row rv22 3 1 rm23 rcs24 :: .row rv26 3 1 rm27 rcs28 :: F) w ∧ Fr 78 ([(0, .pointer (some ⟨a0b, 0, none⟩)), (5, .int .i64 (a0_p_sheets.length : Int)), (7, .pointer (some ⟨b46, 0, none⟩))]) a ∧ RowR (ekI .i64) I186 cs190 y187 ∧ RowR ek_Plan I186 cs195 y192) ?_ ?_
  ·refine wp_block <| c_loop <| c_fuel (pack_packer_sheet.l0 a0_p_t a0_p_paths y17 (pack_packer_sheet.f kk)) out197 (fun (y148, y153, y158) a w => ∃ I147 : IH, ∃ yv149 : Value, ∃ m150 : Nat, ∃ cs151 : List Value, ∃ yv154 : Value, ∃ m155 : Nat, ∃ cs156 : List Value, IH.le I I147 ∧ Ok E I147 (.row yv149 3 1 m150 cs151 :: .blk b46 (.cells ⟨[.string (gt a0_p_paths a1), .int .i64 a1, rv22, yv149]⟩ 26 (0, 0)) :: .row v31 26 4 1 cs34 :: .blk a0b (.cells ⟨[a0_p_tv87, a0_p_pathsv89, yv154]⟩ 80 (0, 0)) :: .row yv154 26 4 m155 cs156 :: .blk b8 (.cells ⟨[rv22, .int .i64 y15, rv26]⟩ 123 (0, 0)) :: .row rv22 3 1 rm23 rcs24 :: .row rv26 3 1 rm27 rcs28 :: F) w ∧ Fr 78 ([(0, .pointer (some ⟨a0b, 0, none⟩)), (5, .int .i64 (a0_p_sheets.length : Int)), (7, .pointer (some ⟨b46, 0, none⟩)), (55, rv26), (56, .int .i64 (y17.length : Int)), (57, .int .i64 y158)]) a ∧ RowR (ekI .i64) I147 cs151 y148 ∧ RowR ek_Plan I147 cs156 y153) (fun _ => rfl) ?_ BIG (([] : List Int), a0_p_sheets ++ [(⟨e0, 0, ([] : List Int), ([] : List Int)⟩ : Plan)], 0) _ _ ⟨I, (.slice none 0 0), 0, [], v37, m38, cs39, (IH.le_refl _), hw, hf.to ⟨rfl, rfl, rfl, rfl, rfl, rfl, trivial⟩, hRR80, hRR40⟩ hp
   intro k st a w hI hp ih
   obtain ⟨y148, y153, y158⟩ := st
   obtain ⟨I147, yv149, m150, cs151, yv154, m155, cs156, hle199, hw, hf, hRR152, hRR157⟩ := hI
   rw [pack_packer_sheet.l0] at hp
   replace hRR33 := hRR33.mono hle199
   replace hR88 := hR88.mono hle199
   replace hR90 := hR90.mono hle199
   replace hRR25 := hRR25.mono hle199
   replace hRR29 := hRR29.mono hle199
   refine wq <| wr <| oR hf (iC hf rfl rfl rfl) rfl fun a hf => oN <| ct <| wq <| cC hf rfl (fun hb200 => ?_) (fun hb200 => ?_)
   ·replace hp := cond_t hb200 hp
    refine wp_skip <| ct <| wq <| wp_block <| wq <| wr ?_
    obtain ⟨hg201, hp⟩ := gS hp
    refine oR hf (rI (K := (ekI .i64)) hf el_24 rfl rfl (rR (K := (ekI .i64)) hw (i := 7) rfl hRR29) hg201) rfl fun a hf => oR hf (r_loadH (K := (ekI .i64)) hf rfl ty_3 (rR (K := (ekI .i64)) hw (i := 7) rfl hRR29) hg201 rfl (fun cs h => ekI_f0 h)) rfl fun a hf => oa hf rfl rfl fun a hf => oN <| ct <| c_drawn mix [8] (.rd 0 (.rd 1 (.rd 2 (.rd 3 (.ef 4 (.ef 5 (.ef 6 (.rd 7 (.ef 8 .done))))))))) (by kernel_rfl) hw (fun w => Ok E I147 (.blk b46 (.cells ⟨[.string (gt a0_p_paths a1), .int .i64 a1, rv22, yv149]⟩ 26 (0, 0)) :: .row v31 26 4 1 cs34 :: .blk b8 (.cells ⟨[rv22, .int .i64 y15, rv26]⟩ 123 (0, 0)) :: .row rv22 3 1 rm23 rcs24 :: .row rv26 3 1 rm27 rcs28 :: F) w) (fun w hw => ⟨hw.sub (sc (scc (scc (sc (sc (scc (scc (scc sr)))))))), ?_⟩)
    refine tR rfl hf (fun w hw => rF hf rfl fd_26_3) rfl fun a hf => tR rfl hf (fun w hw => rL hw hf rfl ty_24 0 rfl rfl) rfl fun a hf => tm rfl hf rfl rfl fun a hf => tm rfl hf rfl rfl fun a hf => t_ef rfl ?_
    replace hw : Ok E I147 (.blk a0b (.cells ⟨[a0_p_tv87, a0_p_pathsv89, yv154]⟩ 80 (0, 0)) :: .row yv154 26 4 m155 cs156 :: .row yv149 3 1 m150 cs151 :: .blk b46 (.cells ⟨[.string (gt a0_p_paths a1), .int .i64 a1, rv22, yv149]⟩ 26 (0, 0)) :: .row v31 26 4 1 cs34 :: .blk b8 (.cells ⟨[rv22, .int .i64 y15, rv26]⟩ 123 (0, 0)) :: .row rv22 3 1 rm23 rcs24 :: .row rv26 3 1 rm27 rcs28 :: F) w := (hw.front (i := 4) rfl).front (i := 4) rfl
    obtain ⟨y206, hy205, hp⟩ := bS hp
    obtain ⟨y203, y204⟩ := y206
    have hc207 := ihr hw hR88 hR90 hRR157 hy205
    refine t_call hf cb_36 rfl rfl hc207 (fun v213 w a hK208 hf => ?_)
    obtain ⟨I2_208, rv209, rm210, rcs211, rfl, hle214, hw, hRR212⟩ := hK208
    replace hR88 := hR88.mono hle214
    replace hR90 := hR90.mono hle214
    replace hRR152 := hRR152.mono hle214
    replace hRR33 := hRR33.mono hle214
    replace hRR25 := hRR25.mono hle214
    replace hRR29 := hRR29.mono hle214
    refine ⟨.inr (hw.back hle214 (sc (sc (sc (scc (scc (scc (scc (scc sr))))))))), ?_⟩
    refine t_ef rfl ?_
    obtain ⟨w, v215, hrun216, hw, hRR217⟩ := e_buildSlice (P := P) (K := (ekI .i64)) (m := 1) hw hf (parts := [(0, .tmp 65)]) el_24 ty_3 rfl rfl rfl (ccs := [[Value.int .i64 y203]]) rfl (xs := [y203]) ⟨rfl, trivial⟩ rfl
    obtain ⟨cs218, hcs⟩ : ∃ cs, cs = ([[Value.int .i64 y203]] : List (List Value)).flatten := ⟨_, rfl⟩
    rw [← hcs] at hw hRR217; clear hcs
    refine t_eff hf (hrun216 ..) rfl fun a hf => ⟨.inr (hw.back hle214 (sc (sc (sc (sc (scc (scc (scc (scc (scc sr)))))))))), ?_⟩
    refine t_ef rfl ?_
    obtain ⟨hg220, hp⟩ := gS hp
    obtain ⟨w, v221, m222, cs223, hrun225, hw, hRR224⟩ := e_append (P := P) (K := (ekI .i64)) (ty := 24) hw hf (s := .tmp 62) (x := .tmp 66) el_24 ty_3 rfl (by decide) 3 rfl rfl rfl hRR152 (ys := [y203]) (rR (K := (ekI .i64)) hw (i := 0) rfl hRR217) hg220
    replace hw : Ok E I2_208 (.row v215 3 1 1 cs218 :: .blk a0b (.cells ⟨[a0_p_tv87, a0_p_pathsv89, rv209]⟩ 80 (0, 0)) :: .row rv209 26 4 rm210 rcs211 :: .row v221 3 1 m222 cs223 :: .blk b46 (.cells ⟨[.string (gt a0_p_paths a1), .int .i64 a1, rv22, yv149]⟩ 26 (0, 0)) :: .row v31 26 4 1 cs34 :: .blk b8 (.cells ⟨[rv22, .int .i64 y15, rv26]⟩ 123 (0, 0)) :: .row rv22 3 1 rm23 rcs24 :: .row rv26 3 1 rm27 rcs28 :: F) w := hw
    refine t_eff hf (hrun225 ..) rfl fun a hf => ⟨.inr (hw.back hle214 (sc (sc (sc (sc (scc (scc (scc (scc (scc sr)))))))))), ?_⟩
    refine tR rfl hf (fun w hw => rF hf rfl fd_26_3) rfl fun a hf => t_ef rfl ?_
    obtain ⟨w, hrun226, hw⟩ := e_store (P := P) hw hf (x := .tmp 68) (y := .tmp 67) rfl rfl ty_24 4 rfl (vs := [v221]) (oE (row_one hw (i := 3) rfl)) rfl (oC (row_one hw (i := 3) rfl) ones_nil) (by simp [arrC_len]) (cs' := [.string (gt a0_p_paths a1), .int .i64 a1, rv22, v221]) rfl
    replace hw : Ok E I2_208 (.row v215 3 1 1 cs218 :: .blk a0b (.cells ⟨[a0_p_tv87, a0_p_pathsv89, rv209]⟩ 80 (0, 0)) :: .row rv209 26 4 rm210 rcs211 :: .row v221 3 1 m222 cs223 :: .blk b46 (.cells ⟨[.string (gt a0_p_paths a1), .int .i64 a1, rv22, v221]⟩ 26 (0, 0)) :: .row v31 26 4 1 cs34 :: .blk b8 (.cells ⟨[rv22, .int .i64 y15, rv26]⟩ 123 (0, 0)) :: .row rv22 3 1 rm23 rcs24 :: .row rv26 3 1 rm27 rcs28 :: F) w := hw
    refine t_effU (hrun226 ..) ⟨.inl rfl, ?_⟩
    refine t_done <| c_blockN <| ct <| wr <| oR hf (r_add hf rfl rfl) rfl fun a hf => om hf rfl rfl fun a hf => oN <| ct ?_
    replace hw : Ok E I2_208 (.row v221 3 1 m222 cs223 :: .blk b46 (.cells ⟨[.string (gt a0_p_paths a1), .int .i64 a1, rv22, v221]⟩ 26 (0, 0)) :: .row v31 26 4 1 cs34 :: .blk a0b (.cells ⟨[a0_p_tv87, a0_p_pathsv89, rv209]⟩ 80 (0, 0)) :: .row rv209 26 4 rm210 rcs211 :: .blk b8 (.cells ⟨[rv22, .int .i64 y15, rv26]⟩ 123 (0, 0)) :: .row rv22 3 1 rm23 rcs24 :: .row rv26 3 1 rm27 rcs28 :: .row v215 3 1 1 cs218 :: F) w := (((((((hw.front (i := 8) rfl).front (i := 8) rfl).front (i := 8) rfl).front (i := 5) rfl).front (i := 5) rfl).front (i := 8) rfl).front (i := 8) rfl).front (i := 8) rfl
    replace hw : Ok E I2_208 (.row v221 3 1 m222 cs223 :: .blk b46 (.cells ⟨[.string (gt a0_p_paths a1), .int .i64 a1, rv22, v221]⟩ 26 (0, 0)) :: .row v31 26 4 1 cs34 :: .blk a0b (.cells ⟨[a0_p_tv87, a0_p_pathsv89, rv209]⟩ 80 (0, 0)) :: .row rv209 26 4 rm210 rcs211 :: .blk b8 (.cells ⟨[rv22, .int .i64 y15, rv26]⟩ 123 (0, 0)) :: .row rv22 3 1 rm23 rcs24 :: .row rv26 3 1 rm27 rcs28 :: F) w := hw.sub (scc (scc (scc (scc (scc (scc (scc (scc (sc sr)))))))))
    exact ih (y148 ++ [y203], y204, w64 (y158 + 1)) _ _ ⟨I2_208, v221, m222, cs223, rv209, rm210, rcs211, (IH.le_trans hle199 hle214), hw, hf.to ⟨rfl, rfl, rfl, rfl, rfl, rfl, trivial⟩, hRR224, hRR212⟩ hp
   ·replace hp := cond_f hb200 hp
    refine wp_exit <| c_thenE <| c_thenE <| c_exit <| ct ?_
    have ho := oI hp
    subst ho
    exact ⟨y148, y153, I147, yv149, m150, cs151, yv154, m155, cs156, rfl, hle199, hw, hf.to ⟨rfl, rfl, rfl, trivial⟩, hRR152, hRR157⟩
  ·intro a w hM
   obtain ⟨y187, y192, I186, yv188, m189, cs190, yv193, m194, cs195, rfl, hle227, hw, hf, hRR191, hRR196⟩ := hM
   replace hp := hq198
   replace hRR33 := hRR33.mono hle227
   replace hR88 := hR88.mono hle227
   replace hR90 := hR90.mono hle227
   replace hRR25 := hRR25.mono hle227
   replace hRR29 := hRR29.mono hle227
   refine ct <| wq <| c_drawn mix [7] (.rd 0 (.rd 1 (.rd 2 (.rd 3 (.rd 4 (.rd 5 (.rd 6 (.ef 7 .done)))))))) (by kernel_rfl) hw (fun w => Ok E I186 (.row yv188 3 1 m189 cs190 :: .blk b46 (.cells ⟨[.string (gt a0_p_paths a1), .int .i64 a1, rv22, yv188]⟩ 26 (0, 0)) :: .row v31 26 4 1 cs34 :: .blk a0b (.cells ⟨[a0_p_tv87, a0_p_pathsv89, yv193]⟩ 80 (0, 0)) :: .row yv193 26 4 m194 cs195 :: .blk b8 (.cells ⟨[rv22, .int .i64 y15, rv26]⟩ 123 (0, 0)) :: .row rv22 3 1 rm23 rcs24 :: .row rv26 3 1 rm27 rcs28 :: F) w) (fun w hw => ⟨hw.sub (scc (scc (scc (scc (scc (scc (scc (scc sr)))))))), ?_⟩)
   refine tm rfl hf rfl rfl fun a hf => tR rfl hf (fun w hw => nC hf rfl) rfl fun a hf => tR rfl hf (fun w hw => rF hf rfl fd_80_2) rfl fun a hf => tR rfl hf (fun w hw => rL hw hf rfl ty_29 3 rfl rfl) rfl fun a hf => tm rfl hf rfl rfl fun a hf => tR rfl hf (fun w hw => r_loadA hw hf rfl ty_26 1 rfl (vs := [.string (gt a0_p_paths a1), .int .i64 a1, rv22, yv188]) rfl rfl) rfl fun a hf => ?_
   obtain ⟨hg229, hp⟩ := gS hp
   refine tR rfl hf (fun w hw => rI (K := ek_Plan) hf el_29 rfl rfl (rR (K := ek_Plan) hw (i := 4) rfl hRR196) hg229) rfl fun a hf => t_ef rfl ?_
   have hw : Ok E I186 (.row rv22 3 1 rm23 rcs24 :: .row yv188 3 1 m189 cs190 :: .blk b46 (.cells ⟨[Value.string (gt a0_p_paths a1), Value.int .i64 a1, rv22, yv188]⟩ 26 (0, 0)) :: .row v31 26 4 1 cs34 :: .blk a0b (.cells ⟨[a0_p_tv87, a0_p_pathsv89, yv193]⟩ 80 (0, 0)) :: .row yv193 26 4 m194 cs195 :: .blk b8 (.cells ⟨[rv22, Value.int .i64 y15, rv26]⟩ 123 (0, 0)) :: .row rv26 3 1 rm27 rcs28 :: F) w := hw.front (i := 6) rfl
   obtain ⟨I231, hle232, hw, hR233⟩ := row_freeze (K := (ekI .i64)) hw hRR25
   replace hRR191 := hRR191.mono hle232
   replace hRR33 := hRR33.mono hle232
   replace hR88 := hR88.mono hle232
   replace hR90 := hR90.mono hle232
   replace hRR196 := hRR196.mono hle232
   replace hRR29 := hRR29.mono hle232
   have hw : Ok E I231 (.row yv188 3 1 m189 cs190 :: .blk b46 (.cells ⟨[Value.string (gt a0_p_paths a1), Value.int .i64 a1, rv22, yv188]⟩ 26 (0, 0)) :: .row v31 26 4 1 cs34 :: .blk a0b (.cells ⟨[a0_p_tv87, a0_p_pathsv89, yv193]⟩ 80 (0, 0)) :: .row yv193 26 4 m194 cs195 :: .blk b8 (.cells ⟨[rv22, Value.int .i64 y15, rv26]⟩ 123 (0, 0)) :: .row rv26 3 1 rm27 rcs28 :: F) w := hw.front (i := 0) rfl
   obtain ⟨I234, hle235, hw, hR236⟩ := row_freeze (K := (ekI .i64)) hw hRR191
   replace hR233 := hR233.mono hle235
   replace hRR33 := hRR33.mono hle235
   replace hR88 := hR88.mono hle235
   replace hR90 := hR90.mono hle235
   replace hRR196 := hRR196.mono hle235
   replace hRR29 := hRR29.mono hle235
   obtain ⟨w, cs237, hrun230, hw, hRR238⟩ := e_storeH (P := P) (K := ek_Plan) hw hf (x := .tmp 76) (y := .tmp 75) rfl rfl ty_26 3 rfl hRR196 hg229 rfl (vs := [.string (gt a0_p_paths a1), .int .i64 a1, rv22, yv188]) rfl rfl (oC rfl (oC rfl (oC hR233.one (oC hR236.one ones_nil)))) (Nat.le_of_eq (by rfl)) (x' := (⟨gt a0_p_paths a1, a1, y16, y187⟩ : Plan)) (whole_store ⟨_, _, rfl, hR233, hR236⟩)
   replace hw : Ok E I234 (.blk b46 (.cells ⟨[.string (gt a0_p_paths a1), .int .i64 a1, rv22, yv188]⟩ 26 (0, 0)) :: .row v31 26 4 1 cs34 :: .blk a0b (.cells ⟨[a0_p_tv87, a0_p_pathsv89, yv193]⟩ 80 (0, 0)) :: .row yv193 26 4 m194 cs237 :: .blk b8 (.cells ⟨[rv22, .int .i64 y15, rv26]⟩ 123 (0, 0)) :: .row rv26 3 1 rm27 rcs28 :: F) w := hw
   refine t_effU (hrun230 ..) ⟨.inl rfl, ?_⟩
   refine t_done <| ct <| wq <| wr <| om hf rfl rfl fun a hf => oa hf rfl rfl fun a hf => oN <| ct <| wp_ret ?_
   replace hw : Ok E I234 (.blk a0b (.cells ⟨[a0_p_tv87, a0_p_pathsv89, yv193]⟩ 80 (0, 0)) :: .row yv193 26 4 m194 cs237 :: F) w := hw.sub (sc (sc (scc (scc (sc (sc sr))))))
   have ho := oI hp
   simp only [Prod.mk.injEq] at ho
   obtain ⟨rfl, rfl⟩ := ho
   exact b_ret1 hf results36 rfl ⟨_, rfl, ⟨I234, yv193, m194, cs237, rfl, (IH.le_trans (IH.le_trans hle227 hle232) hle235), hw, hRR238⟩⟩

theorem pack_Of_ok {E : World} {I : IH} {F : List Atom} {w : World} {a0 : List Node} {a0v4 : Value} {res0 : List Plan} {res1 : Bool} (hw : Ok E I (F) w) (hR5 : RS ek_Node I a0v4 a0) (hp : pack_Of.f a0 = some (res0, res1)) :
  Calls P 14 ⟨[a0v4]⟩ w fun e w' => ∃ v, e = .returned v ∧ ∃ I2 : IH, ∃ rvv14149 : Value, v = Value.tuple ⟨[rvv14149, Value.bool res1]⟩ ∧ IH.le I I2 ∧ Ok E I2 (F) w' ∧ RS ek_Plan I2 rvv14149 res0 := by
 refine c_enter func14 rfl ntmps14 rfl fun a hf => ?_
 replace hf : Fr 27 [(0, a0v4)] a := hf
 unfold pack_Of.f at hp
 refine wq <| wr <| oa hf rfl rfl fun a hf => oa hf rfl rfl fun a hf => oN <| ct <| wq <| wr <| om hf rfl rfl fun a hf => ?_
 obtain ⟨y75, hy74, hp⟩ := bS hp
 obtain ⟨y72, y73⟩ := y75
 have hc76 := trie_Paths_ok hw hR5 hy74
 refine o_call hf cb_35 rfl rfl hc76 (fun v80 w a hK77 hf => ?_)
 obtain ⟨I2_77, rvv78, rfl, hle81, hw, hR79⟩ := hK77
 replace hR5 := hR5.mono hle81
 refine om hf rfl rfl fun a hf => oR hf (rE hf rfl rfl) rfl fun a hf => oR hf (rE hf rfl rfl) rfl fun a hf => oa hf rfl rfl fun a hf => oa hf rfl rfl fun a hf => oN <| ct <| wq <| wq <| wr <| om hf rfl rfl fun a hf => oR hf (r_not hf rfl) rfl fun a hf => oN <| ct <| cC hf rfl (fun hb82 => ?_) (fun hb82 => ?_)
 ·replace hp := cond_t hb82 hp
  refine wq <| wr <| oa hf rfl rfl fun a hf => oa hf rfl rfl fun a hf => oN <| ct <| wp_ret <| c_thenR ?_
  have ho := oI hp
  simp only [Prod.mk.injEq] at ho
  obtain ⟨rfl, rfl⟩ := ho
  exact b_ret2 hf results14 rfl rfl ⟨_, rfl, ⟨I2_77, (Value.slice none 0 0), rfl, hle81, hw, RS.nil⟩⟩
 ·replace hp := cond_f hb82 hp
  refine wp_skip <| ct <| wq <| wr <| om hf rfl rfl fun a hf => om hf rfl rfl fun a hf => oR hf (r_build hf bd_80 (vs := [a0v4, rvv78]) rfl ⟨hR5.one, hR79.one, trivial⟩ (by decide) (out := [a0v4, rvv78, .slice none 0 0]) rfl) rfl fun a hf => ?_
  obtain ⟨b83, w, hrun84, hw⟩ := e_box (P := P) hw hf (e := 80) (x := .tmp 16) rfl (cs := [a0v4, rvv78, Value.slice none 0 0]) rfl
  refine o_eff hf (hrun84 ..) rfl fun a hf => oa hf rfl rfl fun a hf => oN <| ct ?_
  replace hw := hw.nilrow 26 4
  have hRR269 : RowR ek_Plan I2_77 [] [] := RowR.nil
  obtain ⟨out289, hp, hq290⟩ := bS hp
  refine c_cut (fun a w => ∃ y284 : List Plan, ∃ I283 : IH, ∃ yv285 : Value, ∃ m286 : Nat, ∃ cs287 : List Value, y284 = out289 ∧ IH.le I2_77 I283 ∧ Ok E I283 (.row yv285 26 4 m286 cs287 :: .blk b83 (.cells ⟨[a0v4, rvv78, yv285]⟩ 80 (0, 0)) :: F) w ∧ Fr 27 ([(6, .pointer (some ⟨b83, 0, none⟩))]) a ∧ RowR ek_Plan I283 cs287 y284) ?_ ?_
  ·refine wq <| wr <| om hf rfl rfl fun a hf => oR hf (r_lenL (K := ek_Node) hf el_23 rfl (hR5.rd hw)) rfl fun a hf => oR hf (iC hf rfl rfl rfl) rfl fun a hf => oN <| ct <| cC hf rfl (fun hb291 => ?_) (fun hb291 => ?_)
   ·replace hp := cond_t hb291 hp
    refine wr <| om hf rfl rfl fun a hf => ?_
    replace hw : Ok E I2_77 (.blk b83 (.cells ⟨[a0v4, rvv78, (.slice none 0 0)]⟩ 80 (0, 0)) :: .row (.slice none 0 0) 26 4 0 [] :: F) w := (hw.front (i := 0) rfl).front (i := 1) rfl
    obtain ⟨y295, hy294, hp⟩ := bS hp
    obtain ⟨y292, y293⟩ := y295
    have hc296 := pack_packer_sheet_ok BIG hw hR5 hR79 hRR269 hy294
    refine o_call hf cb_36 rfl rfl hc296 (fun v302 w a hK297 hf => ?_)
    obtain ⟨I2_297, rv298, rm299, rcs300, rfl, hle303, hw, hRR301⟩ := hK297
    replace hR5 := hR5.mono hle303
    replace hR79 := hR79.mono hle303
    refine oN <| ct ?_
    have ho := oI hp
    subst ho
    replace hw : Ok E I2_297 (.row rv298 26 4 rm299 rcs300 :: .blk b83 (.cells ⟨[a0v4, rvv78, rv298]⟩ 80 (0, 0)) :: F) w := (hw.front (i := 0) rfl).front (i := 1) rfl
    exact ⟨y293, I2_297, rv298, rm299, rcs300, rfl, hle303, hw, hf.to ⟨rfl, trivial⟩, hRR301⟩
   ·replace hp := cond_f hb291 hp
    refine wp_skip <| ct ?_
    have ho := oI hp
    subst ho
    exact ⟨([] : List Plan), I2_77, (Value.slice none 0 0), 0, [], rfl, (IH.le_refl _), hw, hf.to ⟨rfl, trivial⟩, hRR269⟩
  ·intro a w hM
   obtain ⟨y284, I283, yv285, m286, cs287, rfl, hle304, hw, hf, hRR288⟩ := hM
   replace hp := hq290
   replace hR5 := hR5.mono hle304
   replace hR79 := hR79.mono hle304
   refine wq <| wr <| om hf rfl rfl fun a hf => oR hf (nC hf rfl) rfl fun a hf => oR hf (rF hf rfl fd_80_2) rfl fun a hf => oR hf (rL hw hf rfl ty_29 1 rfl rfl) rfl fun a hf => oa hf rfl rfl fun a hf => oa hf rfl rfl fun a hf => oN <| ct <| wp_ret ?_
   have hw : Ok E I283 (.row yv285 26 4 m286 cs287 :: .blk b83 (.cells ⟨[a0v4, rvv78, yv285]⟩ 80 (0, 0)) :: F) w := hw.front (i := 0) rfl
   obtain ⟨I305, hle306, hw, hR307⟩ := row_freeze (K := ek_Plan) hw hRR288
   replace hR5 := hR5.mono hle306
   replace hR79 := hR79.mono hle306
   replace hw : Ok E I305 (F) w := hw.sub (sc sr)
   have ho := oI hp
   simp only [Prod.mk.injEq] at ho
   obtain ⟨rfl, rfl⟩ := ho
   exact b_ret2 hf results14 rfl rfl ⟨_, rfl, ⟨I305, yv285, rfl, (IH.le_trans (IH.le_trans hle81 hle304) hle306), hw, hR307⟩⟩

theorem slot_page_ok {E : World} {I : IH} {F : List Atom} {w : World} {a0 : Int} {res0 : Bool} (hw : Ok E I (F) w) (hp : slot_page.f a0 = some res0) :
  Calls P 49 ⟨[Value.int .i64 a0]⟩ w fun e w' => ∃ v, e = .returned v ∧ v = Value.bool res0 ∧ Ok E I (F) w' := by
 refine c_enter func49 rfl ntmps49 rfl fun a hf => ?_
 replace hf : Fr 9 [(0, .int .i64 a0)] a := hf
 unfold slot_page.f at hp
 refine wq <| wr <| oa hf rfl rfl fun a hf => oN <| ct ?_
 obtain ⟨out4, hp, hq5⟩ := bS hp
 refine c_cut (fun a w => ∃ y3 : Bool, y3 = out4 ∧ Ok E I (F) w ∧ Fr 9 ([(2, .bool y3)]) a) ?_ ?_
 ·refine wr <| om hf rfl rfl fun a hf => oR hf (iC hf rfl rfl rfl) rfl fun a hf => om hf rfl rfl fun a hf => g_split hf (g := 5) rfl (fun hb6 hf => ?_) (fun hb6 hf => ?_)
  ·replace hp := cond_t hb6 hp
   refine oW hf (g := 5) rfl rfl <| om hf rfl rfl fun a hf => oW hf (g := 5) rfl rfl <| oR hf (iC hf rfl rfl rfl) rfl fun a hf => oR hf (pT hf rfl rfl) rfl fun a hf => oa hf rfl rfl fun a hf => oN <| ct ?_
   have ho := oI hp
   subst ho
   exact ⟨(decide (a0 < 200)), rfl, hw, hf.to ⟨rfl, trivial⟩⟩
  ·replace hp := cond_f hb6 hp
   refine oQ hf (g := 5) rfl fun a hf => oQ hf (g := 5) rfl fun a hf => oR hf (pF hf rfl rfl) rfl fun a hf => oa hf rfl rfl fun a hf => oN <| ct ?_
   have ho := oI hp
   subst ho
   exact ⟨false, rfl, hw, hf.to ⟨rfl, trivial⟩⟩
 ·intro a w hM
  obtain ⟨y3, rfl, hw, hf⟩ := hM
  replace hp := hq5
  refine wp_ret ?_
  have ho := oI hp
  subst ho
  exact b_ret1 hf results49 rfl ⟨_, rfl, ⟨rfl, hw⟩⟩

theorem slot_Encode_c1_ok {E : World} {I : IH} {F : List Atom} {w : World} {a0 : Int} {res0 : Bool} (hw : Ok E I (F) w) (hp : slot_Encode_c1.f a0 = some res0) :
  Calls P 48 ⟨[Value.int .i64 a0]⟩ w fun e w' => ∃ v, e = .returned v ∧ v = Value.bool res0 ∧ Ok E I (F) w' := by
 refine c_enter func48 rfl ntmps48 rfl fun a hf => ?_
 replace hf : Fr 6 [(0, .int .i64 a0)] a := hf
 unfold slot_Encode_c1.f at hp
 refine wq <| wr <| oa hf rfl rfl fun a hf => oN <| ct <| wq <| wr <| om hf rfl rfl fun a hf => ?_
 obtain ⟨y7, hy8, hp⟩ := bS hp
 have hc10 := slot_page_ok hw hy8
 refine o_call hf cb_49 rfl rfl hc10 (fun v12 w a hK11 hf => ?_)
 obtain ⟨rfl, hw⟩ := hK11
 refine oR hf (r_not hf rfl) rfl fun a hf => oa hf rfl rfl fun a hf => oN <| ct <| wp_ret ?_
 have ho := oI hp
 subst ho
 exact b_ret1 hf results48 rfl ⟨_, rfl, ⟨rfl, hw⟩⟩

theorem slices_IndexFunc_int_slot_Encode_c1_ok {E : World} {I : IH} {F : List Atom} {w : World} {a0 : List Int} {a0v1 : Value} {res0 : Int} (hw : Ok E I (F) w) (hR2 : RS (ekI .i64) I a0v1 a0) (hp : slices_IndexFunc_int_slot_Encode_c1.f a0 = some res0) :
  Calls P 65 ⟨[a0v1, Value.func (.func 48) #[] ⟨[]⟩]⟩ w fun e w' => ∃ v, e = .returned v ∧ v = Value.int .i64 res0 ∧ Ok E I (F) w' := by
 refine c_enter func65 rfl ntmps65 rfl fun a hf => ?_
 replace hf : Fr 19 [(0, a0v1), (1, Value.func (.func 48) #[] ⟨[]⟩)] a := hf
 unfold slices_IndexFunc_int_slot_Encode_c1.f at hp
 refine wq <| wr <| oa hf rfl rfl fun a hf => oN <| ct <| wq <| wq <| wr <| om hf rfl rfl fun a hf => oR hf (r_lenL (K := (ekI .i64)) hf el_24 rfl (hR2.rd hw)) rfl fun a hf => om hf rfl rfl fun a hf => oN <| ct ?_
 obtain ⟨out40, hp, hq41⟩ := bS hp
 refine c_cutX (fun a w => (.inl ()) = out40 ∧ Ok E I (F) w ∧ Fr 19 ([]) a) ?_ ?_
 ·refine wp_block <| c_loop <| c_fuel (slices_IndexFunc_int_slot_Encode_c1.l0 a0) out40 (fun (y30 : Int) a w => Ok E I (F) w ∧ Fr 19 ([(0, a0v1), (1, Value.func (.func 48) #[] ⟨[]⟩), (7, .int .i64 (a0.length : Int)), (8, .int .i64 y30)]) a) (fun _ => rfl) ?_ BIG 0 _ _ ⟨hw, hf.to ⟨rfl, rfl, rfl, rfl, trivial⟩⟩ hp
  intro k y30 a w hI hp ih
  obtain ⟨hw, hf⟩ := hI
  rw [slices_IndexFunc_int_slot_Encode_c1.l0] at hp
  refine wq <| wr <| oR hf (iC hf rfl rfl rfl) rfl fun a hf => oN <| ct <| wq <| cC hf rfl (fun hb43 => ?_) (fun hb43 => ?_)
  ·replace hp := cond_t hb43 hp
   refine wp_skip <| ct <| wq <| wp_block <| wq <| wr <| om hf rfl rfl fun a hf => oa hf rfl rfl fun a hf => oN <| ct <| wq <| wr <| om hf rfl rfl fun a hf => om hf rfl rfl fun a hf => om hf rfl rfl fun a hf => ?_
   obtain ⟨hg44, hp⟩ := gS hp
   refine oR hf (rI (K := (ekI .i64)) hf el_24 rfl rfl (hR2.rd hw) hg44) rfl fun a hf => oR hf (r_loadH (K := (ekI .i64)) hf rfl ty_3 (hR2.rd hw) hg44 rfl (fun cs h => ekI_f0 h)) rfl fun a hf => ?_
   obtain ⟨y45, hy46, hp⟩ := bS hp
   have hc48 := slot_Encode_c1_ok hw hy46
   refine o_callV hf rfl cb_48 rfl rfl hc48 (fun v50 w a hK49 hf => ?_)
   obtain ⟨rfl, hw⟩ := hK49
   refine oN <| ct <| cC hf rfl (fun hb51 => ?_) (fun hb51 => ?_)
   ·replace hp := cond_t hb51 hp
    refine wq <| wr <| om hf rfl rfl fun a hf => oa hf rfl rfl fun a hf => oN <| ct <| wp_ret <| c_blockR <| c_thenR <| c_thenR <| c_blockR <| c_thenR ?_
    have ho := oI hp
    subst ho
    replace hp := hq41
    refine c_thenR ?_
    have ho := oI hp
    subst ho
    exact b_ret1 hf results65 rfl ⟨_, rfl, ⟨rfl, hw⟩⟩
   ·replace hp := cond_f hb51 hp
    refine wp_skip <| c_blockN <| ct <| wr <| oR hf (r_add hf rfl rfl) rfl fun a hf => om hf rfl rfl fun a hf => oN <| ct ?_
    exact ih (w64 (y30 + 1)) _ _ ⟨hw, hf.to ⟨rfl, rfl, rfl, rfl, trivial⟩⟩ hp
  ·replace hp := cond_f hb43 hp
   refine wp_exit <| c_thenE <| c_thenE <| c_exit <| ct ?_
   have ho := oI hp
   subst ho
   exact ⟨rfl, hw, hf.to trivial⟩
 ·intro a w hM
  obtain ⟨rfl, hw, hf⟩ := hM
  replace hp := hq41
  refine ct <| wq <| wr <| oa hf rfl rfl fun a hf => oN <| ct <| wp_ret ?_
  have ho := oI hp
  subst ho
  exact b_ret1 hf results65 rfl ⟨_, rfl, ⟨rfl, hw⟩⟩

theorem slices_ContainsFunc_int_slot_Encode_c1_ok {E : World} {I : IH} {F : List Atom} {w : World} {a0 : List Int} {a0v320 : Value} {res0 : Bool} (hw : Ok E I (F) w) (hR321 : RS (ekI .i64) I a0v320 a0) (hp : slices_ContainsFunc_int_slot_Encode_c1.f a0 = some res0) :
  Calls P 43 ⟨[a0v320, Value.func (.func 48) #[] ⟨[]⟩]⟩ w fun e w' => ∃ v, e = .returned v ∧ v = Value.bool res0 ∧ Ok E I (F) w' := by
 refine c_enter func43 rfl ntmps43 rfl fun a hf => ?_
 replace hf : Fr 9 [(0, a0v320), (1, Value.func (.func 48) #[] ⟨[]⟩)] a := hf
 unfold slices_ContainsFunc_int_slot_Encode_c1.f at hp
 refine wq <| wr <| oa hf rfl rfl fun a hf => oN <| ct <| wq <| wr <| om hf rfl rfl fun a hf => om hf rfl rfl fun a hf => ?_
 obtain ⟨y54, hy55, hp⟩ := bS hp
 have hc57 := slices_IndexFunc_int_slot_Encode_c1_ok hw hR321 hy55
 refine o_call hf cb_65 rfl rfl hc57 (fun v59 w a hK58 hf => ?_)
 obtain ⟨rfl, hw⟩ := hK58
 refine oR hf (iC hf rfl rfl rfl) rfl fun a hf => oa hf rfl rfl fun a hf => oN <| ct <| wp_ret ?_
 have ho := oI hp
 subst ho
 exact b_ret1 hf results43 rfl ⟨_, rfl, ⟨rfl, hw⟩⟩
end Go.Lf
