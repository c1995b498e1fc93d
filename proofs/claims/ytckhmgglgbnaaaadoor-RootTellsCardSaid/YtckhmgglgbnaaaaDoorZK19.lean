/- The Go functions compute the plain Lean functions (printed by our lift.py). -/
import Derived.Test.YtckhmgglgbnaaaaDoorZD
import Derived.Test.YtckhmgglgbnaaaaDoorZF
import Derived.Test.YtckhmgglgbnaaaaDoorJ
import Derived.Test.YtckhmgglgbnaaaaDoorZK0
import Derived.Test.YtckhmgglgbnaaaaDoorZK8
import Derived.Test.YtckhmgglgbnaaaaDoorZK9
import Derived.Test.YtckhmgglgbnaaaaDoorZK10
import Derived.Test.YtckhmgglgbnaaaaDoorZK17
import Derived.Test.YtckhmgglgbnaaaaDoorZK18
set_option linter.unusedVariables false
set_option linter.unusedSimpArgs false
set_option maxHeartbeats 1000000
set_option maxRecDepth 20000
namespace Go.Lf
open Go
theorem law11_RootTells_ok {E : World} {I : IH} {F : List Atom} {w : World} {a0 : List Node} {a0v1 : Value} {a1 : Int} {res0 : Bool} (hw : Ok E I (F) w) (hG : Gl I) (hR2 : RS ek_Node I a0v1 a0) (hp : law11_RootTells.f a0 a1 = some res0) :
  Calls P 3 ⟨[a0v1, Value.int .i64 a1]⟩ w fun e w' => ∃ v, e = .returned v ∧ v = Value.bool res0 ∧ Ok E I (F) w' := by
 refine c_enter Go.Proofs.Tryd.func3 rfl Go.Proofs.Tryd.ntmps3 rfl fun a hf => ?_
 replace hf : Fr 104 [(0, a0v1), (1, .int .i64 a1)] a := hf
 unfold law11_RootTells.f at hp
 refine wq <| wr <| oa hf rfl rfl fun a hf => oN <| ct <| wq <| wq <| wr <| om hf rfl rfl fun a hf => ?_
 obtain ⟨y101, hy102, hp⟩ := bS hp
 have hc104 := law11_Few_ok hw hG hR2 hy102
 refine o_call hf cb_12 rfl rfl hc104 (fun v106 w a hK105 hf => ?_)
 obtain ⟨rfl, hw⟩ := hK105
 refine oR hf (r_not hf rfl) rfl fun a hf => oN <| ct <| cC hf rfl (fun hb107 => ?_) (fun hb107 => ?_)
 ·replace hp := cond_t hb107 hp
  refine wq <| wr ?_
  obtain ⟨y514, hy515, hp⟩ := bS hp
  have hc517 := law11_wakes_ok hw hG hy515
  refine o_call hf cb_13 rfl rfl hc517 (fun v519 w a hK518 hf => ?_)
  obtain ⟨rfl, hw⟩ := hK518
  refine oa hf rfl rfl fun a hf => oN <| ct <| wp_ret <| c_thenR ?_
  have ho := oI hp
  subst ho
  exact b_ret1 hf Go.Proofs.Tryd.results3 rfl ⟨_, rfl, ⟨rfl, hw⟩⟩
 ·replace hp := cond_f hb107 hp
  refine wp_skip <| ct <| wq <| wr ?_
  obtain ⟨w, v520, hrun521, hw, hRR522⟩ := e_buildSlice (P := P) (K := ek_Node) (m := 0) hw hf (parts := []) el_23 ty_55 rfl rfl rfl (ccs := []) rfl (xs := ([] : List Node)) trivial rfl
  obtain ⟨cs523, hcs⟩ : ∃ cs, cs = ([] : List (List Value)).flatten := ⟨_, rfl⟩
  rw [← hcs] at hw hRR522; clear hcs
  refine o_eff hf (hrun521 ..) rfl fun a hf => om hf rfl rfl fun a hf => ?_
  obtain ⟨hg525, hp⟩ := gS hp
  obtain ⟨w, v526, m527, cs528, hrun530, hw, hRR529⟩ := e_append (P := P) (K := ek_Node) (ty := 23) hw hf (s := .tmp 19) (x := .tmp 20) el_23 ty_55 rfl (by decide) 0 rfl rfl rfl hRR522 (ys := a0) (hR2.rd hw) hg525
  replace hw : Ok E I (.row v526 55 20 m527 cs528 :: F) w := hw
  refine o_eff hf (hrun530 ..) rfl fun a hf => oa hf rfl rfl fun a hf => oN <| ct <| wq <| wr <| om hf rfl rfl fun a hf => ?_
  have hw : Ok E I (.row v526 55 20 m527 cs528 :: F) w := hw.front (i := 0) rfl
  obtain ⟨I531, hle532, hw, hR533⟩ := row_freeze (K := ek_Node) hw hRR529
  replace hG := hG.mono hle532
  replace hR2 := hR2.mono hle532
  obtain ⟨y537, hy536, hp⟩ := bS hp
  obtain ⟨y534, y535⟩ := y537
  have hc538 := root_Of_ok hw hG hR533 hy536
  refine o_call hf cb_14 rfl rfl hc538 (fun v540 w a hK539 hf => ?_)
  obtain ⟨rfl, hw⟩ := hK539
  refine om hf rfl rfl fun a hf => oR hf (rE hf rfl rfl) rfl fun a hf => oR hf (rE hf rfl rfl) rfl fun a hf => oa hf rfl rfl fun a hf => oa hf rfl rfl fun a hf => oN <| ct <| wq <| wr <| om hf rfl rfl fun a hf => ?_
  obtain ⟨y544, hy543, hp⟩ := bS hp
  obtain ⟨y541, y542⟩ := y544
  have hc545 := root_All_ok hw hG hR533 hy543
  refine o_call hf cb_15 rfl rfl hc545 (fun v549 w a hK546 hf => ?_)
  obtain ⟨I2_546, rvv547, rfl, hle550, hw, hR548⟩ := hK546
  replace hG := hG.mono hle550
  replace hR2 := hR2.mono hle550
  replace hR533 := hR533.mono hle550
  refine om hf rfl rfl fun a hf => oR hf (rE hf rfl rfl) rfl fun a hf => oR hf (rE hf rfl rfl) rfl fun a hf => oa hf rfl rfl fun a hf => oa hf rfl rfl fun a hf => oN <| ct <| wq <| wr <| om hf rfl rfl fun a hf => om hf rfl rfl fun a hf => ?_
  obtain ⟨y554, hy553, hp⟩ := bS hp
  obtain ⟨y551, y552⟩ := y554
  have hc555 := root_Item_ok hw hG hR533 hy553
  refine o_call hf cb_16 rfl rfl hc555 (fun v559 w a hK556 hf => ?_)
  obtain ⟨I2_556, rvv557, rfl, hle560, hw, hR558⟩ := hK556
  replace hG := hG.mono hle560
  replace hR2 := hR2.mono hle560
  replace hR533 := hR533.mono hle560
  replace hR548 := hR548.mono hle560
  refine om hf rfl rfl fun a hf => oR hf (rE hf rfl rfl) rfl fun a hf => oR hf (rE hf rfl rfl) rfl fun a hf => ?_
  obtain ⟨b561, w, hrun562, hw⟩ := e_alloc (P := P) (a := a) hw ty_32
  replace hw : Ok E I2_556 (.blk b561 (.cells ⟨[.int .i64 0, .string (⟨#[]⟩ : ByteArray), .bool false, .string (⟨#[]⟩ : ByteArray), .int .i64 0, .slice none 0 0]⟩ 32 (0, 0)) :: F) w := hw
  refine o_eff hf (hrun562 ..) rfl fun a hf => ?_
  obtain ⟨w, hrun564, hw⟩ := e_store (P := P) hw hf (x := .tmp 10) (y := .tmp 36) rfl rfl ty_32 0 rfl (vs := [Value.int .i64 y551.kind_, Value.string y551.path_, Value.bool y551.has_, Value.string y551.value_, Value.int .i64 y551.mask_, rvv557]) rfl rfl (oC rfl (oC rfl (oC rfl (oC rfl (oC rfl (oC hR558.one ones_nil)))))) (by simp [arrC_len]) (cs' := [Value.int .i64 y551.kind_, Value.string y551.path_, Value.bool y551.has_, Value.string y551.value_, Value.int .i64 y551.mask_, rvv557]) rfl
  replace hw : Ok E I2_556 (.blk b561 (.cells ⟨[.int .i64 y551.kind_, .string y551.path_, .bool y551.has_, .string y551.value_, .int .i64 y551.mask_, rvv557]⟩ 32 (0, 0)) :: F) w := hw
  refine o_effU (hrun564 ..) <| oa hf rfl rfl fun a hf => oN <| ct <| wq <| wr <| om hf rfl rfl fun a hf => ?_
  obtain ⟨y2317, hy2318, hp⟩ := bS hp
  have hc2320 := ref11_Of_ok hw hG hR2 hy2318
  refine o_call hf cb_17 rfl rfl hc2320 (fun v2326 w a hK2321 hf => ?_)
  obtain ⟨I2_2321, rvv2322, rvv2324, rfl, hle2327, hw, hR2323, hR2325⟩ := hK2321
  replace hG := hG.mono hle2327
  replace hR2 := hR2.mono hle2327
  replace hR533 := hR533.mono hle2327
  replace hR548 := hR548.mono hle2327
  replace hR558 := hR558.mono hle2327
  obtain ⟨b2328, w, hrun2329, hw⟩ := e_alloc (P := P) (a := a) hw ty_37
  replace hw : Ok E I2_2321 (.blk b2328 (.cells ⟨[.slice none 0 0, .slice none 0 0, .bool false]⟩ 37 (0, 0)) :: .blk b561 (.cells ⟨[.int .i64 y551.kind_, .string y551.path_, .bool y551.has_, .string y551.value_, .int .i64 y551.mask_, rvv557]⟩ 32 (0, 0)) :: F) w := hw
  refine o_eff hf (hrun2329 ..) rfl fun a hf => ?_
  obtain ⟨w, hrun2331, hw⟩ := e_store (P := P) hw hf (x := .tmp 12) (y := .tmp 39) rfl rfl ty_37 0 rfl (vs := [rvv2322, rvv2324, Value.bool y2317.ok_]) rfl rfl (oC hR2323.one (oC hR2325.one (oC rfl ones_nil))) (by simp [arrC_len]) (cs' := [rvv2322, rvv2324, Value.bool y2317.ok_]) rfl
  replace hw : Ok E I2_2321 (.blk b2328 (.cells ⟨[rvv2322, rvv2324, .bool y2317.ok_]⟩ 37 (0, 0)) :: .blk b561 (.cells ⟨[.int .i64 y551.kind_, .string y551.path_, .bool y551.has_, .string y551.value_, .int .i64 y551.mask_, rvv557]⟩ 32 (0, 0)) :: F) w := hw
  refine o_effU (hrun2331 ..) <| oN <| ct <| wq <| wr <| oR hf (r_build hf bd_32 (vs := []) rfl trivial (by decide) (out := [Value.int .i64 0, Value.string (⟨#[]⟩ : ByteArray), Value.bool false, Value.string (⟨#[]⟩ : ByteArray), Value.int .i64 0, Value.slice none 0 0]) rfl) rfl fun a hf => ?_
  obtain ⟨b2332, w, hrun2333, hw⟩ := e_alloc (P := P) (a := a) hw ty_32
  replace hw : Ok E I2_2321 (.blk b2332 (.cells ⟨[.int .i64 0, .string (⟨#[]⟩ : ByteArray), .bool false, .string (⟨#[]⟩ : ByteArray), .int .i64 0, .slice none 0 0]⟩ 32 (0, 0)) :: .blk b2328 (.cells ⟨[rvv2322, rvv2324, .bool y2317.ok_]⟩ 37 (0, 0)) :: .blk b561 (.cells ⟨[.int .i64 y551.kind_, .string y551.path_, .bool y551.has_, .string y551.value_, .int .i64 y551.mask_, rvv557]⟩ 32 (0, 0)) :: F) w := hw
  refine o_eff hf (hrun2333 ..) rfl fun a hf => ?_
  obtain ⟨w, hrun2335, hw⟩ := e_store (P := P) hw hf (x := .tmp 13) (y := .tmp 40) rfl rfl ty_32 0 rfl (vs := [Value.int .i64 0, Value.string (⟨#[]⟩ : ByteArray), Value.bool false, Value.string (⟨#[]⟩ : ByteArray), Value.int .i64 0, Value.slice none 0 0]) rfl rfl (oC rfl (oC rfl (oC rfl (oC rfl (oC rfl (oC rfl ones_nil)))))) (by simp [arrC_len]) (cs' := [Value.int .i64 0, Value.string (⟨#[]⟩ : ByteArray), Value.bool false, Value.string (⟨#[]⟩ : ByteArray), Value.int .i64 0, Value.slice none 0 0]) rfl
  replace hw : Ok E I2_2321 (.blk b2332 (.cells ⟨[.int .i64 0, .string (⟨#[]⟩ : ByteArray), .bool false, .string (⟨#[]⟩ : ByteArray), .int .i64 0, .slice none 0 0]⟩ 32 (0, 0)) :: .blk b2328 (.cells ⟨[rvv2322, rvv2324, .bool y2317.ok_]⟩ 37 (0, 0)) :: .blk b561 (.cells ⟨[.int .i64 y551.kind_, .string y551.path_, .bool y551.has_, .string y551.value_, .int .i64 y551.mask_, rvv557]⟩ 32 (0, 0)) :: F) w := hw
  refine o_effU (hrun2335 ..) <| oN <| ct ?_
  obtain ⟨out2341, hp, hq2342⟩ := bS hp
  refine c_cut (fun a w => ∃ y2340 : Bool, y2340 = out2341 ∧ Ok E I2_2321 (.blk b2332 (.cells ⟨[.int .i64 0, .string (⟨#[]⟩ : ByteArray), .bool false, .string (⟨#[]⟩ : ByteArray), .int .i64 0, .slice none 0 0]⟩ 32 (0, 0)) :: .blk b2328 (.cells ⟨[rvv2322, rvv2324, .bool y2317.ok_]⟩ 37 (0, 0)) :: .blk b561 (.cells ⟨[.int .i64 y551.kind_, .string y551.path_, .bool y551.has_, .string y551.value_, .int .i64 y551.mask_, rvv557]⟩ 32 (0, 0)) :: F) w ∧ Fr 104 ([(0, a0v1), (1, .int .i64 a1), (5, v526), (6, .string y534), (7, .bool y535), (8, rvv547), (9, .bool y542), (10, .pointer (some ⟨b561, 0, none⟩)), (11, .bool y552), (12, .pointer (some ⟨b2328, 0, none⟩)), (13, .pointer (some ⟨b2332, 0, none⟩)), (14, .bool y2340)]) a) ?_ ?_
  ·refine wr <| oR hf (rF hf rfl fd_37_2) rfl fun a hf => oR hf (rL hw hf rfl ty_4 1 rfl rfl) rfl fun a hf => om hf rfl rfl fun a hf => g_split hf (g := 43) rfl (fun hb2343 hf => ?_) (fun hb2343 hf => ?_)
   ·replace hp := cond_t hb2343 hp
    refine oW hf (g := 43) rfl rfl <| om hf rfl rfl fun a hf => oW hf (g := 43) rfl rfl <| oR hf (iC hf rfl rfl rfl) rfl fun a hf => oR hf (pT hf rfl rfl) rfl fun a hf => om hf rfl rfl fun a hf => g_split hf (g := 47) rfl (fun hb2344 hf => ?_) (fun hb2344 hf => ?_)
    ·replace hp := cond_t hb2344 hp
     refine oW hf (g := 47) rfl rfl <| om hf rfl rfl fun a hf => oW hf (g := 47) rfl rfl <| om hf rfl rfl fun a hf => oW hf (g := 47) rfl rfl <| oR hf (r_lenL (K := ek_Node) hf el_23 rfl (hR2.rd hw)) rfl fun a hf => oW hf (g := 47) rfl rfl <| oR hf (iC hf rfl rfl rfl) rfl fun a hf => oR hf (pT hf rfl rfl) rfl fun a hf => oa hf rfl rfl fun a hf => oN <| ct ?_
     have ho := oI hp
     subst ho
     exact ⟨(decide (a1 < (a0.length : Int))), rfl, hw, hf.to ⟨rfl, rfl, rfl, rfl, rfl, rfl, rfl, rfl, rfl, rfl, rfl, rfl, trivial⟩⟩
    ·replace hp := cond_f hb2344 hp
     refine oS hf (g := 47) rfl rfl rfl rfl rfl rfl fun a hf => oS hf (g := 47) rfl rfl rfl rfl rfl rfl fun a hf => oS hf (g := 47) rfl rfl rfl rfl rfl rfl fun a hf => oS hf (g := 47) rfl rfl rfl rfl rfl rfl fun a hf => oR hf (pF hf rfl rfl) rfl fun a hf => oa hf rfl rfl fun a hf => oN <| ct ?_
     have ho := oI hp
     subst ho
     exact ⟨false, rfl, hw, hf.to ⟨rfl, rfl, rfl, rfl, rfl, rfl, rfl, rfl, rfl, rfl, rfl, rfl, trivial⟩⟩
   ·replace hp := cond_f hb2343 hp
    refine oS hf (g := 43) rfl rfl rfl rfl rfl rfl fun a hf => oS hf (g := 43) rfl rfl rfl rfl rfl rfl fun a hf => oR hf (pF hf rfl rfl) rfl fun a hf => om hf rfl rfl fun a hf => oS hf (g := 47) rfl rfl rfl rfl rfl rfl fun a hf => oS hf (g := 47) rfl rfl rfl rfl rfl rfl fun a hf => oS hf (g := 47) rfl rfl rfl rfl rfl rfl fun a hf => oS hf (g := 47) rfl rfl rfl rfl rfl rfl fun a hf => oR hf (pF hf rfl rfl) rfl fun a hf => oa hf rfl rfl fun a hf => oN <| ct ?_
    have ho := oI hp
    subst ho
    exact ⟨false, rfl, hw, hf.to ⟨rfl, rfl, rfl, rfl, rfl, rfl, rfl, rfl, rfl, rfl, rfl, rfl, trivial⟩⟩
  ·intro a w hM
   obtain ⟨y2340, rfl, hw, hf⟩ := hM
   replace hp := hq2342
   obtain ⟨out2367, hp, hq2368⟩ := bS hp
   refine c_cut (fun a w => ∃ y2359 : Int, ∃ y2360 : ByteArray, ∃ y2361 : Bool, ∃ y2362 : ByteArray, ∃ y2363 : Int, ∃ y2364 : List ByteArray, ∃ yv2365 : Value, (y2359, y2360, y2361, y2362, y2363, y2364) = out2367 ∧ Ok E I2_2321 (.blk b2332 (.cells ⟨[.int .i64 y2359, .string y2360, .bool y2361, .string y2362, .int .i64 y2363, yv2365]⟩ 32 (0, 0)) :: .blk b2328 (.cells ⟨[rvv2322, rvv2324, .bool y2317.ok_]⟩ 37 (0, 0)) :: .blk b561 (.cells ⟨[.int .i64 y551.kind_, .string y551.path_, .bool y551.has_, .string y551.value_, .int .i64 y551.mask_, rvv557]⟩ 32 (0, 0)) :: F) w ∧ Fr 104 ([(0, a0v1), (5, v526), (6, .string y534), (7, .bool y535), (8, rvv547), (9, .bool y542), (10, .pointer (some ⟨b561, 0, none⟩)), (11, .bool y552), (12, .pointer (some ⟨b2328, 0, none⟩)), (13, .pointer (some ⟨b2332, 0, none⟩)), (14, .bool y2340)]) a ∧ RS ekS I2_2321 yv2365 y2364) ?_ ?_
   ·refine wq <| wr <| om hf rfl rfl fun a hf => oN <| ct <| cC hf rfl (fun hb2369 => ?_) (fun hb2369 => ?_)
    ·replace hp := cond_t hb2369 hp
     refine wr <| oR hf (rF hf rfl fd_37_0) rfl fun a hf => oR hf (rL hw hf rfl ty_35 1 rfl rfl) rfl fun a hf => om hf rfl rfl fun a hf => ?_
     obtain ⟨hg2370, hp⟩ := gS hp
     refine oR hf (rI (K := ek_Item) hf el_35 rfl rfl (hR2323.rd hw) hg2370) rfl fun a hf => ?_
     obtain ⟨_, ⟨vv2371, rfl, hR2372⟩, hrun2374⟩ := rs_loadHA (P := P) ty_32 hR2323 hg2370 rfl (fun cs h => Item_all h)
     refine oR hf (hrun2374 _ _ _ _ _ _ _ _ _ _ _ _ hw hf rfl) rfl fun a hf => ?_
     obtain ⟨w, hrun2375, hw⟩ := e_store (P := P) hw hf (x := .tmp 13) (y := .tmp 58) rfl rfl ty_32 0 rfl (vs := [Value.int .i64 ((gt y2317.i_ a1).kind_), Value.string ((gt y2317.i_ a1).path_), Value.bool ((gt y2317.i_ a1).has_), Value.string ((gt y2317.i_ a1).value_), Value.int .i64 ((gt y2317.i_ a1).mask_), vv2371]) rfl rfl (oC rfl (oC rfl (oC rfl (oC rfl (oC rfl (oC hR2372.one ones_nil)))))) (by simp [arrC_len]) (cs' := [Value.int .i64 ((gt y2317.i_ a1).kind_), Value.string ((gt y2317.i_ a1).path_), Value.bool ((gt y2317.i_ a1).has_), Value.string ((gt y2317.i_ a1).value_), Value.int .i64 ((gt y2317.i_ a1).mask_), vv2371]) rfl
     replace hw : Ok E I2_2321 (.blk b2332 (.cells ⟨[.int .i64 ((gt y2317.i_ a1).kind_), .string ((gt y2317.i_ a1).path_), .bool ((gt y2317.i_ a1).has_), .string ((gt y2317.i_ a1).value_), .int .i64 ((gt y2317.i_ a1).mask_), vv2371]⟩ 32 (0, 0)) :: .blk b2328 (.cells ⟨[rvv2322, rvv2324, .bool y2317.ok_]⟩ 37 (0, 0)) :: .blk b561 (.cells ⟨[.int .i64 y551.kind_, .string y551.path_, .bool y551.has_, .string y551.value_, .int .i64 y551.mask_, rvv557]⟩ 32 (0, 0)) :: F) w := hw
     refine o_effU (hrun2375 ..) <| oN <| ct ?_
     have ho := oI hp
     subst ho
     exact ⟨((gt y2317.i_ a1).kind_), ((gt y2317.i_ a1).path_), ((gt y2317.i_ a1).has_), ((gt y2317.i_ a1).value_), ((gt y2317.i_ a1).mask_), ((gt y2317.i_ a1).hashes_), vv2371, rfl, hw, hf.to ⟨rfl, rfl, rfl, rfl, rfl, rfl, rfl, rfl, rfl, rfl, rfl, trivial⟩, hR2372⟩
    ·replace hp := cond_f hb2369 hp
     refine wp_skip <| ct ?_
     have ho := oI hp
     subst ho
     exact ⟨0, (⟨#[]⟩ : ByteArray), false, (⟨#[]⟩ : ByteArray), 0, ([] : List ByteArray), (Value.slice none 0 0), rfl, hw, hf.to ⟨rfl, rfl, rfl, rfl, rfl, rfl, rfl, rfl, rfl, rfl, rfl, trivial⟩, RS.nil⟩
   ·intro a w hM
    obtain ⟨y2359, y2360, y2361, y2362, y2363, y2364, yv2365, rfl, hw, hf, hR2366⟩ := hM
    replace hp := hq2368
    obtain ⟨out93, hp, hq94⟩ := bS hp
    refine c_cut (fun a w => ∃ y92 : Bool, y92 = out93 ∧ Ok E I2_2321 (.blk b2332 (.cells ⟨[.int .i64 y2359, .string y2360, .bool y2361, .string y2362, .int .i64 y2363, yv2365]⟩ 32 (0, 0)) :: .blk b2328 (.cells ⟨[rvv2322, rvv2324, .bool y2317.ok_]⟩ 37 (0, 0)) :: .blk b561 (.cells ⟨[.int .i64 y551.kind_, .string y551.path_, .bool y551.has_, .string y551.value_, .int .i64 y551.mask_, rvv557]⟩ 32 (0, 0)) :: F) w ∧ Fr 104 ([(4, .bool y92)]) a) ?_ ?_
    ·refine wr <| om hf rfl rfl fun a hf => om hf rfl rfl fun a hf => ?_
     obtain ⟨y95, hy96, hp⟩ := bS hp
     have hc98 := ref11_Root_ok hw hG hR2 hy96
     refine o_call hf cb_18 rfl rfl hc98 (fun v100 w a hK99 hf => ?_)
     obtain ⟨rfl, hw⟩ := hK99
     refine oR hf (r_scmp hf rfl rfl rfl) rfl fun a hf => om hf rfl rfl fun a hf => g_split hf (g := 63) rfl (fun hb101 hf => ?_) (fun hb101 hf => ?_)
     ·replace hp := cond_t hb101 hp
      refine oW hf (g := 63) rfl rfl <| om hf rfl rfl fun a hf => oW hf (g := 63) rfl rfl <| oR hf (rF hf rfl fd_37_2) rfl fun a hf => oW hf (g := 63) rfl rfl <| oR hf (rL hw hf rfl ty_4 1 rfl rfl) rfl fun a hf => oW hf (g := 63) rfl rfl <| oR hf (r_beq hf und_4 rfl rfl) rfl fun a hf => oR hf (pT hf rfl rfl) rfl fun a hf => om hf rfl rfl fun a hf => g_split hf (g := 69) rfl (fun hb102 hf => ?_) (fun hb102 hf => ?_)
      ·replace hp := cond_t hb102 hp
       refine oW hf (g := 69) rfl rfl <| om hf rfl rfl fun a hf => oW hf (g := 69) rfl rfl <| oR hf (rF hf rfl fd_37_1) rfl fun a hf => oW hf (g := 69) rfl rfl <| oR hf (rL hw hf rfl ty_28 1 rfl rfl) rfl fun a hf => oW hf (g := 69) rfl rfl ?_
       obtain ⟨y103, hy104, hp⟩ := bS hp
       have hc106 := keep_Texts_ok hw hG hR548 hR2325 hy104
       refine o_call hf cb_19 rfl rfl hc106 (fun v108 w a hK107 hf => ?_)
       obtain ⟨rfl, hw⟩ := hK107
       refine oR hf (pT hf rfl rfl) rfl fun a hf => om hf rfl rfl fun a hf => g_split hf (g := 75) rfl (fun hb109 hf => ?_) (fun hb109 hf => ?_)
       ·replace hp := cond_t hb109 hp
        refine oW hf (g := 75) rfl rfl <| om hf rfl rfl fun a hf => oW hf (g := 75) rfl rfl <| oR hf (rF hf rfl fd_37_2) rfl fun a hf => oW hf (g := 75) rfl rfl <| oR hf (rL hw hf rfl ty_4 1 rfl rfl) rfl fun a hf => oW hf (g := 75) rfl rfl <| oR hf (r_beq hf und_4 rfl rfl) rfl fun a hf => oR hf (pT hf rfl rfl) rfl fun a hf => om hf rfl rfl fun a hf => g_split hf (g := 81) rfl (fun hb110 hf => ?_) (fun hb110 hf => ?_)
        ·replace hp := cond_t hb110 hp
         refine oW hf (g := 81) rfl rfl <| oR hf (r_loadA hw hf rfl ty_32 2 rfl (vs := [Value.int .i64 y551.kind_, Value.string y551.path_, Value.bool y551.has_, Value.string y551.value_, Value.int .i64 y551.mask_, rvv557]) rfl rfl) rfl fun a hf => oW hf (g := 81) rfl rfl <| oR hf (r_loadA hw hf rfl ty_32 0 rfl (vs := [Value.int .i64 y2359, Value.string y2360, Value.bool y2361, Value.string y2362, Value.int .i64 y2363, yv2365]) rfl rfl) rfl fun a hf => oW hf (g := 81) rfl rfl ?_
         obtain ⟨y111, hy112, hp⟩ := bS hp
         have hc114 := keep_Item_ok hw hG hR558 hR2366 hy112
         refine o_call hf cb_20 rfl rfl hc114 (fun v116 w a hK115 hf => ?_)
         obtain ⟨rfl, hw⟩ := hK115
         refine oR hf (pT hf rfl rfl) rfl fun a hf => om hf rfl rfl fun a hf => g_split hf (g := 86) rfl (fun hb117 hf => ?_) (fun hb117 hf => ?_)
         ·replace hp := cond_t hb117 hp
          refine oW hf (g := 86) rfl rfl <| om hf rfl rfl fun a hf => oW hf (g := 86) rfl rfl <| om hf rfl rfl fun a hf => oW hf (g := 86) rfl rfl <| oR hf (r_beq hf und_4 rfl rfl) rfl fun a hf => oR hf (pT hf rfl rfl) rfl fun a hf => om hf rfl rfl fun a hf => g_split hf (g := 91) rfl (fun hb118 hf => ?_) (fun hb118 hf => ?_)
          ·replace hp := cond_t hb118 hp
           refine oW hf (g := 91) rfl rfl ?_
           obtain ⟨y119, hy120, hp⟩ := bS hp
           have hc122 := root_Empty_ok hw hG hy120
           refine o_call hf cb_21 rfl rfl hc122 (fun v124 w a hK123 hf => ?_)
           obtain ⟨rfl, hw⟩ := hK123
           refine oW hf (g := 91) rfl rfl ?_
           obtain ⟨y125, hy126, hp⟩ := bS hp
           have hc128 := ref11_Empty_ok hw hG hy126
           refine o_call hf cb_22 rfl rfl hc128 (fun v130 w a hK129 hf => ?_)
           obtain ⟨rfl, hw⟩ := hK129
           refine oW hf (g := 91) rfl rfl <| oR hf (r_scmp hf rfl rfl rfl) rfl fun a hf => oR hf (pT hf rfl rfl) rfl fun a hf => om hf rfl rfl fun a hf => g_split hf (g := 96) rfl (fun hb131 hf => ?_) (fun hb131 hf => ?_)
           ·replace hp := cond_t hb131 hp
            refine oW hf (g := 96) rfl rfl <| om hf rfl rfl fun a hf => oW hf (g := 96) rfl rfl <| om hf rfl rfl fun a hf => oW hf (g := 96) rfl rfl ?_
            obtain ⟨y132, hy133, hp⟩ := bS hp
            have hc135 := keep_Trie_ok hw hG hR533 hR2 hy133
            refine o_call hf cb_23 rfl rfl hc135 (fun v137 w a hK136 hf => ?_)
            obtain ⟨rfl, hw⟩ := hK136
            refine oR hf (pT hf rfl rfl) rfl fun a hf => om hf rfl rfl fun a hf => g_split hf (g := 101) rfl (fun hb138 hf => ?_) (fun hb138 hf => ?_)
            ·replace hp := cond_t hb138 hp
             refine oW hf (g := 101) rfl rfl ?_
             obtain ⟨y139, hy140, hp⟩ := bS hp
             have hc142 := law11_wakes_ok hw hG hy140
             refine o_call hf cb_13 rfl rfl hc142 (fun v144 w a hK143 hf => ?_)
             obtain ⟨rfl, hw⟩ := hK143
             refine oR hf (pT hf rfl rfl) rfl fun a hf => oa hf rfl rfl fun a hf => oN <| ct ?_
             have ho := oI hp
             subst ho
             exact ⟨y139, rfl, hw, hf.to ⟨rfl, trivial⟩⟩
            ·replace hp := cond_f hb138 hp
             refine oS hf (g := 101) rfl rfl rfl rfl rfl rfl fun a hf => oR hf (pF hf rfl rfl) rfl fun a hf => oa hf rfl rfl fun a hf => oN <| ct ?_
             have ho := oI hp
             subst ho
             exact ⟨false, rfl, hw, hf.to ⟨rfl, trivial⟩⟩
           ·replace hp := cond_f hb131 hp
            refine oS hf (g := 96) rfl rfl rfl rfl rfl rfl fun a hf => oS hf (g := 96) rfl rfl rfl rfl rfl rfl fun a hf => oS hf (g := 96) rfl rfl rfl rfl rfl rfl fun a hf => oR hf (pF hf rfl rfl) rfl fun a hf => om hf rfl rfl fun a hf => oS hf (g := 101) rfl rfl rfl rfl rfl rfl fun a hf => oR hf (pF hf rfl rfl) rfl fun a hf => oa hf rfl rfl fun a hf => oN <| ct ?_
            have ho := oI hp
            subst ho
            exact ⟨false, rfl, hw, hf.to ⟨rfl, trivial⟩⟩
          ·replace hp := cond_f hb118 hp
           refine oS hf (g := 91) rfl rfl rfl rfl rfl rfl fun a hf => oS hf (g := 91) rfl rfl rfl rfl rfl rfl fun a hf => oS hf (g := 91) rfl rfl rfl rfl rfl rfl fun a hf => oR hf (pF hf rfl rfl) rfl fun a hf => om hf rfl rfl fun a hf => oS hf (g := 96) rfl rfl rfl rfl rfl rfl fun a hf => oS hf (g := 96) rfl rfl rfl rfl rfl rfl fun a hf => oS hf (g := 96) rfl rfl rfl rfl rfl rfl fun a hf => oR hf (pF hf rfl rfl) rfl fun a hf => om hf rfl rfl fun a hf => oS hf (g := 101) rfl rfl rfl rfl rfl rfl fun a hf => oR hf (pF hf rfl rfl) rfl fun a hf => oa hf rfl rfl fun a hf => oN <| ct ?_
           have ho := oI hp
           subst ho
           exact ⟨false, rfl, hw, hf.to ⟨rfl, trivial⟩⟩
         ·replace hp := cond_f hb117 hp
          refine oS hf (g := 86) rfl rfl rfl rfl rfl rfl fun a hf => oS hf (g := 86) rfl rfl rfl rfl rfl rfl fun a hf => oS hf (g := 86) rfl rfl rfl rfl rfl rfl fun a hf => oR hf (pF hf rfl rfl) rfl fun a hf => om hf rfl rfl fun a hf => oS hf (g := 91) rfl rfl rfl rfl rfl rfl fun a hf => oS hf (g := 91) rfl rfl rfl rfl rfl rfl fun a hf => oS hf (g := 91) rfl rfl rfl rfl rfl rfl fun a hf => oR hf (pF hf rfl rfl) rfl fun a hf => om hf rfl rfl fun a hf => oS hf (g := 96) rfl rfl rfl rfl rfl rfl fun a hf => oS hf (g := 96) rfl rfl rfl rfl rfl rfl fun a hf => oS hf (g := 96) rfl rfl rfl rfl rfl rfl fun a hf => oR hf (pF hf rfl rfl) rfl fun a hf => om hf rfl rfl fun a hf => oS hf (g := 101) rfl rfl rfl rfl rfl rfl fun a hf => ?_
          refine oR hf (pF hf rfl rfl) rfl fun a hf => oa hf rfl rfl fun a hf => oN <| ct ?_
          have ho := oI hp
          subst ho
          exact ⟨false, rfl, hw, hf.to ⟨rfl, trivial⟩⟩
        ·replace hp := cond_f hb110 hp
         refine oS hf (g := 81) rfl rfl rfl rfl rfl rfl fun a hf => oS hf (g := 81) rfl rfl rfl rfl rfl rfl fun a hf => oS hf (g := 81) rfl rfl rfl rfl rfl rfl fun a hf => oR hf (pF hf rfl rfl) rfl fun a hf => om hf rfl rfl fun a hf => oS hf (g := 86) rfl rfl rfl rfl rfl rfl fun a hf => oS hf (g := 86) rfl rfl rfl rfl rfl rfl fun a hf => oS hf (g := 86) rfl rfl rfl rfl rfl rfl fun a hf => oR hf (pF hf rfl rfl) rfl fun a hf => om hf rfl rfl fun a hf => oS hf (g := 91) rfl rfl rfl rfl rfl rfl fun a hf => oS hf (g := 91) rfl rfl rfl rfl rfl rfl fun a hf => oS hf (g := 91) rfl rfl rfl rfl rfl rfl fun a hf => oR hf (pF hf rfl rfl) rfl fun a hf => om hf rfl rfl fun a hf => oS hf (g := 96) rfl rfl rfl rfl rfl rfl fun a hf => ?_
         refine oS hf (g := 96) rfl rfl rfl rfl rfl rfl fun a hf => oS hf (g := 96) rfl rfl rfl rfl rfl rfl fun a hf => oR hf (pF hf rfl rfl) rfl fun a hf => om hf rfl rfl fun a hf => oS hf (g := 101) rfl rfl rfl rfl rfl rfl fun a hf => oR hf (pF hf rfl rfl) rfl fun a hf => oa hf rfl rfl fun a hf => oN <| ct ?_
         have ho := oI hp
         subst ho
         exact ⟨false, rfl, hw, hf.to ⟨rfl, trivial⟩⟩
       ·replace hp := cond_f hb109 hp
        refine oS hf (g := 75) rfl rfl rfl rfl rfl rfl fun a hf => oS hf (g := 75) rfl rfl rfl rfl rfl rfl fun a hf => oS hf (g := 75) rfl rfl rfl rfl rfl rfl fun a hf => oS hf (g := 75) rfl rfl rfl rfl rfl rfl fun a hf => oR hf (pF hf rfl rfl) rfl fun a hf => om hf rfl rfl fun a hf => oS hf (g := 81) rfl rfl rfl rfl rfl rfl fun a hf => oS hf (g := 81) rfl rfl rfl rfl rfl rfl fun a hf => oS hf (g := 81) rfl rfl rfl rfl rfl rfl fun a hf => oR hf (pF hf rfl rfl) rfl fun a hf => om hf rfl rfl fun a hf => oS hf (g := 86) rfl rfl rfl rfl rfl rfl fun a hf => oS hf (g := 86) rfl rfl rfl rfl rfl rfl fun a hf => oS hf (g := 86) rfl rfl rfl rfl rfl rfl fun a hf => oR hf (pF hf rfl rfl) rfl fun a hf => om hf rfl rfl fun a hf => ?_
        refine oS hf (g := 91) rfl rfl rfl rfl rfl rfl fun a hf => oS hf (g := 91) rfl rfl rfl rfl rfl rfl fun a hf => oS hf (g := 91) rfl rfl rfl rfl rfl rfl fun a hf => oR hf (pF hf rfl rfl) rfl fun a hf => om hf rfl rfl fun a hf => oS hf (g := 96) rfl rfl rfl rfl rfl rfl fun a hf => oS hf (g := 96) rfl rfl rfl rfl rfl rfl fun a hf => oS hf (g := 96) rfl rfl rfl rfl rfl rfl fun a hf => oR hf (pF hf rfl rfl) rfl fun a hf => om hf rfl rfl fun a hf => oS hf (g := 101) rfl rfl rfl rfl rfl rfl fun a hf => oR hf (pF hf rfl rfl) rfl fun a hf => oa hf rfl rfl fun a hf => oN <| ct ?_
        have ho := oI hp
        subst ho
        exact ⟨false, rfl, hw, hf.to ⟨rfl, trivial⟩⟩
      ·replace hp := cond_f hb102 hp
       refine oS hf (g := 69) rfl rfl rfl rfl rfl rfl fun a hf => oS hf (g := 69) rfl rfl rfl rfl rfl rfl fun a hf => oS hf (g := 69) rfl rfl rfl rfl rfl rfl fun a hf => oS hf (g := 69) rfl rfl rfl rfl rfl rfl fun a hf => oR hf (pF hf rfl rfl) rfl fun a hf => om hf rfl rfl fun a hf => oS hf (g := 75) rfl rfl rfl rfl rfl rfl fun a hf => oS hf (g := 75) rfl rfl rfl rfl rfl rfl fun a hf => oS hf (g := 75) rfl rfl rfl rfl rfl rfl fun a hf => oS hf (g := 75) rfl rfl rfl rfl rfl rfl fun a hf => oR hf (pF hf rfl rfl) rfl fun a hf => om hf rfl rfl fun a hf => oS hf (g := 81) rfl rfl rfl rfl rfl rfl fun a hf => oS hf (g := 81) rfl rfl rfl rfl rfl rfl fun a hf => oS hf (g := 81) rfl rfl rfl rfl rfl rfl fun a hf => oR hf (pF hf rfl rfl) rfl fun a hf => ?_
       refine om hf rfl rfl fun a hf => oS hf (g := 86) rfl rfl rfl rfl rfl rfl fun a hf => oS hf (g := 86) rfl rfl rfl rfl rfl rfl fun a hf => oS hf (g := 86) rfl rfl rfl rfl rfl rfl fun a hf => oR hf (pF hf rfl rfl) rfl fun a hf => om hf rfl rfl fun a hf => oS hf (g := 91) rfl rfl rfl rfl rfl rfl fun a hf => oS hf (g := 91) rfl rfl rfl rfl rfl rfl fun a hf => oS hf (g := 91) rfl rfl rfl rfl rfl rfl fun a hf => oR hf (pF hf rfl rfl) rfl fun a hf => om hf rfl rfl fun a hf => oS hf (g := 96) rfl rfl rfl rfl rfl rfl fun a hf => oS hf (g := 96) rfl rfl rfl rfl rfl rfl fun a hf => oS hf (g := 96) rfl rfl rfl rfl rfl rfl fun a hf => oR hf (pF hf rfl rfl) rfl fun a hf => om hf rfl rfl fun a hf => ?_
       refine oS hf (g := 101) rfl rfl rfl rfl rfl rfl fun a hf => oR hf (pF hf rfl rfl) rfl fun a hf => oa hf rfl rfl fun a hf => oN <| ct ?_
       have ho := oI hp
       subst ho
       exact ⟨false, rfl, hw, hf.to ⟨rfl, trivial⟩⟩
     ·replace hp := cond_f hb101 hp
      refine oS hf (g := 63) rfl rfl rfl rfl rfl rfl fun a hf => oS hf (g := 63) rfl rfl rfl rfl rfl rfl fun a hf => oS hf (g := 63) rfl rfl rfl rfl rfl rfl fun a hf => oS hf (g := 63) rfl rfl rfl rfl rfl rfl fun a hf => oR hf (pF hf rfl rfl) rfl fun a hf => om hf rfl rfl fun a hf => oS hf (g := 69) rfl rfl rfl rfl rfl rfl fun a hf => oS hf (g := 69) rfl rfl rfl rfl rfl rfl fun a hf => oS hf (g := 69) rfl rfl rfl rfl rfl rfl fun a hf => oS hf (g := 69) rfl rfl rfl rfl rfl rfl fun a hf => oR hf (pF hf rfl rfl) rfl fun a hf => om hf rfl rfl fun a hf => oS hf (g := 75) rfl rfl rfl rfl rfl rfl fun a hf => oS hf (g := 75) rfl rfl rfl rfl rfl rfl fun a hf => oS hf (g := 75) rfl rfl rfl rfl rfl rfl fun a hf => oS hf (g := 75) rfl rfl rfl rfl rfl rfl fun a hf => ?_
      refine oR hf (pF hf rfl rfl) rfl fun a hf => om hf rfl rfl fun a hf => oS hf (g := 81) rfl rfl rfl rfl rfl rfl fun a hf => oS hf (g := 81) rfl rfl rfl rfl rfl rfl fun a hf => oS hf (g := 81) rfl rfl rfl rfl rfl rfl fun a hf => oR hf (pF hf rfl rfl) rfl fun a hf => om hf rfl rfl fun a hf => oS hf (g := 86) rfl rfl rfl rfl rfl rfl fun a hf => oS hf (g := 86) rfl rfl rfl rfl rfl rfl fun a hf => oS hf (g := 86) rfl rfl rfl rfl rfl rfl fun a hf => oR hf (pF hf rfl rfl) rfl fun a hf => om hf rfl rfl fun a hf => oS hf (g := 91) rfl rfl rfl rfl rfl rfl fun a hf => oS hf (g := 91) rfl rfl rfl rfl rfl rfl fun a hf => oS hf (g := 91) rfl rfl rfl rfl rfl rfl fun a hf => oR hf (pF hf rfl rfl) rfl fun a hf => ?_
      refine om hf rfl rfl fun a hf => oS hf (g := 96) rfl rfl rfl rfl rfl rfl fun a hf => oS hf (g := 96) rfl rfl rfl rfl rfl rfl fun a hf => oS hf (g := 96) rfl rfl rfl rfl rfl rfl fun a hf => oR hf (pF hf rfl rfl) rfl fun a hf => om hf rfl rfl fun a hf => oS hf (g := 101) rfl rfl rfl rfl rfl rfl fun a hf => oR hf (pF hf rfl rfl) rfl fun a hf => oa hf rfl rfl fun a hf => oN <| ct ?_
      have ho := oI hp
      subst ho
      exact ⟨false, rfl, hw, hf.to ⟨rfl, trivial⟩⟩
    ·intro a w hM
     obtain ⟨y92, rfl, hw, hf⟩ := hM
     replace hp := hq94
     refine wp_ret ?_
     replace hw : Ok E I2_2321 (F) w := hw.sub (sc (sc (sc sr)))
     have ho := oI hp
     subst ho
     exact b_ret1 hf Go.Proofs.Tryd.results3 rfl ⟨_, rfl, ⟨rfl, (hw.back (IH.le_trans (IH.le_trans (IH.le_trans hle532 hle550) hle560) hle2327) sr)⟩⟩
end Go.Lf
