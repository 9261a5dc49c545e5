/- The walks. Written by our own program gen.py; Lean checks it. -/
import Derived.Test.YtbckcjjffbgidaaGreatDoorPlain
import Derived.Test.YtbckcjjffbgidaaGreatDoorEqs
import Derived.Test.YtbckcjjffbgidaaGreatDoorProg
import Derived.Test.YtbckcjjffbgidaaGreatDoorExt
import Derived.Test.YtbckcjjffbgidaaGreatDoorBuild
import Derived.Test.YtbckcjjffbgidaaGreatDoorClone
import Derived.Test.YtbckcjjffbgidaaGreatDoorWalk0
import Derived.Test.YtbckcjjffbgidaaGreatDoorWalk2
set_option linter.unusedVariables false
set_option maxRecDepth 100000
set_option maxHeartbeats 4000000
namespace Go.Proofs.YtbckcjjffbgidaaGreatDoor.W
open Go Go.RowKit Go.Proofs.Tryz
theorem diagram_given_con (p_l : (List (List UInt8))) (p_most : Int) (ao1 : Option Addr) (cap1 : Nat) (w : World) (H : Heap) (hH : Le H (hp w)) (h1 : SL H encStr ao1 p_l) (hc1 : p_l.length ≤ cap1) (hG : Glob H) (r : Int) (hm : diagram_given p_l p_most = some r) :
  Con prog 66 [(.slice ao1 p_l.length cap1), (.int .i64 p_most)] w H (fun v _ => v = (.int .i64 r)) := by
 unfold diagram_given at hm
 refine con_of hH func66 rfl 11 ntmps66 rfl ?_
 refine WP.seq (WP.region (Va rfl (WL.nil (tn (WP.seq (WP.seq (WP.region (Vm rfl (V rfl (ov_len_slice underlying27 rfl rfl) (Vm rfl (V rfl (ov_gtr rfl rfl rfl) (WL.nil (tn ?_)))))))))))))
 refine WP.cond rfl (fun hc2 => ?_) (fun hc2 => ?_)
 ·
  replace hm := ite_t hc2 hm
  refine WP.seq (WP.region (Va rfl (WL.nil (tn (WP.ret (then_ret ?_))))))
  obtain rfl := Option.some.inj hm
  refine retQ_ret results66 (Res.tmp rfl Res.nil) rfl (fun w' s => ⟨s.below, ?_⟩)
  exact rfl
 replace hm := ite_f hc2 hm
 refine WP.skip (tn (WP.seq (WP.seq (WP.region (Vm rfl ?_)))))
 obtain ⟨r1, e1, hm⟩ := bind_some hm
 refine wo rfl (oq_con (r := (.bool r1)) call102 rfl rfl (fun w' s => ⟨_, (slices_ContainsFunc_stringstring_diagram_given_1_con p_l ao1 cap1  w' H s.hold h1 hc1 hG r1 e1)⟩)) ?_
 refine WL.nil (tn ?_)
 refine WP.cond rfl (fun hc3 => ?_) (fun hc3 => ?_)
 ·
  replace hm := ite_t hc3 hm
  refine WP.seq (WP.region (Va rfl (WL.nil (tn (WP.ret (then_ret ?_))))))
  obtain rfl := Option.some.inj hm
  refine retQ_ret results66 (Res.tmp rfl Res.nil) rfl (fun w' s => ⟨s.below, ?_⟩)
  exact rfl
 replace hm := ite_f hc3 hm
 refine WP.skip (tn (WP.seq (WP.region (Va rfl (WL.nil (tn (WP.ret ?_)))))))
 obtain rfl := Option.some.inj hm
 refine retQ_ret results66 (Res.tmp rfl Res.nil) rfl (fun w' s => ⟨s.below, ?_⟩)
 exact rfl
theorem internal_stringslite_HasPrefix_con (p_s : (List UInt8)) (p_prefix : (List UInt8)) (w : World) (H : Heap) (hH : Le H (hp w)) (hG : Glob H) (r : Bool) (hm : internal_stringslite_HasPrefix p_s p_prefix = some r) :
  Con prog 104 [(mkS p_s), (mkS p_prefix)] w H (fun v _ => v = (.bool r)) := by
 unfold internal_stringslite_HasPrefix at hm
 refine con_of hH func104 rfl 18 ntmps104 rfl ?_
 refine WP.seq (WP.region (Va rfl (WL.nil (tn (WP.seq (WP.region (Vm rfl (V rfl (ov_len_string underlying9 rfl rfl) (Vm rfl (V rfl (ov_len_string underlying9 rfl rfl) (V rfl (ov_geq rfl rfl rfl) (Vm rfl ?_))))))))))))
 obtain ⟨c1, e1, hm⟩ := bind_some hm
 refine WL.cut_bool 7 17 (x := c1) ?_ ?_
 ·
  rcases Bool.eq_false_or_eq_true (decide ((p_s.length : Int) ≥ (p_prefix.length : Int))) with hc1 | hc1
  ·
   replace hm := ite_t hc1 e1
   refine wy hc1 rfl (ov_move rfl rfl) ?_
   refine wy hc1 rfl (ov_move rfl rfl) ?_
   refine wy hc1 rfl (ov_len_string underlying9 rfl rfl) ?_
   obtain ⟨s1, e2, hm⟩ := bind_some hm
   refine wy hc1 rfl (ov_slice_string_to underlying9 rfl rfl rfl e2) ?_
   refine wy hc1 rfl (ov_move rfl rfl) ?_
   refine wy hc1 rfl (ov_seql rfl rfl rfl) ?_
   refine V rfl (ov_pick_true rfl (guard_eq rfl hc1) rfl) ?_
   exact WL.nil ⟨Sub.cons' rfl (congrArg Value.bool (Option.some.inj hm)) (Sub.dropn 7 rfl), fun _ s => s⟩
  replace hm := ite_f hc1 e1
  refine Vi rfl (Idle.no rfl rfl rfl hc1) (Vi rfl (Idle.no rfl rfl rfl hc1) (Vi rfl (Idle.no rfl rfl rfl hc1) (Vi rfl (Idle.no rfl rfl rfl hc1) (Vi rfl (Idle.no rfl rfl rfl hc1) (Vi rfl (Idle.no rfl rfl rfl hc1) (V rfl (ov_pick_false rfl (guard_eq rfl hc1) rfl) ?_))))))
  exact WL.nil ⟨Sub.cons' rfl (congrArg Value.bool (Option.some.inj hm)) (Sub.dropn 7 rfl), fun _ s => s⟩
 refine Va rfl (WL.nil (tn (WP.ret ?_)))
 obtain rfl := Option.some.inj hm
 refine retQ_ret results104 (Res.tmp rfl Res.nil) rfl (fun w' s => ⟨s.below, ?_⟩)
 exact rfl
theorem strings_HasPrefix_con (p_s : (List UInt8)) (p_prefix : (List UInt8)) (w : World) (H : Heap) (hH : Le H (hp w)) (hG : Glob H) (r : Bool) (hm : strings_HasPrefix p_s p_prefix = some r) :
  Con prog 67 [(mkS p_s), (mkS p_prefix)] w H (fun v _ => v = (.bool r)) := by
 unfold strings_HasPrefix at hm
 refine con_of hH func67 rfl 8 ntmps67 rfl ?_
 refine WP.seq (WP.region (Va rfl (WL.nil (tn (WP.seq (WP.region (Vm rfl (Vm rfl ?_))))))))
 obtain ⟨r1, e1, hm⟩ := bind_some hm
 refine wo rfl (oq_con (r := (.bool r1)) call104 rfl rfl (fun w' s => ⟨_, (internal_stringslite_HasPrefix_con p_s p_prefix  w' H s.hold hG r1 e1)⟩)) ?_
 refine Va rfl (WL.nil (tn (WP.ret ?_)))
 obtain rfl := Option.some.inj hm
 refine retQ_ret results67 (Res.tmp rfl Res.nil) rfl (fun w' s => ⟨s.below, ?_⟩)
 exact rfl
theorem slices_Index_bytebyte_con (p_s : (List Int)) (p_v : Int) (ao1 : Option Addr) (cap1 : Nat) (w : World) (H : Heap) (hH : Le H (hp w)) (h1 : SL H (encInt .u8) ao1 p_s) (hc1 : p_s.length ≤ cap1) (hG : Glob H) (r : Int) (hm : slices_Index_bytebyte p_s p_v = some r) :
  Con prog 105 [(.slice ao1 p_s.length cap1), (.int .u8 p_v)] w H (fun v _ => v = (.int .i64 r)) := by
 unfold slices_Index_bytebyte at hm
 refine con_of hH func105 rfl 19 ntmps105 rfl ?_
 refine WP.seq (WP.region (Va rfl (WL.nil (tn ?_))))
 obtain ⟨k1, hk1, hm⟩ := joinK_some hm
 refine WP.seq_join (fun g' S' => Sub [(1000000007, (.bool false))] g' ∧ (∀ w', S' w' → St w H [] H w') ∧ k1 = some r) ?_ ?_
 ·
  refine WP.seq (WP.region (Vm rfl (V rfl (ov_len_slice underlying75 rfl rfl) (Vm rfl (WL.nil (tn (WP.block ?_)))))))
  refine WP.loop (fun m1 g' S' => ∃ (i1 : Int), Sub [(0, (.slice ao1 p_s.length cap1)), (1, (.int .u8 p_v)), (7, (.int .i64 (p_s.length : Int))), (8, (.int .i64 i1)), (1000000007, (.bool false))] g' ∧ (∀ w', S' w' → St w H [] H w') ∧ slices_Index_bytebyte_loop1 p_s p_v k1 m1 i1 = some r) ((Int.toNat ((p_s.length : Int) - 0) + 1)) ⟨0, (Sub.all rfl), fun w' s => s, hm⟩ ?_ ?_
  ·
   rintro g' S' ⟨_, _, _, hm⟩
   exact none_some hm
  rintro m1 g' S' ⟨i1, hsub1, hS1, hm⟩
  refine WP.sub hsub1 (WP.weaken hS1 ?_)
  rw [slices_Index_bytebyte_loop1] at hm
  refine WP.seq (WP.region (V rfl (ov_lss rfl rfl rfl) (WL.nil (tn (WP.seq ?_)))))
  refine WP.cond rfl (fun hc2 => ?_) (fun hc2 => ?_)
  ·
   replace hm := ite_t hc2 hm
   refine WP.skip (tn (WP.seq (WP.block (WP.seq (WP.region (Vm rfl (Va rfl (WL.nil (tn (WP.seq (WP.region (Vm rfl (Vm rfl ?_)))))))))))))
   refine Vm rfl ?_
   obtain ⟨x1, e1, hm⟩ := bind_some hm
   obtain ⟨h2, h3, h4, cs1, h5, h6⟩ := h1.get e1 (by decide)
   obtain rfl : cs1 = [(.int .u8 x1)] := h5
   refine V rfl (ov_indexAddr underlying75 sizeOf5 rfl rfl rfl h2 h3 h4) (V rfl (ov_load_elem (v := (.int .u8 x1)) isAgg5 rfl rfl h6) (V rfl (ov_eql rfl rfl rfl) (WL.nil (tn ?_))))
   refine WP.cond rfl (fun hc3 => ?_) (fun hc3 => ?_)
   ·
    replace hm := ite_t hc3 hm
    refine WP.seq (WP.region (Vm rfl (Va rfl (WL.nil (tn (WP.ret (block_ret (then_ret (then_ret (block_ret (then_ret ?_)))))))))))
    obtain rfl := Option.some.inj hm
    refine retQ_ret results105 (Res.tmp rfl Res.nil) rfl (fun w' s => ⟨s.below, ?_⟩)
    exact rfl
   replace hm := ite_f hc3 hm
   refine WP.skip (bn (tn (WP.region (V rfl (ov_add rfl rfl rfl) (Vm rfl (WL.nil (tn ?_)))))))
   exact ⟨(IntKind.wrap .i64 (i1 + 1)), (Sub.all rfl), fun w' s => s, hm⟩
  replace hm := ite_f hc2 hm
  refine WP.exit (then_exit (then_exit (block_here (tn ?_))))
  exact ⟨(Sub.all rfl), fun w' s => s, hm⟩
 rintro g' S' ⟨hsub2, hS2, hm⟩
 refine WP.sub hsub2 (WP.weaken hS2 ?_)
 replace hm := hk1.symm.trans hm
 refine WP.seq (WP.region (Va rfl (WL.nil (tn (WP.ret ?_)))))
 obtain rfl := Option.some.inj hm
 refine retQ_ret results105 (Res.tmp rfl Res.nil) rfl (fun w' s => ⟨s.below, ?_⟩)
 exact rfl
theorem diagram_Read_con (p_l : (List (List UInt8))) (ao1 : Option Addr) (cap1 : Nat) (w : World) (H : Heap) (hH : Le H (hp w)) (h1 : SL H encStr ao1 p_l) (hc1 : p_l.length ≤ cap1) (hG : Glob H) (r : (Sequence × Int)) (hm : diagram_Read p_l = some r) :
  Con prog 30 [(.slice ao1 p_l.length cap1)] w H (fun v H' => ∃ (ao2 : Option Addr) (cap2 : Nat), v = (.tuple #[(.agg #[(.int .i64 r.1.actuators), (.slice ao2 r.1.steps.length cap2)]), (.int .i64 r.2)]) ∧ SL H' encStep ao2 r.1.steps ∧ r.1.steps.length ≤ cap2) := by
 unfold diagram_Read at hm
 refine con_of hH func30 rfl 86 ntmps30 rfl ?_
 refine WP.seq (WP.region ?_)
 refine ws rfl (os_alloc (cs := [(.int .i64 0), (.slice none 0 0)]) zeroValue24 rfl rfl (fun b1 => ?_))
 refine Va rfl (WL.nil (tn (WP.seq (WP.seq (WP.region (Vm rfl ?_))))))
 obtain ⟨r1, e1, hm⟩ := bind_some hm
 refine wo rfl (oq_con (r := (.int .i64 r1)) call66 rfl rfl (fun w' s => ⟨_, (diagram_given_con p_l 7 ao1 cap1  w' H s.hold h1 hc1 hG r1 e1)⟩)) ?_
 refine Va rfl (WL.nil (tn (WP.seq (WP.region (Vm rfl (V rfl (ov_neq rfl rfl rfl) (WL.nil (tn ?_))))))))
 refine WP.cond rfl (fun hc3 => ?_) (fun hc3 => ?_)
 ·
  replace hm := ite_t hc3 hm
  refine WP.seq (WP.region (V rfl (ov_build (r := (.agg #[(.int .i64 0), (.slice none 0 0)])) rfl rfl (fun _ => by kernel_rfl)) (Vm rfl ?_)))
  refine ws0 rfl (os_store (i := 0) (vs := [(.int .i64 0), (.slice none 0 0)]) (cs' := [(.int .i64 0), (.slice none 0 0)]) sizeOf24 rfl rfl rfl rfl rfl rfl rfl rfl rfl ?_)
  refine Va rfl (WL.nil (tn (WP.ret (then_ret ?_))))
  obtain rfl := Option.some.inj hm
  refine retQ_ret results30 (Res.cell rfl (box_loads (i := 0) isAgg24 sizeOf24 rfl rfl) (Res.tmp rfl Res.nil)) rfl (fun w' s => ⟨s.below, ?_⟩)
  exact ⟨none, 0, rfl, SL.nil _ _ _, Nat.le_refl _⟩
 replace hm := ite_f hc3 hm
 refine WP.skip (tn (WP.seq (WP.region (Vm rfl (Va rfl (Va rfl (WL.nil (tn ?_))))))))
 obtain ⟨k1, hk1, hm⟩ := joinK_some hm
 refine WP.seq_join (fun g' S' => ∃ (l2 : (List (List UInt8))) (ao4 : _) (cap4 : _) (s1 : (List UInt8)), SL H encStr ao4 l2 ∧ l2.length ≤ cap4 ∧ Sub [(0, (.slice ao1 p_l.length cap1)), (2, (pB b1 0)), (5, (.slice ao4 l2.length cap4)), (6, (mkS s1)), (1000000007, (.bool false))] g' ∧ (∀ w', S' w' → St w H [.blk b1 24 [(.int .i64 0), (.slice none 0 0)]] H w') ∧ k1 l2 s1 = some r) ?_ ?_
 ·
  refine WP.seq (WP.region (Vm rfl (V rfl (ov_len_slice underlying27 rfl rfl) (Va rfl (WL.nil (tn (WP.seq (WP.region (Vm rfl (V rfl (ov_gtr rfl rfl rfl) (Vm rfl ?_)))))))))))
  obtain ⟨c1, e2, hm⟩ := bind_some hm
  refine WL.cut_bool 7 28 (x := c1) ?_ ?_
  ·
   rcases Bool.eq_false_or_eq_true (decide ((p_l.length : Int) > 0)) with hc4 | hc4
   ·
    replace hm := ite_t hc4 e2
    refine wy hc4 rfl (ov_move rfl rfl) ?_
    refine wy hc4 rfl (ov_move rfl rfl) ?_
    refine wy hc4 rfl (ov_sub rfl rfl rfl) ?_
    obtain ⟨x1, e3, hm⟩ := bind_some hm
    obtain ⟨h3, h4, h5, cs1, h6, h7⟩ := h1.get e3 (by decide)
    obtain rfl : cs1 = [(mkS x1)] := h6
    refine wy hc4 rfl (ov_indexAddr underlying27 sizeOf9 rfl rfl rfl h3 h4 h5) ?_
    refine wy hc4 rfl (ov_load_elem (v := (mkS x1)) isAgg9 rfl rfl h7) ?_
    obtain ⟨r2, e4, hm⟩ := bind_some hm
    refine WL.quiet (Runs.yes rfl rfl rfl hc4) rfl rfl (oq_con (r := (.bool r2)) call67 rfl rfl (fun w' s => ⟨_, (strings_HasPrefix_con x1 [84]  w' H s.hold hG r2 e4)⟩)) ?_
    refine V rfl (ov_pick_true rfl (guard_eq rfl hc4) rfl) ?_
    exact WL.nil ⟨Sub.cons' rfl (congrArg Value.bool (Option.some.inj hm)) (Sub.dropn 7 rfl), fun _ s => s⟩
   replace hm := ite_f hc4 e2
   refine Vi rfl (Idle.no rfl rfl rfl hc4) (Vi rfl (Idle.no rfl rfl rfl hc4) (Vi rfl (Idle.no rfl rfl rfl hc4) (Vi rfl (Idle.no rfl rfl rfl hc4) (Vi rfl (Idle.no rfl rfl rfl hc4) (Vi rfl (Idle.no rfl rfl rfl hc4) (V rfl (ov_pick_false rfl (guard_eq rfl hc4) rfl) ?_))))))
   exact WL.nil ⟨Sub.cons' rfl (congrArg Value.bool (Option.some.inj hm)) (Sub.dropn 7 rfl), fun _ s => s⟩
  refine WL.nil (tn ?_)
  refine WP.cond rfl (fun hc5 => ?_) (fun hc5 => ?_)
  ·
   replace hm := ite_t hc5 hm
   refine WP.region_draws (by kernel_rfl) (by kernel_rfl) (fun _ s => s.drew) ?_
   refine qf rfl (ov_move rfl rfl) ?_
   refine qf rfl (ov_move rfl rfl) ?_
   refine qf rfl (ov_sub rfl rfl rfl) ?_
   obtain ⟨l1, e5, hm⟩ := bind_some hm
   obtain ⟨ao3, cap3, h8, h9, hc6⟩ := sl_h h1 hc1 e5
   refine qf rfl (h8 underlying27 sizeOf9 rfl rfl rfl ) ?_
   refine qf rfl (ov_move rfl rfl) ?_
   refine qf rfl (ov_move rfl rfl) ?_
   refine qf rfl (ov_sub rfl rfl rfl) ?_
   obtain ⟨x2, e6, hm⟩ := bind_some hm
   obtain ⟨h10, h11, h12, cs2, h13, h14⟩ := h1.get e6 (by decide)
   obtain rfl : cs2 = [(mkS x2)] := h13
   refine qf rfl (ov_indexAddr underlying27 sizeOf9 rfl rfl rfl h10 h11 h12) ?_
   refine qf rfl (ov_load_elem (v := (mkS x2)) isAgg9 rfl rfl h14) ?_
   refine qf rfl (ov_assign rfl rfl) ?_
   refine qf rfl (ov_assign rfl rfl) ?_
   refine QL.nil ?_
   refine tn ?_
   exact ⟨l1, ao3, cap3, x2, h9, hc6, (Sub.all rfl), fun w' s => s, hm⟩
  replace hm := ite_f hc5 hm
  refine WP.skip (tn ?_)
  exact ⟨p_l, ao1, cap1, [], h1, hc1, (Sub.all rfl), fun w' s => s, hm⟩
 rintro g' S' ⟨l2, ao4, cap4, s1, h15, hc7, hsub1, hS1, hm⟩
 refine WP.sub hsub1 (WP.weaken hS1 ?_)
 replace hm := (congrFun (congrFun hk1 l2) s1).symm.trans hm
 refine WP.seq (WP.region (Vm rfl (V rfl (ov_len_slice underlying27 rfl rfl) (V rfl (ov_build (r := (.agg #[(.int .i64 (l2.length : Int)), (.slice none 0 0)])) rfl rfl (fun _ => by kernel_rfl)) ?_))))
 refine ws rfl (os_alloc (cs := [(.int .i64 0), (.slice none 0 0)]) zeroValue24 rfl rfl (fun b2 => ?_))
 refine ws0 rfl (os_store (i := 0) (vs := [(.int .i64 (l2.length : Int)), (.slice none 0 0)]) (cs' := [(.int .i64 (l2.length : Int)), (.slice none 0 0)]) sizeOf24 rfl rfl rfl rfl rfl rfl rfl rfl rfl ?_)
 refine WL.nil (tn ?_)
 have rl1 := RL.nil (α := Step) H encStep
 refine WP.weaken (fun _ s => s.nilrow 45 (encStep).size) ?_
 obtain ⟨k2, hk2, hm⟩ := joinK_some hm
 refine WP.seq_join (fun g' S' => ∃ (H3 : Heap) (l9 : (List Step)) (ao11 : _) (cap11 : _) (xs5 : _), Le H H3 ∧ RL H3 encStep l9 xs5 ∧ Sub [(0, (.slice ao1 p_l.length cap1)), (2, (pB b1 0)), (6, (mkS s1)), (8, (pB b2 0)), (1000000007, (.bool false))] g' ∧ (∀ w', S' w' → St w H [rowE 45 encStep l9 ao11 cap11 xs5, .blk b2 24 [(.int .i64 (l2.length : Int)), (.slice ao11 l9.length cap11)], .blk b1 24 [(.int .i64 0), (.slice none 0 0)]] H3 w') ∧ k2 l9 = some r) ?_ ?_
 ·
  refine WP.seq (WP.region (Vm rfl (V rfl (ov_len_slice underlying27 rfl rfl) (V rfl (ov_gtr rfl rfl rfl) (WL.nil (tn ?_))))))
  refine WP.cond rfl (fun hc8 => ?_) (fun hc8 => ?_)
  ·
   replace hm := ite_t hc8 hm
   refine WP.seq (WP.region (Va rfl (WL.nil (tn (WP.block ?_)))))
   refine WP.loop (fun m1 g' S' => ∃ (H1 : Heap) (i1 : Int) (l3 : (List Step)) (ao5 : _) (cap5 : _) (xs1 : _), Le H H1 ∧ RL H1 encStep l3 xs1 ∧ Sub [(0, (.slice ao1 p_l.length cap1)), (2, (pB b1 0)), (5, (.slice ao4 l2.length cap4)), (6, (mkS s1)), (8, (pB b2 0)), (9, (.int .i64 i1)), (1000000007, (.bool false))] g' ∧ (∀ w', S' w' → St w H [rowE 45 encStep l3 ao5 cap5 xs1, .blk b2 24 [(.int .i64 (l2.length : Int)), (.slice ao5 l3.length cap5)], .blk b1 24 [(.int .i64 0), (.slice none 0 0)]] H1 w') ∧ diagram_Read_loop1 l2 k2 m1 i1 l3 = some r) (70) ⟨H, 3, ([] : List Step), none, 0, [], (Le.refl _), rl1, (Sub.all rfl), fun w' s => s, hm⟩ ?_ ?_
   ·
    rintro g' S' ⟨_, _, _, _, _, _, _, _, _, _, hm⟩
    exact none_some hm
   rintro m1 g' S' ⟨H1, i1, l3, ao5, cap5, xs1, hle1, rl2, hsub2, hS2, hm⟩
   refine WP.sub hsub2 (WP.weaken hS2 ?_)
   rw [diagram_Read_loop1] at hm
   replace h1 := h1.mono hle1
   replace h15 := h15.mono hle1
   replace hG := hG.mono hle1
   refine WP.seq (WP.seq (WP.region (Vm rfl (V rfl (ov_add rfl rfl rfl) (Vm rfl ?_)))))
   obtain ⟨x3, e7, hm⟩ := bind_some hm
   obtain ⟨h16, h17, h18, cs3, h19, h20⟩ := h15.get e7 (by decide)
   obtain rfl : cs3 = [(mkS x3)] := h19
   refine V rfl (ov_indexAddr underlying27 sizeOf9 rfl rfl rfl h16 h17 h18) (V rfl (ov_load_elem (v := (mkS x3)) isAgg9 rfl rfl h20) (V rfl (ov_len_string underlying9 rfl rfl) (V rfl (ov_lss rfl rfl rfl) (Vm rfl ?_))))
   refine WL.cut_bool 5 56 (x := ((decide ((IntKind.wrap .i64 (i1 + 1)) < (x3.length : Int))) && (decide ((l3.length : Int) ≤ 64)))) ?_ ?_
   ·
    rcases Bool.eq_false_or_eq_true (decide ((IntKind.wrap .i64 (i1 + 1)) < (x3.length : Int))) with hc9 | hc9
    ·
     refine wy hc9 rfl (ov_fieldAddr underlying24 rfl rfl rfl sizeOf22 rfl rfl) ?_
     refine wy hc9 rfl (ov_load_box (i := 1) isAgg22 rfl rfl rfl rfl) ?_
     refine wy hc9 rfl (ov_len_slice underlying22 rfl rfl) ?_
     refine wy hc9 rfl (ov_leq rfl rfl rfl) ?_
     refine V rfl (ov_pick_true rfl (guard_eq rfl hc9) rfl) ?_
     exact WL.nil ⟨Sub.cons' rfl (congrArg Value.bool (andT hc9)) (Sub.dropn 5 rfl), fun _ s => s⟩
    refine Vi rfl (Idle.no rfl rfl rfl hc9) (Vi rfl (Idle.no rfl rfl rfl hc9) (Vi rfl (Idle.no rfl rfl rfl hc9) (Vi rfl (Idle.no rfl rfl rfl hc9) (V rfl (ov_pick_false rfl (guard_eq rfl hc9) rfl) ?_))))
    exact WL.nil ⟨Sub.cons' rfl (congrArg Value.bool (andF hc9)) (Sub.dropn 5 rfl), fun _ s => s⟩
   refine WL.nil (tn ?_)
   refine WP.cond rfl (fun hc10 => ?_) (fun hc10 => ?_)
   ·
    replace hm := ite_t hc10 hm
    refine WP.skip (tn (WP.seq (WP.block ?_)))
    refine WP.region_any (S₀ := St w H [.blk b1 24 [(.int .i64 0), (.slice none 0 0)]] H1) 10 rfl (by kernel_rfl) (fun w' s => (s.sl [2])) (fun _ s => s.drew) ?_
    refine TQ' 0 rfl (ov_fieldAddr underlying24 rfl rfl rfl sizeOf22 rfl rfl) (TQ' 2 rfl (ov_build (r := (.agg #[(.slice none 0 0), (.int .i64 0)])) rfl rfl (fun _ => by kernel_rfl)) (TQ' 3 rfl (ov_move rfl rfl) (TQ' 4 rfl (ov_move rfl rfl) ?_)))
    refine AL.any (rs := [1, 5]) (by kernel_rfl) (by decide) ?_
    refine ALs.cons (i := 1) rfl (Runs.free rfl) rfl rfl ?_ ?_
    ·
     refine OQ.step (OV.quiet (ov_load_box (i := 1) isAgg22 rfl rfl rfl rfl)) ?_
     refine ⟨fun w' s => (s.sl [2]), ?_⟩
     refine AL.any (rs := [5]) (by kernel_rfl) (by decide) ?_
     refine ALs.cons (i := 5) rfl (Runs.free rfl) rfl rfl ?_ ?_
     ·
      refine os_inline (cap := []) (vs := [(.agg #[(.slice none 0 0), (.int .i64 0)]), (.slice ao4 l2.length cap4), (.int .i64 i1)]) call68 rfl rfl rfl func68 rfl 39 ntmps68 rfl (fun w' s => ?_)
      refine WP.seq (WP.region ?_)
      refine ws rfl (os_box (cs := [(.slice none 0 0), (.int .i64 0)]) rfl rfl rfl (fun b3 => ?_))
      refine ws rfl (os_alloc (cs := [(.slice none 0 0), (.int .i64 0)]) zeroValue45 rfl rfl (fun b4 => ?_))
      refine WL.nil (tn ?_)
      obtain ⟨k3, hk3, hm⟩ := joinK_some hm
      refine WP.seq_join (fun g' S' => ∃ (l7 : (List Stroke)) (ao9 : _) (cap9 : _) (xs4 : _), RL H1 encStroke l7 xs4 ∧ Sub [(3, (pB b3 0)), (6, (pB b4 0)), (1000000007, (.bool false))] g' ∧ (∀ w', S' w' → St w H [rowE 48 encStroke l7 ao9 cap9 xs4, .blk b4 45 [(.slice none 0 0), (.int .i64 0)], .blk b3 45 [(.slice ao9 l7.length cap9), (.int .i64 0)], rowE 45 encStep l3 ao5 cap5 xs1, .blk b2 24 [(.int .i64 (l2.length : Int)), (.slice ao5 l3.length cap5)], .blk b1 24 [(.int .i64 0), (.slice none 0 0)]] H1 w') ∧ k3 l7 = some r) ?_ ?_
      ·
       refine WP.seq (WP.region (Vm rfl (V rfl (ov_len_slice underlying27 rfl rfl) (Vm rfl (WL.nil (tn (WP.block ?_)))))))
       have rl3 := RL.nil (α := Stroke) H1 encStroke
       refine WP.weaken (fun _ s => s.nilrow 48 (encStroke).size) ?_
       refine WP.loop (fun m2 g' S' => ∃ (i2 : Int) (l4 : (List Stroke)) (ao6 : _) (cap6 : _) (xs2 : _), RL H1 encStroke l4 xs2 ∧ Sub [(2, (.int .i64 i1)), (3, (pB b3 0)), (6, (pB b4 0)), (10, (.slice ao4 l2.length cap4)), (11, (.int .i64 (l2.length : Int))), (12, (.int .i64 i2)), (1000000007, (.bool false))] g' ∧ (∀ w', S' w' → St w H [rowE 48 encStroke l4 ao6 cap6 xs2, .blk b4 45 [(.slice none 0 0), (.int .i64 0)], .blk b3 45 [(.slice ao6 l4.length cap6), (.int .i64 0)], rowE 45 encStep l3 ao5 cap5 xs1, .blk b2 24 [(.int .i64 (l2.length : Int)), (.slice ao5 l3.length cap5)], .blk b1 24 [(.int .i64 0), (.slice none 0 0)]] H1 w') ∧ diagram_Read_loop2 l2 i1 k3 m2 i2 l4 = some r) ((Int.toNat ((l2.length : Int) - 0) + 1)) ⟨0, ([] : List Stroke), none, 0, [], rl3, (Sub.all rfl), fun w' s => s, hm⟩ ?_ ?_
       ·
        rintro g' S' ⟨_, _, _, _, _, _, _, _, hm⟩
        exact none_some hm
       rintro m2 g' S' ⟨i2, l4, ao6, cap6, xs2, rl4, hsub3, hS3, hm⟩
       refine WP.sub hsub3 (WP.weaken hS3 ?_)
       rw [diagram_Read_loop2] at hm
       refine WP.seq (WP.region (V rfl (ov_lss rfl rfl rfl) (WL.nil (tn (WP.seq ?_)))))
       refine WP.cond rfl (fun hc11 => ?_) (fun hc11 => ?_)
       ·
        replace hm := ite_t hc11 hm
        refine WP.skip (tn ?_)
        obtain ⟨k4, hk4, hm⟩ := joinK_some hm
        refine WP.seq_join (fun g' S' => ∃ (l6 : (List Stroke)) (ao8 : _) (cap8 : _) (xs3 : _), RL H1 encStroke l6 xs3 ∧ Sub [(2, (.int .i64 i1)), (3, (pB b3 0)), (6, (pB b4 0)), (10, (.slice ao4 l2.length cap4)), (11, (.int .i64 (l2.length : Int))), (12, (.int .i64 i2)), (1000000007, (.bool false))] g' ∧ (∀ w', S' w' → St w H [rowE 48 encStroke l6 ao8 cap8 xs3, .blk b4 45 [(.slice none 0 0), (.int .i64 0)], .blk b3 45 [(.slice ao8 l6.length cap8), (.int .i64 0)], rowE 45 encStep l3 ao5 cap5 xs1, .blk b2 24 [(.int .i64 (l2.length : Int)), (.slice ao5 l3.length cap5)], .blk b1 24 [(.int .i64 0), (.slice none 0 0)]] H1 w') ∧ k4 l6 = some r) ?_ ?_
        ·
         refine WP.block (WP.seq (WP.region (Vm rfl ?_)))
         obtain ⟨x4, e8, hm⟩ := bind_some hm
         obtain ⟨h21, h22, h23, cs4, h24, h25⟩ := h15.get e8 (by decide)
         obtain rfl : cs4 = [(mkS x4)] := h24
         refine V rfl (ov_indexAddr underlying27 sizeOf9 rfl rfl rfl h21 h22 h23) (V rfl (ov_load_elem (v := (mkS x4)) isAgg9 rfl rfl h25) (Va rfl (Va rfl (WL.nil (tn (WP.seq (WP.seq (WP.region (Vm rfl (Vm rfl (V rfl (ov_len_string underlying9 rfl rfl) (V rfl (ov_geq rfl rfl rfl) (WL.nil ?_)))))))))))))
         refine tn ?_
         refine WP.cond rfl (fun hc12 => ?_) (fun hc12 => ?_)
         ·
          replace hm := ite_t hc12 hm
          refine WP.exit (then_exit (block_here (tn ?_)))
          exact ⟨l4, ao6, cap6, xs2, rl4, (Sub.all rfl), fun w' s => s, hm⟩
         replace hm := ite_f hc12 hm
         refine WP.skip (tn (WP.seq ?_))
         refine WP.region_draws (by kernel_rfl) (by kernel_rfl) (fun _ s => s.drew) ?_
         have h26 : SL H1 (encInt .u8) (some ⟨1, 0, none⟩) diag_going := hG.1.1.2
         have hc13 : diag_going.length ≤ 2 := by decide
         refine qf rfl (ov_slice_arr underlying84 sizeOf5 rfl rfl rfl) ?_
         refine qf rfl (ov_move rfl rfl) ?_
         refine qf rfl (ov_move rfl rfl) ?_
         obtain ⟨b5, e9, hm⟩ := bind_some hm
         refine qf rfl (ov_index_string underlying9 rfl rfl rfl e9) ?_
         obtain ⟨r3, e10, hm⟩ := bind_some hm
         refine QL.quiet (Runs.free rfl) rfl rfl (oq_con (r := (.int .i64 r3)) call105 rfl rfl (fun w' s => ⟨_, (slices_Index_bytebyte_con diag_going (b5.toNat : Int) (some ⟨1, 0, none⟩) 2  w' H1 s.hold h26 hc13 hG r3 e10)⟩)) ?_
         refine qf rfl (ov_assign rfl rfl) ?_
         refine QL.nil ?_
         refine tn (WP.seq (WP.region (Vm rfl (V rfl (ov_geq rfl rfl rfl) (WL.nil (tn ?_))))))
         refine WP.cond rfl (fun hc14 => ?_) (fun hc14 => ?_)
         ·
          replace hm := ite_t hc14 hm
          refine WP.region (V rfl (ov_fieldAddr underlying45 rfl rfl rfl sizeOf43 rfl rfl) (Vl 2 isAgg43 rfl (Vm rfl (Vm rfl (V rfl (ov_eql rfl rfl rfl) (V rfl (ov_build (r := (.agg #[(.int .i64 i2), (.bool (r3 == 1))])) rfl rfl (fun _ => by kernel_rfl)) ?_))))))
          have rl5 : RL H1 encStroke ([(Stroke.mk i2 (r3 == 1))] : List Stroke) [(.int .i64 i2), (.bool (r3 == 1))] := RL.cons (cs := [(.int .i64 i2), (.bool (r3 == 1))]) (xs := []) rfl (RL.nil _ _)
          refine ws rfl (os_buildSlice (cs := [(.int .i64 i2), (.bool (r3 == 1))]) (E := 48) (sz := 2) rfl rfl (fun _ => by kernel_rfl) rfl (by decide) (fun b6 => ?_))
          obtain ⟨l5, e11, hm⟩ := bind_some hm
          refine ws rfl (os_app (i := 1) (j := 0) (En := encStroke) (xs := xs2) (ys := [(.int .i64 i2), (.bool (r3 == 1))]) underlying43 (by kernel_rfl : (prog.info? 48).map (fun i => (i.zero, i.size, i.bytes)) = some (some (.agg #[(.int .i64 0), (.bool false)]), (encStroke).size, 16)) rfl (by decide) rfl rfl rfl rfl rfl rfl rl4 rl5 e11 (fun ao7 cap7 rl6 => ?_))
          refine V rfl (ov_fieldAddr underlying45 rfl rfl rfl sizeOf43 rfl rfl) ?_
          refine ws0 rfl (os_store (i := 3) (vs := [(.slice ao7 (l4 ++ ([(Stroke.mk i2 (r3 == 1))] : List Stroke)).length cap7)]) (cs' := [(.slice ao7 (l4 ++ ([(Stroke.mk i2 (r3 == 1))] : List Stroke)).length cap7), (.int .i64 0)]) sizeOf43 rfl rfl rfl rfl rfl rfl rfl rfl rfl ?_)
          refine WL.nil (bn (tn ?_))
          exact ⟨(l4 ++ ([(Stroke.mk i2 (r3 == 1))] : List Stroke)), ao7, cap7, (xs2 ++ [(.int .i64 i2), (.bool (r3 == 1))]), rl6, (Sub.all rfl), fun w' s => (s.sl [1, 2, 3, 4, 5, 6]), hm⟩
         replace hm := ite_f hc14 hm
         refine WP.skip (bn (tn ?_))
         exact ⟨l4, ao6, cap6, xs2, rl4, (Sub.all rfl), fun w' s => s, hm⟩
        rintro g' S' ⟨l6, ao8, cap8, xs3, rl7, hsub4, hS4, hm⟩
        refine WP.sub hsub4 (WP.weaken hS4 ?_)
        replace hm := (congrFun hk4 l6).symm.trans hm
        refine WP.region (V rfl (ov_add rfl rfl rfl) (Vm rfl (WL.nil (tn ?_))))
        exact ⟨(IntKind.wrap .i64 (i2 + 1)), l6, ao8, cap8, xs3, rl7, (Sub.all rfl), fun w' s => s, hm⟩
       replace hm := ite_f hc11 hm
       refine WP.exit (then_exit (then_exit (block_here (tn ?_))))
       exact ⟨l4, ao6, cap6, xs2, rl4, (Sub.all rfl), fun w' s => s, hm⟩
      rintro g' S' ⟨l7, ao9, cap9, xs4, rl8, hsub5, hS5, hm⟩
      refine WP.sub hsub5 (WP.weaken hS5 ?_)
      replace hm := (congrFun hk3 l7).symm.trans hm
      refine WP.seq (WP.region (V rfl (ov_load_whole (i := 2) isAgg45 sizeOf45 rfl rfl rfl rfl) ?_))
      refine ws0 rfl (os_store (i := 1) (vs := [(.slice ao9 l7.length cap9), (.int .i64 0)]) (cs' := [(.slice ao9 l7.length cap9), (.int .i64 0)]) sizeOf45 rfl rfl rfl rfl rfl rfl rfl rfl rfl ?_)
      refine WL.nil (tn (WP.ret ?_))
      refine retQ_ret (v := (.agg #[(.slice ao9 l7.length cap9), (.int .i64 0)])) results68 (Res.cell rfl (box_loads (i := 1) isAgg45 sizeOf45 rfl rfl) Res.nil) rfl (fun w' s => ⟨_, ?_, s⟩)
      refine ⟨fun w' s => (s.sl [5]), ?_⟩
      refine AL.any (rs := [6]) (by kernel_rfl) (by decide) ?_
      refine ALs.cons (i := 6) rfl (Runs.free rfl) rfl rfl ?_ ?_
      ·
       refine OS.held rl8 (fun H2 hc15 hle2 h27 => ?_)
       replace h1 := h1.mono hle2
       replace h15 := h15.mono hle2
       replace rl2 := rl2.mono hle2
       replace hG := hG.mono hle2
       have rl9 : RL H2 encStep ([(Step.mk l7 0)] : List Step) [(.slice ao9 l7.length cap9), (.int .i64 0)] := RL.cons (cs := [(.slice ao9 l7.length cap9), (.int .i64 0)]) (xs := []) ⟨ao9, cap9, rfl, h27, hc15⟩ (RL.nil _ _)
       refine os_buildSlice (cs := [(.slice ao9 l7.length cap9), (.int .i64 0)]) (E := 45) (sz := 2) rfl rfl (fun _ => by kernel_rfl) rfl (by decide) (fun b7 => ?_)
       refine ⟨fun w' s => ((s.sl [5]).heap hle2), ?_⟩
       refine AL.any (rs := [7]) (by kernel_rfl) (by decide) ?_
       refine ALs.cons (i := 7) rfl (Runs.free rfl) rfl rfl ?_ ?_
       ·
        obtain ⟨l8, e12, hm⟩ := bind_some hm
        refine os_app (i := 3) (j := 0) (En := encStep) (xs := xs1) (ys := [(.slice ao9 l7.length cap9), (.int .i64 0)]) underlying22 (by kernel_rfl : (prog.info? 45).map (fun i => (i.zero, i.size, i.bytes)) = some (some (.agg #[(.slice none 0 0), (.int .i64 0)]), (encStep).size, 32)) rfl (by decide) rfl rfl rfl rfl rfl rfl rl2 rl9 e12 (fun ao10 cap10 rl10 => ?_)
        refine ⟨fun w' s => ((s.sl [5]).heap hle2), ?_⟩
        refine TQ' 8 rfl (ov_fieldAddr underlying24 rfl rfl rfl sizeOf22 rfl rfl) ?_
        refine AL.any (rs := [9]) (by kernel_rfl) (by decide) ?_
        refine ALs.cons0 (i := 9) rfl (Runs.free rfl) rfl ?_ ?_
        ·
         refine os_store (i := 4) (vs := [(.slice ao10 (l3 ++ ([(Step.mk l7 0)] : List Step)).length cap10)]) (cs' := [(.int .i64 (l2.length : Int)), (.slice ao10 (l3 ++ ([(Step.mk l7 0)] : List Step)).length cap10)]) sizeOf22 rfl rfl rfl rfl rfl rfl rfl rfl rfl ?_
         refine ⟨fun w' s => ((s.sl [5]).heap hle2), ?_⟩
         refine AL.done (by kernel_rfl) ?_
         refine bn (tn (WP.region (Vm rfl (V rfl (ov_add rfl rfl rfl) (Va rfl (WL.nil (tn ?_)))))))
         exact ⟨H2, (IntKind.wrap .i64 (i1 + 2)), (l3 ++ ([(Step.mk l7 0)] : List Step)), ao10, cap10, (xs1 ++ [(.slice ao9 l7.length cap9), (.int .i64 0)]), (hle1.trans hle2), rl10, (Sub.all rfl), fun w' s => (s.sl [3, 4, 5]), hm⟩
        exact ALs.nil
       exact ALs.nil
      exact ALs.nil
     exact ALs.nil
    refine ALs.cons (i := 5) rfl (Runs.free rfl) rfl rfl ?_ ?_
    ·
     refine os_inline (cap := []) (vs := [(.agg #[(.slice none 0 0), (.int .i64 0)]), (.slice ao4 l2.length cap4), (.int .i64 i1)]) call68 rfl rfl rfl func68 rfl 39 ntmps68 rfl (fun w' s => ?_)
     refine WP.seq (WP.region ?_)
     refine ws rfl (os_box (cs := [(.slice none 0 0), (.int .i64 0)]) rfl rfl rfl (fun b3 => ?_))
     refine ws rfl (os_alloc (cs := [(.slice none 0 0), (.int .i64 0)]) zeroValue45 rfl rfl (fun b4 => ?_))
     refine WL.nil (tn ?_)
     obtain ⟨k3, hk3, hm⟩ := joinK_some hm
     refine WP.seq_join (fun g' S' => ∃ (l7 : (List Stroke)) (ao9 : _) (cap9 : _) (xs4 : _), RL H1 encStroke l7 xs4 ∧ Sub [(3, (pB b3 0)), (6, (pB b4 0)), (1000000007, (.bool false))] g' ∧ (∀ w', S' w' → St w H [rowE 48 encStroke l7 ao9 cap9 xs4, .blk b4 45 [(.slice none 0 0), (.int .i64 0)], .blk b3 45 [(.slice ao9 l7.length cap9), (.int .i64 0)], rowE 45 encStep l3 ao5 cap5 xs1, .blk b2 24 [(.int .i64 (l2.length : Int)), (.slice ao5 l3.length cap5)], .blk b1 24 [(.int .i64 0), (.slice none 0 0)]] H1 w') ∧ k3 l7 = some r) ?_ ?_
     ·
      refine WP.seq (WP.region (Vm rfl (V rfl (ov_len_slice underlying27 rfl rfl) (Vm rfl (WL.nil (tn (WP.block ?_)))))))
      have rl3 := RL.nil (α := Stroke) H1 encStroke
      refine WP.weaken (fun _ s => s.nilrow 48 (encStroke).size) ?_
      refine WP.loop (fun m2 g' S' => ∃ (i2 : Int) (l4 : (List Stroke)) (ao6 : _) (cap6 : _) (xs2 : _), RL H1 encStroke l4 xs2 ∧ Sub [(2, (.int .i64 i1)), (3, (pB b3 0)), (6, (pB b4 0)), (10, (.slice ao4 l2.length cap4)), (11, (.int .i64 (l2.length : Int))), (12, (.int .i64 i2)), (1000000007, (.bool false))] g' ∧ (∀ w', S' w' → St w H [rowE 48 encStroke l4 ao6 cap6 xs2, .blk b4 45 [(.slice none 0 0), (.int .i64 0)], .blk b3 45 [(.slice ao6 l4.length cap6), (.int .i64 0)], rowE 45 encStep l3 ao5 cap5 xs1, .blk b2 24 [(.int .i64 (l2.length : Int)), (.slice ao5 l3.length cap5)], .blk b1 24 [(.int .i64 0), (.slice none 0 0)]] H1 w') ∧ diagram_Read_loop2 l2 i1 k3 m2 i2 l4 = some r) ((Int.toNat ((l2.length : Int) - 0) + 1)) ⟨0, ([] : List Stroke), none, 0, [], rl3, (Sub.all rfl), fun w' s => s, hm⟩ ?_ ?_
      ·
       rintro g' S' ⟨_, _, _, _, _, _, _, _, hm⟩
       exact none_some hm
      rintro m2 g' S' ⟨i2, l4, ao6, cap6, xs2, rl4, hsub3, hS3, hm⟩
      refine WP.sub hsub3 (WP.weaken hS3 ?_)
      rw [diagram_Read_loop2] at hm
      refine WP.seq (WP.region (V rfl (ov_lss rfl rfl rfl) (WL.nil (tn (WP.seq ?_)))))
      refine WP.cond rfl (fun hc11 => ?_) (fun hc11 => ?_)
      ·
       replace hm := ite_t hc11 hm
       refine WP.skip (tn ?_)
       obtain ⟨k4, hk4, hm⟩ := joinK_some hm
       refine WP.seq_join (fun g' S' => ∃ (l6 : (List Stroke)) (ao8 : _) (cap8 : _) (xs3 : _), RL H1 encStroke l6 xs3 ∧ Sub [(2, (.int .i64 i1)), (3, (pB b3 0)), (6, (pB b4 0)), (10, (.slice ao4 l2.length cap4)), (11, (.int .i64 (l2.length : Int))), (12, (.int .i64 i2)), (1000000007, (.bool false))] g' ∧ (∀ w', S' w' → St w H [rowE 48 encStroke l6 ao8 cap8 xs3, .blk b4 45 [(.slice none 0 0), (.int .i64 0)], .blk b3 45 [(.slice ao8 l6.length cap8), (.int .i64 0)], rowE 45 encStep l3 ao5 cap5 xs1, .blk b2 24 [(.int .i64 (l2.length : Int)), (.slice ao5 l3.length cap5)], .blk b1 24 [(.int .i64 0), (.slice none 0 0)]] H1 w') ∧ k4 l6 = some r) ?_ ?_
       ·
        refine WP.block (WP.seq (WP.region (Vm rfl ?_)))
        obtain ⟨x4, e8, hm⟩ := bind_some hm
        obtain ⟨h21, h22, h23, cs4, h24, h25⟩ := h15.get e8 (by decide)
        obtain rfl : cs4 = [(mkS x4)] := h24
        refine V rfl (ov_indexAddr underlying27 sizeOf9 rfl rfl rfl h21 h22 h23) (V rfl (ov_load_elem (v := (mkS x4)) isAgg9 rfl rfl h25) (Va rfl (Va rfl (WL.nil (tn (WP.seq (WP.seq (WP.region (Vm rfl (Vm rfl (V rfl (ov_len_string underlying9 rfl rfl) (V rfl (ov_geq rfl rfl rfl) (WL.nil ?_)))))))))))))
        refine tn ?_
        refine WP.cond rfl (fun hc12 => ?_) (fun hc12 => ?_)
        ·
         replace hm := ite_t hc12 hm
         refine WP.exit (then_exit (block_here (tn ?_)))
         exact ⟨l4, ao6, cap6, xs2, rl4, (Sub.all rfl), fun w' s => s, hm⟩
        replace hm := ite_f hc12 hm
        refine WP.skip (tn (WP.seq ?_))
        refine WP.region_draws (by kernel_rfl) (by kernel_rfl) (fun _ s => s.drew) ?_
        have h26 : SL H1 (encInt .u8) (some ⟨1, 0, none⟩) diag_going := hG.1.1.2
        have hc13 : diag_going.length ≤ 2 := by decide
        refine qf rfl (ov_slice_arr underlying84 sizeOf5 rfl rfl rfl) ?_
        refine qf rfl (ov_move rfl rfl) ?_
        refine qf rfl (ov_move rfl rfl) ?_
        obtain ⟨b5, e9, hm⟩ := bind_some hm
        refine qf rfl (ov_index_string underlying9 rfl rfl rfl e9) ?_
        obtain ⟨r3, e10, hm⟩ := bind_some hm
        refine QL.quiet (Runs.free rfl) rfl rfl (oq_con (r := (.int .i64 r3)) call105 rfl rfl (fun w' s => ⟨_, (slices_Index_bytebyte_con diag_going (b5.toNat : Int) (some ⟨1, 0, none⟩) 2  w' H1 s.hold h26 hc13 hG r3 e10)⟩)) ?_
        refine qf rfl (ov_assign rfl rfl) ?_
        refine QL.nil ?_
        refine tn (WP.seq (WP.region (Vm rfl (V rfl (ov_geq rfl rfl rfl) (WL.nil (tn ?_))))))
        refine WP.cond rfl (fun hc14 => ?_) (fun hc14 => ?_)
        ·
         replace hm := ite_t hc14 hm
         refine WP.region (V rfl (ov_fieldAddr underlying45 rfl rfl rfl sizeOf43 rfl rfl) (Vl 2 isAgg43 rfl (Vm rfl (Vm rfl (V rfl (ov_eql rfl rfl rfl) (V rfl (ov_build (r := (.agg #[(.int .i64 i2), (.bool (r3 == 1))])) rfl rfl (fun _ => by kernel_rfl)) ?_))))))
         have rl5 : RL H1 encStroke ([(Stroke.mk i2 (r3 == 1))] : List Stroke) [(.int .i64 i2), (.bool (r3 == 1))] := RL.cons (cs := [(.int .i64 i2), (.bool (r3 == 1))]) (xs := []) rfl (RL.nil _ _)
         refine ws rfl (os_buildSlice (cs := [(.int .i64 i2), (.bool (r3 == 1))]) (E := 48) (sz := 2) rfl rfl (fun _ => by kernel_rfl) rfl (by decide) (fun b6 => ?_))
         obtain ⟨l5, e11, hm⟩ := bind_some hm
         refine ws rfl (os_app (i := 1) (j := 0) (En := encStroke) (xs := xs2) (ys := [(.int .i64 i2), (.bool (r3 == 1))]) underlying43 (by kernel_rfl : (prog.info? 48).map (fun i => (i.zero, i.size, i.bytes)) = some (some (.agg #[(.int .i64 0), (.bool false)]), (encStroke).size, 16)) rfl (by decide) rfl rfl rfl rfl rfl rfl rl4 rl5 e11 (fun ao7 cap7 rl6 => ?_))
         refine V rfl (ov_fieldAddr underlying45 rfl rfl rfl sizeOf43 rfl rfl) ?_
         refine ws0 rfl (os_store (i := 3) (vs := [(.slice ao7 (l4 ++ ([(Stroke.mk i2 (r3 == 1))] : List Stroke)).length cap7)]) (cs' := [(.slice ao7 (l4 ++ ([(Stroke.mk i2 (r3 == 1))] : List Stroke)).length cap7), (.int .i64 0)]) sizeOf43 rfl rfl rfl rfl rfl rfl rfl rfl rfl ?_)
         refine WL.nil (bn (tn ?_))
         exact ⟨(l4 ++ ([(Stroke.mk i2 (r3 == 1))] : List Stroke)), ao7, cap7, (xs2 ++ [(.int .i64 i2), (.bool (r3 == 1))]), rl6, (Sub.all rfl), fun w' s => (s.sl [1, 2, 3, 4, 5, 6]), hm⟩
        replace hm := ite_f hc14 hm
        refine WP.skip (bn (tn ?_))
        exact ⟨l4, ao6, cap6, xs2, rl4, (Sub.all rfl), fun w' s => s, hm⟩
       rintro g' S' ⟨l6, ao8, cap8, xs3, rl7, hsub4, hS4, hm⟩
       refine WP.sub hsub4 (WP.weaken hS4 ?_)
       replace hm := (congrFun hk4 l6).symm.trans hm
       refine WP.region (V rfl (ov_add rfl rfl rfl) (Vm rfl (WL.nil (tn ?_))))
       exact ⟨(IntKind.wrap .i64 (i2 + 1)), l6, ao8, cap8, xs3, rl7, (Sub.all rfl), fun w' s => s, hm⟩
      replace hm := ite_f hc11 hm
      refine WP.exit (then_exit (then_exit (block_here (tn ?_))))
      exact ⟨l4, ao6, cap6, xs2, rl4, (Sub.all rfl), fun w' s => s, hm⟩
     rintro g' S' ⟨l7, ao9, cap9, xs4, rl8, hsub5, hS5, hm⟩
     refine WP.sub hsub5 (WP.weaken hS5 ?_)
     replace hm := (congrFun hk3 l7).symm.trans hm
     refine WP.seq (WP.region (V rfl (ov_load_whole (i := 2) isAgg45 sizeOf45 rfl rfl rfl rfl) ?_))
     refine ws0 rfl (os_store (i := 1) (vs := [(.slice ao9 l7.length cap9), (.int .i64 0)]) (cs' := [(.slice ao9 l7.length cap9), (.int .i64 0)]) sizeOf45 rfl rfl rfl rfl rfl rfl rfl rfl rfl ?_)
     refine WL.nil (tn (WP.ret ?_))
     refine retQ_ret (v := (.agg #[(.slice ao9 l7.length cap9), (.int .i64 0)])) results68 (Res.cell rfl (box_loads (i := 1) isAgg45 sizeOf45 rfl rfl) Res.nil) rfl (fun w' s => ⟨_, ?_, s⟩)
     refine ⟨fun w' s => (s.sl [5]), ?_⟩
     refine AL.any (rs := [1, 6]) (by kernel_rfl) (by decide) ?_
     refine ALs.cons (i := 1) rfl (Runs.free rfl) rfl rfl ?_ ?_
     ·
      refine OQ.step (OV.quiet (ov_load_box (i := 4) isAgg22 rfl rfl rfl rfl)) ?_
      refine ⟨fun w' s => (s.sl [5]), ?_⟩
      refine AL.any (rs := [6]) (by kernel_rfl) (by decide) ?_
      refine ALs.cons (i := 6) rfl (Runs.free rfl) rfl rfl ?_ ?_
      ·
       refine OS.held rl8 (fun H2 hc15 hle2 h27 => ?_)
       replace h1 := h1.mono hle2
       replace rl2 := rl2.mono hle2
       replace hG := hG.mono hle2
       have rl9 : RL H2 encStep ([(Step.mk l7 0)] : List Step) [(.slice ao9 l7.length cap9), (.int .i64 0)] := RL.cons (cs := [(.slice ao9 l7.length cap9), (.int .i64 0)]) (xs := []) ⟨ao9, cap9, rfl, h27, hc15⟩ (RL.nil _ _)
       refine os_buildSlice (cs := [(.slice ao9 l7.length cap9), (.int .i64 0)]) (E := 45) (sz := 2) rfl rfl (fun _ => by kernel_rfl) rfl (by decide) (fun b7 => ?_)
       refine ⟨fun w' s => ((s.sl [5]).heap hle2), ?_⟩
       refine AL.any (rs := [7]) (by kernel_rfl) (by decide) ?_
       refine ALs.cons (i := 7) rfl (Runs.free rfl) rfl rfl ?_ ?_
       ·
        obtain ⟨l8, e12, hm⟩ := bind_some hm
        refine os_app (i := 3) (j := 0) (En := encStep) (xs := xs1) (ys := [(.slice ao9 l7.length cap9), (.int .i64 0)]) underlying22 (by kernel_rfl : (prog.info? 45).map (fun i => (i.zero, i.size, i.bytes)) = some (some (.agg #[(.slice none 0 0), (.int .i64 0)]), (encStep).size, 32)) rfl (by decide) rfl rfl rfl rfl rfl rfl rl2 rl9 e12 (fun ao10 cap10 rl10 => ?_)
        refine ⟨fun w' s => ((s.sl [5]).heap hle2), ?_⟩
        refine TQ' 8 rfl (ov_fieldAddr underlying24 rfl rfl rfl sizeOf22 rfl rfl) ?_
        refine AL.any (rs := [9]) (by kernel_rfl) (by decide) ?_
        refine ALs.cons0 (i := 9) rfl (Runs.free rfl) rfl ?_ ?_
        ·
         refine os_store (i := 4) (vs := [(.slice ao10 (l3 ++ ([(Step.mk l7 0)] : List Step)).length cap10)]) (cs' := [(.int .i64 (l2.length : Int)), (.slice ao10 (l3 ++ ([(Step.mk l7 0)] : List Step)).length cap10)]) sizeOf22 rfl rfl rfl rfl rfl rfl rfl rfl rfl ?_
         refine ⟨fun w' s => ((s.sl [5]).heap hle2), ?_⟩
         refine AL.done (by kernel_rfl) ?_
         refine bn (tn (WP.region (Vm rfl (V rfl (ov_add rfl rfl rfl) (Va rfl (WL.nil (tn ?_)))))))
         exact ⟨H2, (IntKind.wrap .i64 (i1 + 2)), (l3 ++ ([(Step.mk l7 0)] : List Step)), ao10, cap10, (xs1 ++ [(.slice ao9 l7.length cap9), (.int .i64 0)]), (hle1.trans hle2), rl10, (Sub.all rfl), fun w' s => (s.sl [3, 4, 5]), hm⟩
        exact ALs.nil
       exact ALs.nil
      exact ALs.nil
     refine ALs.cons (i := 6) rfl (Runs.free rfl) rfl rfl ?_ ?_
     ·
      refine OS.held rl8 (fun H2 hc15 hle2 h27 => ?_)
      replace h1 := h1.mono hle2
      replace rl2 := rl2.mono hle2
      replace hG := hG.mono hle2
      have rl9 : RL H2 encStep ([(Step.mk l7 0)] : List Step) [(.slice ao9 l7.length cap9), (.int .i64 0)] := RL.cons (cs := [(.slice ao9 l7.length cap9), (.int .i64 0)]) (xs := []) ⟨ao9, cap9, rfl, h27, hc15⟩ (RL.nil _ _)
      refine os_buildSlice (cs := [(.slice ao9 l7.length cap9), (.int .i64 0)]) (E := 45) (sz := 2) rfl rfl (fun _ => by kernel_rfl) rfl (by decide) (fun b7 => ?_)
      refine ⟨fun w' s => ((s.sl [5]).heap hle2), ?_⟩
      refine AL.any (rs := [1]) (by kernel_rfl) (by decide) ?_
      refine ALs.cons (i := 1) rfl (Runs.free rfl) rfl rfl ?_ ?_
      ·
       refine OQ.step (OV.quiet (ov_load_box (i := 4) isAgg22 rfl rfl rfl rfl)) ?_
       refine ⟨fun w' s => ((s.sl [5]).heap hle2), ?_⟩
       refine AL.any (rs := [7]) (by kernel_rfl) (by decide) ?_
       refine ALs.cons (i := 7) rfl (Runs.free rfl) rfl rfl ?_ ?_
       ·
        obtain ⟨l8, e12, hm⟩ := bind_some hm
        refine os_app (i := 3) (j := 0) (En := encStep) (xs := xs1) (ys := [(.slice ao9 l7.length cap9), (.int .i64 0)]) underlying22 (by kernel_rfl : (prog.info? 45).map (fun i => (i.zero, i.size, i.bytes)) = some (some (.agg #[(.slice none 0 0), (.int .i64 0)]), (encStep).size, 32)) rfl (by decide) rfl rfl rfl rfl rfl rfl rl2 rl9 e12 (fun ao10 cap10 rl10 => ?_)
        refine ⟨fun w' s => ((s.sl [5]).heap hle2), ?_⟩
        refine TQ' 8 rfl (ov_fieldAddr underlying24 rfl rfl rfl sizeOf22 rfl rfl) ?_
        refine AL.any (rs := [9]) (by kernel_rfl) (by decide) ?_
        refine ALs.cons0 (i := 9) rfl (Runs.free rfl) rfl ?_ ?_
        ·
         refine os_store (i := 4) (vs := [(.slice ao10 (l3 ++ ([(Step.mk l7 0)] : List Step)).length cap10)]) (cs' := [(.int .i64 (l2.length : Int)), (.slice ao10 (l3 ++ ([(Step.mk l7 0)] : List Step)).length cap10)]) sizeOf22 rfl rfl rfl rfl rfl rfl rfl rfl rfl ?_
         refine ⟨fun w' s => ((s.sl [5]).heap hle2), ?_⟩
         refine AL.done (by kernel_rfl) ?_
         refine bn (tn (WP.region (Vm rfl (V rfl (ov_add rfl rfl rfl) (Va rfl (WL.nil (tn ?_)))))))
         exact ⟨H2, (IntKind.wrap .i64 (i1 + 2)), (l3 ++ ([(Step.mk l7 0)] : List Step)), ao10, cap10, (xs1 ++ [(.slice ao9 l7.length cap9), (.int .i64 0)]), (hle1.trans hle2), rl10, (Sub.all rfl), fun w' s => (s.sl [3, 4, 5]), hm⟩
        exact ALs.nil
       exact ALs.nil
      exact ALs.nil
     exact ALs.nil
    exact ALs.nil
   replace hm := ite_f hc10 hm
   refine WP.exit (then_exit (then_exit (block_here (tn ?_))))
   exact ⟨H1, l3, ao5, cap5, xs1, hle1, rl2, (Sub.all rfl), fun w' s => s, hm⟩
  replace hm := ite_f hc8 hm
  refine WP.skip (tn ?_)
  exact ⟨H, ([] : List Step), none, 0, [], (Le.refl _), rl1, (Sub.all rfl), fun w' s => s, hm⟩
 rintro g' S' ⟨H3, l9, ao11, cap11, xs5, hle3, rl11, hsub6, hS6, hm⟩
 refine WP.sub hsub6 (WP.weaken hS6 ?_)
 replace hm := (congrFun hk2 l9).symm.trans hm
 replace h1 := h1.mono hle3
 replace hG := hG.mono hle3
 obtain ⟨k5, hk5, hm⟩ := joinK_some hm
 refine WP.seq_join (fun g' S' => ∃ (H8 : Heap) (l13 : (List Step)) (ao17 : _) (cap17 : _) (xs8 : _), Le H3 H8 ∧ RL H8 encStep l13 xs8 ∧ Sub [(0, (.slice ao1 p_l.length cap1)), (2, (pB b1 0)), (8, (pB b2 0)), (1000000007, (.bool false))] g' ∧ (∀ w', S' w' → St w H [rowE 45 encStep l13 ao17 cap17 xs8, .blk b2 24 [(.int .i64 (l2.length : Int)), (.slice ao17 l13.length cap17)], .blk b1 24 [(.int .i64 0), (.slice none 0 0)]] H8 w') ∧ k5 l13 = some r) ?_ ?_
 ·
  refine WP.seq (WP.region (Vm rfl (V rfl (ov_sneq rfl rfl rfl) (WL.nil (tn ?_)))))
  refine WP.cond rfl (fun hc16 => ?_) (fun hc16 => ?_)
  ·
   replace hm := ite_t hc16 hm
   refine WP.region (V rfl (ov_fieldAddr underlying24 rfl rfl rfl sizeOf22 rfl rfl) (Vl 1 isAgg22 rfl (Vm rfl ?_)))
   refine ws rfl (os_inline (cap := []) (vs := [(.slice ao11 l9.length cap11), (mkS s1)]) call69 rfl rfl rfl func69 rfl 34 ntmps69 rfl (fun w' s => ?_))
   refine WP.seq (WP.region (Vm rfl ?_))
   obtain ⟨r4, e13, hm⟩ := bind_some hm
   refine ws rfl (os_con call106 rfl rfl (fun w' s => (splitS_con s1 [32]  w' H3 s.hold hG r4 e13)) (fun rr1 H4 hle4 hR1 => ?_))
   replace h1 := h1.mono hle4
   replace rl11 := rl11.mono hle4
   replace hG := hG.mono hle4
   obtain ⟨ao12, cap12, rfl, h28, hc17⟩ := hR1
   obtain ⟨l10, e14, hm⟩ := bind_some hm
   obtain ⟨ao13, cap13, h29, h30, hc18⟩ := sl_l h28 hc17 e14
   refine V rfl (h29 underlying27 sizeOf9 rfl rfl rfl ) (V rfl (ov_len_slice underlying27 rfl rfl) (Vm rfl (WL.nil (tn (WP.block ?_)))))
   refine WP.loop (fun m3 g' S' => ∃ (H5 : Heap) (i3 : Int) (l11 : (List Step)) (ao14 : _) (cap14 : _) (xs6 : _), Le H4 H5 ∧ RL H5 encStep l11 xs6 ∧ Sub [(0, (.slice ao14 l11.length cap14)), (8, (.slice ao13 l10.length cap13)), (9, (.int .i64 (l10.length : Int))), (10, (.int .i64 i3)), (1000000007, (.bool false))] g' ∧ (∀ w', S' w' → St w H [rowE 45 encStep l11 ao14 cap14 xs6, .blk b2 24 [(.int .i64 (l2.length : Int)), (.slice ao14 l11.length cap14)], .blk b1 24 [(.int .i64 0), (.slice none 0 0)]] H5 w') ∧ diagram_Read_loop3 k5 l10 m3 i3 l11 = some r) ((Int.toNat ((l10.length : Int) - 0) + 1)) ⟨H4, 0, l9, ao11, cap11, xs5, (Le.refl _), rl11, (Sub.all rfl), fun w' s => s, hm⟩ ?_ ?_
   ·
    rintro g' S' ⟨_, _, _, _, _, _, _, _, _, _, hm⟩
    exact none_some hm
   rintro m3 g' S' ⟨H5, i3, l11, ao14, cap14, xs6, hle5, rl12, hsub7, hS7, hm⟩
   refine WP.sub hsub7 (WP.weaken hS7 ?_)
   rw [diagram_Read_loop3] at hm
   replace h30 := h30.mono hle5
   replace h1 := h1.mono hle5
   replace hG := hG.mono hle5
   refine WP.seq (WP.region (V rfl (ov_lss rfl rfl rfl) (WL.nil (tn (WP.seq ?_)))))
   refine WP.cond rfl (fun hc19 => ?_) (fun hc19 => ?_)
   ·
    replace hm := ite_t hc19 hm
    refine WP.skip (tn ?_)
    obtain ⟨k6, hk6, hm⟩ := joinK_some hm
    refine WP.seq_join (fun g' S' => ∃ (H7 : Heap) (l12 : (List Step)) (ao16 : _) (cap16 : _) (xs7 : _), Le H5 H7 ∧ RL H7 encStep l12 xs7 ∧ Sub [(0, (.slice ao16 l12.length cap16)), (8, (.slice ao13 l10.length cap13)), (9, (.int .i64 (l10.length : Int))), (10, (.int .i64 i3)), (1000000007, (.bool false))] g' ∧ (∀ w', S' w' → St w H [rowE 45 encStep l12 ao16 cap16 xs7, .blk b2 24 [(.int .i64 (l2.length : Int)), (.slice ao16 l12.length cap16)], .blk b1 24 [(.int .i64 0), (.slice none 0 0)]] H7 w') ∧ k6 l12 = some r) ?_ ?_
    ·
     refine WP.block (WP.seq (WP.region (Vm rfl ?_)))
     obtain ⟨x5, e15, hm⟩ := bind_some hm
     obtain ⟨h31, h32, h33, cs5, h34, h35⟩ := h30.get e15 (by decide)
     obtain rfl : cs5 = [(mkS x5)] := h34
     refine V rfl (ov_indexAddr underlying27 sizeOf9 rfl rfl rfl h31 h32 h33) (V rfl (ov_load_elem (v := (mkS x5)) isAgg9 rfl rfl h35) (Va rfl (Va rfl (WL.nil (tn (WP.seq (WP.region (Vm rfl (Vm rfl (V rfl (ov_len_slice underlying22 rfl rfl) (V rfl (ov_lss rfl rfl rfl) (Vm rfl ?_))))))))))))
     refine WL.cut_bool 4 23 (x := ((decide (i3 < (l11.length : Int))) && (decide ((x5.length : Int) ≤ 7)))) ?_ ?_
     ·
      rcases Bool.eq_false_or_eq_true (decide (i3 < (l11.length : Int))) with hc20 | hc20
      ·
       refine wy hc20 rfl (ov_move rfl rfl) ?_
       refine wy hc20 rfl (ov_len_string underlying9 rfl rfl) ?_
       refine wy hc20 rfl (ov_leq rfl rfl rfl) ?_
       refine V rfl (ov_pick_true rfl (guard_eq rfl hc20) rfl) ?_
       exact WL.nil ⟨Sub.cons' rfl (congrArg Value.bool (andT hc20)) (Sub.dropn 4 rfl), fun _ s => s⟩
      refine Vi rfl (Idle.no rfl rfl rfl hc20) (Vi rfl (Idle.no rfl rfl rfl hc20) (Vi rfl (Idle.no rfl rfl rfl hc20) (V rfl (ov_pick_false rfl (guard_eq rfl hc20) rfl) ?_)))
      exact WL.nil ⟨Sub.cons' rfl (congrArg Value.bool (andF hc20)) (Sub.dropn 4 rfl), fun _ s => s⟩
     refine WL.nil (tn ?_)
     refine WP.cond rfl (fun hc21 => ?_) (fun hc21 => ?_)
     ·
      replace hm := ite_t hc21 hm
      refine WP.region (Vm rfl (Vm rfl (Vm rfl ?_)))
      obtain ⟨r5, e16, hm⟩ := bind_some hm
      refine ws rfl (os_con call107 rfl rfl (fun w' s => (atoiE_con x5  w' H5 s.hold hG r5 e16)) (fun rr2 H6 hle6 hR2 => ?_))
      replace h1 := h1.mono hle6
      replace rl12 := rl12.mono hle6
      replace hG := hG.mono hle6
      obtain ⟨v1, rfl⟩ := hR2
      refine Vm rfl (Ve rfl (Ve rfl ?_))
      obtain ⟨x6, e17, hm⟩ := bind_some hm
      obtain ⟨h37, h38, h39, cs6, h40, h41⟩ := RL.get rl12 e17
      obtain ⟨ao15, cap15, rfl, h36, hc22⟩ := h40
      refine V rfl (ov_indexAddr_own (i := 0) underlying22 sizeOf45 rfl rfl rfl rfl h37 h38) (V rfl (ov_fieldAddrE underlying45 rfl rfl rfl sizeOf3 rfl rfl) ?_)
      have rl13 := RL.set rl12 (y := (Step.mk x6.strokes r5.1)) (off := 1) (vs := [(.int .i64 r5.1)]) e17 h41 ⟨ao15, cap15, rfl, h36, hc22⟩ (Nat.le_of_ble_eq_true rfl)
      have e18 := at?_set (y := (Step.mk x6.strokes r5.1)) e17
      refine ws0 rfl (os_store_own (i := 0) (vs := [(.int .i64 r5.1)]) sizeOf3 rfl rfl rfl rfl (own_pos h37 h38) rfl rfl (elem_le (off := 1) h39 (Nat.le_of_ble_eq_true rfl)) rfl ?_)
      rw [show l11.length = (List.set l11 (Int.toNat i3) (Step.mk x6.strokes r5.1)).length from List.length_set.symm]
      refine WL.nil (bn (tn ?_))
      exact ⟨H6, (List.set l11 (Int.toNat i3) (Step.mk x6.strokes r5.1)), ao14, cap14, (spl xs6 (Int.toNat i3 * encStep.size + 1) [(.int .i64 r5.1)]), hle6, rl13, (Sub.all rfl), fun w' s => s, hm⟩
     replace hm := ite_f hc21 hm
     refine WP.skip (bn (tn ?_))
     exact ⟨H5, l11, ao14, cap14, xs6, (Le.refl _), rl12, (Sub.all rfl), fun w' s => s, hm⟩
    rintro g' S' ⟨H7, l12, ao16, cap16, xs7, hle7, rl14, hsub8, hS8, hm⟩
    refine WP.sub hsub8 (WP.weaken hS8 ?_)
    replace hm := (congrFun hk6 l12).symm.trans hm
    replace h1 := h1.mono hle7
    replace hG := hG.mono hle7
    refine WP.region (V rfl (ov_add rfl rfl rfl) (Vm rfl (WL.nil (tn ?_))))
    exact ⟨H7, (IntKind.wrap .i64 (i3 + 1)), l12, ao16, cap16, xs7, (hle5.trans hle7), rl14, (Sub.all rfl), fun w' s => s, hm⟩
   replace hm := ite_f hc19 hm
   refine WP.exit (then_exit (then_exit (block_here ?_)))
   refine retQ_end (v := (.tuple #[])) results69 Res.nil rfl (fun w' s => ⟨_, ?_, s⟩)
   refine WL.nil (tn ?_)
   exact ⟨H5, l11, ao14, cap14, xs6, (hle4.trans hle5), rl12, (Sub.all rfl), fun w' s => s, hm⟩
  replace hm := ite_f hc16 hm
  refine WP.skip (tn ?_)
  exact ⟨H3, l9, ao11, cap11, xs5, (Le.refl _), rl11, (Sub.all rfl), fun w' s => s, hm⟩
 rintro g' S' ⟨H8, l13, ao17, cap17, xs8, hle8, rl15, hsub9, hS9, hm⟩
 refine WP.sub hsub9 (WP.weaken hS9 ?_)
 replace hm := (congrFun hk5 l13).symm.trans hm
 replace h1 := h1.mono hle8
 replace hG := hG.mono hle8
 refine WP.seq (WP.seq (WP.region (V rfl (ov_load_whole (i := 1) isAgg24 sizeOf24 rfl rfl rfl rfl) ?_)))
 obtain ⟨r6, e19, hm⟩ := bind_some hm
 refine wo rfl (oq_con (r := (.int .i64 r6)) call40 rfl rfl (fun w' s => ⟨_, (sequence_Check_con (Sequence.mk (l2.length : Int) l13) ao17 cap17 w' (hp w') (Le.refl _) (s.row_arg (i := 0) rfl rl15).1 (s.row_arg (i := 0) rfl rl15).2 (hG.mono s.hold) r6 e19)⟩)) ?_
 refine V rfl (ov_neq rfl rfl rfl) (Vm rfl ?_)
 refine WL.held rl15 (fun H9 hc23 hle9 h47 => ?_)
 replace h1 := h1.mono hle9
 replace hG := hG.mono hle9
 obtain ⟨c2, e20, hm⟩ := bind_some hm
 refine WL.cut_bool 6 83 (x := c2) ?_ ?_
 ·
  rcases Bool.eq_false_or_eq_true (r6 != 0) with hc24 | hc24
  ·
   replace hm := ite_t hc24 e20
   refine Vi rfl (Idle.no rfl rfl rfl hc24) (Vi rfl (Idle.no rfl rfl rfl hc24) (Vi rfl (Idle.no rfl rfl rfl hc24) (Vi rfl (Idle.no rfl rfl rfl hc24) (Vi rfl (Idle.no rfl rfl rfl hc24) (V rfl (ov_pick_true rfl (guard_eq rfl hc24) rfl) ?_)))))
   exact WL.nil ⟨Sub.cons' rfl (congrArg Value.bool (Option.some.inj hm)) (Sub.dropn 6 rfl), fun _ s => s⟩
  replace hm := ite_f hc24 e20
  refine wy hc24 rfl (ov_load_whole (i := 0) isAgg24 sizeOf24 rfl rfl rfl rfl) ?_
  obtain ⟨r7, e21, hm⟩ := bind_some hm
  refine WL.step (Runs.yes rfl rfl rfl hc24) rfl rfl (os_con call41 rfl rfl (fun w' s => (diagram_draw_con (Sequence.mk (l2.length : Int) l13) ao17 cap17  w' H9 s.hold h47 hc23 hG r7 e21)) (fun rr3 H10 hle10 hR3 => ?_))
  replace h1 := h1.mono hle10
  replace h47 := h47.mono hle10
  replace hG := hG.mono hle10
  obtain ⟨ao18, cap18, rfl, h48, hc25⟩ := hR3
  refine wy hc24 rfl (ov_move rfl rfl) ?_
  obtain ⟨r8, e22, hm⟩ := bind_some hm
  refine WL.quiet (Runs.yes rfl rfl rfl hc24) rfl rfl (oq_con (r := (.bool r8)) call19 rfl rfl (fun w' s => ⟨_, (slices_Equal_stringstring_con r7 p_l ao18 cap18 ao1 cap1  w' H10 s.hold h48 hc25 h1 hc1 hG r8 e22)⟩)) ?_
  refine wy hc24 rfl (ov_not rfl rfl) ?_
  refine V rfl (ov_pick_false rfl (guard_eq rfl hc24) rfl) ?_
  exact WL.nil ⟨Sub.cons' rfl (congrArg Value.bool (Option.some.inj hm)) (Sub.dropn 6 rfl), fun _ s => (s.heap hle10)⟩
 refine WL.nil (tn ?_)
 refine WP.cond rfl (fun hc26 => ?_) (fun hc26 => ?_)
 ·
  replace hm := ite_t hc26 hm
  refine WP.seq (WP.region (V rfl (ov_build (r := (.agg #[(.int .i64 0), (.slice none 0 0)])) rfl rfl (fun _ => by kernel_rfl)) ?_))
  refine ws0 rfl (os_store (i := 1) (vs := [(.int .i64 0), (.slice none 0 0)]) (cs' := [(.int .i64 0), (.slice none 0 0)]) sizeOf24 rfl rfl rfl rfl rfl rfl rfl rfl rfl ?_)
  refine Va rfl (WL.nil (tn (WP.ret (then_ret ?_))))
  obtain rfl := Option.some.inj hm
  refine retQ_ret results30 (Res.cell rfl (box_loads (i := 1) isAgg24 sizeOf24 rfl rfl) (Res.tmp rfl Res.nil)) rfl (fun w' s => ⟨s.below, ?_⟩)
  exact ⟨none, 0, rfl, SL.nil _ _ _, Nat.le_refl _⟩
 replace hm := ite_f hc26 hm
 refine WP.skip (tn (WP.seq (WP.region (V rfl (ov_load_whole (i := 0) isAgg24 sizeOf24 rfl rfl rfl rfl) ?_))))
 refine ws0 rfl (os_store (i := 1) (vs := [(.int .i64 (l2.length : Int)), (.slice ao17 l13.length cap17)]) (cs' := [(.int .i64 (l2.length : Int)), (.slice ao17 l13.length cap17)]) sizeOf24 rfl rfl rfl rfl rfl rfl rfl rfl rfl ?_)
 refine Va rfl (WL.nil (tn (WP.ret ?_)))
 obtain rfl := Option.some.inj hm
 refine retQ_ret results30 (Res.cell rfl (box_loads (i := 1) isAgg24 sizeOf24 rfl rfl) (Res.tmp rfl Res.nil)) rfl (fun w' s => ⟨s.below, ?_⟩)
 exact ⟨ao17, cap17, rfl, h47.mono s.le_newer, hc23⟩
theorem law16_Two_con  (w : World) (H : Heap) (hH : Le H (hp w)) (hG : Glob H) (r : Sequence) (hm : law16_Two  = some r) :
  Con prog 39 [] w H (fun v H' => ∃ (ao1 : Option Addr) (cap1 : Nat), v = (.agg #[(.int .i64 r.actuators), (.slice ao1 r.steps.length cap1)]) ∧ SL H' encStep ao1 r.steps ∧ r.steps.length ≤ cap1) := by
 unfold law16_Two at hm
 refine con_of hH func39 rfl 13 ntmps39 rfl ?_
 refine WP.seq (WP.region ?_)
 refine ws rfl (os_alloc (cs := [(.int .i64 0), (.slice none 0 0)]) zeroValue24 rfl rfl (fun b1 => ?_))
 refine WL.nil (tn (WP.seq (WP.region (V rfl (ov_build (r := (.agg #[(.int .i64 0), (.bool true)])) rfl rfl (fun _ => by kernel_rfl)) ?_))))
 have rl1 : RL H encStroke ([(Stroke.mk 0 true)] : List Stroke) [(.int .i64 0), (.bool true)] := RL.cons (cs := [(.int .i64 0), (.bool true)]) (xs := []) rfl (RL.nil _ _)
 refine ws rfl (os_buildSlice (cs := [(.int .i64 0), (.bool true)]) (E := 48) (sz := 2) rfl rfl (fun _ => by kernel_rfl) rfl (by decide) (fun b2 => ?_))
 refine WL.held rl1 (fun H1 hc2 hle1 h2 => ?_)
 refine V rfl (ov_build (r := (.agg #[(.slice (some ⟨b2, 0, none⟩) ([(Stroke.mk 0 true)] : List Stroke).length 1), (.int .i64 0)])) rfl rfl (fun _ => by kernel_rfl)) (V rfl (ov_build (r := (.agg #[(.int .i64 1), (.bool true)])) rfl rfl (fun _ => by kernel_rfl)) ?_)
 have rl2 : RL H1 encStroke ([(Stroke.mk 1 true)] : List Stroke) [(.int .i64 1), (.bool true)] := RL.cons (cs := [(.int .i64 1), (.bool true)]) (xs := []) rfl (RL.nil _ _)
 refine ws rfl (os_buildSlice (cs := [(.int .i64 1), (.bool true)]) (E := 48) (sz := 2) rfl rfl (fun _ => by kernel_rfl) rfl (by decide) (fun b3 => ?_))
 refine WL.held rl2 (fun H2 hc3 hle2 h3 => ?_)
 replace h2 := h2.mono hle2
 refine V rfl (ov_build (r := (.agg #[(.slice (some ⟨b3, 0, none⟩) ([(Stroke.mk 1 true)] : List Stroke).length 1), (.int .i64 50)])) rfl rfl (fun _ => by kernel_rfl)) (V rfl (ov_build (r := (.agg #[(.int .i64 0), (.bool false)])) rfl rfl (fun _ => by kernel_rfl)) (V rfl (ov_build (r := (.agg #[(.int .i64 1), (.bool false)])) rfl rfl (fun _ => by kernel_rfl)) ?_))
 have rl3 : RL H2 encStroke ([(Stroke.mk 0 false), (Stroke.mk 1 false)] : List Stroke) [(.int .i64 0), (.bool false), (.int .i64 1), (.bool false)] := RL.cons (cs := [(.int .i64 0), (.bool false)]) (xs := [(.int .i64 1), (.bool false)]) rfl (RL.cons (cs := [(.int .i64 1), (.bool false)]) (xs := []) rfl (RL.nil _ _))
 refine ws rfl (os_buildSlice (cs := [(.int .i64 0), (.bool false), (.int .i64 1), (.bool false)]) (E := 48) (sz := 2) rfl rfl (fun _ => by kernel_rfl) rfl (by decide) (fun b4 => ?_))
 refine WL.held rl3 (fun H3 hc4 hle3 h4 => ?_)
 replace h2 := h2.mono hle3
 replace h3 := h3.mono hle3
 refine V rfl (ov_build (r := (.agg #[(.slice (some ⟨b4, 0, none⟩) ([(Stroke.mk 0 false), (Stroke.mk 1 false)] : List Stroke).length 2), (.int .i64 0)])) rfl rfl (fun _ => by kernel_rfl)) ?_
 have rl4 : RL H3 encStep ([(Step.mk ([(Stroke.mk 0 true)] : List Stroke) 0), (Step.mk ([(Stroke.mk 1 true)] : List Stroke) 50), (Step.mk ([(Stroke.mk 0 false), (Stroke.mk 1 false)] : List Stroke) 0)] : List Step) [(.slice (some ⟨b2, 0, none⟩) ([(Stroke.mk 0 true)] : List Stroke).length 1), (.int .i64 0), (.slice (some ⟨b3, 0, none⟩) ([(Stroke.mk 1 true)] : List Stroke).length 1), (.int .i64 50), (.slice (some ⟨b4, 0, none⟩) ([(Stroke.mk 0 false), (Stroke.mk 1 false)] : List Stroke).length 2), (.int .i64 0)] := RL.cons (cs := [(.slice (some ⟨b2, 0, none⟩) ([(Stroke.mk 0 true)] : List Stroke).length 1), (.int .i64 0)]) (xs := [(.slice (some ⟨b3, 0, none⟩) ([(Stroke.mk 1 true)] : List Stroke).length 1), (.int .i64 50), (.slice (some ⟨b4, 0, none⟩) ([(Stroke.mk 0 false), (Stroke.mk 1 false)] : List Stroke).length 2), (.int .i64 0)]) ⟨(some ⟨b2, 0, none⟩), 1, rfl, h2, hc2⟩ (RL.cons (cs := [(.slice (some ⟨b3, 0, none⟩) ([(Stroke.mk 1 true)] : List Stroke).length 1), (.int .i64 50)]) (xs := [(.slice (some ⟨b4, 0, none⟩) ([(Stroke.mk 0 false), (Stroke.mk 1 false)] : List Stroke).length 2), (.int .i64 0)]) ⟨(some ⟨b3, 0, none⟩), 1, rfl, h3, hc3⟩ (RL.cons (cs := [(.slice (some ⟨b4, 0, none⟩) ([(Stroke.mk 0 false), (Stroke.mk 1 false)] : List Stroke).length 2), (.int .i64 0)]) (xs := []) ⟨(some ⟨b4, 0, none⟩), 2, rfl, h4, hc4⟩ (RL.nil _ _)))
 refine ws rfl (os_buildSlice (cs := [(.slice (some ⟨b2, 0, none⟩) ([(Stroke.mk 0 true)] : List Stroke).length 1), (.int .i64 0), (.slice (some ⟨b3, 0, none⟩) ([(Stroke.mk 1 true)] : List Stroke).length 1), (.int .i64 50), (.slice (some ⟨b4, 0, none⟩) ([(Stroke.mk 0 false), (Stroke.mk 1 false)] : List Stroke).length 2), (.int .i64 0)]) (E := 45) (sz := 2) rfl rfl (fun _ => by kernel_rfl) rfl (by decide) (fun b5 => ?_))
 refine WL.held rl4 (fun H4 hc5 hle4 h5 => ?_)
 refine V rfl (ov_build (r := (.agg #[(.int .i64 2), (.slice (some ⟨b5, 0, none⟩) ([(Step.mk ([(Stroke.mk 0 true)] : List Stroke) 0), (Step.mk ([(Stroke.mk 1 true)] : List Stroke) 50), (Step.mk ([(Stroke.mk 0 false), (Stroke.mk 1 false)] : List Stroke) 0)] : List Step).length 3)])) rfl rfl (fun _ => by kernel_rfl)) ?_
 refine ws0 rfl (os_store (i := 0) (vs := [(.int .i64 2), (.slice (some ⟨b5, 0, none⟩) ([(Step.mk ([(Stroke.mk 0 true)] : List Stroke) 0), (Step.mk ([(Stroke.mk 1 true)] : List Stroke) 50), (Step.mk ([(Stroke.mk 0 false), (Stroke.mk 1 false)] : List Stroke) 0)] : List Step).length 3)]) (cs' := [(.int .i64 2), (.slice (some ⟨b5, 0, none⟩) ([(Step.mk ([(Stroke.mk 0 true)] : List Stroke) 0), (Step.mk ([(Stroke.mk 1 true)] : List Stroke) 50), (Step.mk ([(Stroke.mk 0 false), (Stroke.mk 1 false)] : List Stroke) 0)] : List Step).length 3)]) sizeOf24 rfl rfl rfl rfl rfl rfl rfl rfl rfl ?_)
 refine WL.nil (tn (WP.ret ?_))
 obtain rfl := Option.some.inj hm
 refine retQ_ret results39 (Res.cell rfl (box_loads (i := 0) isAgg24 sizeOf24 rfl rfl) Res.nil) rfl (fun w' s => ⟨s.below, ?_⟩)
 exact ⟨(some ⟨b5, 0, none⟩), 3, rfl, h5.mono s.le_newer, hc5⟩
theorem law16_awake_con  (w : World) (H : Heap) (hH : Le H (hp w)) (hG : Glob H) (r : Bool) (hm : law16_awake  = some r) :
  Con prog 12 [] w H (fun v _ => v = (.bool r)) := by
 unfold law16_awake at hm
 refine con_of hH func12 rfl 70 ntmps12 rfl ?_
 refine WP.seq (WP.region (Va rfl (WL.nil (tn (WP.seq (WP.region ?_))))))
 obtain ⟨r1, e1, hm⟩ := bind_some hm
 refine ws rfl (os_con call39 rfl rfl (fun w' s => (law16_Two_con   w' H s.hold hG r1 e1)) (fun rr1 H1 hle1 hR1 => ?_))
 replace hG := hG.mono hle1
 obtain ⟨ao1, cap1, rfl, h1, hc1⟩ := hR1
 obtain ⟨r2, e2, hm⟩ := bind_some hm
 refine ws rfl (os_con call13 rfl rfl (fun w' s => (diagram_Draw_con r1 ao1 cap1  w' H1 s.hold h1 hc1 hG r2 e2)) (fun rr2 H2 hle2 hR2 => ?_))
 replace hG := hG.mono hle2
 obtain ⟨ao2, cap2, rfl, h2, hc2⟩ := hR2
 refine Vm rfl (Ve rfl (Ve rfl (Va rfl (Va rfl (WL.nil (tn (WP.seq (WP.region ?_))))))))
 obtain ⟨r3, e3, hm⟩ := bind_some hm
 refine ws rfl (os_con call39 rfl rfl (fun w' s => (law16_Two_con   w' H2 s.hold hG r3 e3)) (fun rr3 H3 hle3 hR3 => ?_))
 replace h2 := h2.mono hle3
 replace hG := hG.mono hle3
 obtain ⟨ao3, cap3, rfl, h3, hc3⟩ := hR3
 obtain ⟨r4, e4, hm⟩ := bind_some hm
 refine wo rfl (oq_con (r := (.tuple #[(mkS r4.1), (.int .i64 r4.2)])) call15 rfl rfl (fun w' s => ⟨_, (diagram_Column_con r3 1 ao3 cap3  w' H3 s.hold h3 hc3 hG r4 e4)⟩)) ?_
 refine Vm rfl (Ve rfl (Ve rfl (Va rfl (Va rfl (WL.nil (tn (WP.seq (WP.region ?_))))))))
 obtain ⟨r5, e5, hm⟩ := bind_some hm
 refine ws rfl (os_con call39 rfl rfl (fun w' s => (law16_Two_con   w' H3 s.hold hG r5 e5)) (fun rr4 H4 hle4 hR4 => ?_))
 replace h2 := h2.mono hle4
 replace hG := hG.mono hle4
 obtain ⟨ao4, cap4, rfl, h4, hc4⟩ := hR4
 obtain ⟨r6, e6, hm⟩ := bind_some hm
 refine ws rfl (os_con call17 rfl rfl (fun w' s => (diagram_Switches_con r5 ao4 cap4  w' H4 s.hold h4 hc4 hG r6 e6)) (fun rr5 H5 hle5 hR5 => ?_))
 replace h2 := h2.mono hle5
 replace hG := hG.mono hle5
 obtain ⟨ao5, cap5, rfl, h5, hc5⟩ := hR5
 refine Vm rfl (Ve rfl (Ve rfl (Va rfl (Va rfl (WL.nil (tn (WP.seq (WP.region ?_))))))))
 obtain ⟨r7, e7, hm⟩ := bind_some hm
 refine ws rfl (os_con call39 rfl rfl (fun w' s => (law16_Two_con   w' H5 s.hold hG r7 e7)) (fun rr6 H6 hle6 hR6 => ?_))
 replace h2 := h2.mono hle6
 replace h5 := h5.mono hle6
 replace hG := hG.mono hle6
 obtain ⟨ao6, cap6, rfl, h6, hc6⟩ := hR6
 have rl1 : RL H6 (encInt .i64) ([0, 2] : List Int) [(.int .i64 0), (.int .i64 2)] := RL.cons (cs := [(.int .i64 0)]) (xs := [(.int .i64 2)]) rfl (RL.cons (cs := [(.int .i64 2)]) (xs := []) rfl (RL.nil _ _))
 refine ws rfl (os_buildSlice (cs := [(.int .i64 0), (.int .i64 2)]) (E := 3) (sz := 1) rfl rfl (fun _ => by kernel_rfl) rfl (by decide) (fun b1 => ?_))
 refine WL.held rl1 (fun H7 hc7 hle7 h7 => ?_)
 replace h2 := h2.mono hle7
 replace h5 := h5.mono hle7
 replace h6 := h6.mono hle7
 replace hG := hG.mono hle7
 obtain ⟨r8, e8, hm⟩ := bind_some hm
 refine ws rfl (os_con call20 rfl rfl (fun w' s => (diagram_Marks_con r7 ([0, 2] : List Int) ao6 cap6 (some ⟨b1, 0, none⟩) 2  w' H7 s.hold h6 hc6 h7 hc7 hG r8 e8)) (fun rr7 H8 hle8 hR7 => ?_))
 replace h2 := h2.mono hle8
 replace h5 := h5.mono hle8
 replace hG := hG.mono hle8
 obtain ⟨ao7, cap7, rfl, h8, hc8⟩ := hR7
 refine Vm rfl (Ve rfl (Ve rfl (Va rfl (Va rfl (WL.nil (tn (WP.seq (WP.region ?_))))))))
 have rl2 : RL H8 encStr ([[65, 32, 95, 47, 45, 45, 45, 92, 95], [66, 32, 95, 95, 95, 47, 45, 92, 95], [84, 32, 48, 32, 53, 48, 32, 48]] : List (List UInt8)) [(mkS [65, 32, 95, 47, 45, 45, 45, 92, 95]), (mkS [66, 32, 95, 95, 95, 47, 45, 92, 95]), (mkS [84, 32, 48, 32, 53, 48, 32, 48])] := RL.cons (cs := [(mkS [65, 32, 95, 47, 45, 45, 45, 92, 95])]) (xs := [(mkS [66, 32, 95, 95, 95, 47, 45, 92, 95]), (mkS [84, 32, 48, 32, 53, 48, 32, 48])]) rfl (RL.cons (cs := [(mkS [66, 32, 95, 95, 95, 47, 45, 92, 95])]) (xs := [(mkS [84, 32, 48, 32, 53, 48, 32, 48])]) rfl (RL.cons (cs := [(mkS [84, 32, 48, 32, 53, 48, 32, 48])]) (xs := []) rfl (RL.nil _ _)))
 refine ws rfl (os_buildSlice (cs := [(mkS [65, 32, 95, 47, 45, 45, 45, 92, 95]), (mkS [66, 32, 95, 95, 95, 47, 45, 92, 95]), (mkS [84, 32, 48, 32, 53, 48, 32, 48])]) (E := 9) (sz := 1) rfl rfl (fun _ => by kernel_rfl) rfl (by decide) (fun b2 => ?_))
 refine WL.held rl2 (fun H9 hc9 hle9 h9 => ?_)
 replace h2 := h2.mono hle9
 replace h5 := h5.mono hle9
 replace h8 := h8.mono hle9
 replace hG := hG.mono hle9
 obtain ⟨r9, e9, hm⟩ := bind_some hm
 refine ws rfl (os_con call30 rfl rfl (fun w' s => (diagram_Read_con ([[65, 32, 95, 47, 45, 45, 45, 92, 95], [66, 32, 95, 95, 95, 47, 45, 92, 95], [84, 32, 48, 32, 53, 48, 32, 48]] : List (List UInt8)) (some ⟨b2, 0, none⟩) 3  w' H9 s.hold h9 hc9 hG r9 e9)) (fun rr8 H10 hle10 hR8 => ?_))
 replace h2 := h2.mono hle10
 replace h5 := h5.mono hle10
 replace h8 := h8.mono hle10
 replace hG := hG.mono hle10
 obtain ⟨ao8, cap8, rfl, h10, hc10⟩ := hR8
 refine Vm rfl (Ve rfl (Ve rfl ?_))
 refine ws rfl (os_alloc (cs := [(.int .i64 0), (.slice none 0 0)]) zeroValue24 rfl rfl (fun b3 => ?_))
 refine ws0 rfl (os_store (i := 0) (vs := [(.int .i64 r9.1.actuators), (.slice ao8 r9.1.steps.length cap8)]) (cs' := [(.int .i64 r9.1.actuators), (.slice ao8 r9.1.steps.length cap8)]) sizeOf24 rfl rfl rfl rfl rfl rfl rfl rfl rfl ?_)
 refine Va rfl (WL.nil (tn (WP.seq ?_)))
 obtain ⟨k1, hk1, hm⟩ := joinK_some hm
 refine WP.seq_join (fun g' S' => ∃ (H12 : Heap) (c1 : Bool), Le H10 H12 ∧ Sub [(1, (.slice ao2 r2.1.length cap2)), (5, (.slice ao5 r6.1.length cap5)), (7, (.slice ao7 r8.1.length cap7)), (56, (.bool c1)), (1000000007, (.bool false))] g' ∧ (∀ w', S' w' → St w H [] H12 w') ∧ k1 c1 = some r) ?_ ?_
 ·
  refine WP.region_any (S₀ := St w H [.blk b3 24 [(.int .i64 r9.1.actuators), (.slice ao8 r9.1.steps.length cap8)]] H10) 20 rfl (by kernel_rfl) (fun w' s => s) (fun _ s => s.drew) ?_
  refine TQ' 0 rfl (ov_move rfl rfl) (TQ' 1 rfl (ov_move rfl rfl) (TQ' 2 rfl (ov_add rfl rfl rfl) (TQ' 3 rfl (ov_move rfl rfl) (TQ' 4 rfl (ov_add rfl rfl rfl) (TQ' 5 rfl (ov_move rfl rfl) (TQ' 6 rfl (ov_add rfl rfl rfl) (TQ' 7 rfl (ov_move rfl rfl) (TQ' 8 rfl (ov_add rfl rfl rfl) (TQ' 9 rfl (ov_neq rfl rfl rfl) (TQ' 10 rfl (ov_move rfl rfl) ?_))))))))))
  rcases Bool.eq_false_or_eq_true ((IntKind.wrap .i64 ((IntKind.wrap .i64 ((IntKind.wrap .i64 ((IntKind.wrap .i64 (r2.2 + r4.2)) + r6.2)) + r8.2)) + r9.2)) != 0) with hc11 | hc11
  ·
   replace hm := ite_t hc11 hm
   refine AL.idle (i := 11) rfl (by kernel_rfl) (by kernel_rfl) (by kernel_rfl) (Idle.no rfl rfl rfl hc11) rfl rfl ?_
   refine AL.idle (i := 12) rfl (by kernel_rfl) (by kernel_rfl) (by kernel_rfl) (Idle.no rfl rfl rfl hc11) rfl rfl ?_
   refine AL.idle (i := 13) rfl (by kernel_rfl) (by kernel_rfl) (by kernel_rfl) (Idle.no rfl rfl rfl hc11) rfl rfl ?_
   refine AL.idle (i := 14) rfl (by kernel_rfl) (by kernel_rfl) (by kernel_rfl) (Idle.no rfl rfl rfl hc11) rfl rfl ?_
   refine TQ' 15 rfl (ov_pick_true rfl (guard_eq rfl hc11) rfl) (TQ' 16 rfl (ov_move rfl rfl) ?_)
   refine AL.idle (i := 17) rfl (by kernel_rfl) (by kernel_rfl) (by kernel_rfl) (Idle.no rfl rfl rfl rfl) rfl rfl ?_
   refine AL.idle (i := 18) rfl (by kernel_rfl) (by kernel_rfl) (by kernel_rfl) (Idle.no rfl rfl rfl rfl) rfl rfl ?_
   refine TQ' 19 rfl (ov_pick_true rfl (guard_eq rfl rfl) rfl) ?_
   refine AL.done (by kernel_rfl) ?_
   refine tn ?_
   exact ⟨H10, true, (Le.refl _), (Sub.all rfl), fun w' s => (s.sl []), hm⟩
  replace hm := ite_f hc11 hm
  refine AL.take (i := 11) rfl (by kernel_rfl) (by kernel_rfl) (by kernel_rfl) (Runs.yes rfl rfl rfl hc11) rfl rfl (ov_load_whole (i := 0) isAgg24 sizeOf24 rfl rfl rfl rfl) ?_
  refine AL.any (rs := [12]) (by kernel_rfl) (by decide) ?_
  refine ALs.cons (i := 12) rfl (Runs.yes rfl rfl rfl hc11) rfl rfl ?_ ?_
  ·
   obtain ⟨r10, e10, hm⟩ := bind_some hm
   refine os_con call39 rfl rfl (fun w' s => (law16_Two_con   w' H10 s.hold hG r10 e10)) (fun rr9 H11 hle11 hR9 => ?_)
   replace h2 := h2.mono hle11
   replace h5 := h5.mono hle11
   replace h8 := h8.mono hle11
   replace h10 := h10.mono hle11
   replace hG := hG.mono hle11
   obtain ⟨ao9, cap9, rfl, h11, hc12⟩ := hR9
   refine ⟨fun w' s => (s.heap hle11), ?_⟩
   refine AL.any (rs := [13]) (by kernel_rfl) (by decide) ?_
   refine ALs.cons (i := 13) rfl (Runs.yes rfl rfl rfl hc11) rfl rfl ?_ ?_
   ·
    obtain ⟨r11, e11, hm⟩ := bind_some hm
    refine OQ.step (oq_con (r := (.bool r11)) call34 rfl rfl (fun w' s => ⟨_, (ref14_Same_con r9.1 r10 ao8 cap8 ao9 cap9  w' H11 s.hold h10 hc10 h11 hc12 hG r11 e11)⟩)) ?_
    refine ⟨fun w' s => (s.heap hle11), ?_⟩
    refine AL.take (i := 14) rfl (by kernel_rfl) (by kernel_rfl) (by kernel_rfl) (Runs.yes rfl rfl rfl hc11) rfl rfl (ov_not rfl rfl) ?_
    refine TQ' 15 rfl (ov_pick_false rfl (guard_eq rfl hc11) rfl) (TQ' 16 rfl (ov_move rfl rfl) ?_)
    rcases Bool.eq_false_or_eq_true (!r11) with hc13 | hc13
    ·
     replace hm := ite_t hc13 hm
     refine AL.idle (i := 17) rfl (by kernel_rfl) (by kernel_rfl) (by kernel_rfl) (Idle.no rfl rfl rfl hc13) rfl rfl ?_
     refine AL.idle (i := 18) rfl (by kernel_rfl) (by kernel_rfl) (by kernel_rfl) (Idle.no rfl rfl rfl hc13) rfl rfl ?_
     refine TQ' 19 rfl (ov_pick_true rfl (guard_eq rfl hc13) rfl) ?_
     refine AL.done (by kernel_rfl) ?_
     refine tn ?_
     exact ⟨H11, true, hle11, (Sub.all rfl), fun w' s => (s.sl []), hm⟩
    replace hm := ite_f hc13 hm
    refine AL.take (i := 17) rfl (by kernel_rfl) (by kernel_rfl) (by kernel_rfl) (Runs.yes rfl rfl rfl hc13) rfl rfl (ov_move rfl rfl) ?_
    refine AL.take (i := 18) rfl (by kernel_rfl) (by kernel_rfl) (by kernel_rfl) (Runs.yes rfl rfl rfl hc13) rfl rfl (ov_sneq rfl rfl rfl) ?_
    refine TQ' 19 rfl (ov_pick_false rfl (guard_eq rfl hc13) rfl) ?_
    refine AL.done (by kernel_rfl) ?_
    refine tn ?_
    exact ⟨H11, (!(r4.1 == [45, 47])), hle11, (Sub.all rfl), fun w' s => (s.sl []), hm⟩
   exact ALs.nil
  exact ALs.nil
 rintro g' S' ⟨H12, c1, hle12, hsub1, hS1, hm⟩
 refine WP.sub hsub1 (WP.weaken hS1 ?_)
 replace hm := (congrFun hk1 c1).symm.trans hm
 replace h2 := h2.mono hle12
 replace h5 := h5.mono hle12
 replace h8 := h8.mono hle12
 replace hG := hG.mono hle12
 refine WP.cond rfl (fun hc14 => ?_) (fun hc14 => ?_)
 ·
  replace hm := ite_t hc14 hm
  refine WP.seq (WP.region (Va rfl (WL.nil (tn (WP.ret (then_ret ?_))))))
  obtain rfl := Option.some.inj hm
  refine retQ_ret results12 (Res.tmp rfl Res.nil) rfl (fun w' s => ⟨s.below, ?_⟩)
  exact rfl
 replace hm := ite_f hc14 hm
 refine WP.skip (tn (WP.seq (WP.region (Vm rfl ?_))))
 have rl3 : RL H12 encStr ([[65, 32, 95, 47, 45, 45, 45, 92, 95], [66, 32, 95, 95, 95, 47, 45, 92, 95], [84, 32, 48, 32, 53, 48, 32, 48]] : List (List UInt8)) [(mkS [65, 32, 95, 47, 45, 45, 45, 92, 95]), (mkS [66, 32, 95, 95, 95, 47, 45, 92, 95]), (mkS [84, 32, 48, 32, 53, 48, 32, 48])] := RL.cons (cs := [(mkS [65, 32, 95, 47, 45, 45, 45, 92, 95])]) (xs := [(mkS [66, 32, 95, 95, 95, 47, 45, 92, 95]), (mkS [84, 32, 48, 32, 53, 48, 32, 48])]) rfl (RL.cons (cs := [(mkS [66, 32, 95, 95, 95, 47, 45, 92, 95])]) (xs := [(mkS [84, 32, 48, 32, 53, 48, 32, 48])]) rfl (RL.cons (cs := [(mkS [84, 32, 48, 32, 53, 48, 32, 48])]) (xs := []) rfl (RL.nil _ _)))
 refine ws rfl (os_buildSlice (cs := [(mkS [65, 32, 95, 47, 45, 45, 45, 92, 95]), (mkS [66, 32, 95, 95, 95, 47, 45, 92, 95]), (mkS [84, 32, 48, 32, 53, 48, 32, 48])]) (E := 9) (sz := 1) rfl rfl (fun _ => by kernel_rfl) rfl (by decide) (fun b4 => ?_))
 refine WL.held rl3 (fun H13 hc15 hle13 h12 => ?_)
 replace h2 := h2.mono hle13
 replace h5 := h5.mono hle13
 replace h8 := h8.mono hle13
 replace hG := hG.mono hle13
 obtain ⟨r12, e12, hm⟩ := bind_some hm
 refine wo rfl (oq_con (r := (.bool r12)) call19 rfl rfl (fun w' s => ⟨_, (slices_Equal_stringstring_con r2.1 ([[65, 32, 95, 47, 45, 45, 45, 92, 95], [66, 32, 95, 95, 95, 47, 45, 92, 95], [84, 32, 48, 32, 53, 48, 32, 48]] : List (List UInt8)) ao2 cap2 (some ⟨b4, 0, none⟩) 3  w' H13 s.hold h2 hc2 h12 hc15 hG r12 e12)⟩)) ?_
 refine Vm rfl ?_
 obtain ⟨c2, e13, hm⟩ := bind_some hm
 refine WL.cut_bool 4 64 (x := c2) ?_ ?_
 ·
  rcases Bool.eq_false_or_eq_true r12 with hc16 | hc16
  ·
   replace hm := ite_t hc16 e13
   refine wy hc16 rfl (ov_move rfl rfl) ?_
   have rl4 : RL H13 encStr ([[65, 48, 32, 35, 46, 46, 35], [65, 49, 32, 46, 35, 35, 46], [66, 48, 32, 35, 35, 46, 35], [66, 49, 32, 46, 46, 35, 46]] : List (List UInt8)) [(mkS [65, 48, 32, 35, 46, 46, 35]), (mkS [65, 49, 32, 46, 35, 35, 46]), (mkS [66, 48, 32, 35, 35, 46, 35]), (mkS [66, 49, 32, 46, 46, 35, 46])] := RL.cons (cs := [(mkS [65, 48, 32, 35, 46, 46, 35])]) (xs := [(mkS [65, 49, 32, 46, 35, 35, 46]), (mkS [66, 48, 32, 35, 35, 46, 35]), (mkS [66, 49, 32, 46, 46, 35, 46])]) rfl (RL.cons (cs := [(mkS [65, 49, 32, 46, 35, 35, 46])]) (xs := [(mkS [66, 48, 32, 35, 35, 46, 35]), (mkS [66, 49, 32, 46, 46, 35, 46])]) rfl (RL.cons (cs := [(mkS [66, 48, 32, 35, 35, 46, 35])]) (xs := [(mkS [66, 49, 32, 46, 46, 35, 46])]) rfl (RL.cons (cs := [(mkS [66, 49, 32, 46, 46, 35, 46])]) (xs := []) rfl (RL.nil _ _))))
   refine WL.step (Runs.yes rfl rfl rfl hc16) rfl rfl (os_buildSlice (cs := [(mkS [65, 48, 32, 35, 46, 46, 35]), (mkS [65, 49, 32, 46, 35, 35, 46]), (mkS [66, 48, 32, 35, 35, 46, 35]), (mkS [66, 49, 32, 46, 46, 35, 46])]) (E := 9) (sz := 1) rfl rfl (fun _ => by kernel_rfl) rfl (by decide) (fun b5 => ?_))
   refine WL.held rl4 (fun H14 hc17 hle14 h13 => ?_)
   replace h5 := h5.mono hle14
   replace h8 := h8.mono hle14
   replace hG := hG.mono hle14
   obtain ⟨r13, e14, hm⟩ := bind_some hm
   refine WL.quiet (Runs.yes rfl rfl rfl hc16) rfl rfl (oq_con (r := (.bool r13)) call19 rfl rfl (fun w' s => ⟨_, (slices_Equal_stringstring_con r6.1 ([[65, 48, 32, 35, 46, 46, 35], [65, 49, 32, 46, 35, 35, 46], [66, 48, 32, 35, 35, 46, 35], [66, 49, 32, 46, 46, 35, 46]] : List (List UInt8)) ao5 cap5 (some ⟨b5, 0, none⟩) 4  w' H14 s.hold h5 hc5 h13 hc17 hG r13 e14)⟩)) ?_
   refine V rfl (ov_pick_true rfl (guard_eq rfl hc16) rfl) ?_
   exact WL.nil ⟨Sub.cons' rfl (congrArg Value.bool (Option.some.inj hm)) (Sub.dropn 4 rfl), fun _ s => (s.heap hle14)⟩
  replace hm := ite_f hc16 e13
  refine Vi rfl (Idle.no rfl rfl rfl hc16) (Vi rfl (Idle.no rfl rfl rfl hc16) (Vi rfl (Idle.no rfl rfl rfl hc16) (V rfl (ov_pick_false rfl (guard_eq rfl hc16) rfl) ?_)))
  exact WL.nil ⟨Sub.cons' rfl (congrArg Value.bool (Option.some.inj hm)) (Sub.dropn 4 rfl), fun _ s => s⟩
 refine Vm rfl ?_
 obtain ⟨c3, e15, hm⟩ := bind_some hm
 refine WL.cut_bool 4 69 (x := c3) ?_ ?_
 ·
  rcases Bool.eq_false_or_eq_true c2 with hc18 | hc18
  ·
   replace hm := ite_t hc18 e15
   refine wy hc18 rfl (ov_move rfl rfl) ?_
   have rl5 : RL H13 encStr ([[65, 32, 95, 124, 47, 45, 45, 45, 124, 92, 95], [66, 32, 95, 124, 95, 95, 47, 45, 124, 92, 95]] : List (List UInt8)) [(mkS [65, 32, 95, 124, 47, 45, 45, 45, 124, 92, 95]), (mkS [66, 32, 95, 124, 95, 95, 47, 45, 124, 92, 95])] := RL.cons (cs := [(mkS [65, 32, 95, 124, 47, 45, 45, 45, 124, 92, 95])]) (xs := [(mkS [66, 32, 95, 124, 95, 95, 47, 45, 124, 92, 95])]) rfl (RL.cons (cs := [(mkS [66, 32, 95, 124, 95, 95, 47, 45, 124, 92, 95])]) (xs := []) rfl (RL.nil _ _))
   refine WL.step (Runs.yes rfl rfl rfl hc18) rfl rfl (os_buildSlice (cs := [(mkS [65, 32, 95, 124, 47, 45, 45, 45, 124, 92, 95]), (mkS [66, 32, 95, 124, 95, 95, 47, 45, 124, 92, 95])]) (E := 9) (sz := 1) rfl rfl (fun _ => by kernel_rfl) rfl (by decide) (fun b6 => ?_))
   refine WL.held rl5 (fun H15 hc19 hle15 h14 => ?_)
   replace h8 := h8.mono hle15
   replace hG := hG.mono hle15
   obtain ⟨r14, e16, hm⟩ := bind_some hm
   refine WL.quiet (Runs.yes rfl rfl rfl hc18) rfl rfl (oq_con (r := (.bool r14)) call19 rfl rfl (fun w' s => ⟨_, (slices_Equal_stringstring_con r8.1 ([[65, 32, 95, 124, 47, 45, 45, 45, 124, 92, 95], [66, 32, 95, 124, 95, 95, 47, 45, 124, 92, 95]] : List (List UInt8)) ao7 cap7 (some ⟨b6, 0, none⟩) 2  w' H15 s.hold h8 hc8 h14 hc19 hG r14 e16)⟩)) ?_
   refine V rfl (ov_pick_true rfl (guard_eq rfl hc18) rfl) ?_
   exact WL.nil ⟨Sub.cons' rfl (congrArg Value.bool (Option.some.inj hm)) (Sub.dropn 4 rfl), fun _ s => (s.heap hle15)⟩
  replace hm := ite_f hc18 e15
  refine Vi rfl (Idle.no rfl rfl rfl hc18) (Vi rfl (Idle.no rfl rfl rfl hc18) (Vi rfl (Idle.no rfl rfl rfl hc18) (V rfl (ov_pick_false rfl (guard_eq rfl hc18) rfl) ?_)))
  exact WL.nil ⟨Sub.cons' rfl (congrArg Value.bool (Option.some.inj hm)) (Sub.dropn 4 rfl), fun _ s => s⟩
 refine Va rfl (WL.nil (tn (WP.ret ?_)))
 obtain rfl := Option.some.inj hm
 refine retQ_ret results12 (Res.tmp rfl Res.nil) rfl (fun w' s => ⟨s.below, ?_⟩)
 exact rfl
theorem ref16_rest_con (p_out : Bool) (w : World) (H : Heap) (hH : Le H (hp w)) (hG : Glob H) (r : (List UInt8)) (hm : ref16_rest p_out = some r) :
  Con prog 89 [(.bool p_out)] w H (fun v _ => v = (mkS r)) := by
 unfold ref16_rest at hm
 refine con_of hH func89 rfl 4 ntmps89 rfl ?_
 refine WP.seq (WP.region (Va rfl (WL.nil (tn (WP.seq (WP.seq (WP.region (Vm rfl (WL.nil (tn ?_))))))))))
 refine WP.cond rfl (fun hc1 => ?_) (fun hc1 => ?_)
 ·
  replace hm := ite_t hc1 hm
  refine WP.seq (WP.region (Va rfl (WL.nil (tn (WP.ret (then_ret ?_))))))
  obtain rfl := Option.some.inj hm
  refine retQ_ret results89 (Res.tmp rfl Res.nil) rfl (fun w' s => ⟨s.below, ?_⟩)
  exact rfl
 replace hm := ite_f hc1 hm
 refine WP.skip (tn (WP.seq (WP.region (Va rfl (WL.nil (tn (WP.ret ?_)))))))
 obtain rfl := Option.some.inj hm
 refine retQ_ret results89 (Res.tmp rfl Res.nil) rfl (fun w' s => ⟨s.below, ?_⟩)
 exact rfl
theorem ref16_First_con (p_s : Sequence) (p_i : Int) (p_k : Int) (ao1 : Option Addr) (cap1 : Nat) (w : World) (H : Heap) (hH : Le H (hp w)) (h1 : SL H encStep ao1 p_s.steps) (hc1 : p_s.steps.length ≤ cap1) (hG : Glob H) (r : (List UInt8)) (hm : ref16_First p_s p_i p_k = some r) :
  Con prog 44 [(.agg #[(.int .i64 p_s.actuators), (.slice ao1 p_s.steps.length cap1)]), (.int .i64 p_i), (.int .i64 p_k)] w H (fun v _ => v = (mkS r)) := by
 unfold ref16_First at hm
 refine con_of hH func44 rfl 25 ntmps44 rfl ?_
 refine WP.seq (WP.region ?_)
 refine ws rfl (os_box (cs := [(.int .i64 p_s.actuators), (.slice ao1 p_s.steps.length cap1)]) rfl rfl rfl (fun b1 => ?_))
 refine Va rfl (WL.nil (tn (WP.seq (WP.seq (WP.region (V rfl (ov_fieldAddr underlying24 rfl rfl rfl sizeOf22 rfl rfl) (Vl 0 isAgg22 rfl (Vm rfl ?_))))))))
 obtain ⟨x1, e1, hm⟩ := bind_some hm
 obtain ⟨h3, h4, h5, cs1, h6, h7⟩ := h1.get e1 (by decide)
 obtain ⟨ao2, cap2, rfl, h2, hc2⟩ := h6
 refine V rfl (ov_indexAddr underlying22 sizeOf45 rfl rfl rfl h3 h4 h5) (V rfl (ov_load_elems (vs := [(.slice ao2 x1.strokes.length cap2), (.int .i64 x1.wait)]) isAgg45 sizeOf45 rfl rfl rfl h7 h5) (Vm rfl ?_))
 obtain ⟨r1, e2, hm⟩ := bind_some hm
 refine wo rfl (oq_con (r := (.int .i64 r1)) call88 rfl rfl (fun w' s => ⟨_, (ref13_Way_con x1 p_i ao2 cap2  w' H s.hold h2 hc2 hG r1 e2)⟩)) ?_
 refine WL.nil (tn (WP.block (WP.seq (WP.region (V rfl (ov_eql rfl rfl rfl) (Va rfl (WL.nil (tn ?_))))))))
 refine WP.cond rfl (fun hc3 => ?_) (fun hc3 => ?_)
 ·
  replace hm := ite_t hc3 hm
  refine WP.seq (WP.region (Va rfl (WL.nil (tn (WP.ret (block_ret (then_ret ?_)))))))
  obtain rfl := Option.some.inj hm
  refine retQ_ret results44 (Res.tmp rfl Res.nil) rfl (fun w' s => ⟨s.below, ?_⟩)
  exact rfl
 replace hm := ite_f hc3 hm
 refine WP.seq (WP.region (V rfl (ov_eql rfl rfl rfl) (Va rfl (WL.nil (tn ?_)))))
 refine WP.cond rfl (fun hc4 => ?_) (fun hc4 => ?_)
 ·
  replace hm := ite_t hc4 hm
  refine WP.seq (WP.region (Va rfl (WL.nil (tn (WP.ret (block_ret (then_ret ?_)))))))
  obtain rfl := Option.some.inj hm
  refine retQ_ret results44 (Res.tmp rfl Res.nil) rfl (fun w' s => ⟨s.below, ?_⟩)
  exact rfl
 replace hm := ite_f hc4 hm
 refine WP.skip (bn (tn (WP.seq (WP.region (V rfl (ov_load_whole (i := 0) isAgg24 sizeOf24 rfl rfl rfl rfl) (Vm rfl ?_))))))
 obtain ⟨r2, e3, hm⟩ := bind_some hm
 refine ws rfl (os_con call48 rfl rfl (fun w' s => (ref14_Behind_con p_s p_k ao1 cap1  w' H s.hold h1 hc1 hG r2 e3)) (fun rr1 H1 hle1 hR1 => ?_))
 replace hG := hG.mono hle1
 obtain ⟨ao3, cap3, rfl, h8, hc5⟩ := hR1
 refine Vm rfl ?_
 obtain ⟨x2, e4, hm⟩ := bind_some hm
 obtain ⟨h9, h10, h11, cs2, h12, h13⟩ := h8.get e4 (by decide)
 obtain rfl : cs2 = [(.bool x2)] := h12
 refine V rfl (ov_indexAddr underlying49 sizeOf4 rfl rfl rfl h9 h10 h11) (V rfl (ov_load_elem (v := (.bool x2)) isAgg4 rfl rfl h13) ?_)
 obtain ⟨r3, e5, hm⟩ := bind_some hm
 refine wo rfl (oq_con (r := (mkS r3)) call89 rfl rfl (fun w' s => ⟨_, (ref16_rest_con x2  w' H1 s.hold hG r3 e5)⟩)) ?_
 refine Va rfl (WL.nil (tn (WP.ret ?_)))
 obtain rfl := Option.some.inj hm
 refine retQ_ret results44 (Res.tmp rfl Res.nil) rfl (fun w' s => ⟨s.below, ?_⟩)
 exact rfl
theorem ref16_Name_con (p_i : Int) (w : World) (H : Heap) (hH : Le H (hp w)) (hG : Glob H) (r : (List UInt8)) (hm : ref16_Name p_i = some r) :
  Con prog 47 [(.int .i64 p_i)] w H (fun v _ => v = (mkS r)) := by
 unfold ref16_Name at hm
 refine con_of hH func47 rfl 7 ntmps47 rfl ?_
 refine WP.seq (WP.region (Va rfl (WL.nil (tn (WP.seq (WP.region (Vm rfl (Vm rfl (V rfl (ov_add rfl rfl rfl) ?_)))))))))
 obtain ⟨s1, e1, hm⟩ := bind_some hm
 refine V rfl (ov_slice_string underlying9 rfl rfl rfl rfl e1) (Va rfl (WL.nil (tn (WP.ret ?_))))
 obtain rfl := Option.some.inj hm
 refine retQ_ret results47 (Res.tmp rfl Res.nil) rfl (fun w' s => ⟨s.below, ?_⟩)
 exact rfl
theorem ref14_SameInts_con (p_a : (List Int)) (p_b : (List Int)) (ao1 : Option Addr) (cap1 : Nat) (ao2 : Option Addr) (cap2 : Nat) (w : World) (H : Heap) (hH : Le H (hp w)) (h1 : SL H (encInt .i64) ao1 p_a) (hc1 : p_a.length ≤ cap1) (h2 : SL H (encInt .i64) ao2 p_b) (hc2 : p_b.length ≤ cap2) (hG : Glob H) (r : Bool) (hm : ref14_SameInts p_a p_b = some r) :
  Con prog 93 [(.slice ao1 p_a.length cap1), (.slice ao2 p_b.length cap2)] w H (fun v _ => v = (.bool r)) := by
 unfold ref14_SameInts at hm
 refine con_of hH func93 rfl 26 ntmps93 rfl ?_
 refine WP.seq (WP.region (Va rfl (WL.nil (tn (WP.seq (WP.seq (WP.region (Vm rfl (V rfl (ov_len_slice underlying39 rfl rfl) (Vm rfl (V rfl (ov_len_slice underlying39 rfl rfl) (V rfl (ov_neq rfl rfl rfl) (WL.nil ?_)))))))))))))
 refine tn ?_
 refine WP.cond rfl (fun hc3 => ?_) (fun hc3 => ?_)
 ·
  replace hm := ite_t hc3 hm
  refine WP.seq (WP.region (Va rfl (WL.nil (tn (WP.ret (then_ret ?_))))))
  obtain rfl := Option.some.inj hm
  refine retQ_ret results93 (Res.tmp rfl Res.nil) rfl (fun w' s => ⟨s.below, ?_⟩)
  exact rfl
 replace hm := ite_f hc3 hm
 refine WP.skip (tn ?_)
 obtain ⟨k1, hk1, hm⟩ := joinK_some hm
 refine WP.seq_join (fun g' S' => Sub [(1000000007, (.bool false))] g' ∧ (∀ w', S' w' → St w H [] H w') ∧ k1 = some r) ?_ ?_
 ·
  refine WP.seq (WP.region (Va rfl (WL.nil (tn (WP.block ?_)))))
  refine WP.loop (fun m1 g' S' => ∃ (i1 : Int), Sub [(0, (.slice ao1 p_a.length cap1)), (1, (.slice ao2 p_b.length cap2)), (5, (.int .i64 i1)), (1000000007, (.bool false))] g' ∧ (∀ w', S' w' → St w H [] H w') ∧ ref14_SameInts_loop1 p_a p_b k1 m1 i1 = some r) ((Int.toNat ((p_a.length : Int) - 0) + 1)) ⟨0, (Sub.all rfl), fun w' s => s, hm⟩ ?_ ?_
  ·
   rintro g' S' ⟨_, _, _, hm⟩
   exact none_some hm
  rintro m1 g' S' ⟨i1, hsub1, hS1, hm⟩
  refine WP.sub hsub1 (WP.weaken hS1 ?_)
  rw [ref14_SameInts_loop1] at hm
  refine WP.seq (WP.seq (WP.region (Vm rfl (Vm rfl (V rfl (ov_len_slice underlying39 rfl rfl) (V rfl (ov_lss rfl rfl rfl) (WL.nil (tn ?_))))))))
  refine WP.cond rfl (fun hc4 => ?_) (fun hc4 => ?_)
  ·
   replace hm := ite_t hc4 hm
   refine WP.skip (tn (WP.seq (WP.block (WP.seq ?_))))
   refine WP.region_draws (by kernel_rfl) (by kernel_rfl) (fun _ s => s.drew) ?_
   refine qf rfl (ov_move rfl rfl) ?_
   refine qf rfl (ov_move rfl rfl) ?_
   obtain ⟨x1, e1, hm⟩ := bind_some hm
   obtain ⟨h3, h4, h5, cs1, h6, h7⟩ := h1.get e1 (by decide)
   obtain rfl : cs1 = [(.int .i64 x1)] := h6
   refine qf rfl (ov_indexAddr underlying39 sizeOf3 rfl rfl rfl h3 h4 h5) ?_
   refine qf rfl (ov_load_elem (v := (.int .i64 x1)) isAgg3 rfl rfl h7) ?_
   refine qf rfl (ov_move rfl rfl) ?_
   refine qf rfl (ov_move rfl rfl) ?_
   obtain ⟨x2, e2, hm⟩ := bind_some hm
   obtain ⟨h8, h9, h10, cs2, h11, h12⟩ := h2.get e2 (by decide)
   obtain rfl : cs2 = [(.int .i64 x2)] := h11
   refine qf rfl (ov_indexAddr underlying39 sizeOf3 rfl rfl rfl h8 h9 h10) ?_
   refine qf rfl (ov_load_elem (v := (.int .i64 x2)) isAgg3 rfl rfl h12) ?_
   refine qf rfl (ov_neq rfl rfl rfl) ?_
   refine QL.nil ?_
   refine tn ?_
   refine WP.cond rfl (fun hc5 => ?_) (fun hc5 => ?_)
   ·
    replace hm := ite_t hc5 hm
    refine WP.seq (WP.region (Va rfl (WL.nil (tn (WP.ret (block_ret (then_ret (then_ret (block_ret (then_ret ?_))))))))))
    obtain rfl := Option.some.inj hm
    refine retQ_ret results93 (Res.tmp rfl Res.nil) rfl (fun w' s => ⟨s.below, ?_⟩)
    exact rfl
   replace hm := ite_f hc5 hm
   refine WP.skip (bn (tn (WP.region (Vm rfl (V rfl (ov_add rfl rfl rfl) (Va rfl (WL.nil (tn ?_))))))))
   exact ⟨(IntKind.wrap .i64 (i1 + 1)), (Sub.all rfl), fun w' s => s, hm⟩
  replace hm := ite_f hc4 hm
  refine WP.exit (then_exit (then_exit (block_here (tn ?_))))
  exact ⟨(Sub.all rfl), fun w' s => s, hm⟩
 rintro g' S' ⟨hsub2, hS2, hm⟩
 refine WP.sub hsub2 (WP.weaken hS2 ?_)
 replace hm := hk1.symm.trans hm
 refine WP.seq (WP.region (Va rfl (WL.nil (tn (WP.ret ?_)))))
 obtain rfl := Option.some.inj hm
 refine retQ_ret results93 (Res.tmp rfl Res.nil) rfl (fun w' s => ⟨s.below, ?_⟩)
 exact rfl
theorem ref16_common_con (p_l : (List Int)) (p_k : Int) (ao1 : Option Addr) (cap1 : Nat) (w : World) (H : Heap) (hH : Le H (hp w)) (h1 : SL H (encInt .i64) ao1 p_l) (hc1 : p_l.length ≤ cap1) (hG : Glob H) (r : (List Int)) (hm : ref16_common p_l p_k = some r) :
  Con prog 94 [(.slice ao1 p_l.length cap1), (.int .i64 p_k)] w H (fun v H' => ∃ (ao2 : Option Addr) (cap2 : Nat), v = (.slice ao2 r.length cap2) ∧ SL H' (encInt .i64) ao2 r ∧ r.length ≤ cap2) := by
 unfold ref16_common at hm
 refine con_of hH func94 rfl 20 ntmps94 rfl ?_
 refine WP.seq (WP.region (Va rfl (WL.nil (tn ?_))))
 obtain ⟨k1, hk1, hm⟩ := joinK_some hm
 refine WP.seq_join (fun g' S' => Sub [(1000000007, (.bool false))] g' ∧ (∀ w', S' w' → St w H [] H w') ∧ k1 = some r) ?_ ?_
 ·
  refine WP.seq (WP.region (Va rfl (WL.nil (tn (WP.block ?_)))))
  refine WP.loop (fun m1 g' S' => ∃ (i1 : Int), Sub [(0, (.slice ao1 p_l.length cap1)), (1, (.int .i64 p_k)), (5, (.int .i64 i1)), (1000000007, (.bool false))] g' ∧ (∀ w', S' w' → St w H [] H w') ∧ ref16_common_loop1 p_l p_k k1 m1 i1 = some r) ((Int.toNat ((p_l.length : Int) - 0) + 1)) ⟨0, (Sub.all rfl), fun w' s => s, hm⟩ ?_ ?_
  ·
   rintro g' S' ⟨_, _, _, hm⟩
   exact none_some hm
  rintro m1 g' S' ⟨i1, hsub1, hS1, hm⟩
  refine WP.sub hsub1 (WP.weaken hS1 ?_)
  rw [ref16_common_loop1] at hm
  refine WP.seq (WP.seq (WP.region (Vm rfl (Vm rfl (V rfl (ov_len_slice underlying39 rfl rfl) (V rfl (ov_lss rfl rfl rfl) (WL.nil (tn ?_))))))))
  refine WP.cond rfl (fun hc3 => ?_) (fun hc3 => ?_)
  ·
   replace hm := ite_t hc3 hm
   refine WP.skip (tn (WP.seq (WP.block (WP.seq (WP.region (Vm rfl (Vm rfl ?_)))))))
   obtain ⟨x1, e1, hm⟩ := bind_some hm
   obtain ⟨h3, h4, h5, cs1, h6, h7⟩ := h1.get e1 (by decide)
   obtain rfl : cs1 = [(.int .i64 x1)] := h6
   refine V rfl (ov_indexAddr underlying39 sizeOf3 rfl rfl rfl h3 h4 h5) (V rfl (ov_load_elem (v := (.int .i64 x1)) isAgg3 rfl rfl h7) (Vm rfl (V rfl (ov_eql rfl rfl rfl) (WL.nil (tn ?_)))))
   refine WP.cond rfl (fun hc4 => ?_) (fun hc4 => ?_)
   ·
    replace hm := ite_t hc4 hm
    refine WP.seq (WP.region (Vm rfl ?_))
    have rl1 : RL H (encInt .i64) ([p_k] : List Int) [(.int .i64 p_k)] := RL.cons (cs := [(.int .i64 p_k)]) (xs := []) rfl (RL.nil _ _)
    refine ws rfl (os_buildSlice (cs := [(.int .i64 p_k)]) (E := 3) (sz := 1) rfl rfl (fun _ => by kernel_rfl) rfl (by decide) (fun b1 => ?_))
    refine WL.held rl1 (fun H1 hc5 hle1 h8 => ?_)
    refine Va rfl (WL.nil (tn (WP.ret (block_ret (then_ret (then_ret (block_ret (then_ret ?_))))))))
    obtain rfl := Option.some.inj hm
    refine retQ_ret results94 (Res.tmp rfl Res.nil) rfl (fun w' s => ⟨s.below, ?_⟩)
    exact ⟨(some ⟨b1, 0, none⟩), 1, rfl, h8.mono s.le_newer, hc5⟩
   replace hm := ite_f hc4 hm
   refine WP.skip (bn (tn (WP.region (Vm rfl (V rfl (ov_add rfl rfl rfl) (Va rfl (WL.nil (tn ?_))))))))
   exact ⟨(IntKind.wrap .i64 (i1 + 1)), (Sub.all rfl), fun w' s => s, hm⟩
  replace hm := ite_f hc3 hm
  refine WP.exit (then_exit (then_exit (block_here (tn ?_))))
  exact ⟨(Sub.all rfl), fun w' s => s, hm⟩
 rintro g' S' ⟨hsub2, hS2, hm⟩
 refine WP.sub hsub2 (WP.weaken hS2 ?_)
 replace hm := hk1.symm.trans hm
 refine WP.seq (WP.region (Va rfl (WL.nil (tn (WP.ret ?_)))))
 obtain rfl := Option.some.inj hm
 refine retQ_ret results94 (Res.tmp rfl Res.nil) rfl (fun w' s => ⟨s.below, ?_⟩)
 exact ⟨none, 0, rfl, SL.nil _ _ _, Nat.le_refl _⟩
theorem ref16_drawn_con (p_s : Sequence) (p_widths : (List Int)) (p_marks : (List Int)) (ao1 : Option Addr) (cap1 : Nat) (ao2 : Option Addr) (cap2 : Nat) (ao3 : Option Addr) (cap3 : Nat) (w : World) (H : Heap) (hH : Le H (hp w)) (h1 : SL H encStep ao1 p_s.steps) (hc1 : p_s.steps.length ≤ cap1) (h2 : SL H (encInt .i64) ao2 p_widths) (hc2 : p_widths.length ≤ cap2) (h3 : SL H (encInt .i64) ao3 p_marks) (hc3 : p_marks.length ≤ cap3) (hG : Glob H) (r : (List (List UInt8))) (hm : ref16_drawn p_s p_widths p_marks = some r) :
  Con prog 54 [(.agg #[(.int .i64 p_s.actuators), (.slice ao1 p_s.steps.length cap1)]), (.slice ao2 p_widths.length cap2), (.slice ao3 p_marks.length cap3)] w H (fun v H' => ∃ (ao4 : Option Addr) (cap4 : Nat), v = (.slice ao4 r.length cap4) ∧ SL H' encStr ao4 r ∧ r.length ≤ cap4) := by
 unfold ref16_drawn at hm
 refine con_of hH func54 rfl 65 ntmps54 rfl ?_
 refine WP.seq (WP.region ?_)
 refine ws rfl (os_box (cs := [(.int .i64 p_s.actuators), (.slice ao1 p_s.steps.length cap1)]) rfl rfl rfl (fun b1 => ?_))
 refine Va rfl (WL.nil (tn (WP.seq (WP.region (Va rfl (WL.nil (tn ?_)))))))
 obtain ⟨k1, hk1, hm⟩ := joinK_some hm
 refine WP.seq_join (fun g' S' => ∃ (H10 : Heap) (l4 : (List (List UInt8))) (ao10 : _) (cap10 : _) (xs3 : _), Le H H10 ∧ RL H10 encStr l4 xs3 ∧ Sub [(7, (.slice ao10 l4.length cap10)), (1000000007, (.bool false))] g' ∧ (∀ w', S' w' → St w H [rowE 9 encStr l4 ao10 cap10 xs3] H10 w') ∧ k1 l4 = some r) ?_ ?_
 ·
  refine WP.seq (WP.region (Va rfl (WL.nil (tn (WP.block ?_)))))
  have rl1 := RL.nil (α := (List UInt8)) H encStr
  refine WP.weaken (fun _ s => s.nilrow 9 (encStr).size) ?_
  refine WP.loop (fun m1 g' S' => ∃ (H1 : Heap) (i1 : Int) (l1 : (List (List UInt8))) (ao5 : _) (cap5 : _) (xs1 : _), Le H H1 ∧ RL H1 encStr l1 xs1 ∧ Sub [(1, (.slice ao2 p_widths.length cap2)), (2, (.slice ao3 p_marks.length cap3)), (3, (pB b1 0)), (7, (.slice ao5 l1.length cap5)), (8, (.int .i64 i1)), (1000000007, (.bool false))] g' ∧ (∀ w', S' w' → St w H [rowE 9 encStr l1 ao5 cap5 xs1, .blk b1 24 [(.int .i64 p_s.actuators), (.slice ao1 p_s.steps.length cap1)]] H1 w') ∧ ref16_drawn_loop1 p_s k1 p_marks p_widths m1 i1 l1 = some r) ((Int.toNat (p_s.actuators - 0) + 1)) ⟨H, 0, ([] : List (List UInt8)), none, 0, [], (Le.refl _), rl1, (Sub.all rfl), fun w' s => s, hm⟩ ?_ ?_
  ·
   rintro g' S' ⟨_, _, _, _, _, _, _, _, _, _, hm⟩
   exact none_some hm
  rintro m1 g' S' ⟨H1, i1, l1, ao5, cap5, xs1, hle1, rl2, hsub1, hS1, hm⟩
  refine WP.sub hsub1 (WP.weaken hS1 ?_)
  rw [ref16_drawn_loop1] at hm
  replace h2 := h2.mono hle1
  replace h3 := h3.mono hle1
  replace h1 := h1.mono hle1
  replace hG := hG.mono hle1
  refine WP.seq (WP.seq (WP.region (Vm rfl (V rfl (ov_fieldAddr underlying24 rfl rfl rfl sizeOf3 rfl rfl) (Vl 1 isAgg3 rfl (V rfl (ov_lss rfl rfl rfl) (WL.nil (tn ?_))))))))
  refine WP.cond rfl (fun hc5 => ?_) (fun hc5 => ?_)
  ·
   replace hm := ite_t hc5 hm
   refine WP.skip (tn ?_)
   obtain ⟨k2, hk2, hm⟩ := joinK_some hm
   refine WP.seq_join (fun g' S' => ∃ (H9 : Heap) (l3 : (List (List UInt8))) (ao9 : _) (cap9 : _) (xs2 : _), Le H1 H9 ∧ RL H9 encStr l3 xs2 ∧ Sub [(1, (.slice ao2 p_widths.length cap2)), (2, (.slice ao3 p_marks.length cap3)), (3, (pB b1 0)), (7, (.slice ao9 l3.length cap9)), (8, (.int .i64 i1)), (1000000007, (.bool false))] g' ∧ (∀ w', S' w' → St w H [rowE 9 encStr l3 ao9 cap9 xs2, .blk b1 24 [(.int .i64 p_s.actuators), (.slice ao1 p_s.steps.length cap1)]] H9 w') ∧ k2 l3 = some r) ?_ ?_
   ·
    refine WP.block (WP.seq (WP.region (Vm rfl ?_)))
    obtain ⟨r1, e1, hm⟩ := bind_some hm
    refine wo rfl (oq_con (r := (mkS r1)) call47 rfl rfl (fun w' s => ⟨_, (ref16_Name_con i1  w' H1 s.hold hG r1 e1)⟩)) ?_
    obtain ⟨s1, e2, hm⟩ := bind_some hm
    refine V rfl (ov_sadd' e2 rfl rfl rfl) (Va rfl (WL.nil (tn ?_)))
    obtain ⟨k3, hk3, hm⟩ := joinK_some hm
    refine WP.seq_join (fun g' S' => ∃ (H8 : Heap) (s10 : (List UInt8)), Le H1 H8 ∧ Sub [(1, (.slice ao2 p_widths.length cap2)), (2, (.slice ao3 p_marks.length cap3)), (3, (pB b1 0)), (7, (.slice ao5 l1.length cap5)), (8, (.int .i64 i1)), (9, (mkS s10)), (1000000007, (.bool false))] g' ∧ (∀ w', S' w' → St w H [rowE 9 encStr l1 ao5 cap5 xs1, .blk b1 24 [(.int .i64 p_s.actuators), (.slice ao1 p_s.steps.length cap1)]] H8 w') ∧ k3 s10 = some r) ?_ ?_
    ·
     refine WP.seq (WP.region (Va rfl (WL.nil (tn (WP.block ?_)))))
     refine WP.loop (fun m2 g' S' => ∃ (H2 : Heap) (s2 : (List UInt8)) (i2 : Int), Le H1 H2 ∧ Sub [(1, (.slice ao2 p_widths.length cap2)), (2, (.slice ao3 p_marks.length cap3)), (3, (pB b1 0)), (7, (.slice ao5 l1.length cap5)), (8, (.int .i64 i1)), (9, (mkS s2)), (10, (.int .i64 i2)), (1000000007, (.bool false))] g' ∧ (∀ w', S' w' → St w H [rowE 9 encStr l1 ao5 cap5 xs1, .blk b1 24 [(.int .i64 p_s.actuators), (.slice ao1 p_s.steps.length cap1)]] H2 w') ∧ ref16_drawn_loop2 p_s p_marks i1 k3 p_widths m2 s2 i2 = some r) ((Int.toNat ((p_s.steps.length : Int) - 0) + 1)) ⟨H1, s1, 0, (Le.refl _), (Sub.all rfl), fun w' s => s, hm⟩ ?_ ?_
     ·
      rintro g' S' ⟨_, _, _, _, _, _, hm⟩
      exact none_some hm
     rintro m2 g' S' ⟨H2, s2, i2, hle2, hsub2, hS2, hm⟩
     refine WP.sub hsub2 (WP.weaken hS2 ?_)
     rw [ref16_drawn_loop2] at hm
     replace h2 := h2.mono hle2
     replace h3 := h3.mono hle2
     replace rl2 := rl2.mono hle2
     replace h1 := h1.mono hle2
     replace hG := hG.mono hle2
     refine WP.seq (WP.seq (WP.region (Vm rfl (V rfl (ov_fieldAddr underlying24 rfl rfl rfl sizeOf22 rfl rfl) (Vl 1 isAgg22 rfl (V rfl (ov_len_slice underlying22 rfl rfl) (V rfl (ov_lss rfl rfl rfl) (WL.nil (tn ?_)))))))))
     refine WP.cond rfl (fun hc6 => ?_) (fun hc6 => ?_)
     ·
      replace hm := ite_t hc6 hm
      refine WP.skip (tn ?_)
      obtain ⟨k4, hk4, hm⟩ := joinK_some hm
      refine WP.seq_join (fun g' S' => ∃ (H7 : Heap) (s9 : (List UInt8)), Le H2 H7 ∧ Sub [(1, (.slice ao2 p_widths.length cap2)), (2, (.slice ao3 p_marks.length cap3)), (3, (pB b1 0)), (7, (.slice ao5 l1.length cap5)), (8, (.int .i64 i1)), (9, (mkS s9)), (10, (.int .i64 i2)), (1000000007, (.bool false))] g' ∧ (∀ w', S' w' → St w H [rowE 9 encStr l1 ao5 cap5 xs1, .blk b1 24 [(.int .i64 p_s.actuators), (.slice ao1 p_s.steps.length cap1)]] H7 w') ∧ k4 s9 = some r) ?_ ?_
      ·
       refine WP.block ?_
       obtain ⟨k5, hk5, hm⟩ := joinK_some hm
       refine WP.seq_join (fun g' S' => ∃ (H5 : Heap) (s4 : (List UInt8)), Le H2 H5 ∧ Sub [(1, (.slice ao2 p_widths.length cap2)), (2, (.slice ao3 p_marks.length cap3)), (3, (pB b1 0)), (7, (.slice ao5 l1.length cap5)), (8, (.int .i64 i1)), (9, (mkS s4)), (10, (.int .i64 i2)), (1000000007, (.bool false))] g' ∧ (∀ w', S' w' → St w H [rowE 9 encStr l1 ao5 cap5 xs1, .blk b1 24 [(.int .i64 p_s.actuators), (.slice ao1 p_s.steps.length cap1)]] H5 w') ∧ k5 s4 = some r) ?_ ?_
       ·
        refine WP.seq (WP.region (Vm rfl ?_))
        have rl3 : RL H2 (encInt .i64) ([i2] : List Int) [(.int .i64 i2)] := RL.cons (cs := [(.int .i64 i2)]) (xs := []) rfl (RL.nil _ _)
        refine ws rfl (os_buildSlice (cs := [(.int .i64 i2)]) (E := 3) (sz := 1) rfl rfl (fun _ => by kernel_rfl) rfl (by decide) (fun b2 => ?_))
        refine WL.held rl3 (fun H3 hc7 hle3 h5 => ?_)
        replace h2 := h2.mono hle3
        replace h3 := h3.mono hle3
        replace h1 := h1.mono hle3
        replace rl2 := rl2.mono hle3
        replace hG := hG.mono hle3
        refine Vm rfl (Vm rfl ?_)
        obtain ⟨r2, e3, hm⟩ := bind_some hm
        refine ws rfl (os_con call94 rfl rfl (fun w' s => (ref16_common_con p_marks i2 ao3 cap3  w' H3 s.hold h3 hc3 hG r2 e3)) (fun rr1 H4 hle4 hR1 => ?_))
        replace h2 := h2.mono hle4
        replace h1 := h1.mono hle4
        replace h5 := h5.mono hle4
        replace rl2 := rl2.mono hle4
        replace hG := hG.mono hle4
        obtain ⟨ao6, cap6, rfl, h6, hc8⟩ := hR1
        obtain ⟨r3, e4, hm⟩ := bind_some hm
        refine wo rfl (oq_con (r := (.bool r3)) call93 rfl rfl (fun w' s => ⟨_, (ref14_SameInts_con ([i2] : List Int) r2 (some ⟨b2, 0, none⟩) 1 ao6 cap6  w' H4 s.hold h5 hc7 h6 hc8 hG r3 e4)⟩)) ?_
        refine WL.nil (tn ?_)
        refine WP.cond rfl (fun hc9 => ?_) (fun hc9 => ?_)
        ·
         replace hm := ite_t hc9 hm
         refine WP.region (Vm rfl ?_)
         obtain ⟨s3, e5, hm⟩ := bind_some hm
         refine V rfl (ov_sadd' e5 rfl rfl rfl) (Va rfl (WL.nil (tn ?_)))
         exact ⟨H4, s3, (hle3.trans hle4), (Sub.all rfl), fun w' s => s, hm⟩
        replace hm := ite_f hc9 hm
        refine WP.skip (tn ?_)
        exact ⟨H4, s2, (hle3.trans hle4), (Sub.all rfl), fun w' s => s, hm⟩
       rintro g' S' ⟨H5, s4, hle5, hsub3, hS3, hm⟩
       refine WP.sub hsub3 (WP.weaken hS3 ?_)
       replace hm := (congrFun hk5 s4).symm.trans hm
       replace h2 := h2.mono hle5
       replace rl2 := rl2.mono hle5
       replace h1 := h1.mono hle5
       replace hG := hG.mono hle5
       obtain ⟨k6, hk6, hm⟩ := joinK_some hm
       refine WP.seq_join (fun g' S' => ∃ (s7 : (List UInt8)), Sub [(1, (.slice ao2 p_widths.length cap2)), (2, (.slice ao3 p_marks.length cap3)), (3, (pB b1 0)), (7, (.slice ao5 l1.length cap5)), (8, (.int .i64 i1)), (9, (mkS s7)), (10, (.int .i64 i2)), (1000000007, (.bool false))] g' ∧ (∀ w', S' w' → St w H [rowE 9 encStr l1 ao5 cap5 xs1, .blk b1 24 [(.int .i64 p_s.actuators), (.slice ao1 p_s.steps.length cap1)]] H5 w') ∧ k6 s7 = some r) ?_ ?_
       ·
        refine WP.seq (WP.region (Va rfl (WL.nil (tn (WP.block ?_)))))
        refine WP.loop (fun m3 g' S' => ∃ (s5 : (List UInt8)) (i3 : Int), Sub [(1, (.slice ao2 p_widths.length cap2)), (2, (.slice ao3 p_marks.length cap3)), (3, (pB b1 0)), (7, (.slice ao5 l1.length cap5)), (8, (.int .i64 i1)), (9, (mkS s5)), (10, (.int .i64 i2)), (11, (.int .i64 i3)), (1000000007, (.bool false))] g' ∧ (∀ w', S' w' → St w H [rowE 9 encStr l1 ao5 cap5 xs1, .blk b1 24 [(.int .i64 p_s.actuators), (.slice ao1 p_s.steps.length cap1)]] H5 w') ∧ ref16_drawn_loop3 p_s p_widths i1 i2 k6 m3 s5 i3 = some r) (4100) ⟨s4, 0, (Sub.all rfl), fun w' s => s, hm⟩ ?_ ?_
        ·
         rintro g' S' ⟨_, _, _, _, hm⟩
         exact none_some hm
        rintro m3 g' S' ⟨s5, i3, hsub4, hS4, hm⟩
        refine WP.sub hsub4 (WP.weaken hS4 ?_)
        rw [ref16_drawn_loop3] at hm
        refine WP.seq (WP.seq (WP.region (Vm rfl (Vm rfl (Vm rfl ?_)))))
        obtain ⟨x1, e6, hm⟩ := bind_some hm
        obtain ⟨h7, h8, h9, cs1, h10, h11⟩ := h2.get e6 (by decide)
        obtain rfl : cs1 = [(.int .i64 x1)] := h10
        refine V rfl (ov_indexAddr underlying39 sizeOf3 rfl rfl rfl h7 h8 h9) (V rfl (ov_load_elem (v := (.int .i64 x1)) isAgg3 rfl rfl h11) (V rfl (ov_lss rfl rfl rfl) (WL.nil (tn ?_))))
        refine WP.cond rfl (fun hc10 => ?_) (fun hc10 => ?_)
        ·
         replace hm := ite_t hc10 hm
         refine WP.skip (tn (WP.seq (WP.block (WP.region (Vm rfl (V rfl (ov_load_whole (i := 1) isAgg24 sizeOf24 rfl rfl rfl rfl) (Vm rfl (Vm rfl ?_))))))))
         obtain ⟨r4, e7, hm⟩ := bind_some hm
         refine wo rfl (oq_con (r := (mkS r4)) call44 rfl rfl (fun w' s => ⟨_, (ref16_First_con p_s i1 i2 ao1 cap1  w' H5 s.hold h1 hc1 hG r4 e7)⟩)) ?_
         obtain ⟨s6, e8, hm⟩ := bind_some hm
         refine V rfl (ov_sadd' e8 rfl rfl rfl) (Va rfl (WL.nil (bn (tn (WP.region (Vm rfl (V rfl (ov_add rfl rfl rfl) (Va rfl (WL.nil (tn ?_))))))))))
         exact ⟨s6, (IntKind.wrap .i64 (i3 + 1)), (Sub.all rfl), fun w' s => s, hm⟩
        replace hm := ite_f hc10 hm
        refine WP.exit (then_exit (then_exit (block_here (tn ?_))))
        exact ⟨s5, (Sub.all rfl), fun w' s => s, hm⟩
       rintro g' S' ⟨s7, hsub5, hS5, hm⟩
       refine WP.sub hsub5 (WP.weaken hS5 ?_)
       replace hm := (congrFun hk6 s7).symm.trans hm
       refine WP.region (Vm rfl (V rfl (ov_load_whole (i := 1) isAgg24 sizeOf24 rfl rfl rfl rfl) (Vm rfl (V rfl (ov_add rfl rfl rfl) ?_))))
       obtain ⟨r5, e9, hm⟩ := bind_some hm
       refine ws rfl (os_con call48 rfl rfl (fun w' s => (ref14_Behind_con p_s (IntKind.wrap .i64 (i2 + 1)) ao1 cap1  w' H5 s.hold h1 hc1 hG r5 e9)) (fun rr2 H6 hle6 hR2 => ?_))
       replace rl2 := rl2.mono hle6
       replace hG := hG.mono hle6
       obtain ⟨ao7, cap7, rfl, h12, hc11⟩ := hR2
       refine Vm rfl ?_
       obtain ⟨x2, e10, hm⟩ := bind_some hm
       obtain ⟨h13, h14, h15, cs2, h16, h17⟩ := h12.get e10 (by decide)
       obtain rfl : cs2 = [(.bool x2)] := h16
       refine V rfl (ov_indexAddr underlying49 sizeOf4 rfl rfl rfl h13 h14 h15) (V rfl (ov_load_elem (v := (.bool x2)) isAgg4 rfl rfl h17) ?_)
       obtain ⟨r6, e11, hm⟩ := bind_some hm
       refine wo rfl (oq_con (r := (mkS r6)) call89 rfl rfl (fun w' s => ⟨_, (ref16_rest_con x2  w' H6 s.hold hG r6 e11)⟩)) ?_
       obtain ⟨s8, e12, hm⟩ := bind_some hm
       refine V rfl (ov_sadd' e12 rfl rfl rfl) (Va rfl (WL.nil (bn (tn ?_))))
       exact ⟨H6, s8, (hle5.trans hle6), (Sub.all rfl), fun w' s => s, hm⟩
      rintro g' S' ⟨H7, s9, hle7, hsub6, hS6, hm⟩
      refine WP.sub hsub6 (WP.weaken hS6 ?_)
      replace hm := (congrFun hk4 s9).symm.trans hm
      replace rl2 := rl2.mono hle7
      refine WP.region (Vm rfl (V rfl (ov_add rfl rfl rfl) (Va rfl (WL.nil (tn ?_)))))
      exact ⟨H7, s9, (IntKind.wrap .i64 (i2 + 1)), (hle2.trans hle7), (Sub.all rfl), fun w' s => s, hm⟩
     replace hm := ite_f hc6 hm
     refine WP.exit (then_exit (then_exit (block_here (tn ?_))))
     exact ⟨H2, s2, hle2, (Sub.all rfl), fun w' s => s, hm⟩
    rintro g' S' ⟨H8, s10, hle8, hsub7, hS7, hm⟩
    refine WP.sub hsub7 (WP.weaken hS7 ?_)
    replace hm := (congrFun hk3 s10).symm.trans hm
    replace rl2 := rl2.mono hle8
    refine WP.region (Vm rfl (Vm rfl ?_))
    have rl4 : RL H8 encStr ([s10] : List (List UInt8)) [(mkS s10)] := RL.cons (cs := [(mkS s10)]) (xs := []) rfl (RL.nil _ _)
    refine ws rfl (os_buildSlice (cs := [(mkS s10)]) (E := 9) (sz := 1) rfl rfl (fun _ => by kernel_rfl) rfl (by decide) (fun b3 => ?_))
    obtain ⟨l2, e13, hm⟩ := bind_some hm
    refine ws rfl (os_app (i := 1) (j := 0) (En := encStr) (xs := xs1) (ys := [(mkS s10)]) underlying27 (by kernel_rfl : (prog.info? 9).map (fun i => (i.zero, i.size, i.bytes)) = some (some (mkS []), (encStr).size, 16)) rfl (by decide) rfl rfl rfl rfl rfl rfl rl2 rl4 e13 (fun ao8 cap8 rl5 => ?_))
    refine Va rfl (WL.nil (bn (tn ?_)))
    exact ⟨H8, (l1 ++ ([s10] : List (List UInt8))), ao8, cap8, (xs1 ++ [(mkS s10)]), hle8, rl5, (Sub.all rfl), fun w' s => (s.sl [1, 2]), hm⟩
   rintro g' S' ⟨H9, l3, ao9, cap9, xs2, hle9, rl6, hsub8, hS8, hm⟩
   refine WP.sub hsub8 (WP.weaken hS8 ?_)
   replace hm := (congrFun hk2 l3).symm.trans hm
   refine WP.region (Vm rfl (V rfl (ov_add rfl rfl rfl) (Va rfl (WL.nil (tn ?_)))))
   exact ⟨H9, (IntKind.wrap .i64 (i1 + 1)), l3, ao9, cap9, xs2, (hle1.trans hle9), rl6, (Sub.all rfl), fun w' s => s, hm⟩
  replace hm := ite_f hc5 hm
  refine WP.exit (then_exit (then_exit (block_here (tn ?_))))
  exact ⟨H1, l1, ao5, cap5, xs1, hle1, rl2, (Sub.all rfl), fun w' s => (s.sl [0]), hm⟩
 rintro g' S' ⟨H10, l4, ao10, cap10, xs3, hle10, rl7, hsub9, hS9, hm⟩
 refine WP.sub hsub9 (WP.weaken hS9 ?_)
 replace hm := (congrFun hk1 l4).symm.trans hm
 refine WP.seq (WP.region (Vm rfl (Va rfl (WL.nil (tn (WP.ret ?_))))))
 obtain rfl := Option.some.inj hm
 refine retQ_ret results54 (Res.tmp rfl Res.nil) rfl (fun w' s => ⟨s.below, ?_⟩)
 obtain ⟨h18, hc12⟩ := s.ret_row (i := 0) rfl rl7
 exact ⟨ao10, cap10, rfl, h18, hc12⟩
theorem ref16_ones_con (p_n : Int) (w : World) (H : Heap) (hH : Le H (hp w)) (hG : Glob H) (r : (List Int)) (hm : ref16_ones p_n = some r) :
  Con prog 55 [(.int .i64 p_n)] w H (fun v H' => ∃ (ao1 : Option Addr) (cap1 : Nat), v = (.slice ao1 r.length cap1) ∧ SL H' (encInt .i64) ao1 r ∧ r.length ≤ cap1) := by
 unfold ref16_ones at hm
 refine con_of hH func55 rfl 14 ntmps55 rfl ?_
 refine WP.seq (WP.region (Va rfl (WL.nil (tn (WP.seq (WP.region (Va rfl (WL.nil (tn ?_)))))))))
 obtain ⟨k1, hk1, hm⟩ := joinK_some hm
 refine WP.seq_join (fun g' S' => ∃ (l3 : (List Int)) (ao4 : _) (cap4 : _) (xs2 : _), RL H (encInt .i64) l3 xs2 ∧ Sub [(3, (.slice ao4 l3.length cap4)), (1000000007, (.bool false))] g' ∧ (∀ w', S' w' → St w H [.row 3 ((encInt .i64)).size l3.length (.slice ao4 l3.length cap4) xs2] H w') ∧ k1 l3 = some r) ?_ ?_
 ·
  refine WP.seq (WP.region (Va rfl (WL.nil (tn (WP.block ?_)))))
  have rl1 := RL.nil (α := Int) H (encInt .i64)
  refine WP.weaken (fun _ s => s.nilrow 3 ((encInt .i64)).size) ?_
  refine WP.loop (fun m1 g' S' => ∃ (i1 : Int) (l1 : (List Int)) (ao2 : _) (cap2 : _) (xs1 : _), RL H (encInt .i64) l1 xs1 ∧ Sub [(0, (.int .i64 p_n)), (3, (.slice ao2 l1.length cap2)), (4, (.int .i64 i1)), (1000000007, (.bool false))] g' ∧ (∀ w', S' w' → St w H [.row 3 ((encInt .i64)).size l1.length (.slice ao2 l1.length cap2) xs1] H w') ∧ ref16_ones_loop1 p_n k1 m1 i1 l1 = some r) ((Int.toNat (p_n - 0) + 1)) ⟨0, ([] : List Int), none, 0, [], rl1, (Sub.all rfl), fun w' s => s, hm⟩ ?_ ?_
  ·
   rintro g' S' ⟨_, _, _, _, _, _, _, _, hm⟩
   exact none_some hm
  rintro m1 g' S' ⟨i1, l1, ao2, cap2, xs1, rl2, hsub1, hS1, hm⟩
  refine WP.sub hsub1 (WP.weaken hS1 ?_)
  rw [ref16_ones_loop1] at hm
  refine WP.seq (WP.seq (WP.region (Vm rfl (Vm rfl (V rfl (ov_lss rfl rfl rfl) (WL.nil (tn ?_)))))))
  refine WP.cond rfl (fun hc2 => ?_) (fun hc2 => ?_)
  ·
   replace hm := ite_t hc2 hm
   refine WP.skip (tn (WP.seq (WP.block (WP.region (Vm rfl ?_)))))
   have rl3 : RL H (encInt .i64) ([1] : List Int) [(.int .i64 1)] := RL.cons (cs := [(.int .i64 1)]) (xs := []) rfl (RL.nil _ _)
   refine ws rfl (os_buildSlice (cs := [(.int .i64 1)]) (E := 3) (sz := 1) rfl rfl (fun _ => by kernel_rfl) rfl (by decide) (fun b1 => ?_))
   obtain ⟨l2, e1, hm⟩ := bind_some hm
   refine ws rfl (os_app (i := 1) (j := 0) (En := (encInt .i64)) (xs := xs1) (ys := [(.int .i64 1)]) underlying39 (by kernel_rfl : (prog.info? 3).map (fun i => (i.zero, i.size, i.bytes)) = some (some (.int .i64 0), ((encInt .i64)).size, 8)) rfl (by decide) rfl rfl rfl rfl rfl rfl rl2 rl3 e1 (fun ao3 cap3 rl4 => ?_))
   refine Va rfl (WL.nil (bn (tn (WP.region (Vm rfl (V rfl (ov_add rfl rfl rfl) (Va rfl (WL.nil (tn ?_)))))))))
   exact ⟨(IntKind.wrap .i64 (i1 + 1)), (l1 ++ ([1] : List Int)), ao3, cap3, (xs1 ++ [(.int .i64 1)]), rl4, (Sub.all rfl), fun w' s => (s.sl [1]), hm⟩
  replace hm := ite_f hc2 hm
  refine WP.exit (then_exit (then_exit (block_here (tn ?_))))
  exact ⟨l1, ao2, cap2, xs1, rl2, (Sub.all rfl), fun w' s => s, hm⟩
 rintro g' S' ⟨l3, ao4, cap4, xs2, rl5, hsub2, hS2, hm⟩
 refine WP.sub hsub2 (WP.weaken hS2 ?_)
 replace hm := (congrFun hk1 l3).symm.trans hm
 refine WP.seq (WP.region (Vm rfl (Va rfl (WL.nil (tn (WP.ret ?_))))))
 obtain rfl := Option.some.inj hm
 refine retQ_ret results55 (Res.tmp rfl Res.nil) rfl (fun w' s => ⟨s.below, ?_⟩)
 obtain ⟨h2, hc3⟩ := s.ret_row (i := 0) rfl rl5
 exact ⟨ao4, cap4, rfl, h2, hc3⟩
theorem ref16_Waits_con (p_s : Sequence) (ao1 : Option Addr) (cap1 : Nat) (w : World) (H : Heap) (hH : Le H (hp w)) (h1 : SL H encStep ao1 p_s.steps) (hc1 : p_s.steps.length ≤ cap1) (hG : Glob H) (r : Bool) (hm : ref16_Waits p_s = some r) :
  Con prog 85 [(.agg #[(.int .i64 p_s.actuators), (.slice ao1 p_s.steps.length cap1)])] w H (fun v _ => v = (.bool r)) := by
 unfold ref16_Waits at hm
 refine con_of hH func85 rfl 18 ntmps85 rfl ?_
 refine WP.seq (WP.region ?_)
 refine ws rfl (os_box (cs := [(.int .i64 p_s.actuators), (.slice ao1 p_s.steps.length cap1)]) rfl rfl rfl (fun b1 => ?_))
 refine Va rfl (WL.nil (tn ?_))
 obtain ⟨k1, hk1, hm⟩ := joinK_some hm
 refine WP.seq_join (fun g' S' => Sub [(1000000007, (.bool false))] g' ∧ (∀ w', S' w' → St w H [] H w') ∧ k1 = some r) ?_ ?_
 ·
  refine WP.seq (WP.region (Va rfl (WL.nil (tn (WP.block ?_)))))
  refine WP.loop (fun m1 g' S' => ∃ (i1 : Int), Sub [(1, (pB b1 0)), (3, (.int .i64 i1)), (1000000007, (.bool false))] g' ∧ (∀ w', S' w' → St w H [.blk b1 24 [(.int .i64 p_s.actuators), (.slice ao1 p_s.steps.length cap1)]] H w') ∧ ref16_Waits_loop1 p_s k1 m1 i1 = some r) ((Int.toNat ((p_s.steps.length : Int) - 0) + 1)) ⟨0, (Sub.all rfl), fun w' s => s, hm⟩ ?_ ?_
  ·
   rintro g' S' ⟨_, _, _, hm⟩
   exact none_some hm
  rintro m1 g' S' ⟨i1, hsub1, hS1, hm⟩
  refine WP.sub hsub1 (WP.weaken hS1 ?_)
  rw [ref16_Waits_loop1] at hm
  refine WP.seq (WP.seq (WP.region (Vm rfl (V rfl (ov_fieldAddr underlying24 rfl rfl rfl sizeOf22 rfl rfl) (Vl 0 isAgg22 rfl (V rfl (ov_len_slice underlying22 rfl rfl) (V rfl (ov_lss rfl rfl rfl) (WL.nil (tn ?_)))))))))
  refine WP.cond rfl (fun hc2 => ?_) (fun hc2 => ?_)
  ·
   replace hm := ite_t hc2 hm
   refine WP.skip (tn (WP.seq (WP.block (WP.seq (WP.region (V rfl (ov_fieldAddr underlying24 rfl rfl rfl sizeOf22 rfl rfl) (Vl 0 isAgg22 rfl (Vm rfl ?_))))))))
   obtain ⟨x1, e1, hm⟩ := bind_some hm
   obtain ⟨h3, h4, h5, cs1, h6, h7⟩ := h1.get e1 (by decide)
   obtain ⟨ao2, cap2, rfl, h2, hc3⟩ := h6
   refine V rfl (ov_indexAddr underlying22 sizeOf45 rfl rfl rfl h3 h4 h5) (V rfl (ov_fieldAddrE underlying45 rfl rfl rfl sizeOf3 rfl rfl) ?_)
   refine V rfl (ov_load_elem (v := (.int .i64 x1.wait)) isAgg3 rfl rfl (h7.one (off := 1) rfl)) (V rfl (ov_neq rfl rfl rfl) (WL.nil (tn ?_)))
   refine WP.cond rfl (fun hc4 => ?_) (fun hc4 => ?_)
   ·
    replace hm := ite_t hc4 hm
    refine WP.seq (WP.region (Va rfl (WL.nil (tn (WP.ret (block_ret (then_ret (then_ret (block_ret (then_ret ?_))))))))))
    obtain rfl := Option.some.inj hm
    refine retQ_ret results85 (Res.tmp rfl Res.nil) rfl (fun w' s => ⟨s.below, ?_⟩)
    exact rfl
   replace hm := ite_f hc4 hm
   refine WP.skip (bn (tn (WP.region (Vm rfl (V rfl (ov_add rfl rfl rfl) (Va rfl (WL.nil (tn ?_))))))))
   exact ⟨(IntKind.wrap .i64 (i1 + 1)), (Sub.all rfl), fun w' s => s, hm⟩
  replace hm := ite_f hc2 hm
  refine WP.exit (then_exit (then_exit (block_here (tn ?_))))
  exact ⟨(Sub.all rfl), fun w' s => (s.sl []), hm⟩
 rintro g' S' ⟨hsub2, hS2, hm⟩
 refine WP.sub hsub2 (WP.weaken hS2 ?_)
 replace hm := hk1.symm.trans hm
 refine WP.seq (WP.region (Va rfl (WL.nil (tn (WP.ret ?_)))))
 obtain rfl := Option.some.inj hm
 refine retQ_ret results85 (Res.tmp rfl Res.nil) rfl (fun w' s => ⟨s.below, ?_⟩)
 exact rfl
theorem ref12_Digits_con (p_n : Int) (w : World) (H : Heap) (hH : Le H (hp w)) (hG : Glob H) (r : (List UInt8)) (hm : ref12_Digits p_n = some r) :
  Con prog 86 [(.int .i64 p_n)] w H (fun v _ => v = (mkS r)) := by
 unfold ref12_Digits at hm
 refine con_of hH func86 rfl 25 ntmps86 rfl ?_
 refine WP.seq (WP.region (Va rfl (WL.nil (tn (WP.seq (WP.region (Vm rfl (V rfl (ov_rem rfl rfl rfl (by decide)) (Vm rfl (V rfl (ov_rem rfl rfl rfl (by decide)) (V rfl (ov_add rfl rfl rfl) ?_)))))))))))
 obtain ⟨s1, e1, hm⟩ := bind_some hm
 refine V rfl (ov_slice_string underlying9 rfl rfl rfl rfl e1) (Va rfl (WL.nil (tn ?_)))
 obtain ⟨k1, hk1, hm⟩ := joinK_some hm
 refine WP.seq_join (fun g' S' => ∃ (s5 : (List UInt8)), Sub [(3, (mkS s5)), (1000000007, (.bool false))] g' ∧ (∀ w', S' w' → St w H [] H w') ∧ k1 s5 = some r) ?_ ?_
 ·
  refine WP.seq (WP.region (Vm rfl (V rfl (ov_quo rfl rfl rfl (by decide)) (Va rfl (WL.nil (tn (WP.block ?_)))))))
  refine WP.loop (fun m1 g' S' => ∃ (i1 : Int) (s2 : (List UInt8)), Sub [(0, (.int .i64 i1)), (3, (mkS s2)), (1000000007, (.bool false))] g' ∧ (∀ w', S' w' → St w H [] H w') ∧ ref12_Digits_loop1 k1 m1 i1 s2 = some r) ((p_n.toNat + 2)) ⟨(IntKind.wrap .i64 (Int.tdiv p_n 10)), s1, (Sub.all rfl), fun w' s => s, hm⟩ ?_ ?_
  ·
   rintro g' S' ⟨_, _, _, _, hm⟩
   exact none_some hm
  rintro m1 g' S' ⟨i1, s2, hsub1, hS1, hm⟩
  refine WP.sub hsub1 (WP.weaken hS1 ?_)
  rw [ref12_Digits_loop1] at hm
  refine WP.seq (WP.seq (WP.region (Vm rfl (V rfl (ov_gtr rfl rfl rfl) (WL.nil (tn ?_))))))
  refine WP.cond rfl (fun hc1 => ?_) (fun hc1 => ?_)
  ·
   replace hm := ite_t hc1 hm
   refine WP.skip (tn (WP.seq (WP.block (WP.region (Vm rfl (V rfl (ov_rem rfl rfl rfl (by decide)) (Vm rfl (V rfl (ov_rem rfl rfl rfl (by decide)) (V rfl (ov_add rfl rfl rfl) ?_)))))))))
   obtain ⟨s3, e2, hm⟩ := bind_some hm
   refine V rfl (ov_slice_string underlying9 rfl rfl rfl rfl e2) (Vm rfl ?_)
   obtain ⟨s4, e3, hm⟩ := bind_some hm
   refine V rfl (ov_sadd' e3 rfl rfl rfl) (Va rfl (WL.nil (bn (tn (WP.region (Vm rfl (V rfl (ov_quo rfl rfl rfl (by decide)) (Va rfl (WL.nil (tn ?_))))))))))
   exact ⟨(IntKind.wrap .i64 (Int.tdiv i1 10)), s4, (Sub.all rfl), fun w' s => s, hm⟩
  replace hm := ite_f hc1 hm
  refine WP.exit (then_exit (then_exit (block_here (tn ?_))))
  exact ⟨s2, (Sub.all rfl), fun w' s => s, hm⟩
 rintro g' S' ⟨s5, hsub2, hS2, hm⟩
 refine WP.sub hsub2 (WP.weaken hS2 ?_)
 replace hm := (congrFun hk1 s5).symm.trans hm
 refine WP.seq (WP.region (Vm rfl (Va rfl (WL.nil (tn (WP.ret ?_))))))
 obtain rfl := Option.some.inj hm
 refine retQ_ret results86 (Res.tmp rfl Res.nil) rfl (fun w' s => ⟨s.below, ?_⟩)
 exact rfl
theorem ref16_Lines_con (p_s : Sequence) (ao1 : Option Addr) (cap1 : Nat) (w : World) (H : Heap) (hH : Le H (hp w)) (h1 : SL H encStep ao1 p_s.steps) (hc1 : p_s.steps.length ≤ cap1) (hG : Glob H) (r : (List (List UInt8))) (hm : ref16_Lines p_s = some r) :
  Con prog 42 [(.agg #[(.int .i64 p_s.actuators), (.slice ao1 p_s.steps.length cap1)])] w H (fun v H' => ∃ (ao2 : Option Addr) (cap2 : Nat), v = (.slice ao2 r.length cap2) ∧ SL H' encStr ao2 r ∧ r.length ≤ cap2) := by
 unfold ref16_Lines at hm
 refine con_of hH func42 rfl 37 ntmps42 rfl ?_
 refine WP.seq (WP.region ?_)
 refine ws rfl (os_box (cs := [(.int .i64 p_s.actuators), (.slice ao1 p_s.steps.length cap1)]) rfl rfl rfl (fun b1 => ?_))
 refine Va rfl (WL.nil (tn (WP.seq ?_)))
 refine WP.region_any (S₀ := St w H [.blk b1 24 [(.int .i64 p_s.actuators), (.slice ao1 p_s.steps.length cap1)]] H) 7 rfl (by kernel_rfl) (fun w' s => s) (fun _ s => s.drew) ?_
 refine TQ' 0 rfl (ov_load_whole (i := 0) isAgg24 sizeOf24 rfl rfl rfl rfl) (TQ' 1 rfl (ov_fieldAddr underlying24 rfl rfl rfl sizeOf22 rfl rfl) (TQ' 2 rfl (ov_load_box (i := 0) isAgg22 rfl rfl rfl rfl) (TQ' 3 rfl (ov_len_slice underlying22 rfl rfl) ?_)))
 refine AL.any (rs := [4]) (by kernel_rfl) (by decide) ?_
 refine ALs.cons (i := 4) rfl (Runs.free rfl) rfl rfl ?_ ?_
 ·
  obtain ⟨r1, e1, hm⟩ := bind_some hm
  refine os_con call55 rfl rfl (fun w' s => (ref16_ones_con (p_s.steps.length : Int)  w' H s.hold hG r1 e1)) (fun rr1 H1 hle1 hR1 => ?_)
  replace h1 := h1.mono hle1
  replace hG := hG.mono hle1
  obtain ⟨ao3, cap3, rfl, h3, hc3⟩ := hR1
  refine ⟨fun w' s => (s.heap hle1), ?_⟩
  refine AL.any (rs := [5]) (by kernel_rfl) (by decide) ?_
  refine ALs.cons (i := 5) rfl (Runs.free rfl) rfl rfl ?_ ?_
  ·
   refine os_inline (cap := []) (vs := [(.agg #[(.int .i64 p_s.actuators), (.slice ao1 p_s.steps.length cap1)]), (.slice ao3 r1.length cap3), (.slice none 0 0)]) call54 rfl rfl rfl func54 rfl 65 ntmps54 rfl (fun w' s => ?_)
   refine WP.seq (WP.region ?_)
   refine ws rfl (os_box (cs := [(.int .i64 p_s.actuators), (.slice ao1 p_s.steps.length cap1)]) rfl rfl rfl (fun b2 => ?_))
   refine Va rfl (WL.nil (tn (WP.seq (WP.region (Va rfl (WL.nil (tn ?_)))))))
   obtain ⟨k1, hk1, hm⟩ := joinK_some hm
   refine WP.seq_join (fun g' S' => ∃ (H11 : Heap) (l4 : (List (List UInt8))) (ao9 : _) (cap9 : _) (xs3 : _), Le H1 H11 ∧ RL H11 encStr l4 xs3 ∧ Sub [(7, (.slice ao9 l4.length cap9)), (1000000007, (.bool false))] g' ∧ (∀ w', S' w' → St w H [rowE 9 encStr l4 ao9 cap9 xs3, .blk b1 24 [(.int .i64 p_s.actuators), (.slice ao1 p_s.steps.length cap1)]] H11 w') ∧ k1 l4 = some r) ?_ ?_
   ·
    refine WP.seq (WP.region (Va rfl (WL.nil (tn (WP.block ?_)))))
    have rl1 := RL.nil (α := (List UInt8)) H1 encStr
    refine WP.weaken (fun _ s => s.nilrow 9 (encStr).size) ?_
    refine WP.loop (fun m1 g' S' => ∃ (H2 : Heap) (i1 : Int) (l1 : (List (List UInt8))) (ao4 : _) (cap4 : _) (xs1 : _), Le H1 H2 ∧ RL H2 encStr l1 xs1 ∧ Sub [(1, (.slice ao3 r1.length cap3)), (2, (.slice none 0 0)), (3, (pB b2 0)), (7, (.slice ao4 l1.length cap4)), (8, (.int .i64 i1)), (1000000007, (.bool false))] g' ∧ (∀ w', S' w' → St w H [rowE 9 encStr l1 ao4 cap4 xs1, .blk b2 24 [(.int .i64 p_s.actuators), (.slice ao1 p_s.steps.length cap1)], .blk b1 24 [(.int .i64 p_s.actuators), (.slice ao1 p_s.steps.length cap1)]] H2 w') ∧ ref16_Lines_loop1 p_s k1 r1 m1 i1 l1 = some r) ((Int.toNat (p_s.actuators - 0) + 1)) ⟨H1, 0, ([] : List (List UInt8)), none, 0, [], (Le.refl _), rl1, (Sub.all rfl), fun w' s => s, hm⟩ ?_ ?_
    ·
     rintro g' S' ⟨_, _, _, _, _, _, _, _, _, _, hm⟩
     exact none_some hm
    rintro m1 g' S' ⟨H2, i1, l1, ao4, cap4, xs1, hle2, rl2, hsub1, hS1, hm⟩
    refine WP.sub hsub1 (WP.weaken hS1 ?_)
    rw [ref16_Lines_loop1] at hm
    replace h3 := h3.mono hle2
    replace h1 := h1.mono hle2
    replace hG := hG.mono hle2
    refine WP.seq (WP.seq (WP.region (Vm rfl (V rfl (ov_fieldAddr underlying24 rfl rfl rfl sizeOf3 rfl rfl) (Vl 1 isAgg3 rfl (V rfl (ov_lss rfl rfl rfl) (WL.nil (tn ?_))))))))
    refine WP.cond rfl (fun hc4 => ?_) (fun hc4 => ?_)
    ·
     replace hm := ite_t hc4 hm
     refine WP.skip (tn ?_)
     obtain ⟨k2, hk2, hm⟩ := joinK_some hm
     refine WP.seq_join (fun g' S' => ∃ (H10 : Heap) (l3 : (List (List UInt8))) (ao8 : _) (cap8 : _) (xs2 : _), Le H2 H10 ∧ RL H10 encStr l3 xs2 ∧ Sub [(1, (.slice ao3 r1.length cap3)), (2, (.slice none 0 0)), (3, (pB b2 0)), (7, (.slice ao8 l3.length cap8)), (8, (.int .i64 i1)), (1000000007, (.bool false))] g' ∧ (∀ w', S' w' → St w H [rowE 9 encStr l3 ao8 cap8 xs2, .blk b2 24 [(.int .i64 p_s.actuators), (.slice ao1 p_s.steps.length cap1)], .blk b1 24 [(.int .i64 p_s.actuators), (.slice ao1 p_s.steps.length cap1)]] H10 w') ∧ k2 l3 = some r) ?_ ?_
     ·
      refine WP.block (WP.seq (WP.region (Vm rfl ?_)))
      obtain ⟨r2, e2, hm⟩ := bind_some hm
      refine wo rfl (oq_con (r := (mkS r2)) call47 rfl rfl (fun w' s => ⟨_, (ref16_Name_con i1  w' H2 s.hold hG r2 e2)⟩)) ?_
      obtain ⟨s1, e3, hm⟩ := bind_some hm
      refine V rfl (ov_sadd' e3 rfl rfl rfl) (Va rfl (WL.nil (tn ?_)))
      obtain ⟨k3, hk3, hm⟩ := joinK_some hm
      refine WP.seq_join (fun g' S' => ∃ (H9 : Heap) (s10 : (List UInt8)), Le H2 H9 ∧ Sub [(1, (.slice ao3 r1.length cap3)), (2, (.slice none 0 0)), (3, (pB b2 0)), (7, (.slice ao4 l1.length cap4)), (8, (.int .i64 i1)), (9, (mkS s10)), (1000000007, (.bool false))] g' ∧ (∀ w', S' w' → St w H [rowE 9 encStr l1 ao4 cap4 xs1, .blk b2 24 [(.int .i64 p_s.actuators), (.slice ao1 p_s.steps.length cap1)], .blk b1 24 [(.int .i64 p_s.actuators), (.slice ao1 p_s.steps.length cap1)]] H9 w') ∧ k3 s10 = some r) ?_ ?_
      ·
       refine WP.seq (WP.region (Va rfl (WL.nil (tn (WP.block ?_)))))
       refine WP.loop (fun m2 g' S' => ∃ (H3 : Heap) (s2 : (List UInt8)) (i2 : Int), Le H2 H3 ∧ Sub [(1, (.slice ao3 r1.length cap3)), (2, (.slice none 0 0)), (3, (pB b2 0)), (7, (.slice ao4 l1.length cap4)), (8, (.int .i64 i1)), (9, (mkS s2)), (10, (.int .i64 i2)), (1000000007, (.bool false))] g' ∧ (∀ w', S' w' → St w H [rowE 9 encStr l1 ao4 cap4 xs1, .blk b2 24 [(.int .i64 p_s.actuators), (.slice ao1 p_s.steps.length cap1)], .blk b1 24 [(.int .i64 p_s.actuators), (.slice ao1 p_s.steps.length cap1)]] H3 w') ∧ ref16_Lines_loop2 p_s i1 k3 r1 m2 s2 i2 = some r) ((Int.toNat ((p_s.steps.length : Int) - 0) + 1)) ⟨H2, s1, 0, (Le.refl _), (Sub.all rfl), fun w' s => s, hm⟩ ?_ ?_
       ·
        rintro g' S' ⟨_, _, _, _, _, _, hm⟩
        exact none_some hm
       rintro m2 g' S' ⟨H3, s2, i2, hle3, hsub2, hS2, hm⟩
       refine WP.sub hsub2 (WP.weaken hS2 ?_)
       rw [ref16_Lines_loop2] at hm
       replace h3 := h3.mono hle3
       replace h1 := h1.mono hle3
       replace rl2 := rl2.mono hle3
       replace hG := hG.mono hle3
       refine WP.seq (WP.seq (WP.region (Vm rfl (V rfl (ov_fieldAddr underlying24 rfl rfl rfl sizeOf22 rfl rfl) (Vl 1 isAgg22 rfl (V rfl (ov_len_slice underlying22 rfl rfl) (V rfl (ov_lss rfl rfl rfl) (WL.nil (tn ?_)))))))))
       refine WP.cond rfl (fun hc5 => ?_) (fun hc5 => ?_)
       ·
        replace hm := ite_t hc5 hm
        refine WP.skip (tn ?_)
        obtain ⟨k4, hk4, hm⟩ := joinK_some hm
        refine WP.seq_join (fun g' S' => ∃ (H8 : Heap) (s9 : (List UInt8)), Le H3 H8 ∧ Sub [(1, (.slice ao3 r1.length cap3)), (2, (.slice none 0 0)), (3, (pB b2 0)), (7, (.slice ao4 l1.length cap4)), (8, (.int .i64 i1)), (9, (mkS s9)), (10, (.int .i64 i2)), (1000000007, (.bool false))] g' ∧ (∀ w', S' w' → St w H [rowE 9 encStr l1 ao4 cap4 xs1, .blk b2 24 [(.int .i64 p_s.actuators), (.slice ao1 p_s.steps.length cap1)], .blk b1 24 [(.int .i64 p_s.actuators), (.slice ao1 p_s.steps.length cap1)]] H8 w') ∧ k4 s9 = some r) ?_ ?_
        ·
         refine WP.block ?_
         obtain ⟨k5, hk5, hm⟩ := joinK_some hm
         refine WP.seq_join (fun g' S' => ∃ (H6 : Heap) (s4 : (List UInt8)), Le H3 H6 ∧ Sub [(1, (.slice ao3 r1.length cap3)), (2, (.slice none 0 0)), (3, (pB b2 0)), (7, (.slice ao4 l1.length cap4)), (8, (.int .i64 i1)), (9, (mkS s4)), (10, (.int .i64 i2)), (1000000007, (.bool false))] g' ∧ (∀ w', S' w' → St w H [rowE 9 encStr l1 ao4 cap4 xs1, .blk b2 24 [(.int .i64 p_s.actuators), (.slice ao1 p_s.steps.length cap1)], .blk b1 24 [(.int .i64 p_s.actuators), (.slice ao1 p_s.steps.length cap1)]] H6 w') ∧ k5 s4 = some r) ?_ ?_
         ·
          refine WP.seq (WP.region (Vm rfl ?_))
          have rl3 : RL H3 (encInt .i64) ([i2] : List Int) [(.int .i64 i2)] := RL.cons (cs := [(.int .i64 i2)]) (xs := []) rfl (RL.nil _ _)
          refine ws rfl (os_buildSlice (cs := [(.int .i64 i2)]) (E := 3) (sz := 1) rfl rfl (fun _ => by kernel_rfl) rfl (by decide) (fun b3 => ?_))
          refine WL.held rl3 (fun H4 hc6 hle4 h4 => ?_)
          replace h3 := h3.mono hle4
          replace h1 := h1.mono hle4
          replace rl2 := rl2.mono hle4
          replace hG := hG.mono hle4
          refine Vm rfl (Vm rfl ?_)
          obtain ⟨r3, e4, hm⟩ := bind_some hm
          refine ws rfl (os_con call94 rfl rfl (fun w' s => (ref16_common_con [] i2 none 0  w' H4 s.hold (SL.nil _ _ _) (Nat.le_refl _) hG r3 e4)) (fun rr2 H5 hle5 hR2 => ?_))
          replace h3 := h3.mono hle5
          replace h1 := h1.mono hle5
          replace h4 := h4.mono hle5
          replace rl2 := rl2.mono hle5
          replace hG := hG.mono hle5
          obtain ⟨ao5, cap5, rfl, h5, hc7⟩ := hR2
          obtain ⟨r4, e5, hm⟩ := bind_some hm
          refine wo rfl (oq_con (r := (.bool r4)) call93 rfl rfl (fun w' s => ⟨_, (ref14_SameInts_con ([i2] : List Int) r3 (some ⟨b3, 0, none⟩) 1 ao5 cap5  w' H5 s.hold h4 hc6 h5 hc7 hG r4 e5)⟩)) ?_
          refine WL.nil (tn ?_)
          refine WP.cond rfl (fun hc8 => ?_) (fun hc8 => ?_)
          ·
           replace hm := ite_t hc8 hm
           refine WP.region (Vm rfl ?_)
           obtain ⟨s3, e6, hm⟩ := bind_some hm
           refine V rfl (ov_sadd' e6 rfl rfl rfl) (Va rfl (WL.nil (tn ?_)))
           exact ⟨H5, s3, (hle4.trans hle5), (Sub.all rfl), fun w' s => s, hm⟩
          replace hm := ite_f hc8 hm
          refine WP.skip (tn ?_)
          exact ⟨H5, s2, (hle4.trans hle5), (Sub.all rfl), fun w' s => s, hm⟩
         rintro g' S' ⟨H6, s4, hle6, hsub3, hS3, hm⟩
         refine WP.sub hsub3 (WP.weaken hS3 ?_)
         replace hm := (congrFun hk5 s4).symm.trans hm
         replace h3 := h3.mono hle6
         replace h1 := h1.mono hle6
         replace rl2 := rl2.mono hle6
         replace hG := hG.mono hle6
         obtain ⟨k6, hk6, hm⟩ := joinK_some hm
         refine WP.seq_join (fun g' S' => ∃ (s7 : (List UInt8)), Sub [(1, (.slice ao3 r1.length cap3)), (2, (.slice none 0 0)), (3, (pB b2 0)), (7, (.slice ao4 l1.length cap4)), (8, (.int .i64 i1)), (9, (mkS s7)), (10, (.int .i64 i2)), (1000000007, (.bool false))] g' ∧ (∀ w', S' w' → St w H [rowE 9 encStr l1 ao4 cap4 xs1, .blk b2 24 [(.int .i64 p_s.actuators), (.slice ao1 p_s.steps.length cap1)], .blk b1 24 [(.int .i64 p_s.actuators), (.slice ao1 p_s.steps.length cap1)]] H6 w') ∧ k6 s7 = some r) ?_ ?_
         ·
          refine WP.seq (WP.region (Va rfl (WL.nil (tn (WP.block ?_)))))
          refine WP.loop (fun m3 g' S' => ∃ (s5 : (List UInt8)) (i3 : Int), Sub [(1, (.slice ao3 r1.length cap3)), (2, (.slice none 0 0)), (3, (pB b2 0)), (7, (.slice ao4 l1.length cap4)), (8, (.int .i64 i1)), (9, (mkS s5)), (10, (.int .i64 i2)), (11, (.int .i64 i3)), (1000000007, (.bool false))] g' ∧ (∀ w', S' w' → St w H [rowE 9 encStr l1 ao4 cap4 xs1, .blk b2 24 [(.int .i64 p_s.actuators), (.slice ao1 p_s.steps.length cap1)], .blk b1 24 [(.int .i64 p_s.actuators), (.slice ao1 p_s.steps.length cap1)]] H6 w') ∧ ref16_Lines_loop3 p_s r1 i1 i2 k6 m3 s5 i3 = some r) (3) ⟨s4, 0, (Sub.all rfl), fun w' s => s, hm⟩ ?_ ?_
          ·
           rintro g' S' ⟨_, _, _, _, hm⟩
           exact none_some hm
          rintro m3 g' S' ⟨s5, i3, hsub4, hS4, hm⟩
          refine WP.sub hsub4 (WP.weaken hS4 ?_)
          rw [ref16_Lines_loop3] at hm
          refine WP.seq (WP.seq (WP.region (Vm rfl (Vm rfl (Vm rfl ?_)))))
          obtain ⟨x1, e7, hm⟩ := bind_some hm
          obtain ⟨h6, h7, h8, cs1, h9, h10⟩ := h3.get e7 (by decide)
          obtain rfl : cs1 = [(.int .i64 x1)] := h9
          refine V rfl (ov_indexAddr underlying39 sizeOf3 rfl rfl rfl h6 h7 h8) (V rfl (ov_load_elem (v := (.int .i64 x1)) isAgg3 rfl rfl h10) (V rfl (ov_lss rfl rfl rfl) (WL.nil (tn ?_))))
          refine WP.cond rfl (fun hc9 => ?_) (fun hc9 => ?_)
          ·
           replace hm := ite_t hc9 hm
           refine WP.skip (tn (WP.seq (WP.block (WP.region (Vm rfl (V rfl (ov_load_whole (i := 1) isAgg24 sizeOf24 rfl rfl rfl rfl) (Vm rfl (Vm rfl ?_))))))))
           obtain ⟨r5, e8, hm⟩ := bind_some hm
           refine wo rfl (oq_con (r := (mkS r5)) call44 rfl rfl (fun w' s => ⟨_, (ref16_First_con p_s i1 i2 ao1 cap1  w' H6 s.hold h1 hc1 hG r5 e8)⟩)) ?_
           obtain ⟨s6, e9, hm⟩ := bind_some hm
           refine V rfl (ov_sadd' e9 rfl rfl rfl) (Va rfl (WL.nil (bn (tn (WP.region (Vm rfl (V rfl (ov_add rfl rfl rfl) (Va rfl (WL.nil (tn ?_))))))))))
           exact ⟨s6, (IntKind.wrap .i64 (i3 + 1)), (Sub.all rfl), fun w' s => s, hm⟩
          replace hm := ite_f hc9 hm
          refine WP.exit (then_exit (then_exit (block_here (tn ?_))))
          exact ⟨s5, (Sub.all rfl), fun w' s => s, hm⟩
         rintro g' S' ⟨s7, hsub5, hS5, hm⟩
         refine WP.sub hsub5 (WP.weaken hS5 ?_)
         replace hm := (congrFun hk6 s7).symm.trans hm
         refine WP.region (Vm rfl (V rfl (ov_load_whole (i := 1) isAgg24 sizeOf24 rfl rfl rfl rfl) (Vm rfl (V rfl (ov_add rfl rfl rfl) ?_))))
         obtain ⟨r6, e10, hm⟩ := bind_some hm
         refine ws rfl (os_con call48 rfl rfl (fun w' s => (ref14_Behind_con p_s (IntKind.wrap .i64 (i2 + 1)) ao1 cap1  w' H6 s.hold h1 hc1 hG r6 e10)) (fun rr3 H7 hle7 hR3 => ?_))
         replace h1 := h1.mono hle7
         replace rl2 := rl2.mono hle7
         replace hG := hG.mono hle7
         obtain ⟨ao6, cap6, rfl, h11, hc10⟩ := hR3
         refine Vm rfl ?_
         obtain ⟨x2, e11, hm⟩ := bind_some hm
         obtain ⟨h12, h13, h14, cs2, h15, h16⟩ := h11.get e11 (by decide)
         obtain rfl : cs2 = [(.bool x2)] := h15
         refine V rfl (ov_indexAddr underlying49 sizeOf4 rfl rfl rfl h12 h13 h14) (V rfl (ov_load_elem (v := (.bool x2)) isAgg4 rfl rfl h16) ?_)
         obtain ⟨r7, e12, hm⟩ := bind_some hm
         refine wo rfl (oq_con (r := (mkS r7)) call89 rfl rfl (fun w' s => ⟨_, (ref16_rest_con x2  w' H7 s.hold hG r7 e12)⟩)) ?_
         obtain ⟨s8, e13, hm⟩ := bind_some hm
         refine V rfl (ov_sadd' e13 rfl rfl rfl) (Va rfl (WL.nil (bn (tn ?_))))
         exact ⟨H7, s8, (hle6.trans hle7), (Sub.all rfl), fun w' s => s, hm⟩
        rintro g' S' ⟨H8, s9, hle8, hsub6, hS6, hm⟩
        refine WP.sub hsub6 (WP.weaken hS6 ?_)
        replace hm := (congrFun hk4 s9).symm.trans hm
        replace h1 := h1.mono hle8
        replace rl2 := rl2.mono hle8
        replace hG := hG.mono hle8
        refine WP.region (Vm rfl (V rfl (ov_add rfl rfl rfl) (Va rfl (WL.nil (tn ?_)))))
        exact ⟨H8, s9, (IntKind.wrap .i64 (i2 + 1)), (hle3.trans hle8), (Sub.all rfl), fun w' s => s, hm⟩
       replace hm := ite_f hc5 hm
       refine WP.exit (then_exit (then_exit (block_here (tn ?_))))
       exact ⟨H3, s2, hle3, (Sub.all rfl), fun w' s => s, hm⟩
      rintro g' S' ⟨H9, s10, hle9, hsub7, hS7, hm⟩
      refine WP.sub hsub7 (WP.weaken hS7 ?_)
      replace hm := (congrFun hk3 s10).symm.trans hm
      replace h1 := h1.mono hle9
      replace rl2 := rl2.mono hle9
      replace hG := hG.mono hle9
      refine WP.region (Vm rfl (Vm rfl ?_))
      have rl4 : RL H9 encStr ([s10] : List (List UInt8)) [(mkS s10)] := RL.cons (cs := [(mkS s10)]) (xs := []) rfl (RL.nil _ _)
      refine ws rfl (os_buildSlice (cs := [(mkS s10)]) (E := 9) (sz := 1) rfl rfl (fun _ => by kernel_rfl) rfl (by decide) (fun b4 => ?_))
      obtain ⟨l2, e14, hm⟩ := bind_some hm
      refine ws rfl (os_app (i := 1) (j := 0) (En := encStr) (xs := xs1) (ys := [(mkS s10)]) underlying27 (by kernel_rfl : (prog.info? 9).map (fun i => (i.zero, i.size, i.bytes)) = some (some (mkS []), (encStr).size, 16)) rfl (by decide) rfl rfl rfl rfl rfl rfl rl2 rl4 e14 (fun ao7 cap7 rl5 => ?_))
      refine Va rfl (WL.nil (bn (tn ?_)))
      exact ⟨H9, (l1 ++ ([s10] : List (List UInt8))), ao7, cap7, (xs1 ++ [(mkS s10)]), hle9, rl5, (Sub.all rfl), fun w' s => (s.sl [1, 2, 3]), hm⟩
     rintro g' S' ⟨H10, l3, ao8, cap8, xs2, hle10, rl6, hsub8, hS8, hm⟩
     refine WP.sub hsub8 (WP.weaken hS8 ?_)
     replace hm := (congrFun hk2 l3).symm.trans hm
     replace h1 := h1.mono hle10
     replace hG := hG.mono hle10
     refine WP.region (Vm rfl (V rfl (ov_add rfl rfl rfl) (Va rfl (WL.nil (tn ?_)))))
     exact ⟨H10, (IntKind.wrap .i64 (i1 + 1)), l3, ao8, cap8, xs2, (hle2.trans hle10), rl6, (Sub.all rfl), fun w' s => s, hm⟩
    replace hm := ite_f hc4 hm
    refine WP.exit (then_exit (then_exit (block_here (tn ?_))))
    exact ⟨H2, l1, ao4, cap4, xs1, hle2, rl2, (Sub.all rfl), fun w' s => (s.sl [0, 2]), hm⟩
   rintro g' S' ⟨H11, l4, ao9, cap9, xs3, hle11, rl7, hsub9, hS9, hm⟩
   refine WP.sub hsub9 (WP.weaken hS9 ?_)
   replace hm := (congrFun hk1 l4).symm.trans hm
   replace h1 := h1.mono hle11
   replace hG := hG.mono hle11
   refine WP.seq (WP.region (Vm rfl (Va rfl (WL.nil (tn (WP.ret ?_))))))
   refine retQ_ret (v := (.slice ao9 l4.length cap9)) results54 (Res.tmp rfl Res.nil) rfl (fun w' s => ⟨_, ?_, s⟩)
   refine ⟨fun w' s => ((s.sl [1]).heap (hle1.trans hle11)), ?_⟩
   refine TQ' 6 rfl (ov_assign rfl rfl) ?_
   refine AL.done (by kernel_rfl) ?_
   refine tn (WP.seq (WP.seq (WP.region (V rfl (ov_load_whole (i := 1) isAgg24 sizeOf24 rfl rfl rfl rfl) ?_))))
   obtain ⟨r8, e15, hm⟩ := bind_some hm
   refine wo rfl (oq_con (r := (.bool r8)) call85 rfl rfl (fun w' s => ⟨_, (ref16_Waits_con p_s ao1 cap1  w' H11 s.hold h1 hc1 hG r8 e15)⟩)) ?_
   refine V rfl (ov_not rfl rfl) (WL.nil (tn ?_))
   refine WP.cond rfl (fun hc11 => ?_) (fun hc11 => ?_)
   ·
    replace hm := ite_t hc11 hm
    refine WP.seq (WP.region (Vm rfl (Va rfl (WL.nil (tn (WP.ret (then_ret ?_)))))))
    obtain rfl := Option.some.inj hm
    refine retQ_ret results42 (Res.tmp rfl Res.nil) rfl (fun w' s => ⟨s.below, ?_⟩)
    obtain ⟨h17, hc12⟩ := s.ret_row (i := 0) rfl rl7
    exact ⟨ao9, cap9, rfl, h17, hc12⟩
   replace hm := ite_f hc11 hm
   refine WP.skip (tn (WP.seq (WP.region (Va rfl (WL.nil (tn ?_))))))
   obtain ⟨k7, hk7, hm⟩ := joinK_some hm
   refine WP.seq_join (fun g' S' => ∃ (s14 : (List UInt8)), Sub [(3, (.slice ao9 l4.length cap9)), (4, (mkS s14)), (1000000007, (.bool false))] g' ∧ (∀ w', S' w' → St w H [rowE 9 encStr l4 ao9 cap9 xs3] H11 w') ∧ k7 s14 = some r) ?_ ?_
   ·
    refine WP.seq (WP.region (Va rfl (WL.nil (tn (WP.block ?_)))))
    refine WP.loop (fun m4 g' S' => ∃ (s11 : (List UInt8)) (i4 : Int), Sub [(1, (pB b1 0)), (3, (.slice ao9 l4.length cap9)), (4, (mkS s11)), (5, (.int .i64 i4)), (1000000007, (.bool false))] g' ∧ (∀ w', S' w' → St w H [rowE 9 encStr l4 ao9 cap9 xs3, .blk b1 24 [(.int .i64 p_s.actuators), (.slice ao1 p_s.steps.length cap1)]] H11 w') ∧ ref16_Lines_loop4 p_s k7 m4 s11 i4 = some r) ((Int.toNat ((p_s.steps.length : Int) - 0) + 1)) ⟨[84], 0, (Sub.all rfl), fun w' s => s, hm⟩ ?_ ?_
    ·
     rintro g' S' ⟨_, _, _, _, hm⟩
     exact none_some hm
    rintro m4 g' S' ⟨s11, i4, hsub10, hS10, hm⟩
    refine WP.sub hsub10 (WP.weaken hS10 ?_)
    rw [ref16_Lines_loop4] at hm
    refine WP.seq (WP.seq (WP.region (Vm rfl (V rfl (ov_fieldAddr underlying24 rfl rfl rfl sizeOf22 rfl rfl) (Vl 1 isAgg22 rfl (V rfl (ov_len_slice underlying22 rfl rfl) (V rfl (ov_lss rfl rfl rfl) (WL.nil (tn ?_)))))))))
    refine WP.cond rfl (fun hc13 => ?_) (fun hc13 => ?_)
    ·
     replace hm := ite_t hc13 hm
     refine WP.skip (tn (WP.seq (WP.block (WP.region (Vm rfl (V rfl (ov_fieldAddr underlying24 rfl rfl rfl sizeOf22 rfl rfl) (Vl 1 isAgg22 rfl (Vm rfl ?_))))))))
     obtain ⟨x3, e16, hm⟩ := bind_some hm
     obtain ⟨h19, h20, h21, cs3, h22, h23⟩ := h1.get e16 (by decide)
     obtain ⟨ao10, cap10, rfl, h18, hc14⟩ := h22
     refine V rfl (ov_indexAddr underlying22 sizeOf45 rfl rfl rfl h19 h20 h21) (V rfl (ov_fieldAddrE underlying45 rfl rfl rfl sizeOf3 rfl rfl) ?_)
     refine V rfl (ov_load_elem (v := (.int .i64 x3.wait)) isAgg3 rfl rfl (h23.one (off := 1) rfl)) ?_
     obtain ⟨r9, e17, hm⟩ := bind_some hm
     refine wo rfl (oq_con (r := (mkS r9)) call86 rfl rfl (fun w' s => ⟨_, (ref12_Digits_con x3.wait  w' H11 s.hold hG r9 e17)⟩)) ?_
     obtain ⟨s12, e18, hm⟩ := bind_some hm
     refine V rfl (ov_sadd' e18 rfl rfl rfl) ?_
     obtain ⟨s13, e19, hm⟩ := bind_some hm
     refine V rfl (ov_sadd' e19 rfl rfl rfl) (Va rfl (WL.nil (bn (tn (WP.region (Vm rfl (V rfl (ov_add rfl rfl rfl) (Va rfl (WL.nil (tn ?_))))))))))
     exact ⟨s13, (IntKind.wrap .i64 (i4 + 1)), (Sub.all rfl), fun w' s => s, hm⟩
    replace hm := ite_f hc13 hm
    refine WP.exit (then_exit (then_exit (block_here (tn ?_))))
    exact ⟨s11, (Sub.all rfl), fun w' s => (s.sl [0]), hm⟩
   rintro g' S' ⟨s14, hsub11, hS11, hm⟩
   refine WP.sub hsub11 (WP.weaken hS11 ?_)
   replace hm := (congrFun hk7 s14).symm.trans hm
   refine WP.seq (WP.region (Vm rfl (Vm rfl ?_)))
   have rl8 : RL H11 encStr ([s14] : List (List UInt8)) [(mkS s14)] := RL.cons (cs := [(mkS s14)]) (xs := []) rfl (RL.nil _ _)
   refine ws rfl (os_buildSlice (cs := [(mkS s14)]) (E := 9) (sz := 1) rfl rfl (fun _ => by kernel_rfl) rfl (by decide) (fun b5 => ?_))
   obtain ⟨l5, e20, hm⟩ := bind_some hm
   refine ws rfl (os_app (i := 1) (j := 0) (En := encStr) (xs := xs3) (ys := [(mkS s14)]) underlying27 (by kernel_rfl : (prog.info? 9).map (fun i => (i.zero, i.size, i.bytes)) = some (some (mkS []), (encStr).size, 16)) rfl (by decide) rfl rfl rfl rfl rfl rfl rl7 rl8 e20 (fun ao11 cap11 rl9 => ?_))
   refine Va rfl (WL.nil (tn (WP.ret ?_)))
   obtain rfl := Option.some.inj hm
   refine retQ_ret results42 (Res.tmp rfl Res.nil) rfl (fun w' s => ⟨s.below, ?_⟩)
   obtain ⟨h24, hc15⟩ := s.ret_row (i := 1) rfl rl9
   exact ⟨ao11, cap11, rfl, h24, hc15⟩
  exact ALs.nil
 exact ALs.nil
theorem ref16_Draw_con (p_s : Sequence) (ao1 : Option Addr) (cap1 : Nat) (w : World) (H : Heap) (hH : Le H (hp w)) (h1 : SL H encStep ao1 p_s.steps) (hc1 : p_s.steps.length ≤ cap1) (hG : Glob H) (r : ((List (List UInt8)) × Int)) (hm : ref16_Draw p_s = some r) :
  Con prog 14 [(.agg #[(.int .i64 p_s.actuators), (.slice ao1 p_s.steps.length cap1)])] w H (fun v H' => ∃ (ao2 : Option Addr) (cap2 : Nat), v = (.tuple #[(.slice ao2 r.1.length cap2), (.int .i64 r.2)]) ∧ SL H' encStr ao2 r.1 ∧ r.1.length ≤ cap2) := by
 unfold ref16_Draw at hm
 refine con_of hH func14 rfl 12 ntmps14 rfl ?_
 refine WP.seq (WP.region ?_)
 refine ws rfl (os_box (cs := [(.int .i64 p_s.actuators), (.slice ao1 p_s.steps.length cap1)]) rfl rfl rfl (fun b1 => ?_))
 refine Va rfl (Va rfl (WL.nil (tn (WP.seq (WP.seq (WP.region (V rfl (ov_load_whole (i := 0) isAgg24 sizeOf24 rfl rfl rfl rfl) ?_)))))))
 obtain ⟨r1, e1, hm⟩ := bind_some hm
 refine wo rfl (oq_con (r := (.int .i64 r1)) call38 rfl rfl (fun w' s => ⟨_, (ref14_Check_con p_s ao1 cap1  w' H s.hold h1 hc1 hG r1 e1)⟩)) ?_
 refine Va rfl (WL.nil (tn (WP.seq (WP.region (Vm rfl (V rfl (ov_neq rfl rfl rfl) (WL.nil (tn ?_))))))))
 refine WP.cond rfl (fun hc3 => ?_) (fun hc3 => ?_)
 ·
  replace hm := ite_t hc3 hm
  refine WP.seq (WP.region (Vm rfl (Va rfl (Va rfl (WL.nil (tn (WP.ret (then_ret ?_))))))))
  obtain rfl := Option.some.inj hm
  refine retQ_ret results14 (Res.tmp rfl (Res.tmp rfl Res.nil)) rfl (fun w' s => ⟨s.below, ?_⟩)
  exact ⟨none, 0, rfl, SL.nil _ _ _, Nat.le_refl _⟩
 replace hm := ite_f hc3 hm
 refine WP.skip (tn (WP.seq (WP.region (V rfl (ov_load_whole (i := 0) isAgg24 sizeOf24 rfl rfl rfl rfl) ?_))))
 obtain ⟨r2, e2, hm⟩ := bind_some hm
 refine ws rfl (os_con call42 rfl rfl (fun w' s => (ref16_Lines_con p_s ao1 cap1  w' H s.hold h1 hc1 hG r2 e2)) (fun rr1 H1 hle1 hR1 => ?_))
 obtain ⟨ao3, cap3, rfl, h3, hc4⟩ := hR1
 refine Va rfl (Va rfl (WL.nil (tn (WP.ret ?_))))
 obtain rfl := Option.some.inj hm
 refine retQ_ret results14 (Res.tmp rfl (Res.tmp rfl Res.nil)) rfl (fun w' s => ⟨s.below, ?_⟩)
 exact ⟨ao3, cap3, rfl, h3.mono s.le_newer, hc4⟩
theorem diagram_stretched_con (p_s : Sequence) (p_counts : (List Int)) (ao1 : Option Addr) (cap1 : Nat) (ao2 : Option Addr) (cap2 : Nat) (w : World) (H : Heap) (hH : Le H (hp w)) (h1 : SL H encStep ao1 p_s.steps) (hc1 : p_s.steps.length ≤ cap1) (h2 : SL H (encInt .i64) ao2 p_counts) (hc2 : p_counts.length ≤ cap2) (hG : Glob H) (r : (List (List UInt8))) (hm : diagram_stretched p_s p_counts = some r) :
  Con prog 64 [(.agg #[(.int .i64 p_s.actuators), (.slice ao1 p_s.steps.length cap1)]), (.slice ao2 p_counts.length cap2)] w H (fun v H' => ∃ (ao3 : Option Addr) (cap3 : Nat), v = (.slice ao3 r.length cap3) ∧ SL H' encStr ao3 r ∧ r.length ≤ cap3) := by
 unfold diagram_stretched at hm
 refine con_of hH func64 rfl 8 ntmps64 rfl ?_
 refine WP.seq (WP.region ?_)
 refine ws rfl (os_box (cs := [(.int .i64 p_s.actuators), (.slice ao1 p_s.steps.length cap1)]) rfl rfl rfl (fun b1 => ?_))
 refine ws rfl (os_box (cs := [(.slice ao2 p_counts.length cap2)]) rfl rfl rfl (fun b2 => ?_))
 refine Va rfl (WL.nil (tn (WP.seq (WP.region (V rfl (ov_load_whole (i := 1) isAgg24 sizeOf24 rfl rfl rfl rfl) (V rfl (ov_makeFunc' (first := []) rfl rfl rfl) ?_))))))
 refine ws rfl (os_inline (cap := []) (vs := [(.agg #[(.int .i64 p_s.actuators), (.slice ao1 p_s.steps.length cap1)]), (.func (.func 100) #[] #[(pB b2 0)])]) call49 rfl rfl rfl func49 rfl 46 ntmps49 rfl (fun w' s => ?_))
 refine WP.seq (WP.region ?_)
 refine ws rfl (os_box (cs := [(.int .i64 p_s.actuators), (.slice ao1 p_s.steps.length cap1)]) rfl rfl rfl (fun b3 => ?_))
 refine Va rfl (WL.nil (tn (WP.seq (WP.region (Va rfl (WL.nil (tn ?_)))))))
 obtain ⟨k1, hk1, hm⟩ := joinK_some hm
 refine WP.seq_join (fun g' S' => ∃ (H2 : Heap) (l9 : (List (List UInt8))) (ao14 : _) (cap14 : _) (xs5 : _), Le H H2 ∧ RL H2 encStr l9 xs5 ∧ Sub [(5, (.slice ao14 l9.length cap14)), (1000000007, (.bool false))] g' ∧ (∀ w', S' w' → St w H [rowE 9 encStr l9 ao14 cap14 xs5, .blk b2 39 [(.slice ao2 p_counts.length cap2)], .blk b1 24 [(.int .i64 p_s.actuators), (.slice ao1 p_s.steps.length cap1)]] H2 w') ∧ k1 l9 = some r) ?_ ?_
 ·
  refine WP.seq (WP.region (V rfl (ov_load_whole (i := 0) isAgg24 sizeOf24 rfl rfl rfl rfl) ?_))
  obtain ⟨r1, e1, hm⟩ := bind_some hm
  refine ws rfl (os_con call43 rfl rfl (fun w' s => (diagram_cells_con p_s ao1 cap1  w' H s.hold h1 hc1 hG r1 e1)) (fun rr1 H1 hle1 hR1 => ?_))
  replace h1 := h1.mono hle1
  replace h2 := h2.mono hle1
  replace hG := hG.mono hle1
  obtain ⟨ao4, cap4, rfl, h4, hc4⟩ := hR1
  refine V rfl (ov_len_slice underlying76 rfl rfl) (Vm rfl (WL.nil (tn (WP.block ?_))))
  have rl1 := RL.nil (α := (List UInt8)) H1 encStr
  refine WP.weaken (fun _ s => s.nilrow 9 (encStr).size) ?_
  refine WP.loop (fun m1 g' S' => ∃ (i1 : Int) (l1 : (List (List UInt8))) (ao5 : _) (cap5 : _) (xs1 : _), RL H1 encStr l1 xs1 ∧ Sub [(1, (.func (.func 100) #[] #[(pB b2 0)])), (5, (.slice ao5 l1.length cap5)), (12, (.slice ao4 r1.length cap4)), (13, (.int .i64 (r1.length : Int))), (14, (.int .i64 i1)), (1000000007, (.bool false))] g' ∧ (∀ w', S' w' → St w H [rowE 9 encStr l1 ao5 cap5 xs1, .blk b2 39 [(.slice ao2 p_counts.length cap2)], .blk b1 24 [(.int .i64 p_s.actuators), (.slice ao1 p_s.steps.length cap1)]] H1 w') ∧ diagram_stretched_loop1 k1 r1 p_counts m1 i1 l1 = some r) ((Int.toNat ((r1.length : Int) - 0) + 1)) ⟨0, ([] : List (List UInt8)), none, 0, [], rl1, (Sub.all rfl), fun w' s => (s.sl [0, 2, 3]), hm⟩ ?_ ?_
  ·
   rintro g' S' ⟨_, _, _, _, _, _, _, _, hm⟩
   exact none_some hm
  rintro m1 g' S' ⟨i1, l1, ao5, cap5, xs1, rl2, hsub1, hS1, hm⟩
  refine WP.sub hsub1 (WP.weaken hS1 ?_)
  rw [diagram_stretched_loop1] at hm
  refine WP.seq (WP.region (V rfl (ov_lss rfl rfl rfl) (WL.nil (tn (WP.seq ?_)))))
  refine WP.cond rfl (fun hc5 => ?_) (fun hc5 => ?_)
  ·
   replace hm := ite_t hc5 hm
   refine WP.skip (tn ?_)
   obtain ⟨k2, hk2, hm⟩ := joinK_some hm
   refine WP.seq_join (fun g' S' => ∃ (l8 : (List (List UInt8))) (ao13 : _) (cap13 : _) (xs4 : _), RL H1 encStr l8 xs4 ∧ Sub [(1, (.func (.func 100) #[] #[(pB b2 0)])), (5, (.slice ao13 l8.length cap13)), (12, (.slice ao4 r1.length cap4)), (13, (.int .i64 (r1.length : Int))), (14, (.int .i64 i1)), (1000000007, (.bool false))] g' ∧ (∀ w', S' w' → St w H [rowE 9 encStr l8 ao13 cap13 xs4, .blk b2 39 [(.slice ao2 p_counts.length cap2)], .blk b1 24 [(.int .i64 p_s.actuators), (.slice ao1 p_s.steps.length cap1)]] H1 w') ∧ k2 l8 = some r) ?_ ?_
   ·
    refine WP.block (WP.seq (WP.region (Vm rfl ?_)))
    obtain ⟨x1, e2, hm⟩ := bind_some hm
    obtain ⟨h6, h7, h8, cs1, h9, h10⟩ := h4.get e2 (by decide)
    obtain ⟨ao6, cap6, rfl, h5, hc6⟩ := h9
    refine V rfl (ov_indexAddr underlying76 sizeOf78 rfl rfl rfl h6 h7 h8) (V rfl (ov_load_elem (v := (.slice ao6 x1.length cap6)) isAgg78 rfl rfl h10) (Va rfl (Va rfl (WL.nil (tn (WP.seq (WP.region (V rfl (ov_build (r := (.agg #[(.pointer none), (.slice none 0 0)])) rfl rfl (fun _ => by kernel_rfl)) ?_))))))))
    refine WL.within (fun w1 s1 => ?_)
    have sv1 := h4
    replace h4 := h4.mono s1.hold
    have sv2 := h10
    replace h10 := h10.mono s1.hold
    have sv3 := h5
    replace h5 := h5.mono s1.hold
    have sv4 := h1
    replace h1 := h1.mono s1.hold
    have sv5 := h2
    replace h2 := h2.mono s1.hold
    have sv6 := rl2
    replace rl2 := rl2.mono s1.hold
    have sv7 := hG
    replace hG := hG.mono s1.hold
    have h11 : RowAt (hp w1) (some ⟨b2, 0, none⟩) 0 [(.slice ao2 p_counts.length cap2)] := s1.box_row (i := 1) rfl
    have h12 : RowAt (hp w1) (some ⟨b1, 0, none⟩) 0 [(.int .i64 p_s.actuators), (.slice ao1 p_s.steps.length cap1)] := s1.box_row (i := 2) rfl
    refine ws rfl (os_box (cs := [(.pointer none), (.slice none 0 0)]) rfl rfl rfl (fun b4 => ?_))
    refine Va rfl (WL.nil (tn (WP.seq (WP.region (Vm rfl (Vm rfl ?_))))))
    obtain ⟨r2, e3, hm⟩ := bind_some hm
    refine wo rfl (oq_con (r := (mkS r2)) call45 rfl rfl (fun w' s => ⟨_, (diagram_letter_con i1  w' (hp w1) s.hold hG r2 e3)⟩)) ?_
    obtain ⟨s2, e4, hm⟩ := bind_some hm
    refine V rfl (ov_sadd' e4 rfl rfl rfl) ?_
    refine ws rfl (os_inline (cap := []) (vs := [(pB b4 0), (mkS s2)]) call82 rfl rfl rfl func82 rfl 19 ntmps82 rfl (fun w' s => ?_))
    refine WP.seq (WP.region (Va rfl (Va rfl (WL.nil (tn (WP.seq (WP.region (Vm rfl ?_))))))))
    refine ws rfl (os_copyCheck (i := 0) rfl rfl rfl (.inl rfl) ?_)
    refine WL.nil (tn (WP.seq (WP.region (Vm rfl (Vm rfl (V rfl (ov_nilCheckB rfl rfl) (V rfl (ov_fieldAddr underlying123 rfl rfl rfl sizeOf75 rfl rfl) (Vl 0 isAgg75 rfl (Vm rfl ?_)))))))))
    have rl3 := RL.nil (α := UInt8) (hp w1) encByte
    refine WL.weaken (fun _ s => s.nilrow 5 (encByte).size) ?_
    obtain ⟨l2, e5, hm⟩ := bind_some hm
    refine ws rfl (os_app_str (i := 0) (xs := []) underlying75 underlying9 (by kernel_rfl : (prog.info? 5).map (fun i => (i.zero, i.size, i.bytes)) = some (some (.int .u8 0), 1, 1)) rfl rfl rfl rfl rl3 e5 (fun ao7 cap7 ys1 rl4 => ?_))
    refine V rfl (ov_nilCheckB rfl rfl) (V rfl (ov_fieldAddr underlying123 rfl rfl rfl sizeOf75 rfl rfl) ?_)
    refine ws0 rfl (os_store (i := 1) (vs := [(.slice ao7 (([] : List UInt8) ++ s2).length cap7)]) (cs' := [(pB b4 0), (.slice ao7 (([] : List UInt8) ++ s2).length cap7)]) sizeOf75 rfl rfl rfl rfl rfl rfl rfl rfl rfl ?_)
    refine WL.nil (tn (WP.seq (WP.region (Vm rfl (V rfl (ov_len_string underlying9 rfl rfl) (Va rfl (Va rfl (WL.nil (tn (WP.ret ?_))))))))))
    refine retQ_ret (v := (.tuple #[(.int .i64 (s2.length : Int)), .nilIface])) results82 (Res.tmp rfl (Res.tmp rfl Res.nil)) rfl (fun w' s => ⟨_, ?_, s⟩)
    refine WL.nil (tn ?_)
    obtain ⟨k3, hk3, hm⟩ := joinK_some hm
    refine WP.seq_join (fun g' S' => ∃ (l6 : (List UInt8)) (ao11 : _) (cap11 : _) (xs3 : _), RL (hp w1) encByte l6 xs3 ∧ Sub [(1, (.func (.func 100) #[] #[(pE (some ⟨b2, 0, none⟩) 0)])), (5, (.slice ao5 l1.length cap5)), (8, (pB b4 0)), (12, (.slice ao4 r1.length cap4)), (13, (.int .i64 (r1.length : Int))), (14, (.int .i64 i1)), (1000000007, (.bool false))] g' ∧ (∀ w', S' w' → St w1 (hp w1) [rowE 5 encByte l6 ao11 cap11 xs3, .blk b4 123 [(pB b4 0), (.slice ao11 l6.length cap11)]] (hp w1) w') ∧ k3 l6 = some r) ?_ ?_
    ·
     refine WP.seq (WP.region (Vm rfl (V rfl (ov_len_slice underlying78 rfl rfl) (Vm rfl (WL.nil (tn (WP.block ?_)))))))
     refine WP.loop (fun m2 g' S' => ∃ (i2 : Int) (l3 : (List UInt8)) (ao8 : _) (cap8 : _) (xs2 : _), RL (hp w1) encByte l3 xs2 ∧ Sub [(1, (.func (.func 100) #[] #[(pE (some ⟨b2, 0, none⟩) 0)])), (5, (.slice ao5 l1.length cap5)), (8, (pB b4 0)), (12, (.slice ao4 r1.length cap4)), (13, (.int .i64 (r1.length : Int))), (14, (.int .i64 i1)), (26, (.slice ao6 x1.length cap6)), (27, (.int .i64 (x1.length : Int))), (28, (.int .i64 i2)), (1000000007, (.bool false))] g' ∧ (∀ w', S' w' → St w1 (hp w1) [rowE 5 encByte l3 ao8 cap8 xs2, .blk b4 123 [(pB b4 0), (.slice ao8 l3.length cap8)]] (hp w1) w') ∧ diagram_stretched_loop2 p_counts x1 k3 m2 i2 l3 = some r) ((Int.toNat ((x1.length : Int) - 0) + 1)) ⟨0, (([] : List UInt8) ++ s2), ao7, cap7, ([] ++ ys1), rl4, (Sub.all rfl), fun w' s => s, hm⟩ ?_ ?_
     ·
      rintro g' S' ⟨_, _, _, _, _, _, _, _, hm⟩
      exact none_some hm
     rintro m2 g' S' ⟨i2, l3, ao8, cap8, xs2, rl5, hsub2, hS2, hm⟩
     refine WP.sub hsub2 (WP.weaken hS2 ?_)
     rw [diagram_stretched_loop2] at hm
     refine WP.seq (WP.region (V rfl (ov_lss rfl rfl rfl) (WL.nil (tn (WP.seq ?_)))))
     refine WP.cond rfl (fun hc7 => ?_) (fun hc7 => ?_)
     ·
      replace hm := ite_t hc7 hm
      refine WP.skip (tn (WP.seq (WP.block (WP.seq (WP.region (Vm rfl ?_))))))
      obtain ⟨x2, e6, hm⟩ := bind_some hm
      obtain ⟨h13, h14, h15, cs2, h16, h17⟩ := h5.get e6 (by decide)
      obtain rfl : cs2 = [(.int .u8 x2.first), (.int .u8 x2.second)] := h16
      refine V rfl (ov_indexAddr underlying78 sizeOf80 rfl rfl rfl h13 h14 h15) (V rfl (ov_load_elems (vs := [(.int .u8 x2.first), (.int .u8 x2.second)]) isAgg80 sizeOf80 rfl rfl rfl h17 h15) ?_)
      refine ws rfl (os_alloc (cs := [(.int .u8 0), (.int .u8 0)]) zeroValue80 rfl rfl (fun b5 => ?_))
      refine Va rfl ?_
      refine ws0 rfl (os_store (i := 0) (vs := [(.int .u8 x2.first), (.int .u8 x2.second)]) (cs' := [(.int .u8 x2.first), (.int .u8 x2.second)]) sizeOf80 rfl rfl rfl rfl rfl rfl rfl rfl rfl ?_)
      refine WL.nil (tn (WP.region (Vm rfl (Vm rfl (Vm rfl (V rfl (ov_load_whole (i := 0) isAgg80 sizeOf80 rfl rfl rfl rfl) ?_))))))
      refine ws rfl (os_inline (cap := [(pE (some ⟨b2, 0, none⟩) 0)]) (vs := [(pB b4 0), (.int .i64 i2), (.agg #[(.int .u8 x2.first), (.int .u8 x2.second)])]) call100 rfl rfl rfl func100 rfl 22 ntmps100 rfl (fun w' s => ?_))
      refine WP.seq (WP.region ?_)
      refine ws rfl (os_box (cs := [(.int .u8 x2.first), (.int .u8 x2.second)]) rfl rfl rfl (fun b6 => ?_))
      refine WL.nil (tn (WP.seq ?_))
      refine WP.region_any (S₀ := St w1 (hp w1) [.blk b6 80 [(.int .u8 x2.first), (.int .u8 x2.second)], .blk b5 80 [(.int .u8 x2.first), (.int .u8 x2.second)]] (hp w1)) 11 rfl (by kernel_rfl) (fun w' s => (s.sl [0, 1])) (fun _ s => s.drew) ?_
      refine TQ' 0 rfl (ov_move rfl rfl) (TQ' 1 rfl (ov_fieldAddr underlying80 rfl rfl rfl sizeOf5 rfl rfl) (TQ' 2 rfl (ov_load_box (i := 0) isAgg5 rfl rfl rfl rfl) (TQ' 3 rfl (ov_convert_int underlying5 underlying21 rfl rfl) (TQ' 4 rfl (ov_convert_rune' underlying21 underlying9 rfl rfl) (TQ' 5 rfl (ov_load_elem (v := (.slice ao2 p_counts.length cap2)) isAgg39 rfl rfl h11) (TQ' 6 rfl (ov_move rfl rfl) ?_))))))
      obtain ⟨x3, e7, hm⟩ := bind_some hm
      obtain ⟨h18, h19, h20, cs3, h21, h22⟩ := h2.get e7 (by decide)
      obtain rfl : cs3 = [(.int .i64 x3)] := h21
      refine TQ' 7 rfl (ov_indexAddr underlying39 sizeOf3 rfl rfl rfl h18 h19 h20) (TQ' 8 rfl (ov_load_elem (v := (.int .i64 x3)) isAgg3 rfl rfl h22) ?_)
      refine AL.any (rs := [9]) (by kernel_rfl) (by decide) ?_
      refine ALs.cons (i := 9) rfl (Runs.free rfl) rfl rfl ?_ ?_
      ·
       obtain ⟨r3, e8, hm⟩ := bind_some hm
       refine OQ.step (oq_con (r := (mkS r3)) call101 rfl rfl (fun w' s => ⟨_, (repS_con ((Utf8.encode (IntKind.wrap .i32 x2.first)).data.toList) x3  w' (hp w1) s.hold hG r3 e8)⟩)) ?_
       refine ⟨fun w' s => (s.sl [0, 1]), ?_⟩
       refine AL.any (rs := [10]) (by kernel_rfl) (by decide) ?_
       refine ALs.cons (i := 10) rfl (Runs.free rfl) rfl rfl ?_ ?_
       ·
        refine os_inline (cap := []) (vs := [(pB b4 0), (mkS r3)]) call82 rfl rfl rfl func82 rfl 19 ntmps82 rfl (fun w' s => ?_)
        refine WP.seq (WP.region (Va rfl (Va rfl (WL.nil (tn (WP.seq (WP.region (Vm rfl ?_))))))))
        refine ws rfl (os_copyCheck (i := 3) rfl rfl rfl (.inr rfl) ?_)
        refine WL.nil (tn (WP.seq (WP.region (Vm rfl (Vm rfl (V rfl (ov_nilCheckB rfl rfl) (V rfl (ov_fieldAddr underlying123 rfl rfl rfl sizeOf75 rfl rfl) (Vl 3 isAgg75 rfl (Vm rfl ?_)))))))))
        obtain ⟨l4, e9, hm⟩ := bind_some hm
        refine ws rfl (os_app_str (i := 2) (xs := xs2) underlying75 underlying9 (by kernel_rfl : (prog.info? 5).map (fun i => (i.zero, i.size, i.bytes)) = some (some (.int .u8 0), 1, 1)) rfl rfl rfl rfl rl5 e9 (fun ao9 cap9 ys2 rl6 => ?_))
        refine V rfl (ov_nilCheckB rfl rfl) (V rfl (ov_fieldAddr underlying123 rfl rfl rfl sizeOf75 rfl rfl) ?_)
        refine ws0 rfl (os_store (i := 3) (vs := [(.slice ao9 (l3 ++ r3).length cap9)]) (cs' := [(pB b4 0), (.slice ao9 (l3 ++ r3).length cap9)]) sizeOf75 rfl rfl rfl rfl rfl rfl rfl rfl rfl ?_)
        refine WL.nil (tn (WP.seq (WP.region (Vm rfl (V rfl (ov_len_string underlying9 rfl rfl) (Va rfl (Va rfl (WL.nil (tn (WP.ret ?_))))))))))
        refine retQ_ret (v := (.tuple #[(.int .i64 (r3.length : Int)), .nilIface])) results82 (Res.tmp rfl (Res.tmp rfl Res.nil)) rfl (fun w' s => ⟨_, ?_, s⟩)
        refine ⟨fun w' s => (s.sl [0, 1]), ?_⟩
        refine AL.done (by kernel_rfl) ?_
        refine tn (WP.region (Vm rfl (V rfl (ov_fieldAddr underlying80 rfl rfl rfl sizeOf5 rfl rfl) (Vl 0 isAgg5 rfl ?_))))
        refine ws rfl (os_inline (cap := []) (vs := [(pB b4 0), (.int .u8 x2.second)]) call52 rfl rfl rfl func52 rfl 17 ntmps52 rfl (fun w' s => ?_))
        refine WP.seq (WP.region (Va rfl (WL.nil (tn (WP.seq (WP.region (Vm rfl ?_)))))))
        refine ws rfl (os_copyCheck (i := 3) rfl rfl rfl (.inr rfl) ?_)
        refine WL.nil (tn (WP.seq (WP.region (Vm rfl (Vm rfl (V rfl (ov_nilCheckB rfl rfl) (V rfl (ov_fieldAddr underlying123 rfl rfl rfl sizeOf75 rfl rfl) (Vl 3 isAgg75 rfl (Vm rfl ?_)))))))))
        obtain ⟨u1, e10, hm⟩ := bind_some hm
        replace e10 := guardO_some e10
        have rl7 : RL (hp w1) encByte ([(UInt8.ofNat (Int.toNat x2.second))] : List UInt8) [(.int .u8 x2.second)] := RL.byte1 e10
        refine ws rfl (os_buildSlice (cs := [(.int .u8 x2.second)]) (E := 5) (sz := 1) rfl rfl (fun _ => by kernel_rfl) rfl (by decide) (fun b7 => ?_))
        obtain ⟨l5, e11, hm⟩ := bind_some hm
        refine ws rfl (os_app (i := 3) (j := 0) (En := encByte) (xs := (xs2 ++ ys2)) (ys := [(.int .u8 x2.second)]) underlying75 (by kernel_rfl : (prog.info? 5).map (fun i => (i.zero, i.size, i.bytes)) = some (some (.int .u8 0), (encByte).size, 1)) rfl (by decide) rfl rfl rfl rfl rfl rfl rl6 rl7 e11 (fun ao10 cap10 rl8 => ?_))
        refine V rfl (ov_nilCheckB rfl rfl) (V rfl (ov_fieldAddr underlying123 rfl rfl rfl sizeOf75 rfl rfl) ?_)
        refine ws0 rfl (os_store (i := 4) (vs := [(.slice ao10 ((l3 ++ r3) ++ ([(UInt8.ofNat (Int.toNat x2.second))] : List UInt8)).length cap10)]) (cs' := [(pB b4 0), (.slice ao10 ((l3 ++ r3) ++ ([(UInt8.ofNat (Int.toNat x2.second))] : List UInt8)).length cap10)]) sizeOf75 rfl rfl rfl rfl rfl rfl rfl rfl rfl ?_)
        refine WL.nil (tn (WP.seq (WP.region (Va rfl (WL.nil (tn (WP.ret ?_)))))))
        refine retQ_ret (v := .nilIface) results52 (Res.tmp rfl Res.nil) rfl (fun w' s => ⟨_, ?_, s⟩)
        refine WL.nil ?_
        refine retQ_end (v := (.tuple #[])) results100 Res.nil rfl (fun w' s => ⟨_, ?_, s⟩)
        refine WL.nil (bn (tn (WP.region (V rfl (ov_add rfl rfl rfl) (Vm rfl (WL.nil (tn ?_)))))))
        exact ⟨(IntKind.wrap .i64 (i2 + 1)), ((l3 ++ r3) ++ ([(UInt8.ofNat (Int.toNat x2.second))] : List UInt8)), ao10, cap10, ((xs2 ++ ys2) ++ [(.int .u8 x2.second)]), rl8, (Sub.all rfl), fun w' s => (s.sl [3, 4]), hm⟩
       exact ALs.nil
      exact ALs.nil
     replace hm := ite_f hc7 hm
     refine WP.exit (then_exit (then_exit (block_here (tn ?_))))
     exact ⟨l3, ao8, cap8, xs2, rl5, (Sub.all rfl), fun w' s => s, hm⟩
    rintro g' S' ⟨l6, ao11, cap11, xs3, rl9, hsub3, hS3, hm⟩
    refine WP.sub hsub3 (WP.weaken hS3 ?_)
    replace hm := (congrFun hk3 l6).symm.trans hm
    refine WP.region (Vm rfl (Vm rfl ?_))
    have h4 := sv1
    have h10 := sv2
    have h5 := sv3
    have h1 := sv4
    have h2 := sv5
    have rl2 := sv6
    have hG := sv7
    refine ws rfl (os_bstring_in s1 (i := 1) (j := 0) rfl rfl rfl rfl (.inr rfl) rl9 ?_)
    have rl10 : RL H1 encStr ([l6] : List (List UInt8)) [(mkS l6)] := RL.cons (cs := [(mkS l6)]) (xs := []) rfl (RL.nil _ _)
    refine ws rfl (os_buildSlice (cs := [(mkS l6)]) (E := 9) (sz := 1) rfl rfl (fun _ => by kernel_rfl) rfl (by decide) (fun b8 => ?_))
    obtain ⟨l7, e12, hm⟩ := bind_some hm
    refine ws rfl (os_app (i := 1) (j := 0) (En := encStr) (xs := xs1) (ys := [(mkS l6)]) underlying27 (by kernel_rfl : (prog.info? 9).map (fun i => (i.zero, i.size, i.bytes)) = some (some (mkS []), (encStr).size, 16)) rfl (by decide) rfl rfl rfl rfl rfl rfl rl2 rl10 e12 (fun ao12 cap12 rl11 => ?_))
    refine Va rfl (WL.nil (bn (tn ?_)))
    exact ⟨(l1 ++ ([l6] : List (List UInt8))), ao12, cap12, (xs1 ++ [(mkS l6)]), rl11, (Sub.all rfl), fun w' s => (s.sl [1, 2, 3]), hm⟩
   rintro g' S' ⟨l8, ao13, cap13, xs4, rl12, hsub4, hS4, hm⟩
   refine WP.sub hsub4 (WP.weaken hS4 ?_)
   replace hm := (congrFun hk2 l8).symm.trans hm
   refine WP.region (V rfl (ov_add rfl rfl rfl) (Vm rfl (WL.nil (tn ?_))))
   exact ⟨(IntKind.wrap .i64 (i1 + 1)), l8, ao13, cap13, xs4, rl12, (Sub.all rfl), fun w' s => s, hm⟩
  replace hm := ite_f hc5 hm
  refine WP.exit (then_exit (then_exit (block_here (tn ?_))))
  exact ⟨H1, l1, ao5, cap5, xs1, hle1, rl2, (Sub.all rfl), fun w' s => s, hm⟩
 rintro g' S' ⟨H2, l9, ao14, cap14, xs5, hle2, rl13, hsub5, hS5, hm⟩
 refine WP.sub hsub5 (WP.weaken hS5 ?_)
 replace hm := (congrFun hk1 l9).symm.trans hm
 refine WP.seq (WP.region (Vm rfl (Va rfl (WL.nil (tn (WP.ret ?_))))))
 refine retQ_ret (v := (.slice ao14 l9.length cap14)) results49 (Res.tmp rfl Res.nil) rfl (fun w' s => ⟨_, ?_, s⟩)
 refine Va rfl (WL.nil (tn (WP.ret ?_)))
 obtain rfl := Option.some.inj hm
 refine retQ_ret results64 (Res.tmp rfl Res.nil) rfl (fun w' s => ⟨s.below, ?_⟩)
 obtain ⟨h23, hc8⟩ := s.ret_row (i := 0) rfl rl13
 exact ⟨ao14, cap14, rfl, h23, hc8⟩
end Go.Proofs.YtbckcjjffbgidaaGreatDoor.W
