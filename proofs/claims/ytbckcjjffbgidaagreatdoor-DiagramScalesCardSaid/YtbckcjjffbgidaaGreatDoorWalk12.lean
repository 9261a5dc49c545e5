/- The walks. Written by our own program gen.py; Lean checks it. -/
import Derived.Test.YtbckcjjffbgidaaGreatDoorPlain
import Derived.Test.YtbckcjjffbgidaaGreatDoorEqs
import Derived.Test.YtbckcjjffbgidaaGreatDoorProg
import Derived.Test.YtbckcjjffbgidaaGreatDoorExt
import Derived.Test.YtbckcjjffbgidaaGreatDoorBuild
import Derived.Test.YtbckcjjffbgidaaGreatDoorClone
import Derived.Test.YtbckcjjffbgidaaGreatDoorWalk1
set_option linter.unusedVariables false
set_option maxRecDepth 100000
set_option maxHeartbeats 4000000
namespace Go.Proofs.YtbckcjjffbgidaaGreatDoor.W
open Go Go.RowKit Go.Proofs.Tryz
theorem ref14_Behind_con (p_s : Sequence) (p_k : Int) (ao1 : Option Addr) (cap1 : Nat) (w : World) (H : Heap) (hH : Le H (hp w)) (h1 : SL H encStep ao1 p_s.steps) (hc1 : p_s.steps.length ≤ cap1) (hG : Glob H) (r : (List Bool)) (hm : ref14_Behind p_s p_k = some r) :
  Con prog 48 [(.agg #[(.int .i64 p_s.actuators), (.slice ao1 p_s.steps.length cap1)]), (.int .i64 p_k)] w H (fun v H' => ∃ (ao2 : Option Addr) (cap2 : Nat), v = (.slice ao2 r.length cap2) ∧ SL H' encBool ao2 r ∧ r.length ≤ cap2) := by
 unfold ref14_Behind at hm
 refine con_of hH func48 rfl 23 ntmps48 rfl ?_
 refine WP.seq (WP.region ?_)
 refine ws rfl (os_box (cs := [(.int .i64 p_s.actuators), (.slice ao1 p_s.steps.length cap1)]) rfl rfl rfl (fun b1 => ?_))
 refine Va rfl (WL.nil (tn (WP.seq (WP.region (V rfl (ov_fieldAddr underlying24 rfl rfl rfl sizeOf3 rfl rfl) (Vl 0 isAgg3 rfl ?_))))))
 obtain ⟨u1, e1, hm⟩ := bind_some hm
 replace e1 := guardO_some e1
 refine ws rfl (os_makeSlice (En := encBool) (z := (.bool false)) (y0 := false) (bytes := 1) underlying49 (by kernel_rfl) rfl (by decide) rfl rfl rfl e1 (fun b2 xs1 rl1 => ?_))
 refine Va rfl (WL.nil (tn ?_))
 obtain ⟨k1, hk1, hm⟩ := joinK_some hm
 refine WP.seq_join (fun g' S' => ∃ (H4 : Heap) (l2 : (List Bool)) (ao6 : Option Addr) (cap6 : Nat), Le H H4 ∧ SL H4 encBool ao6 l2 ∧ l2.length ≤ cap6 ∧ Sub [(5, (.slice ao6 l2.length cap6)), (1000000007, (.bool false))] g' ∧ (∀ w', S' w' → St w H [] H4 w') ∧ k1 l2 = some r) ?_ ?_
 ·
  refine WP.seq (WP.region (Va rfl (WL.nil (tn (WP.block ?_)))))
  refine WP.held rl1 (fun H1 hc3 hle1 h3 => ?_)
  replace h1 := h1.mono hle1
  replace hG := hG.mono hle1
  refine WP.loop (fun m1 g' S' => ∃ (H2 : Heap) (l1 : (List Bool)) (ao3 : Option Addr) (cap3 : Nat) (i1 : Int), Le H1 H2 ∧ SL H2 encBool ao3 l1 ∧ l1.length ≤ cap3 ∧ Sub [(1, (.int .i64 p_k)), (2, (pB b1 0)), (5, (.slice ao3 l1.length cap3)), (6, (.int .i64 i1)), (1000000007, (.bool false))] g' ∧ (∀ w', S' w' → St w H [.blk b1 24 [(.int .i64 p_s.actuators), (.slice ao1 p_s.steps.length cap1)]] H2 w') ∧ ref14_Behind_loop1 p_s p_k k1 m1 l1 i1 = some r) ((Int.toNat (p_k - 0) + 1)) ⟨H1, (List.replicate (Int.toNat p_s.actuators) false), (some ⟨b2, 0, none⟩), (Int.toNat p_s.actuators), 0, (Le.refl _), h3, hc3, (Sub.all rfl), fun w' s => s, hm⟩ ?_ ?_
  ·
   rintro g' S' ⟨_, _, _, _, _, _, _, _, _, _, hm⟩
   exact none_some hm
  rintro m1 g' S' ⟨H2, l1, ao3, cap3, i1, hle2, h4, hc4, hsub1, hS1, hm⟩
  refine WP.sub hsub1 (WP.weaken hS1 ?_)
  rw [ref14_Behind_loop1] at hm
  replace h1 := h1.mono hle2
  replace hG := hG.mono hle2
  refine WP.seq (WP.seq (WP.region (Vm rfl (Vm rfl (V rfl (ov_lss rfl rfl rfl) (WL.nil (tn ?_)))))))
  refine WP.cond rfl (fun hc5 => ?_) (fun hc5 => ?_)
  ·
   replace hm := ite_t hc5 hm
   refine WP.skip (tn (WP.seq (WP.block (WP.region (V rfl (ov_fieldAddr underlying24 rfl rfl rfl sizeOf22 rfl rfl) (Vl 0 isAgg22 rfl (Vm rfl ?_)))))))
   obtain ⟨x1, e2, hm⟩ := bind_some hm
   obtain ⟨h6, h7, h8, cs1, h9, h10⟩ := h1.get e2 (by decide)
   obtain ⟨ao4, cap4, rfl, h5, hc6⟩ := h9
   refine V rfl (ov_indexAddr underlying22 sizeOf45 rfl rfl rfl h6 h7 h8) (V rfl (ov_load_elems (vs := [(.slice ao4 x1.strokes.length cap4), (.int .i64 x1.wait)]) isAgg45 sizeOf45 rfl rfl rfl h10 h8) (Vm rfl ?_))
   obtain ⟨r1, e3, hm⟩ := bind_some hm
   refine ws rfl (os_con call90 rfl rfl (fun w' s => (ref13_After_con x1 l1 ao4 cap4 ao3 cap3  w' H2 s.hold h5 hc6 h4 hc4 hG r1 e3)) (fun rr1 H3 hle3 hR1 => ?_))
   replace h4 := h4.mono hle3
   obtain ⟨ao5, cap5, rfl, h11, hc7⟩ := hR1
   refine Va rfl (WL.nil (bn (tn (WP.region (Vm rfl (V rfl (ov_add rfl rfl rfl) (Va rfl (WL.nil (tn ?_)))))))))
   exact ⟨H3, r1, ao5, cap5, (IntKind.wrap .i64 (i1 + 1)), (hle2.trans hle3), h11, hc7, (Sub.all rfl), fun w' s => s, hm⟩
  replace hm := ite_f hc5 hm
  refine WP.exit (then_exit (then_exit (block_here (tn ?_))))
  exact ⟨H2, l1, ao3, cap3, (hle1.trans hle2), h4, hc4, (Sub.all rfl), fun w' s => (s.select [] (by decide) rfl), hm⟩
 rintro g' S' ⟨H4, l2, ao6, cap6, hle4, h12, hc8, hsub2, hS2, hm⟩
 refine WP.sub hsub2 (WP.weaken hS2 ?_)
 replace hm := (congrFun hk1 l2).symm.trans hm
 refine WP.seq (WP.region (Vm rfl (Va rfl (WL.nil (tn (WP.ret ?_))))))
 obtain rfl := Option.some.inj hm
 refine retQ_ret results48 (Res.tmp rfl Res.nil) rfl (fun w' s => ⟨s.below, ?_⟩)
 exact ⟨ao6, cap6, rfl, h12.mono s.le_newer, hc8⟩
theorem ref16_rest_con (p_out : Bool) (w : World) (H : Heap) (hH : Le H (hp w)) (hG : Glob H) (r : (List UInt8)) (hm : ref16_rest p_out = some r) :
  Con prog 89 [(.bool p_out)] w H (fun v _ => v = (mkS r)) := by
 unfold ref16_rest at hm
 refine con_of hH func89 rfl 4 ntmps89 rfl ?_
 refine WP.seq (WP.region (Va rfl (WL.nil (tn (WP.seq (WP.seq (WP.region (Vm rfl (WL.nil (tn ?_))))))))))
 refine WP.cond rfl (fun hc1 => ?_) (fun hc1 => ?_)
 ·
  replace hm := ite_t hc1 hm
  refine WP.seq (WP.region (Va rfl (WL.nil (tn (WP.ret (then_ret ?_))))))
  obtain rfl := Option.some.inj hm
  refine retQ_ret results89 (Res.tmp rfl Res.nil) rfl (fun w' s => ⟨s.below, ?_⟩)
  exact rfl
 replace hm := ite_f hc1 hm
 refine WP.skip (tn (WP.seq (WP.region (Va rfl (WL.nil (tn (WP.ret ?_)))))))
 obtain rfl := Option.some.inj hm
 refine retQ_ret results89 (Res.tmp rfl Res.nil) rfl (fun w' s => ⟨s.below, ?_⟩)
 exact rfl
theorem ref16_First_con (p_s : Sequence) (p_i : Int) (p_k : Int) (ao1 : Option Addr) (cap1 : Nat) (w : World) (H : Heap) (hH : Le H (hp w)) (h1 : SL H encStep ao1 p_s.steps) (hc1 : p_s.steps.length ≤ cap1) (hG : Glob H) (r : (List UInt8)) (hm : ref16_First p_s p_i p_k = some r) :
  Con prog 44 [(.agg #[(.int .i64 p_s.actuators), (.slice ao1 p_s.steps.length cap1)]), (.int .i64 p_i), (.int .i64 p_k)] w H (fun v _ => v = (mkS r)) := by
 unfold ref16_First at hm
 refine con_of hH func44 rfl 25 ntmps44 rfl ?_
 refine WP.seq (WP.region ?_)
 refine ws rfl (os_box (cs := [(.int .i64 p_s.actuators), (.slice ao1 p_s.steps.length cap1)]) rfl rfl rfl (fun b1 => ?_))
 refine Va rfl (WL.nil (tn (WP.seq (WP.seq (WP.region (V rfl (ov_fieldAddr underlying24 rfl rfl rfl sizeOf22 rfl rfl) (Vl 0 isAgg22 rfl (Vm rfl ?_))))))))
 obtain ⟨x1, e1, hm⟩ := bind_some hm
 obtain ⟨h3, h4, h5, cs1, h6, h7⟩ := h1.get e1 (by decide)
 obtain ⟨ao2, cap2, rfl, h2, hc2⟩ := h6
 refine V rfl (ov_indexAddr underlying22 sizeOf45 rfl rfl rfl h3 h4 h5) (V rfl (ov_load_elems (vs := [(.slice ao2 x1.strokes.length cap2), (.int .i64 x1.wait)]) isAgg45 sizeOf45 rfl rfl rfl h7 h5) (Vm rfl ?_))
 obtain ⟨r1, e2, hm⟩ := bind_some hm
 refine wo rfl (oq_con (r := (.int .i64 r1)) call88 rfl rfl (fun w' s => ⟨_, (ref13_Way_con x1 p_i ao2 cap2  w' H s.hold h2 hc2 hG r1 e2)⟩)) ?_
 refine WL.nil (tn (WP.block (WP.seq (WP.region (V rfl (ov_eql rfl rfl rfl) (Va rfl (WL.nil (tn ?_))))))))
 refine WP.cond rfl (fun hc3 => ?_) (fun hc3 => ?_)
 ·
  replace hm := ite_t hc3 hm
  refine WP.seq (WP.region (Va rfl (WL.nil (tn (WP.ret (block_ret (then_ret ?_)))))))
  obtain rfl := Option.some.inj hm
  refine retQ_ret results44 (Res.tmp rfl Res.nil) rfl (fun w' s => ⟨s.below, ?_⟩)
  exact rfl
 replace hm := ite_f hc3 hm
 refine WP.seq (WP.region (V rfl (ov_eql rfl rfl rfl) (Va rfl (WL.nil (tn ?_)))))
 refine WP.cond rfl (fun hc4 => ?_) (fun hc4 => ?_)
 ·
  replace hm := ite_t hc4 hm
  refine WP.seq (WP.region (Va rfl (WL.nil (tn (WP.ret (block_ret (then_ret ?_)))))))
  obtain rfl := Option.some.inj hm
  refine retQ_ret results44 (Res.tmp rfl Res.nil) rfl (fun w' s => ⟨s.below, ?_⟩)
  exact rfl
 replace hm := ite_f hc4 hm
 refine WP.skip (bn (tn (WP.seq (WP.region (V rfl (ov_load_whole (i := 0) isAgg24 sizeOf24 rfl rfl rfl rfl) (Vm rfl ?_))))))
 obtain ⟨r2, e3, hm⟩ := bind_some hm
 refine ws rfl (os_con call48 rfl rfl (fun w' s => (ref14_Behind_con p_s p_k ao1 cap1  w' H s.hold h1 hc1 hG r2 e3)) (fun rr1 H1 hle1 hR1 => ?_))
 replace hG := hG.mono hle1
 obtain ⟨ao3, cap3, rfl, h8, hc5⟩ := hR1
 refine Vm rfl ?_
 obtain ⟨x2, e4, hm⟩ := bind_some hm
 obtain ⟨h9, h10, h11, cs2, h12, h13⟩ := h8.get e4 (by decide)
 obtain rfl : cs2 = [(.bool x2)] := h12
 refine V rfl (ov_indexAddr underlying49 sizeOf4 rfl rfl rfl h9 h10 h11) (V rfl (ov_load_elem (v := (.bool x2)) isAgg4 rfl rfl h13) ?_)
 obtain ⟨r3, e5, hm⟩ := bind_some hm
 refine wo rfl (oq_con (r := (mkS r3)) call89 rfl rfl (fun w' s => ⟨_, (ref16_rest_con x2  w' H1 s.hold hG r3 e5)⟩)) ?_
 refine Va rfl (WL.nil (tn (WP.ret ?_)))
 obtain rfl := Option.some.inj hm
 refine retQ_ret results44 (Res.tmp rfl Res.nil) rfl (fun w' s => ⟨s.below, ?_⟩)
 exact rfl
theorem ref16_Name_con (p_i : Int) (w : World) (H : Heap) (hH : Le H (hp w)) (hG : Glob H) (r : (List UInt8)) (hm : ref16_Name p_i = some r) :
  Con prog 47 [(.int .i64 p_i)] w H (fun v _ => v = (mkS r)) := by
 unfold ref16_Name at hm
 refine con_of hH func47 rfl 7 ntmps47 rfl ?_
 refine WP.seq (WP.region (Va rfl (WL.nil (tn (WP.seq (WP.region (Vm rfl (Vm rfl (V rfl (ov_add rfl rfl rfl) ?_)))))))))
 obtain ⟨s1, e1, hm⟩ := bind_some hm
 refine V rfl (ov_slice_string underlying9 rfl rfl rfl rfl e1) (Va rfl (WL.nil (tn (WP.ret ?_))))
 obtain rfl := Option.some.inj hm
 refine retQ_ret results47 (Res.tmp rfl Res.nil) rfl (fun w' s => ⟨s.below, ?_⟩)
 exact rfl
theorem ref14_SameInts_con (p_a : (List Int)) (p_b : (List Int)) (ao1 : Option Addr) (cap1 : Nat) (ao2 : Option Addr) (cap2 : Nat) (w : World) (H : Heap) (hH : Le H (hp w)) (h1 : SL H (encInt .i64) ao1 p_a) (hc1 : p_a.length ≤ cap1) (h2 : SL H (encInt .i64) ao2 p_b) (hc2 : p_b.length ≤ cap2) (hG : Glob H) (r : Bool) (hm : ref14_SameInts p_a p_b = some r) :
  Con prog 93 [(.slice ao1 p_a.length cap1), (.slice ao2 p_b.length cap2)] w H (fun v _ => v = (.bool r)) := by
 unfold ref14_SameInts at hm
 refine con_of hH func93 rfl 26 ntmps93 rfl ?_
 refine WP.seq (WP.region (Va rfl (WL.nil (tn (WP.seq (WP.seq (WP.region (Vm rfl (V rfl (ov_len_slice underlying39 rfl rfl) (Vm rfl (V rfl (ov_len_slice underlying39 rfl rfl) (V rfl (ov_neq rfl rfl rfl) (WL.nil ?_)))))))))))))
 refine tn ?_
 refine WP.cond rfl (fun hc3 => ?_) (fun hc3 => ?_)
 ·
  replace hm := ite_t hc3 hm
  refine WP.seq (WP.region (Va rfl (WL.nil (tn (WP.ret (then_ret ?_))))))
  obtain rfl := Option.some.inj hm
  refine retQ_ret results93 (Res.tmp rfl Res.nil) rfl (fun w' s => ⟨s.below, ?_⟩)
  exact rfl
 replace hm := ite_f hc3 hm
 refine WP.skip (tn ?_)
 obtain ⟨k1, hk1, hm⟩ := joinK_some hm
 refine WP.seq_join (fun g' S' => Sub [(1000000007, (.bool false))] g' ∧ (∀ w', S' w' → St w H [] H w') ∧ k1 = some r) ?_ ?_
 ·
  refine WP.seq (WP.region (Va rfl (WL.nil (tn (WP.block ?_)))))
  refine WP.loop (fun m1 g' S' => ∃ (i1 : Int), Sub [(0, (.slice ao1 p_a.length cap1)), (1, (.slice ao2 p_b.length cap2)), (5, (.int .i64 i1)), (1000000007, (.bool false))] g' ∧ (∀ w', S' w' → St w H [] H w') ∧ ref14_SameInts_loop1 p_a p_b k1 m1 i1 = some r) ((Int.toNat ((p_a.length : Int) - 0) + 1)) ⟨0, (Sub.all rfl), fun w' s => s, hm⟩ ?_ ?_
  ·
   rintro g' S' ⟨_, _, _, hm⟩
   exact none_some hm
  rintro m1 g' S' ⟨i1, hsub1, hS1, hm⟩
  refine WP.sub hsub1 (WP.weaken hS1 ?_)
  rw [ref14_SameInts_loop1] at hm
  refine WP.seq (WP.seq (WP.region (Vm rfl (Vm rfl (V rfl (ov_len_slice underlying39 rfl rfl) (V rfl (ov_lss rfl rfl rfl) (WL.nil (tn ?_))))))))
  refine WP.cond rfl (fun hc4 => ?_) (fun hc4 => ?_)
  ·
   replace hm := ite_t hc4 hm
   refine WP.skip (tn (WP.seq (WP.block (WP.seq ?_))))
   refine WP.region_draws (by kernel_rfl) (by kernel_rfl) (fun _ s => s.drew) ?_
   refine qf rfl (ov_move rfl rfl) ?_
   refine qf rfl (ov_move rfl rfl) ?_
   obtain ⟨x1, e1, hm⟩ := bind_some hm
   obtain ⟨h3, h4, h5, cs1, h6, h7⟩ := h1.get e1 (by decide)
   obtain rfl : cs1 = [(.int .i64 x1)] := h6
   refine qf rfl (ov_indexAddr underlying39 sizeOf3 rfl rfl rfl h3 h4 h5) ?_
   refine qf rfl (ov_load_elem (v := (.int .i64 x1)) isAgg3 rfl rfl h7) ?_
   refine qf rfl (ov_move rfl rfl) ?_
   refine qf rfl (ov_move rfl rfl) ?_
   obtain ⟨x2, e2, hm⟩ := bind_some hm
   obtain ⟨h8, h9, h10, cs2, h11, h12⟩ := h2.get e2 (by decide)
   obtain rfl : cs2 = [(.int .i64 x2)] := h11
   refine qf rfl (ov_indexAddr underlying39 sizeOf3 rfl rfl rfl h8 h9 h10) ?_
   refine qf rfl (ov_load_elem (v := (.int .i64 x2)) isAgg3 rfl rfl h12) ?_
   refine qf rfl (ov_neq rfl rfl rfl) ?_
   refine QL.nil ?_
   refine tn ?_
   refine WP.cond rfl (fun hc5 => ?_) (fun hc5 => ?_)
   ·
    replace hm := ite_t hc5 hm
    refine WP.seq (WP.region (Va rfl (WL.nil (tn (WP.ret (block_ret (then_ret (then_ret (block_ret (then_ret ?_))))))))))
    obtain rfl := Option.some.inj hm
    refine retQ_ret results93 (Res.tmp rfl Res.nil) rfl (fun w' s => ⟨s.below, ?_⟩)
    exact rfl
   replace hm := ite_f hc5 hm
   refine WP.skip (bn (tn (WP.region (Vm rfl (V rfl (ov_add rfl rfl rfl) (Va rfl (WL.nil (tn ?_))))))))
   exact ⟨(IntKind.wrap .i64 (i1 + 1)), (Sub.all rfl), fun w' s => s, hm⟩
  replace hm := ite_f hc4 hm
  refine WP.exit (then_exit (then_exit (block_here (tn ?_))))
  exact ⟨(Sub.all rfl), fun w' s => s, hm⟩
 rintro g' S' ⟨hsub2, hS2, hm⟩
 refine WP.sub hsub2 (WP.weaken hS2 ?_)
 replace hm := hk1.symm.trans hm
 refine WP.seq (WP.region (Va rfl (WL.nil (tn (WP.ret ?_)))))
 obtain rfl := Option.some.inj hm
 refine retQ_ret results93 (Res.tmp rfl Res.nil) rfl (fun w' s => ⟨s.below, ?_⟩)
 exact rfl
theorem ref16_common_con (p_l : (List Int)) (p_k : Int) (ao1 : Option Addr) (cap1 : Nat) (w : World) (H : Heap) (hH : Le H (hp w)) (h1 : SL H (encInt .i64) ao1 p_l) (hc1 : p_l.length ≤ cap1) (hG : Glob H) (r : (List Int)) (hm : ref16_common p_l p_k = some r) :
  Con prog 94 [(.slice ao1 p_l.length cap1), (.int .i64 p_k)] w H (fun v H' => ∃ (ao2 : Option Addr) (cap2 : Nat), v = (.slice ao2 r.length cap2) ∧ SL H' (encInt .i64) ao2 r ∧ r.length ≤ cap2) := by
 unfold ref16_common at hm
 refine con_of hH func94 rfl 20 ntmps94 rfl ?_
 refine WP.seq (WP.region (Va rfl (WL.nil (tn ?_))))
 obtain ⟨k1, hk1, hm⟩ := joinK_some hm
 refine WP.seq_join (fun g' S' => Sub [(1000000007, (.bool false))] g' ∧ (∀ w', S' w' → St w H [] H w') ∧ k1 = some r) ?_ ?_
 ·
  refine WP.seq (WP.region (Va rfl (WL.nil (tn (WP.block ?_)))))
  refine WP.loop (fun m1 g' S' => ∃ (i1 : Int), Sub [(0, (.slice ao1 p_l.length cap1)), (1, (.int .i64 p_k)), (5, (.int .i64 i1)), (1000000007, (.bool false))] g' ∧ (∀ w', S' w' → St w H [] H w') ∧ ref16_common_loop1 p_l p_k k1 m1 i1 = some r) ((Int.toNat ((p_l.length : Int) - 0) + 1)) ⟨0, (Sub.all rfl), fun w' s => s, hm⟩ ?_ ?_
  ·
   rintro g' S' ⟨_, _, _, hm⟩
   exact none_some hm
  rintro m1 g' S' ⟨i1, hsub1, hS1, hm⟩
  refine WP.sub hsub1 (WP.weaken hS1 ?_)
  rw [ref16_common_loop1] at hm
  refine WP.seq (WP.seq (WP.region (Vm rfl (Vm rfl (V rfl (ov_len_slice underlying39 rfl rfl) (V rfl (ov_lss rfl rfl rfl) (WL.nil (tn ?_))))))))
  refine WP.cond rfl (fun hc3 => ?_) (fun hc3 => ?_)
  ·
   replace hm := ite_t hc3 hm
   refine WP.skip (tn (WP.seq (WP.block (WP.seq (WP.region (Vm rfl (Vm rfl ?_)))))))
   obtain ⟨x1, e1, hm⟩ := bind_some hm
   obtain ⟨h3, h4, h5, cs1, h6, h7⟩ := h1.get e1 (by decide)
   obtain rfl : cs1 = [(.int .i64 x1)] := h6
   refine V rfl (ov_indexAddr underlying39 sizeOf3 rfl rfl rfl h3 h4 h5) (V rfl (ov_load_elem (v := (.int .i64 x1)) isAgg3 rfl rfl h7) (Vm rfl (V rfl (ov_eql rfl rfl rfl) (WL.nil (tn ?_)))))
   refine WP.cond rfl (fun hc4 => ?_) (fun hc4 => ?_)
   ·
    replace hm := ite_t hc4 hm
    refine WP.seq (WP.region (Vm rfl ?_))
    have rl1 : RL H (encInt .i64) ([p_k] : List Int) [(.int .i64 p_k)] := RL.cons (cs := [(.int .i64 p_k)]) (xs := []) rfl (RL.nil _ _)
    refine ws rfl (os_buildSlice (cs := [(.int .i64 p_k)]) (E := 3) (sz := 1) rfl rfl (fun _ => by kernel_rfl) rfl (by decide) (fun b1 => ?_))
    refine WL.held rl1 (fun H1 hc5 hle1 h8 => ?_)
    refine Va rfl (WL.nil (tn (WP.ret (block_ret (then_ret (then_ret (block_ret (then_ret ?_))))))))
    obtain rfl := Option.some.inj hm
    refine retQ_ret results94 (Res.tmp rfl Res.nil) rfl (fun w' s => ⟨s.below, ?_⟩)
    exact ⟨(some ⟨b1, 0, none⟩), 1, rfl, h8.mono s.le_newer, hc5⟩
   replace hm := ite_f hc4 hm
   refine WP.skip (bn (tn (WP.region (Vm rfl (V rfl (ov_add rfl rfl rfl) (Va rfl (WL.nil (tn ?_))))))))
   exact ⟨(IntKind.wrap .i64 (i1 + 1)), (Sub.all rfl), fun w' s => s, hm⟩
  replace hm := ite_f hc3 hm
  refine WP.exit (then_exit (then_exit (block_here (tn ?_))))
  exact ⟨(Sub.all rfl), fun w' s => s, hm⟩
 rintro g' S' ⟨hsub2, hS2, hm⟩
 refine WP.sub hsub2 (WP.weaken hS2 ?_)
 replace hm := hk1.symm.trans hm
 refine WP.seq (WP.region (Va rfl (WL.nil (tn (WP.ret ?_)))))
 obtain rfl := Option.some.inj hm
 refine retQ_ret results94 (Res.tmp rfl Res.nil) rfl (fun w' s => ⟨s.below, ?_⟩)
 exact ⟨none, 0, rfl, SL.nil _ _ _, Nat.le_refl _⟩
theorem ref16_drawn_con (p_s : Sequence) (p_widths : (List Int)) (p_marks : (List Int)) (ao1 : Option Addr) (cap1 : Nat) (ao2 : Option Addr) (cap2 : Nat) (ao3 : Option Addr) (cap3 : Nat) (w : World) (H : Heap) (hH : Le H (hp w)) (h1 : SL H encStep ao1 p_s.steps) (hc1 : p_s.steps.length ≤ cap1) (h2 : SL H (encInt .i64) ao2 p_widths) (hc2 : p_widths.length ≤ cap2) (h3 : SL H (encInt .i64) ao3 p_marks) (hc3 : p_marks.length ≤ cap3) (hG : Glob H) (r : (List (List UInt8))) (hm : ref16_drawn p_s p_widths p_marks = some r) :
  Con prog 54 [(.agg #[(.int .i64 p_s.actuators), (.slice ao1 p_s.steps.length cap1)]), (.slice ao2 p_widths.length cap2), (.slice ao3 p_marks.length cap3)] w H (fun v H' => ∃ (ao4 : Option Addr) (cap4 : Nat), v = (.slice ao4 r.length cap4) ∧ SL H' encStr ao4 r ∧ r.length ≤ cap4) := by
 unfold ref16_drawn at hm
 refine con_of hH func54 rfl 65 ntmps54 rfl ?_
 refine WP.seq (WP.region ?_)
 refine ws rfl (os_box (cs := [(.int .i64 p_s.actuators), (.slice ao1 p_s.steps.length cap1)]) rfl rfl rfl (fun b1 => ?_))
 refine Va rfl (WL.nil (tn (WP.seq (WP.region (Va rfl (WL.nil (tn ?_)))))))
 obtain ⟨k1, hk1, hm⟩ := joinK_some hm
 refine WP.seq_join (fun g' S' => ∃ (H10 : Heap) (l4 : (List (List UInt8))) (ao10 : Option Addr) (cap10 : Nat) (xs3 : List Value), Le H H10 ∧ RL H10 encStr l4 xs3 ∧ Sub [(7, (.slice ao10 l4.length cap10)), (1000000007, (.bool false))] g' ∧ (∀ w', S' w' → St w H [.row 9 (encStr).size l4.length (.slice ao10 l4.length cap10) xs3] H10 w') ∧ k1 l4 = some r) ?_ ?_
 ·
  refine WP.seq (WP.region (Va rfl (WL.nil (tn (WP.block ?_)))))
  have rl1 := RL.nil (α := (List UInt8)) H encStr
  refine WP.weaken (fun _ s => s.nilrow 9 (encStr).size) ?_
  refine WP.loop (fun m1 g' S' => ∃ (H1 : Heap) (i1 : Int) (l1 : (List (List UInt8))) (ao5 : Option Addr) (cap5 : Nat) (xs1 : List Value), Le H H1 ∧ RL H1 encStr l1 xs1 ∧ Sub [(1, (.slice ao2 p_widths.length cap2)), (2, (.slice ao3 p_marks.length cap3)), (3, (pB b1 0)), (7, (.slice ao5 l1.length cap5)), (8, (.int .i64 i1)), (1000000007, (.bool false))] g' ∧ (∀ w', S' w' → St w H [.row 9 (encStr).size l1.length (.slice ao5 l1.length cap5) xs1, .blk b1 24 [(.int .i64 p_s.actuators), (.slice ao1 p_s.steps.length cap1)]] H1 w') ∧ ref16_drawn_loop1 p_s k1 p_marks p_widths m1 i1 l1 = some r) ((Int.toNat (p_s.actuators - 0) + 1)) ⟨H, 0, ([] : List (List UInt8)), none, 0, [], (Le.refl _), rl1, (Sub.all rfl), fun w' s => s, hm⟩ ?_ ?_
  ·
   rintro g' S' ⟨_, _, _, _, _, _, _, _, _, _, hm⟩
   exact none_some hm
  rintro m1 g' S' ⟨H1, i1, l1, ao5, cap5, xs1, hle1, rl2, hsub1, hS1, hm⟩
  refine WP.sub hsub1 (WP.weaken hS1 ?_)
  rw [ref16_drawn_loop1] at hm
  replace h2 := h2.mono hle1
  replace h3 := h3.mono hle1
  replace h1 := h1.mono hle1
  replace hG := hG.mono hle1
  refine WP.seq (WP.seq (WP.region (Vm rfl (V rfl (ov_fieldAddr underlying24 rfl rfl rfl sizeOf3 rfl rfl) (Vl 1 isAgg3 rfl (V rfl (ov_lss rfl rfl rfl) (WL.nil (tn ?_))))))))
  refine WP.cond rfl (fun hc5 => ?_) (fun hc5 => ?_)
  ·
   replace hm := ite_t hc5 hm
   refine WP.skip (tn ?_)
   obtain ⟨k2, hk2, hm⟩ := joinK_some hm
   refine WP.seq_join (fun g' S' => ∃ (H9 : Heap) (l3 : (List (List UInt8))) (ao9 : Option Addr) (cap9 : Nat) (xs2 : List Value), Le H1 H9 ∧ RL H9 encStr l3 xs2 ∧ Sub [(1, (.slice ao2 p_widths.length cap2)), (2, (.slice ao3 p_marks.length cap3)), (3, (pB b1 0)), (7, (.slice ao9 l3.length cap9)), (8, (.int .i64 i1)), (1000000007, (.bool false))] g' ∧ (∀ w', S' w' → St w H [.row 9 (encStr).size l3.length (.slice ao9 l3.length cap9) xs2, .blk b1 24 [(.int .i64 p_s.actuators), (.slice ao1 p_s.steps.length cap1)]] H9 w') ∧ k2 l3 = some r) ?_ ?_
   ·
    refine WP.block (WP.seq (WP.region (Vm rfl ?_)))
    obtain ⟨r1, e1, hm⟩ := bind_some hm
    refine wo rfl (oq_con (r := (mkS r1)) call47 rfl rfl (fun w' s => ⟨_, (ref16_Name_con i1  w' H1 s.hold hG r1 e1)⟩)) ?_
    obtain ⟨s1, e2, hm⟩ := bind_some hm
    refine V rfl (ov_sadd' e2 rfl rfl rfl) (Va rfl (WL.nil (tn ?_)))
    obtain ⟨k3, hk3, hm⟩ := joinK_some hm
    refine WP.seq_join (fun g' S' => ∃ (H8 : Heap) (s10 : (List UInt8)), Le H1 H8 ∧ Sub [(1, (.slice ao2 p_widths.length cap2)), (2, (.slice ao3 p_marks.length cap3)), (3, (pB b1 0)), (7, (.slice ao5 l1.length cap5)), (8, (.int .i64 i1)), (9, (mkS s10)), (1000000007, (.bool false))] g' ∧ (∀ w', S' w' → St w H [.row 9 (encStr).size l1.length (.slice ao5 l1.length cap5) xs1, .blk b1 24 [(.int .i64 p_s.actuators), (.slice ao1 p_s.steps.length cap1)]] H8 w') ∧ k3 s10 = some r) ?_ ?_
    ·
     refine WP.seq (WP.region (Va rfl (WL.nil (tn (WP.block ?_)))))
     refine WP.loop (fun m2 g' S' => ∃ (H2 : Heap) (s2 : (List UInt8)) (i2 : Int), Le H1 H2 ∧ Sub [(1, (.slice ao2 p_widths.length cap2)), (2, (.slice ao3 p_marks.length cap3)), (3, (pB b1 0)), (7, (.slice ao5 l1.length cap5)), (8, (.int .i64 i1)), (9, (mkS s2)), (10, (.int .i64 i2)), (1000000007, (.bool false))] g' ∧ (∀ w', S' w' → St w H [.row 9 (encStr).size l1.length (.slice ao5 l1.length cap5) xs1, .blk b1 24 [(.int .i64 p_s.actuators), (.slice ao1 p_s.steps.length cap1)]] H2 w') ∧ ref16_drawn_loop2 p_s p_marks i1 k3 p_widths m2 s2 i2 = some r) ((Int.toNat ((p_s.steps.length : Int) - 0) + 1)) ⟨H1, s1, 0, (Le.refl _), (Sub.all rfl), fun w' s => s, hm⟩ ?_ ?_
     ·
      rintro g' S' ⟨_, _, _, _, _, _, hm⟩
      exact none_some hm
     rintro m2 g' S' ⟨H2, s2, i2, hle2, hsub2, hS2, hm⟩
     refine WP.sub hsub2 (WP.weaken hS2 ?_)
     rw [ref16_drawn_loop2] at hm
     replace h2 := h2.mono hle2
     replace h3 := h3.mono hle2
     replace rl2 := rl2.mono hle2
     replace h1 := h1.mono hle2
     replace hG := hG.mono hle2
     refine WP.seq (WP.seq (WP.region (Vm rfl (V rfl (ov_fieldAddr underlying24 rfl rfl rfl sizeOf22 rfl rfl) (Vl 1 isAgg22 rfl (V rfl (ov_len_slice underlying22 rfl rfl) (V rfl (ov_lss rfl rfl rfl) (WL.nil (tn ?_)))))))))
     refine WP.cond rfl (fun hc6 => ?_) (fun hc6 => ?_)
     ·
      replace hm := ite_t hc6 hm
      refine WP.skip (tn ?_)
      obtain ⟨k4, hk4, hm⟩ := joinK_some hm
      refine WP.seq_join (fun g' S' => ∃ (H7 : Heap) (s9 : (List UInt8)), Le H2 H7 ∧ Sub [(1, (.slice ao2 p_widths.length cap2)), (2, (.slice ao3 p_marks.length cap3)), (3, (pB b1 0)), (7, (.slice ao5 l1.length cap5)), (8, (.int .i64 i1)), (9, (mkS s9)), (10, (.int .i64 i2)), (1000000007, (.bool false))] g' ∧ (∀ w', S' w' → St w H [.row 9 (encStr).size l1.length (.slice ao5 l1.length cap5) xs1, .blk b1 24 [(.int .i64 p_s.actuators), (.slice ao1 p_s.steps.length cap1)]] H7 w') ∧ k4 s9 = some r) ?_ ?_
      ·
       refine WP.block ?_
       obtain ⟨k5, hk5, hm⟩ := joinK_some hm
       refine WP.seq_join (fun g' S' => ∃ (H5 : Heap) (s4 : (List UInt8)), Le H2 H5 ∧ Sub [(1, (.slice ao2 p_widths.length cap2)), (2, (.slice ao3 p_marks.length cap3)), (3, (pB b1 0)), (7, (.slice ao5 l1.length cap5)), (8, (.int .i64 i1)), (9, (mkS s4)), (10, (.int .i64 i2)), (1000000007, (.bool false))] g' ∧ (∀ w', S' w' → St w H [.row 9 (encStr).size l1.length (.slice ao5 l1.length cap5) xs1, .blk b1 24 [(.int .i64 p_s.actuators), (.slice ao1 p_s.steps.length cap1)]] H5 w') ∧ k5 s4 = some r) ?_ ?_
       ·
        refine WP.seq (WP.region (Vm rfl ?_))
        have rl3 : RL H2 (encInt .i64) ([i2] : List Int) [(.int .i64 i2)] := RL.cons (cs := [(.int .i64 i2)]) (xs := []) rfl (RL.nil _ _)
        refine ws rfl (os_buildSlice (cs := [(.int .i64 i2)]) (E := 3) (sz := 1) rfl rfl (fun _ => by kernel_rfl) rfl (by decide) (fun b2 => ?_))
        refine WL.held rl3 (fun H3 hc7 hle3 h5 => ?_)
        replace h2 := h2.mono hle3
        replace h3 := h3.mono hle3
        replace h1 := h1.mono hle3
        replace rl2 := rl2.mono hle3
        replace hG := hG.mono hle3
        refine Vm rfl (Vm rfl ?_)
        obtain ⟨r2, e3, hm⟩ := bind_some hm
        refine ws rfl (os_con call94 rfl rfl (fun w' s => (ref16_common_con p_marks i2 ao3 cap3  w' H3 s.hold h3 hc3 hG r2 e3)) (fun rr1 H4 hle4 hR1 => ?_))
        replace h2 := h2.mono hle4
        replace h1 := h1.mono hle4
        replace h5 := h5.mono hle4
        replace rl2 := rl2.mono hle4
        replace hG := hG.mono hle4
        obtain ⟨ao6, cap6, rfl, h6, hc8⟩ := hR1
        obtain ⟨r3, e4, hm⟩ := bind_some hm
        refine wo rfl (oq_con (r := (.bool r3)) call93 rfl rfl (fun w' s => ⟨_, (ref14_SameInts_con ([i2] : List Int) r2 (some ⟨b2, 0, none⟩) 1 ao6 cap6  w' H4 s.hold h5 hc7 h6 hc8 hG r3 e4)⟩)) ?_
        refine WL.nil (tn ?_)
        refine WP.cond rfl (fun hc9 => ?_) (fun hc9 => ?_)
        ·
         replace hm := ite_t hc9 hm
         refine WP.region (Vm rfl ?_)
         obtain ⟨s3, e5, hm⟩ := bind_some hm
         refine V rfl (ov_sadd' e5 rfl rfl rfl) (Va rfl (WL.nil (tn ?_)))
         exact ⟨H4, s3, (hle3.trans hle4), (Sub.all rfl), fun w' s => s, hm⟩
        replace hm := ite_f hc9 hm
        refine WP.skip (tn ?_)
        exact ⟨H4, s2, (hle3.trans hle4), (Sub.all rfl), fun w' s => s, hm⟩
       rintro g' S' ⟨H5, s4, hle5, hsub3, hS3, hm⟩
       refine WP.sub hsub3 (WP.weaken hS3 ?_)
       replace hm := (congrFun hk5 s4).symm.trans hm
       replace h2 := h2.mono hle5
       replace rl2 := rl2.mono hle5
       replace h1 := h1.mono hle5
       replace hG := hG.mono hle5
       obtain ⟨k6, hk6, hm⟩ := joinK_some hm
       refine WP.seq_join (fun g' S' => ∃ (s7 : (List UInt8)), Sub [(1, (.slice ao2 p_widths.length cap2)), (2, (.slice ao3 p_marks.length cap3)), (3, (pB b1 0)), (7, (.slice ao5 l1.length cap5)), (8, (.int .i64 i1)), (9, (mkS s7)), (10, (.int .i64 i2)), (1000000007, (.bool false))] g' ∧ (∀ w', S' w' → St w H [.row 9 (encStr).size l1.length (.slice ao5 l1.length cap5) xs1, .blk b1 24 [(.int .i64 p_s.actuators), (.slice ao1 p_s.steps.length cap1)]] H5 w') ∧ k6 s7 = some r) ?_ ?_
       ·
        refine WP.seq (WP.region (Va rfl (WL.nil (tn (WP.block ?_)))))
        refine WP.loop (fun m3 g' S' => ∃ (s5 : (List UInt8)) (i3 : Int), Sub [(1, (.slice ao2 p_widths.length cap2)), (2, (.slice ao3 p_marks.length cap3)), (3, (pB b1 0)), (7, (.slice ao5 l1.length cap5)), (8, (.int .i64 i1)), (9, (mkS s5)), (10, (.int .i64 i2)), (11, (.int .i64 i3)), (1000000007, (.bool false))] g' ∧ (∀ w', S' w' → St w H [.row 9 (encStr).size l1.length (.slice ao5 l1.length cap5) xs1, .blk b1 24 [(.int .i64 p_s.actuators), (.slice ao1 p_s.steps.length cap1)]] H5 w') ∧ ref16_drawn_loop3 p_s p_widths i1 i2 k6 m3 s5 i3 = some r) (4100) ⟨s4, 0, (Sub.all rfl), fun w' s => s, hm⟩ ?_ ?_
        ·
         rintro g' S' ⟨_, _, _, _, hm⟩
         exact none_some hm
        rintro m3 g' S' ⟨s5, i3, hsub4, hS4, hm⟩
        refine WP.sub hsub4 (WP.weaken hS4 ?_)
        rw [ref16_drawn_loop3] at hm
        refine WP.seq (WP.seq (WP.region (Vm rfl (Vm rfl (Vm rfl ?_)))))
        obtain ⟨x1, e6, hm⟩ := bind_some hm
        obtain ⟨h7, h8, h9, cs1, h10, h11⟩ := h2.get e6 (by decide)
        obtain rfl : cs1 = [(.int .i64 x1)] := h10
        refine V rfl (ov_indexAddr underlying39 sizeOf3 rfl rfl rfl h7 h8 h9) (V rfl (ov_load_elem (v := (.int .i64 x1)) isAgg3 rfl rfl h11) (V rfl (ov_lss rfl rfl rfl) (WL.nil (tn ?_))))
        refine WP.cond rfl (fun hc10 => ?_) (fun hc10 => ?_)
        ·
         replace hm := ite_t hc10 hm
         refine WP.skip (tn (WP.seq (WP.block (WP.region (Vm rfl (V rfl (ov_load_whole (i := 1) isAgg24 sizeOf24 rfl rfl rfl rfl) (Vm rfl (Vm rfl ?_))))))))
         obtain ⟨r4, e7, hm⟩ := bind_some hm
         refine wo rfl (oq_con (r := (mkS r4)) call44 rfl rfl (fun w' s => ⟨_, (ref16_First_con p_s i1 i2 ao1 cap1  w' H5 s.hold h1 hc1 hG r4 e7)⟩)) ?_
         obtain ⟨s6, e8, hm⟩ := bind_some hm
         refine V rfl (ov_sadd' e8 rfl rfl rfl) (Va rfl (WL.nil (bn (tn (WP.region (Vm rfl (V rfl (ov_add rfl rfl rfl) (Va rfl (WL.nil (tn ?_))))))))))
         exact ⟨s6, (IntKind.wrap .i64 (i3 + 1)), (Sub.all rfl), fun w' s => s, hm⟩
        replace hm := ite_f hc10 hm
        refine WP.exit (then_exit (then_exit (block_here (tn ?_))))
        exact ⟨s5, (Sub.all rfl), fun w' s => s, hm⟩
       rintro g' S' ⟨s7, hsub5, hS5, hm⟩
       refine WP.sub hsub5 (WP.weaken hS5 ?_)
       replace hm := (congrFun hk6 s7).symm.trans hm
       refine WP.region (Vm rfl (V rfl (ov_load_whole (i := 1) isAgg24 sizeOf24 rfl rfl rfl rfl) (Vm rfl (V rfl (ov_add rfl rfl rfl) ?_))))
       obtain ⟨r5, e9, hm⟩ := bind_some hm
       refine ws rfl (os_con call48 rfl rfl (fun w' s => (ref14_Behind_con p_s (IntKind.wrap .i64 (i2 + 1)) ao1 cap1  w' H5 s.hold h1 hc1 hG r5 e9)) (fun rr2 H6 hle6 hR2 => ?_))
       replace rl2 := rl2.mono hle6
       replace hG := hG.mono hle6
       obtain ⟨ao7, cap7, rfl, h12, hc11⟩ := hR2
       refine Vm rfl ?_
       obtain ⟨x2, e10, hm⟩ := bind_some hm
       obtain ⟨h13, h14, h15, cs2, h16, h17⟩ := h12.get e10 (by decide)
       obtain rfl : cs2 = [(.bool x2)] := h16
       refine V rfl (ov_indexAddr underlying49 sizeOf4 rfl rfl rfl h13 h14 h15) (V rfl (ov_load_elem (v := (.bool x2)) isAgg4 rfl rfl h17) ?_)
       obtain ⟨r6, e11, hm⟩ := bind_some hm
       refine wo rfl (oq_con (r := (mkS r6)) call89 rfl rfl (fun w' s => ⟨_, (ref16_rest_con x2  w' H6 s.hold hG r6 e11)⟩)) ?_
       obtain ⟨s8, e12, hm⟩ := bind_some hm
       refine V rfl (ov_sadd' e12 rfl rfl rfl) (Va rfl (WL.nil (bn (tn ?_))))
       exact ⟨H6, s8, (hle5.trans hle6), (Sub.all rfl), fun w' s => s, hm⟩
      rintro g' S' ⟨H7, s9, hle7, hsub6, hS6, hm⟩
      refine WP.sub hsub6 (WP.weaken hS6 ?_)
      replace hm := (congrFun hk4 s9).symm.trans hm
      replace rl2 := rl2.mono hle7
      refine WP.region (Vm rfl (V rfl (ov_add rfl rfl rfl) (Va rfl (WL.nil (tn ?_)))))
      exact ⟨H7, s9, (IntKind.wrap .i64 (i2 + 1)), (hle2.trans hle7), (Sub.all rfl), fun w' s => s, hm⟩
     replace hm := ite_f hc6 hm
     refine WP.exit (then_exit (then_exit (block_here (tn ?_))))
     exact ⟨H2, s2, hle2, (Sub.all rfl), fun w' s => s, hm⟩
    rintro g' S' ⟨H8, s10, hle8, hsub7, hS7, hm⟩
    refine WP.sub hsub7 (WP.weaken hS7 ?_)
    replace hm := (congrFun hk3 s10).symm.trans hm
    replace rl2 := rl2.mono hle8
    refine WP.region (Vm rfl (Vm rfl ?_))
    have rl4 : RL H8 encStr ([s10] : List (List UInt8)) [(mkS s10)] := RL.cons (cs := [(mkS s10)]) (xs := []) rfl (RL.nil _ _)
    refine ws rfl (os_buildSlice (cs := [(mkS s10)]) (E := 9) (sz := 1) rfl rfl (fun _ => by kernel_rfl) rfl (by decide) (fun b3 => ?_))
    obtain ⟨l2, e13, hm⟩ := bind_some hm
    refine ws rfl (os_app (i := 1) (j := 0) (En := encStr) (xs := xs1) (ys := [(mkS s10)]) underlying27 (by kernel_rfl : (prog.info? 9).map (fun i => (i.zero, i.size, i.bytes)) = some (some (mkS []), (encStr).size, 16)) rfl (by decide) rfl rfl rfl rfl rfl rfl rl2 rl4 e13 (fun ao8 cap8 rl5 => ?_))
    refine Va rfl (WL.nil (bn (tn ?_)))
    exact ⟨H8, (l1 ++ ([s10] : List (List UInt8))), ao8, cap8, (xs1 ++ [(mkS s10)]), hle8, rl5, (Sub.all rfl), fun w' s => (s.select [1, 2] (by decide) rfl), hm⟩
   rintro g' S' ⟨H9, l3, ao9, cap9, xs2, hle9, rl6, hsub8, hS8, hm⟩
   refine WP.sub hsub8 (WP.weaken hS8 ?_)
   replace hm := (congrFun hk2 l3).symm.trans hm
   refine WP.region (Vm rfl (V rfl (ov_add rfl rfl rfl) (Va rfl (WL.nil (tn ?_)))))
   exact ⟨H9, (IntKind.wrap .i64 (i1 + 1)), l3, ao9, cap9, xs2, (hle1.trans hle9), rl6, (Sub.all rfl), fun w' s => s, hm⟩
  replace hm := ite_f hc5 hm
  refine WP.exit (then_exit (then_exit (block_here (tn ?_))))
  exact ⟨H1, l1, ao5, cap5, xs1, hle1, rl2, (Sub.all rfl), fun w' s => (s.select [0] (by decide) rfl), hm⟩
 rintro g' S' ⟨H10, l4, ao10, cap10, xs3, hle10, rl7, hsub9, hS9, hm⟩
 refine WP.sub hsub9 (WP.weaken hS9 ?_)
 replace hm := (congrFun hk1 l4).symm.trans hm
 refine WP.seq (WP.region (Vm rfl (Va rfl (WL.nil (tn (WP.ret ?_))))))
 obtain rfl := Option.some.inj hm
 refine retQ_ret results54 (Res.tmp rfl Res.nil) rfl (fun w' s => ⟨s.below, ?_⟩)
 obtain ⟨h18, hc12⟩ := s.ret_row (i := 0) rfl rl7
 exact ⟨ao10, cap10, rfl, h18, hc12⟩
end Go.Proofs.YtbckcjjffbgidaaGreatDoor.W
