/- The walks. Written by our own program gen.py; Lean checks it. -/
import Derived.Test.YtbckcjjffbgidaaGreatDoorPlain
import Derived.Test.YtbckcjjffbgidaaGreatDoorEqs
import Derived.Test.YtbckcjjffbgidaaGreatDoorProg
import Derived.Test.YtbckcjjffbgidaaGreatDoorExt
import Derived.Test.YtbckcjjffbgidaaGreatDoorBuild
import Derived.Test.YtbckcjjffbgidaaGreatDoorClone
import Derived.Test.YtbckcjjffbgidaaGreatDoorWalk0
import Derived.Test.YtbckcjjffbgidaaGreatDoorWalk1
set_option linter.unusedVariables false
set_option maxRecDepth 100000
set_option maxHeartbeats 4000000
namespace Go.Proofs.YtbckcjjffbgidaaGreatDoor.W
open Go Go.RowKit Go.Proofs.Tryz
theorem sequence_Ends_con (p_s : Sequence) (p_k : Int) (ao1 : Option Addr) (cap1 : Nat) (w : World) (H : Heap) (hH : Le H (hp w)) (h1 : SL H encStep ao1 p_s.steps) (hc1 : p_s.steps.length ≤ cap1) (hG : Glob H) (r : ((List Bool) × Int)) (hm : sequence_Ends p_s p_k = some r) :
  Con prog 24 [(.agg #[(.int .i64 p_s.actuators), (.slice ao1 p_s.steps.length cap1)]), (.int .i64 p_k)] w H (fun v H' => ∃ (ao2 : Option Addr) (cap2 : Nat), v = (.tuple #[(.slice ao2 r.1.length cap2), (.int .i64 r.2)]) ∧ SL H' encBool ao2 r.1 ∧ r.1.length ≤ cap2) := by
 unfold sequence_Ends at hm
 refine con_of hH func24 rfl 25 ntmps24 rfl ?_
 refine WP.seq (WP.region ?_)
 refine ws rfl (os_box (cs := [(.int .i64 p_s.actuators), (.slice ao1 p_s.steps.length cap1)]) rfl rfl rfl (fun b1 => ?_))
 refine ws rfl (os_box (cs := [(.int .i64 p_k)]) rfl rfl rfl (fun b2 => ?_))
 refine ws rfl (os_alloc (cs := [(.slice none 0 0)]) zeroValue49 rfl rfl (fun b3 => ?_))
 refine ws rfl (os_alloc (cs := [(.int .i64 0)]) zeroValue28 rfl rfl (fun b4 => ?_))
 refine WL.nil (tn (WP.seq (WP.seq (WP.region (V rfl (ov_load_whole (i := 3) isAgg24 sizeOf24 rfl rfl rfl rfl) ?_)))))
 obtain ⟨r1, e1, hm⟩ := bind_some hm
 refine wo rfl (oq_con (r := (.int .i64 r1)) call40 rfl rfl (fun w' s => ⟨_, (sequence_Check_con p_s ao1 cap1  w' H s.hold h1 hc1 hG r1 e1)⟩)) ?_
 refine Va rfl (WL.nil (tn (WP.seq (WP.region (Vm rfl (V rfl (ov_neq rfl rfl rfl) (WL.nil (tn ?_))))))))
 refine WP.cond rfl (fun hc3 => ?_) (fun hc3 => ?_)
 ·
  replace hm := ite_t hc3 hm
  refine WP.seq (WP.region (Vm rfl ?_))
  refine ws0 rfl (os_store (i := 1) (vs := [(.slice none 0 0)]) (cs' := [(.slice none 0 0)]) sizeOf49 rfl rfl rfl rfl rfl rfl rfl rfl rfl ?_)
  refine ws0 rfl (os_store (i := 0) (vs := [(.int .i64 r1)]) (cs' := [(.int .i64 r1)]) sizeOf28 rfl rfl rfl rfl rfl rfl rfl rfl rfl ?_)
  refine WL.nil (tn (WP.ret (then_ret ?_)))
  obtain rfl := Option.some.inj hm
  refine retQ_ret results24 (Res.cell rfl (box_load (i := 1) isAgg49 rfl) (Res.cell rfl (box_load (i := 0) isAgg28 rfl) Res.nil)) rfl (fun w' s => ⟨s.below, ?_⟩)
  exact ⟨none, 0, rfl, SL.nil _ _ _, Nat.le_refl _⟩
 replace hm := ite_f hc3 hm
 refine WP.skip (tn (WP.seq (WP.seq (WP.region (V rfl (ov_load_whole (i := 3) isAgg24 sizeOf24 rfl rfl rfl rfl) ?_)))))
 refine ws rfl (os_inline (cap := []) (vs := [(.agg #[(.int .i64 p_s.actuators), (.slice ao1 p_s.steps.length cap1)])]) call59 rfl rfl rfl func59 rfl 4 ntmps59 rfl (fun w' s => ?_))
 refine WP.seq (WP.region ?_)
 refine ws rfl (os_box (cs := [(.int .i64 p_s.actuators), (.slice ao1 p_s.steps.length cap1)]) rfl rfl rfl (fun b5 => ?_))
 refine Va rfl (WL.nil (tn (WP.seq (WP.region (V rfl (ov_makeFunc' (first := []) rfl rfl rfl) (Va rfl (WL.nil (tn (WP.ret ?_)))))))))
 refine retQ_ret (v := (.func (.func 96) #[] #[(pB b5 0)])) results59 (Res.tmp rfl Res.nil) rfl (fun w' s => ⟨_, ?_, s⟩)
 refine WL.nil (tn (WP.block ?_))
 refine WP.range (ps := [16, 17]) (cap := [(pB b5 0)]) call96 rfl func96 rfl 29 ntmps96 rfl (fun l1 D1 R1 hr1 => ?_)
 refine WP.seq (WP.region ?_)
 refine ws rfl (os_alloc (cs := [(.bool false), (.bool false), (.bool false), (.bool false), (.bool false), (.bool false)]) zeroValue101 rfl rfl (fun b6 => ?_))
 refine WL.nil (tn ?_)
 obtain ⟨k1, hk1, hm⟩ := joinK_some hm
 refine WP.seq_join (fun g' S' => ∃ (c7 : Bool) (c8 : Bool) (c9 : Bool) (c10 : Bool) (c11 : Bool) (c12 : Bool), Sub [(0, (.func (.yield l1) #[] #[])), (1, (pB b5 0)), (3, (pB b6 0)), (1000000007, (.bool false))] g' ∧ (∀ w', S' w' → St w H [.blk b6 101 [(.bool c7), (.bool c8), (.bool c9), (.bool c10), (.bool c11), (.bool c12)], .obj l1 (R1 .ready none), .obj D1 (.deferred (some [])), .blk b5 24 [(.int .i64 p_s.actuators), (.slice ao1 p_s.steps.length cap1)], .blk b4 28 [(.int .i64 0)], .blk b3 49 [(.slice none 0 0)], .blk b2 3 [(.int .i64 p_k)], .blk b1 24 [(.int .i64 p_s.actuators), (.slice ao1 p_s.steps.length cap1)]] H w') ∧ k1 c7 c8 c9 c10 c11 c12 = some r) ?_ ?_
 ·
  refine WP.seq (WP.region (V rfl (ov_fieldAddr underlying24 rfl rfl rfl sizeOf22 rfl rfl) (Vl 3 isAgg22 rfl (V rfl (ov_len_slice underlying22 rfl rfl) (Vm rfl (WL.nil (tn (WP.block ?_))))))))
  refine WP.loop (fun m1 g' S' => ∃ (i1 : Int) (c1 : Bool) (c2 : Bool) (c3 : Bool) (c4 : Bool) (c5 : Bool) (c6 : Bool), Sub [(0, (.func (.yield l1) #[] #[])), (1, (pB b5 0)), (3, (pB b6 0)), (7, (.slice ao1 p_s.steps.length cap1)), (8, (.int .i64 (p_s.steps.length : Int))), (9, (.int .i64 i1)), (1000000007, (.bool false))] g' ∧ (∀ w', S' w' → St w H [.blk b6 101 [(.bool c1), (.bool c2), (.bool c3), (.bool c4), (.bool c5), (.bool c6)], .obj l1 (R1 .ready none), .obj D1 (.deferred (some [])), .blk b5 24 [(.int .i64 p_s.actuators), (.slice ao1 p_s.steps.length cap1)], .blk b4 28 [(.int .i64 0)], .blk b3 49 [(.slice none 0 0)], .blk b2 3 [(.int .i64 p_k)], .blk b1 24 [(.int .i64 p_s.actuators), (.slice ao1 p_s.steps.length cap1)]] H w') ∧ sequence_Ends_loop1 p_s p_k k1 m1 i1 c1 c2 c3 c4 c5 c6 = some r) ((Int.toNat ((p_s.steps.length : Int) - 0) + 1)) ⟨0, false, false, false, false, false, false, (Sub.all rfl), fun w' s => s, hm⟩ ?_ ?_
  ·
   rintro g' S' ⟨_, _, _, _, _, _, _, _, _, hm⟩
   exact none_some hm
  rintro m1 g' S' ⟨i1, c1, c2, c3, c4, c5, c6, hsub1, hS1, hm⟩
  refine WP.sub hsub1 (WP.weaken hS1 ?_)
  rw [sequence_Ends_loop1] at hm
  refine WP.seq (WP.region (V rfl (ov_lss rfl rfl rfl) (WL.nil (tn (WP.seq ?_)))))
  refine WP.cond rfl (fun hc4 => ?_) (fun hc4 => ?_)
  ·
   replace hm := ite_t hc4 hm
   refine WP.skip (tn (WP.seq (WP.block (WP.seq (WP.region (Vm rfl ?_))))))
   obtain ⟨x1, e2, hm⟩ := bind_some hm
   obtain ⟨h4, h5, h6, cs1, h7, h8⟩ := h1.get e2 (by decide)
   obtain ⟨ao3, cap3, rfl, h3, hc5⟩ := h7
   refine V rfl (ov_indexAddr underlying22 sizeOf45 rfl rfl rfl h4 h5 h6) (V rfl (ov_load_elems (vs := [(.slice ao3 x1.strokes.length cap3), (.int .i64 x1.wait)]) isAgg45 sizeOf45 rfl rfl rfl h8 h6) ?_)
   refine ws rfl (os_alloc (cs := [(.slice none 0 0), (.int .i64 0)]) zeroValue45 rfl rfl (fun b7 => ?_))
   refine Va rfl ?_
   refine ws0 rfl (os_store (i := 0) (vs := [(.slice ao3 x1.strokes.length cap3), (.int .i64 x1.wait)]) (cs' := [(.slice ao3 x1.strokes.length cap3), (.int .i64 x1.wait)]) sizeOf45 rfl rfl rfl rfl rfl rfl rfl rfl rfl ?_)
   refine WL.nil (tn (WP.seq (WP.seq (WP.region (Vm rfl (Vm rfl (V rfl (ov_load_whole (i := 1) isAgg101 sizeOf101 rfl rfl rfl rfl) ?_)))))))
   refine WL.yield (i := 2) (vs := [(.int .i64 i1), (.agg #[(.bool c1), (.bool c2), (.bool c3), (.bool c4), (.bool c5), (.bool c6)])]) (Runs.free rfl) rfl rfl rfl rfl rfl hr1 rfl rfl rfl ?_
   refine WP.seq (WP.region (Va rfl (WL.nil (tn (WP.region ?_)))))
   refine ws rfl (os_alloc (cs := [(.bool false), (.bool false), (.bool false), (.bool false), (.bool false), (.bool false)]) zeroValue101 rfl rfl (fun b8 => ?_))
   refine ws0 rfl (os_store (i := 0) (vs := [(.bool c1), (.bool c2), (.bool c3), (.bool c4), (.bool c5), (.bool c6)]) (cs' := [(.bool c1), (.bool c2), (.bool c3), (.bool c4), (.bool c5), (.bool c6)]) sizeOf101 rfl rfl rfl rfl rfl rfl rfl rfl rfl ?_)
   refine WL.nil (tn ?_)
   refine begin_of (i := 3) rfl ?_
   refine WP.block (WP.seq (WP.region (Vm rfl (Vl 8 isAgg3 rfl (V rfl (ov_eql rfl rfl rfl) (WL.nil (tn ?_)))))))
   refine WP.cond rfl (fun hc6 => ?_) (fun hc6 => ?_)
   ·
    replace hm := ite_t hc6 hm
    refine WP.seq (WP.region (V rfl (ov_fieldAddr underlying24 rfl rfl rfl sizeOf3 rfl rfl) (Vl 9 isAgg3 rfl ?_)))
    refine WL.box_held (fun H1 hle1 hc7 => ?_)
    have h9 : SL H1 encBool (some ⟨b8, 0, none⟩) ([c1, c2, c3, c4, c5, c6] : List Bool) := sl_boxB hc7
    replace h3 := h3.mono hle1
    replace hG := hG.mono hle1
    obtain ⟨l2, e3, hm⟩ := bind_some hm
    obtain ⟨ao4, cap4, h10, h11, hc8⟩ := sl_arr_h h9 e3
    refine V rfl (h10 underlying101 sizeOf4 rfl rfl rfl) ?_
    obtain ⟨l3, e4, hm⟩ := bind_some hm
    refine ws rfl (os_cloneB rfl rfl h11 hc8 e4 (fun ao5 cap5 xs1 rl1 => ?_))
    refine ws0 rfl (os_store (i := 7) (vs := [(.slice ao5 l2.length cap5)]) (cs' := [(.slice ao5 l2.length cap5)]) sizeOf49 rfl rfl rfl rfl rfl rfl rfl rfl rfl ?_)
    refine ws0 rfl (os_store (i := 6) (vs := [(.int .i64 0)]) (cs' := [(.int .i64 0)]) sizeOf28 rfl rfl rfl rfl rfl rfl rfl rfl rfl ?_)
    refine WL.nil (tn (WP.ret (block_ret ?_)))
    refine round_ret (i := 3) rfl ?_
    refine V rfl (ov_not rfl rfl) (WL.nil (tn (WP.cond_true rfl (WP.ret (then_ret (block_ret (then_ret (then_ret (block_ret (then_ret ?_))))))))))
    refine retQ_ret (v := (.tuple #[])) results96 Res.nil rfl (fun w' s => ⟨St w H [.obj l1 (R1 .done (some .ret)), .obj D1 (.deferred (some [])), .row 4 (encBool).size l2.length (.slice ao5 l2.length cap5) xs1, .blk b7 45 [(.slice ao3 x1.strokes.length cap3), (.int .i64 x1.wait)], .blk b6 101 [(.bool c1), (.bool c2), (.bool c3), (.bool c4), (.bool c5), (.bool c6)], .blk b5 24 [(.int .i64 p_s.actuators), (.slice ao1 p_s.steps.length cap1)], .blk b4 28 [(.int .i64 0)], .blk b3 49 [(.slice ao5 l2.length cap5)], .blk b2 3 [(.int .i64 p_k)], .blk b1 24 [(.int .i64 p_s.actuators), (.slice ao1 p_s.steps.length cap1)]] H1, ?_, (s.select [3, 4, 0, 1, 2, 5, 6, 7, 8, 9] (by decide) rfl)⟩)
    refine after_ret ?_
    refine block_ret (then_ret ?_)
    obtain rfl := Option.some.inj hm
    refine retQ_retM (i := 0) rfl results24 (Res.cell rfl (box_load (i := 5) isAgg49 rfl) (Res.cell rfl (box_load (i := 4) isAgg28 rfl) Res.nil)) rfl (fun w' s => ⟨s.below, ?_⟩)
    obtain ⟨h12, hc9⟩ := s.ret_row (i := 0) rfl rl1
    exact ⟨ao5, cap5, rfl, h12, hc9⟩
   replace hm := ite_f hc6 hm
   refine WP.skip (bn ?_)
   refine round_normal (i := 3) rfl ?_
   refine V rfl (ov_not rfl rfl) (WL.nil (tn (WP.cond_false rfl (WP.skip (tn (WP.region (V rfl (ov_load_whole (i := 2) isAgg101 sizeOf101 rfl rfl rfl rfl) (V rfl (ov_load_whole (i := 1) isAgg45 sizeOf45 rfl rfl rfl rfl) ?_))))))))
   obtain ⟨r2, e5, hm⟩ := bind_some hm
   refine wo rfl (oq_con (r := (.agg #[(.bool r2.a0), (.bool r2.a1), (.bool r2.a2), (.bool r2.a3), (.bool r2.a4), (.bool r2.a5)])) call78 rfl rfl (fun w' s => ⟨_, (sequence_ends_behind_con (Ends6.mk c1 c2 c3 c4 c5 c6) x1 ao3 cap3  w' H s.hold h3 hc5 hG r2 e5)⟩)) ?_
   refine ws0 rfl (os_store (i := 2) (vs := [(.bool r2.a0), (.bool r2.a1), (.bool r2.a2), (.bool r2.a3), (.bool r2.a4), (.bool r2.a5)]) (cs' := [(.bool r2.a0), (.bool r2.a1), (.bool r2.a2), (.bool r2.a3), (.bool r2.a4), (.bool r2.a5)]) sizeOf101 rfl rfl rfl rfl rfl rfl rfl rfl rfl ?_)
   refine WL.nil (bn (tn (WP.region (V rfl (ov_add rfl rfl rfl) (Vm rfl (WL.nil (tn ?_)))))))
   exact ⟨(IntKind.wrap .i64 (i1 + 1)), r2.a0, r2.a1, r2.a2, r2.a3, r2.a4, r2.a5, (Sub.all rfl), fun w' s => (s.select [2, 3, 4, 5, 6, 7, 8, 9] (by decide) rfl), hm⟩
  replace hm := ite_f hc4 hm
  refine WP.exit (then_exit (then_exit (block_here (tn ?_))))
  exact ⟨c1, c2, c3, c4, c5, c6, (Sub.all rfl), fun w' s => s, hm⟩
 rintro g' S' ⟨c7, c8, c9, c10, c11, c12, hsub2, hS2, hm⟩
 refine WP.sub hsub2 (WP.weaken hS2 ?_)
 replace hm := (congrFun (congrFun (congrFun (congrFun (congrFun (congrFun hk1 c7) c8) c9) c10) c11) c12).symm.trans hm
 refine WP.region (Vm rfl (V rfl (ov_fieldAddr underlying24 rfl rfl rfl sizeOf22 rfl rfl) (Vl 3 isAgg22 rfl (V rfl (ov_len_slice underlying22 rfl rfl) (V rfl (ov_load_whole (i := 0) isAgg101 sizeOf101 rfl rfl rfl rfl) ?_)))))
 refine WL.yield (i := 1) (vs := [(.int .i64 (p_s.steps.length : Int)), (.agg #[(.bool c7), (.bool c8), (.bool c9), (.bool c10), (.bool c11), (.bool c12)])]) (Runs.free rfl) rfl rfl rfl rfl rfl hr1 rfl rfl rfl ?_
 refine WP.seq (WP.region (Va rfl (WL.nil (tn (WP.region ?_)))))
 refine ws rfl (os_alloc (cs := [(.bool false), (.bool false), (.bool false), (.bool false), (.bool false), (.bool false)]) zeroValue101 rfl rfl (fun b9 => ?_))
 refine ws0 rfl (os_store (i := 0) (vs := [(.bool c7), (.bool c8), (.bool c9), (.bool c10), (.bool c11), (.bool c12)]) (cs' := [(.bool c7), (.bool c8), (.bool c9), (.bool c10), (.bool c11), (.bool c12)]) sizeOf101 rfl rfl rfl rfl rfl rfl rfl rfl rfl ?_)
 refine WL.nil (tn ?_)
 refine begin_of (i := 2) rfl ?_
 refine WP.block (WP.seq (WP.region (Vm rfl (Vl 7 isAgg3 rfl (V rfl (ov_eql rfl rfl rfl) (WL.nil (tn ?_)))))))
 refine WP.cond rfl (fun hc10 => ?_) (fun hc10 => ?_)
 ·
  replace hm := ite_t hc10 hm
  refine WP.seq (WP.region (V rfl (ov_fieldAddr underlying24 rfl rfl rfl sizeOf3 rfl rfl) (Vl 8 isAgg3 rfl ?_)))
  refine WL.box_held (fun H2 hle2 hc11 => ?_)
  have h13 : SL H2 encBool (some ⟨b9, 0, none⟩) ([c7, c8, c9, c10, c11, c12] : List Bool) := sl_boxB hc11
  obtain ⟨l4, e6, hm⟩ := bind_some hm
  obtain ⟨ao6, cap6, h14, h15, hc12⟩ := sl_arr_h h13 e6
  refine V rfl (h14 underlying101 sizeOf4 rfl rfl rfl) ?_
  obtain ⟨l5, e7, hm⟩ := bind_some hm
  refine ws rfl (os_cloneB rfl rfl h15 hc12 e7 (fun ao7 cap7 xs2 rl2 => ?_))
  refine ws0 rfl (os_store (i := 6) (vs := [(.slice ao7 l4.length cap7)]) (cs' := [(.slice ao7 l4.length cap7)]) sizeOf49 rfl rfl rfl rfl rfl rfl rfl rfl rfl ?_)
  refine ws0 rfl (os_store (i := 5) (vs := [(.int .i64 0)]) (cs' := [(.int .i64 0)]) sizeOf28 rfl rfl rfl rfl rfl rfl rfl rfl rfl ?_)
  refine WL.nil (tn (WP.ret (block_ret ?_)))
  refine round_ret (i := 2) rfl ?_
  refine WL.nil ?_
  refine retQ_end (v := (.tuple #[])) results96 Res.nil rfl (fun w' s => ⟨St w H [.obj l1 (R1 .done (some .ret)), .obj D1 (.deferred (some [])), .row 4 (encBool).size l4.length (.slice ao7 l4.length cap7) xs2, .blk b6 101 [(.bool c7), (.bool c8), (.bool c9), (.bool c10), (.bool c11), (.bool c12)], .blk b5 24 [(.int .i64 p_s.actuators), (.slice ao1 p_s.steps.length cap1)], .blk b4 28 [(.int .i64 0)], .blk b3 49 [(.slice ao7 l4.length cap7)], .blk b2 3 [(.int .i64 p_k)], .blk b1 24 [(.int .i64 p_s.actuators), (.slice ao1 p_s.steps.length cap1)]] H2, ?_, (s.select [2, 3, 0, 1, 4, 5, 6, 7, 8] (by decide) rfl)⟩)
  refine after_ret ?_
  refine block_ret (then_ret ?_)
  obtain rfl := Option.some.inj hm
  refine retQ_retM (i := 0) rfl results24 (Res.cell rfl (box_load (i := 4) isAgg49 rfl) (Res.cell rfl (box_load (i := 3) isAgg28 rfl) Res.nil)) rfl (fun w' s => ⟨s.below, ?_⟩)
  obtain ⟨h16, hc13⟩ := s.ret_row (i := 0) rfl rl2
  exact ⟨ao7, cap7, rfl, h16, hc13⟩
 replace hm := ite_f hc10 hm
 refine WP.skip (bn ?_)
 refine round_normal (i := 2) rfl ?_
 refine WL.nil ?_
 refine retQ_end (v := (.tuple #[])) results96 Res.nil rfl (fun w' s => ⟨St w H [.obj l1 (R1 .ready none), .obj D1 (.deferred (some [])), .blk b9 101 [(.bool c7), (.bool c8), (.bool c9), (.bool c10), (.bool c11), (.bool c12)], .blk b6 101 [(.bool c7), (.bool c8), (.bool c9), (.bool c10), (.bool c11), (.bool c12)], .blk b5 24 [(.int .i64 p_s.actuators), (.slice ao1 p_s.steps.length cap1)], .blk b4 28 [(.int .i64 0)], .blk b3 49 [(.slice none 0 0)], .blk b2 3 [(.int .i64 p_k)], .blk b1 24 [(.int .i64 p_s.actuators), (.slice ao1 p_s.steps.length cap1)]] H, ?_, (s.select [2, 3, 0, 1, 4, 5, 6, 7, 8] (by decide) rfl)⟩)
 refine after_normal ?_
 refine bn (tn (WP.seq (WP.region ?_)))
 refine ws0 rfl (os_store (i := 5) (vs := [(.slice none 0 0)]) (cs' := [(.slice none 0 0)]) sizeOf49 rfl rfl rfl rfl rfl rfl rfl rfl rfl ?_)
 refine ws0 rfl (os_store (i := 4) (vs := [(.int .i64 2)]) (cs' := [(.int .i64 2)]) sizeOf28 rfl rfl rfl rfl rfl rfl rfl rfl rfl ?_)
 refine WL.nil (tn (WP.ret ?_))
 obtain rfl := Option.some.inj hm
 refine retQ_retM (i := 0) rfl results24 (Res.cell rfl (box_load (i := 4) isAgg49 rfl) (Res.cell rfl (box_load (i := 3) isAgg28 rfl) Res.nil)) rfl (fun w' s => ⟨s.below, ?_⟩)
 exact ⟨none, 0, rfl, SL.nil _ _ _, Nat.le_refl _⟩
end Go.Proofs.YtbckcjjffbgidaaGreatDoor.W
