import Derived.Test.YtgpfgnpdbmbknaaGreatDoorPlain
import Derived.Test.YtgpfgnpdbmbknaaGreatDoorEqs
import Derived.Test.YtgpfgnpdbmbknaaGreatDoorProg
import Derived.Test.YtgpfgnpdbmbknaaGreatDoorExt
import Derived.Test.YtgpfgnpdbmbknaaGreatDoorClone
import Derived.Test.YtgpfgnpdbmbknaaGreatDoorSort
import Derived.Test.YtgpfgnpdbmbknaaGreatDoorRep
import Derived.Test.YtgpfgnpdbmbknaaGreatDoorWalk0
import Derived.Test.YtgpfgnpdbmbknaaGreatDoorWalk4
import Derived.Test.YtgpfgnpdbmbknaaGreatDoorWalk5
import Derived.Test.YtgpfgnpdbmbknaaGreatDoorWalk6
set_option linter.unusedVariables false
set_option maxRecDepth 100000
set_option maxHeartbeats 4000000
namespace Go.Proofs.YtgpfgnpdbmbknaaGreatDoor.W
open Go Go.RowKit Go.Proofs.Tryz
theorem law15_ProgramRepeats_con (p_x : Node) (p_on : (List (List UInt8))) (p_count : Int) (ao1 : Option Addr) (cap1 : Nat) (ao2 : Option Addr) (cap2 : Nat) (ao3 : Option Addr) (cap3 : Nat) (w : World) (H : Heap) (hH : Le H (hp w)) (h1 : SL H encStroke ao1 p_x.step.strokes) (hc1 : p_x.step.strokes.length ≤ cap1) (h2 : SL H encNode ao2 p_x.nodes) (hc2 : p_x.nodes.length ≤ cap2) (h3 : SL H encStr ao3 p_on) (hc3 : p_on.length ≤ cap3) (hG : Glob H) (r : Bool) (hm : law15_ProgramRepeats p_x p_on p_count = some r) :
  Con prog 10 [(.agg #[(.int .i64 p_x.kind), (.slice ao1 p_x.step.strokes.length cap1), (.int .i64 p_x.step.wait), (.int .i64 p_x.count), (mkS p_x.name), (.slice ao2 p_x.nodes.length cap2)]), (.slice ao3 p_on.length cap3), (.int .u8 p_count)] w H (fun v _ => v = (.bool r)) := by
 unfold law15_ProgramRepeats at hm
 refine con_of hH func10 rfl 151 ntmps10 rfl ?_
 refine WP.seq (WP.region ?_)
 refine ws rfl (os_box (cs := [(.int .i64 p_x.kind), (.slice ao1 p_x.step.strokes.length cap1), (.int .i64 p_x.step.wait), (.int .i64 p_x.count), (mkS p_x.name), (.slice ao2 p_x.nodes.length cap2)]) rfl rfl rfl (fun b1 => ?_))
 refine Va rfl (WL.nil (tn (WP.seq (WP.region (Vm rfl (V rfl (ov_convert_int underlying5 underlying3 rfl rfl) (V rfl (ov_rem rfl rfl rfl (by decide)) (V rfl (ov_add rfl rfl rfl) (Va rfl (WL.nil (tn (WP.seq (WP.seq ?_)))))))))))))
 refine WP.region (V rfl (ov_load_whole (i := 0) isAgg28 sizeOf28 rfl rfl rfl rfl) (Vm rfl ?_))
 obtain ⟨r1, e1, hm⟩ := bind_some hm
 refine wo rfl (oq_con (r := (.bool r1)) call24 rfl rfl (fun w' s => ⟨_, (law15_right_con p_x p_on ao1 cap1 ao2 cap2 ao3 cap3  w' H s.hold h1 hc1 h2 hc2 h3 hc3 hG r1 e1)⟩)) ?_
 refine V rfl (ov_not rfl rfl) (Vm rfl ?_)
 obtain ⟨c1, e2, hm⟩ := bind_some hm
 refine WL.cut_bool 5 33 (x := c1) ?_ ?_
 ·
  rcases Bool.eq_false_or_eq_true (!r1) with hc4 | hc4
  ·
   replace hm := ite_t hc4 e2
   refine Vi rfl (Idle.no rfl rfl rfl hc4) (Vi rfl (Idle.no rfl rfl rfl hc4) (Vi rfl (Idle.no rfl rfl rfl hc4) (Vi rfl (Idle.no rfl rfl rfl hc4) (V rfl (ov_pick_true rfl (guard_eq rfl hc4) rfl) ?_))))
   exact WL.nil ⟨Sub.cons' rfl (congrArg Value.bool (Option.some.inj hm)) (Sub.dropn 5 rfl), fun _ s => s⟩
  replace hm := ite_f hc4 e2
  refine wy hc4 rfl (ov_load_whole (i := 0) isAgg28 sizeOf28 rfl rfl rfl rfl) ?_
  refine wy hc4 rfl (ov_move rfl rfl) ?_
  obtain ⟨r2, e3, hm⟩ := bind_some hm
  refine WL.quiet (Runs.yes rfl rfl rfl hc4) rfl rfl (oq_con (r := (.bool r2)) call15 rfl rfl (fun w' s => ⟨_, (law15_few_con p_x p_on ao1 cap1 ao2 cap2 ao3 cap3  w' H s.hold h1 hc1 h2 hc2 h3 hc3 hG r2 e3)⟩)) ?_
  refine wy hc4 rfl (ov_not rfl rfl) ?_
  refine V rfl (ov_pick_false rfl (guard_eq rfl hc4) rfl) ?_
  exact WL.nil ⟨Sub.cons' rfl (congrArg Value.bool (Option.some.inj hm)) (Sub.dropn 5 rfl), fun _ s => s⟩
 refine WL.nil (tn ?_)
 refine WP.cond rfl (fun hc5 => ?_) (fun hc5 => ?_)
 ·
  replace hm := ite_t hc5 hm
  refine WP.seq (WP.region ?_)
  obtain ⟨r3, e4, hm⟩ := bind_some hm
  refine wo rfl (oq_con (r := (.bool r3)) call11 rfl rfl (fun w' s => ⟨_, (law15_awake_con   w' H s.hold hG r3 e4)⟩)) ?_
  refine Va rfl (WL.nil (tn (WP.ret (then_ret ?_))))
  obtain rfl := Option.some.inj hm
  refine retQ_ret results10 (Res.tmp rfl Res.nil) rfl (fun w' s => ⟨s.below, ?_⟩)
  exact rfl
 replace hm := ite_f hc5 hm
 refine WP.skip (tn (WP.seq (WP.region (V rfl (ov_load_whole (i := 0) isAgg28 sizeOf28 rfl rfl rfl rfl) (Vm rfl ?_)))))
 obtain ⟨r4, e5, hm⟩ := bind_some hm
 refine ws rfl (os_con call18 rfl rfl (fun w' s => (program_Unfold_con p_x p_on ao1 cap1 ao2 cap2 ao3 cap3  w' H s.hold h1 hc1 h2 hc2 h3 hc3 hG r4 e5)) (fun rr1 H1 hle1 hR1 => ?_))
 replace h1 := h1.mono hle1
 replace h2 := h2.mono hle1
 replace h3 := h3.mono hle1
 replace hG := hG.mono hle1
 obtain ⟨ao4, cap4, rfl, h4, hc6⟩ := hR1
 refine Vm rfl (Ve rfl (Ve rfl (Va rfl (Va rfl (WL.nil (tn (WP.seq (WP.region (V rfl (ov_load_whole (i := 0) isAgg28 sizeOf28 rfl rfl rfl rfl) ?_)))))))))
 obtain ⟨r5, e6, hm⟩ := bind_some hm
 refine ws rfl (os_con call29 rfl rfl (fun w' s => (program_Inputs_con p_x ao1 cap1 ao2 cap2  w' H1 s.hold h1 hc1 h2 hc2 hG r5 e6)) (fun rr2 H2 hle2 hR2 => ?_))
 replace h1 := h1.mono hle2
 replace h2 := h2.mono hle2
 replace h3 := h3.mono hle2
 replace h4 := h4.mono hle2
 replace hG := hG.mono hle2
 obtain ⟨ao5, cap5, rfl, h5, hc7⟩ := hR2
 refine Vm rfl (Ve rfl (Ve rfl (Va rfl (Va rfl (WL.nil (tn (WP.seq (WP.seq (WP.region (Vm rfl (V rfl (ov_neq rfl rfl rfl) (WL.nil (tn ?_)))))))))))))
 refine WP.cond rfl (fun hc8 => ?_) (fun hc8 => ?_)
 ·
  replace hm := ite_t hc8 hm
  refine WP.seq (WP.region (Va rfl (WL.nil (tn (WP.ret (then_ret ?_))))))
  obtain rfl := Option.some.inj hm
  refine retQ_ret results10 (Res.tmp rfl Res.nil) rfl (fun w' s => ⟨s.below, ?_⟩)
  exact rfl
 replace hm := ite_f hc8 hm
 refine WP.skip (tn (WP.seq (WP.region (Va rfl (WL.nil (tn ?_))))))
 obtain ⟨k1, hk1, hm⟩ := joinK_some hm
 refine WP.seq_join (fun g' S' => ∃ (l4 : (List (List UInt8))) (ao9 : Option Addr) (cap9 : Nat) (xs3 : List Value), RL H2 encStr l4 xs3 ∧ Sub [(1, (.slice ao3 p_on.length cap3)), (3, (pB b1 0)), (7, (.int .i64 (IntKind.wrap .i64 ((Int.tmod (IntKind.wrap .i64 p_count) 64) + 1)))), (8, (.slice ao4 r4.1.length cap4)), (9, (.int .i64 r4.2)), (12, (.slice ao9 l4.length cap9)), (1000000007, (.bool false))] g' ∧ (∀ w', S' w' → St w H [.row 9 (encStr).size l4.length (.slice ao9 l4.length cap9) xs3, .blk b1 28 [(.int .i64 p_x.kind), (.slice ao1 p_x.step.strokes.length cap1), (.int .i64 p_x.step.wait), (.int .i64 p_x.count), (mkS p_x.name), (.slice ao2 p_x.nodes.length cap2)]] H2 w') ∧ k1 l4 = some r) ?_ ?_
 ·
  refine WP.seq (WP.region (Vm rfl (V rfl (ov_len_slice underlying36 rfl rfl) (Vm rfl (WL.nil (tn (WP.block ?_)))))))
  have rl1 := RL.nil (α := (List UInt8)) H2 encStr
  refine WP.weaken (fun _ s => s.nilrow 9 (encStr).size) ?_
  refine WP.loop (fun m1 g' S' => ∃ (i1 : Int) (l1 : (List (List UInt8))) (ao6 : Option Addr) (cap6 : Nat) (xs1 : List Value), RL H2 encStr l1 xs1 ∧ Sub [(1, (.slice ao3 p_on.length cap3)), (3, (pB b1 0)), (7, (.int .i64 (IntKind.wrap .i64 ((Int.tmod (IntKind.wrap .i64 p_count) 64) + 1)))), (8, (.slice ao4 r4.1.length cap4)), (9, (.int .i64 r4.2)), (10, (.slice ao5 r5.1.length cap5)), (12, (.slice ao6 l1.length cap6)), (48, (.slice ao3 p_on.length cap3)), (49, (.int .i64 (p_on.length : Int))), (50, (.int .i64 i1)), (1000000007, (.bool false))] g' ∧ (∀ w', S' w' → St w H [.row 9 (encStr).size l1.length (.slice ao6 l1.length cap6) xs1, .blk b1 28 [(.int .i64 p_x.kind), (.slice ao1 p_x.step.strokes.length cap1), (.int .i64 p_x.step.wait), (.int .i64 p_x.count), (mkS p_x.name), (.slice ao2 p_x.nodes.length cap2)]] H2 w') ∧ law15_ProgramRepeats_loop1 p_on r5 k1 m1 i1 l1 = some r) ((Int.toNat ((p_on.length : Int) - 0) + 1)) ⟨0, ([] : List (List UInt8)), none, 0, [], rl1, (Sub.all rfl), fun w' s => s, hm⟩ ?_ ?_
  ·
   rintro g' S' ⟨_, _, _, _, _, _, _, _, hm⟩
   exact none_some hm
  rintro m1 g' S' ⟨i1, l1, ao6, cap6, xs1, rl2, hsub1, hS1, hm⟩
  refine WP.sub hsub1 (WP.weaken hS1 ?_)
  rw [law15_ProgramRepeats_loop1] at hm
  refine WP.seq (WP.region (V rfl (ov_lss rfl rfl rfl) (WL.nil (tn (WP.seq ?_)))))
  refine WP.cond rfl (fun hc9 => ?_) (fun hc9 => ?_)
  ·
   replace hm := ite_t hc9 hm
   refine WP.skip (tn ?_)
   obtain ⟨k2, hk2, hm⟩ := joinK_some hm
   refine WP.seq_join (fun g' S' => ∃ (l3 : (List (List UInt8))) (ao8 : Option Addr) (cap8 : Nat) (xs2 : List Value), RL H2 encStr l3 xs2 ∧ Sub [(1, (.slice ao3 p_on.length cap3)), (3, (pB b1 0)), (7, (.int .i64 (IntKind.wrap .i64 ((Int.tmod (IntKind.wrap .i64 p_count) 64) + 1)))), (8, (.slice ao4 r4.1.length cap4)), (9, (.int .i64 r4.2)), (10, (.slice ao5 r5.1.length cap5)), (12, (.slice ao8 l3.length cap8)), (48, (.slice ao3 p_on.length cap3)), (49, (.int .i64 (p_on.length : Int))), (50, (.int .i64 i1)), (1000000007, (.bool false))] g' ∧ (∀ w', S' w' → St w H [.row 9 (encStr).size l3.length (.slice ao8 l3.length cap8) xs2, .blk b1 28 [(.int .i64 p_x.kind), (.slice ao1 p_x.step.strokes.length cap1), (.int .i64 p_x.step.wait), (.int .i64 p_x.count), (mkS p_x.name), (.slice ao2 p_x.nodes.length cap2)]] H2 w') ∧ k2 l3 = some r) ?_ ?_
   ·
    refine WP.block (WP.seq (WP.region ?_))
    obtain ⟨x1, e7, hm⟩ := bind_some hm
    obtain ⟨h6, h7, h8, cs1, h9, h10⟩ := h3.get e7 (by decide)
    obtain rfl : cs1 = [(mkS x1)] := h9
    refine V rfl (ov_indexAddr underlying36 sizeOf9 rfl rfl rfl h6 h7 h8) (V rfl (ov_load_elem (v := (mkS x1)) isAgg9 rfl rfl h10) (Va rfl (WL.nil (tn (WP.seq (WP.region (Vm rfl (Vm rfl ?_))))))))
    obtain ⟨r6, e8, hm⟩ := bind_some hm
    refine wo rfl (oq_con (r := (.bool r6)) call40 rfl rfl (fun w' s => ⟨_, (slices_Contains_stringstring_con r5.1 x1 ao5 cap5  w' H2 s.hold h5 hc7 hG r6 e8)⟩)) ?_
    refine WL.nil (tn ?_)
    refine WP.cond rfl (fun hc10 => ?_) (fun hc10 => ?_)
    ·
     replace hm := ite_t hc10 hm
     refine WP.region (Vm rfl (Vm rfl ?_))
     have rl3 : RL H2 encStr ([x1] : List (List UInt8)) [(mkS x1)] := RL.cons (cs := [(mkS x1)]) (xs := []) rfl (RL.nil _ _)
     refine ws rfl (os_buildSlice (cs := [(mkS x1)]) (E := 9) (sz := 1) rfl rfl (fun _ => by kernel_rfl) rfl (by decide) (fun b2 => ?_))
     obtain ⟨l2, e9, hm⟩ := bind_some hm
     refine ws rfl (os_app (i := 1) (j := 0) (En := encStr) (xs := xs1) (ys := [(mkS x1)]) underlying36 (by kernel_rfl : (prog.info? 9).map (fun i => (i.zero, i.size, i.bytes)) = some (some (mkS []), (encStr).size, 16)) rfl (by decide) rfl rfl rfl rfl rfl rfl rl2 rl3 e9 (fun ao7 cap7 rl4 => ?_))
     refine Va rfl (WL.nil (bn (tn ?_)))
     exact ⟨(l1 ++ ([x1] : List (List UInt8))), ao7, cap7, (xs1 ++ [(mkS x1)]), rl4, (Sub.all rfl), fun w' s => (s.select [1, 2] (by decide) rfl), hm⟩
    replace hm := ite_f hc10 hm
    refine WP.skip (bn (tn ?_))
    exact ⟨l1, ao6, cap6, xs1, rl2, (Sub.all rfl), fun w' s => s, hm⟩
   rintro g' S' ⟨l3, ao8, cap8, xs2, rl5, hsub2, hS2, hm⟩
   refine WP.sub hsub2 (WP.weaken hS2 ?_)
   replace hm := (congrFun hk2 l3).symm.trans hm
   refine WP.region (V rfl (ov_add rfl rfl rfl) (Vm rfl (WL.nil (tn ?_))))
   exact ⟨(IntKind.wrap .i64 (i1 + 1)), l3, ao8, cap8, xs2, rl5, (Sub.all rfl), fun w' s => s, hm⟩
  replace hm := ite_f hc9 hm
  refine WP.exit (then_exit (then_exit (block_here (tn ?_))))
  exact ⟨l1, ao6, cap6, xs1, rl2, (Sub.all rfl), fun w' s => s, hm⟩
 rintro g' S' ⟨l4, ao9, cap9, xs3, rl6, hsub3, hS3, hm⟩
 refine WP.sub hsub3 (WP.weaken hS3 ?_)
 replace hm := (congrFun hk1 l4).symm.trans hm
 refine WP.seq (WP.region (V rfl (ov_load_whole (i := 1) isAgg28 sizeOf28 rfl rfl rfl rfl) (Vm rfl ?_)))
 refine WL.held rl6 (fun H3 hc11 hle3 h11 => ?_)
 replace h3 := h3.mono hle3
 replace h4 := h4.mono hle3
 replace h1 := h1.mono hle3
 replace h2 := h2.mono hle3
 replace hG := hG.mono hle3
 obtain ⟨r7, e10, hm⟩ := bind_some hm
 refine ws rfl (os_con call18 rfl rfl (fun w' s => (program_Unfold_con p_x l4 ao1 cap1 ao2 cap2 ao9 cap9  w' H3 s.hold h1 hc1 h2 hc2 h11 hc11 hG r7 e10)) (fun rr3 H4 hle4 hR3 => ?_))
 replace h3 := h3.mono hle4
 replace h4 := h4.mono hle4
 replace h1 := h1.mono hle4
 replace h2 := h2.mono hle4
 replace hG := hG.mono hle4
 obtain ⟨ao10, cap10, rfl, h12, hc12⟩ := hR3
 refine Vm rfl (Ve rfl (Ve rfl (Va rfl (Va rfl (WL.nil (tn (WP.seq (WP.seq (WP.region (Vm rfl (Vm rfl (V rfl (ov_neq rfl rfl rfl) (Vm rfl ?_)))))))))))))
 obtain ⟨c2, e11, hm⟩ := bind_some hm
 refine WL.cut_bool 5 76 (x := c2) ?_ ?_
 ·
  rcases Bool.eq_false_or_eq_true (r4.2 != r7.2) with hc13 | hc13
  ·
   replace hm := ite_t hc13 e11
   refine Vi rfl (Idle.no rfl rfl rfl hc13) (Vi rfl (Idle.no rfl rfl rfl hc13) (Vi rfl (Idle.no rfl rfl rfl hc13) (Vi rfl (Idle.no rfl rfl rfl hc13) (V rfl (ov_pick_true rfl (guard_eq rfl hc13) rfl) ?_))))
   exact WL.nil ⟨Sub.cons' rfl (congrArg Value.bool (Option.some.inj hm)) (Sub.dropn 5 rfl), fun _ s => s⟩
  replace hm := ite_f hc13 e11
  refine wy hc13 rfl (ov_move rfl rfl) ?_
  refine wy hc13 rfl (ov_move rfl rfl) ?_
  obtain ⟨r8, e12, hm⟩ := bind_some hm
  refine WL.quiet (Runs.yes rfl rfl rfl hc13) rfl rfl (oq_con (r := (.bool r8)) call22 rfl rfl (fun w' s => ⟨_, (ref13_SameSteps_con r4.1 r7.1 ao4 cap4 ao10 cap10  w' H4 s.hold h4 hc6 h12 hc12 hG r8 e12)⟩)) ?_
  refine wy hc13 rfl (ov_not rfl rfl) ?_
  refine V rfl (ov_pick_false rfl (guard_eq rfl hc13) rfl) ?_
  exact WL.nil ⟨Sub.cons' rfl (congrArg Value.bool (Option.some.inj hm)) (Sub.dropn 5 rfl), fun _ s => s⟩
 refine WL.nil (tn ?_)
 refine WP.cond rfl (fun hc14 => ?_) (fun hc14 => ?_)
 ·
  replace hm := ite_t hc14 hm
  refine WP.seq (WP.region (Va rfl (WL.nil (tn (WP.ret (then_ret ?_))))))
  obtain rfl := Option.some.inj hm
  refine retQ_ret results10 (Res.tmp rfl Res.nil) rfl (fun w' s => ⟨s.below, ?_⟩)
  exact rfl
 replace hm := ite_f hc14 hm
 refine WP.skip (tn (WP.seq (WP.seq (WP.region (Vm rfl (V rfl (ov_neq rfl rfl rfl) (WL.nil (tn ?_))))))))
 refine WP.cond rfl (fun hc15 => ?_) (fun hc15 => ?_)
 ·
  replace hm := ite_t hc15 hm
  refine WP.seq (WP.region ?_)
  obtain ⟨r9, e13, hm⟩ := bind_some hm
  refine wo rfl (oq_con (r := (.bool r9)) call11 rfl rfl (fun w' s => ⟨_, (law15_awake_con   w' H4 s.hold hG r9 e13)⟩)) ?_
  refine Va rfl (WL.nil (tn (WP.ret (then_ret ?_))))
  obtain rfl := Option.some.inj hm
  refine retQ_ret results10 (Res.tmp rfl Res.nil) rfl (fun w' s => ⟨s.below, ?_⟩)
  exact rfl
 replace hm := ite_f hc15 hm
 refine WP.skip (tn (WP.seq (WP.region (Vm rfl (V rfl (ov_load_whole (i := 0) isAgg28 sizeOf28 rfl rfl rfl rfl) ?_)))))
 have rl7 : RL H4 encNode ([p_x] : List Node) [(.int .i64 p_x.kind), (.slice ao1 p_x.step.strokes.length cap1), (.int .i64 p_x.step.wait), (.int .i64 p_x.count), (mkS p_x.name), (.slice ao2 p_x.nodes.length cap2)] := RL.cons (cs := [(.int .i64 p_x.kind), (.slice ao1 p_x.step.strokes.length cap1), (.int .i64 p_x.step.wait), (.int .i64 p_x.count), (mkS p_x.name), (.slice ao2 p_x.nodes.length cap2)]) (xs := []) (encNode_make ⟨ao1, cap1, ao2, cap2, rfl, h1, hc1, h2, hc2⟩) (RL.nil _ _)
 refine ws rfl (os_buildSlice (cs := [(.int .i64 p_x.kind), (.slice ao1 p_x.step.strokes.length cap1), (.int .i64 p_x.step.wait), (.int .i64 p_x.count), (mkS p_x.name), (.slice ao2 p_x.nodes.length cap2)]) (E := 28) (sz := 6) rfl rfl (fun _ => by kernel_rfl) rfl (by decide) (fun b3 => ?_))
 refine WL.held rl7 (fun H5 hc16 hle5 h13 => ?_)
 replace h3 := h3.mono hle5
 replace h4 := h4.mono hle5
 replace h1 := h1.mono hle5
 replace h2 := h2.mono hle5
 replace hG := hG.mono hle5
 refine V rfl (ov_build (r := (.agg #[(.int .i64 2), (.slice none 0 0), (.int .i64 0), (.int .i64 (IntKind.wrap .i64 ((Int.tmod (IntKind.wrap .i64 p_count) 64) + 1))), (mkS []), (.slice (some ⟨b3, 0, none⟩) ([p_x] : List Node).length 1)])) rfl rfl (fun _ => by kernel_rfl)) ?_
 refine ws rfl (os_alloc (cs := [(.int .i64 0), (.slice none 0 0), (.int .i64 0), (.int .i64 0), (mkS []), (.slice none 0 0)]) zeroValue28 rfl rfl (fun b4 => ?_))
 refine ws0 rfl (os_store (i := 0) (vs := [(.int .i64 2), (.slice none 0 0), (.int .i64 0), (.int .i64 (IntKind.wrap .i64 ((Int.tmod (IntKind.wrap .i64 p_count) 64) + 1))), (mkS []), (.slice (some ⟨b3, 0, none⟩) ([p_x] : List Node).length 1)]) (cs' := [(.int .i64 2), (.slice none 0 0), (.int .i64 0), (.int .i64 (IntKind.wrap .i64 ((Int.tmod (IntKind.wrap .i64 p_count) 64) + 1))), (mkS []), (.slice (some ⟨b3, 0, none⟩) ([p_x] : List Node).length 1)]) sizeOf28 rfl rfl rfl rfl rfl rfl rfl rfl rfl ?_)
 refine WL.nil (tn (WP.seq (WP.region (V rfl (ov_load_whole (i := 1) isAgg28 sizeOf28 rfl rfl rfl rfl) (V rfl (ov_load_whole (i := 1) isAgg28 sizeOf28 rfl rfl rfl rfl) ?_)))))
 have rl8 : RL H5 encNode ([p_x, p_x] : List Node) [(.int .i64 p_x.kind), (.slice ao1 p_x.step.strokes.length cap1), (.int .i64 p_x.step.wait), (.int .i64 p_x.count), (mkS p_x.name), (.slice ao2 p_x.nodes.length cap2), (.int .i64 p_x.kind), (.slice ao1 p_x.step.strokes.length cap1), (.int .i64 p_x.step.wait), (.int .i64 p_x.count), (mkS p_x.name), (.slice ao2 p_x.nodes.length cap2)] := RL.cons (cs := [(.int .i64 p_x.kind), (.slice ao1 p_x.step.strokes.length cap1), (.int .i64 p_x.step.wait), (.int .i64 p_x.count), (mkS p_x.name), (.slice ao2 p_x.nodes.length cap2)]) (xs := [(.int .i64 p_x.kind), (.slice ao1 p_x.step.strokes.length cap1), (.int .i64 p_x.step.wait), (.int .i64 p_x.count), (mkS p_x.name), (.slice ao2 p_x.nodes.length cap2)]) (encNode_make ⟨ao1, cap1, ao2, cap2, rfl, h1, hc1, h2, hc2⟩) (RL.cons (cs := [(.int .i64 p_x.kind), (.slice ao1 p_x.step.strokes.length cap1), (.int .i64 p_x.step.wait), (.int .i64 p_x.count), (mkS p_x.name), (.slice ao2 p_x.nodes.length cap2)]) (xs := []) (encNode_make ⟨ao1, cap1, ao2, cap2, rfl, h1, hc1, h2, hc2⟩) (RL.nil _ _))
 refine ws rfl (os_buildSlice (cs := [(.int .i64 p_x.kind), (.slice ao1 p_x.step.strokes.length cap1), (.int .i64 p_x.step.wait), (.int .i64 p_x.count), (mkS p_x.name), (.slice ao2 p_x.nodes.length cap2), (.int .i64 p_x.kind), (.slice ao1 p_x.step.strokes.length cap1), (.int .i64 p_x.step.wait), (.int .i64 p_x.count), (mkS p_x.name), (.slice ao2 p_x.nodes.length cap2)]) (E := 28) (sz := 6) rfl rfl (fun _ => by kernel_rfl) rfl (by decide) (fun b5 => ?_))
 refine WL.held rl8 (fun H6 hc17 hle6 h14 => ?_)
 replace h3 := h3.mono hle6
 replace h4 := h4.mono hle6
 replace h13 := h13.mono hle6
 replace hG := hG.mono hle6
 refine V rfl (ov_build (r := (.agg #[(.int .i64 1), (.slice none 0 0), (.int .i64 0), (.int .i64 0), (mkS []), (.slice (some ⟨b5, 0, none⟩) ([p_x, p_x] : List Node).length 2)])) rfl rfl (fun _ => by kernel_rfl)) ?_
 refine ws rfl (os_alloc (cs := [(.int .i64 0), (.slice none 0 0), (.int .i64 0), (.int .i64 0), (mkS []), (.slice none 0 0)]) zeroValue28 rfl rfl (fun b6 => ?_))
 refine ws0 rfl (os_store (i := 0) (vs := [(.int .i64 1), (.slice none 0 0), (.int .i64 0), (.int .i64 0), (mkS []), (.slice (some ⟨b5, 0, none⟩) ([p_x, p_x] : List Node).length 2)]) (cs' := [(.int .i64 1), (.slice none 0 0), (.int .i64 0), (.int .i64 0), (mkS []), (.slice (some ⟨b5, 0, none⟩) ([p_x, p_x] : List Node).length 2)]) sizeOf28 rfl rfl rfl rfl rfl rfl rfl rfl rfl ?_)
 refine WL.nil (tn (WP.seq (WP.seq (WP.region (V rfl (ov_load_whole (i := 1) isAgg28 sizeOf28 rfl rfl rfl rfl) ?_)))))
 obtain ⟨r10, e14, hm⟩ := bind_some hm
 refine wo rfl (oq_con (r := (.int .i64 r10)) call32 rfl rfl (fun w' s => ⟨_, (ref15_Check_con (Node.mk 2 (Step.mk [] 0) (IntKind.wrap .i64 ((Int.tmod (IntKind.wrap .i64 p_count) 64) + 1)) [] ([p_x] : List Node)) none 0 (some ⟨b3, 0, none⟩) 1  w' H6 s.hold (SL.nil _ _ _) (Nat.le_refl _) h13 hc16 hG r10 e14)⟩)) ?_
 refine V rfl (ov_neq rfl rfl rfl) (Vm rfl ?_)
 obtain ⟨c3, e15, hm⟩ := bind_some hm
 refine WL.cut_bool 4 95 (x := c3) ?_ ?_
 ·
  rcases Bool.eq_false_or_eq_true (r10 != 0) with hc18 | hc18
  ·
   replace hm := ite_t hc18 e15
   refine Vi rfl (Idle.no rfl rfl rfl hc18) (Vi rfl (Idle.no rfl rfl rfl hc18) (Vi rfl (Idle.no rfl rfl rfl hc18) (V rfl (ov_pick_true rfl (guard_eq rfl hc18) rfl) ?_)))
   exact WL.nil ⟨Sub.cons' rfl (congrArg Value.bool (Option.some.inj hm)) (Sub.dropn 4 rfl), fun _ s => s⟩
  replace hm := ite_f hc18 e15
  refine wy hc18 rfl (ov_load_whole (i := 0) isAgg28 sizeOf28 rfl rfl rfl rfl) ?_
  obtain ⟨r11, e16, hm⟩ := bind_some hm
  refine WL.quiet (Runs.yes rfl rfl rfl hc18) rfl rfl (oq_con (r := (.int .i64 r11)) call32 rfl rfl (fun w' s => ⟨_, (ref15_Check_con (Node.mk 1 (Step.mk [] 0) 0 [] ([p_x, p_x] : List Node)) none 0 (some ⟨b5, 0, none⟩) 2  w' H6 s.hold (SL.nil _ _ _) (Nat.le_refl _) h14 hc17 hG r11 e16)⟩)) ?_
  refine wy hc18 rfl (ov_neq rfl rfl rfl) ?_
  refine V rfl (ov_pick_false rfl (guard_eq rfl hc18) rfl) ?_
  exact WL.nil ⟨Sub.cons' rfl (congrArg Value.bool (Option.some.inj hm)) (Sub.dropn 4 rfl), fun _ s => s⟩
 refine WL.nil (tn ?_)
 refine WP.cond rfl (fun hc19 => ?_) (fun hc19 => ?_)
 ·
  replace hm := ite_t hc19 hm
  refine WP.seq (WP.region ?_)
  obtain ⟨r12, e17, hm⟩ := bind_some hm
  refine wo rfl (oq_con (r := (.bool r12)) call11 rfl rfl (fun w' s => ⟨_, (law15_awake_con   w' H6 s.hold hG r12 e17)⟩)) ?_
  refine Va rfl (WL.nil (tn (WP.ret (then_ret ?_))))
  obtain rfl := Option.some.inj hm
  refine retQ_ret results10 (Res.tmp rfl Res.nil) rfl (fun w' s => ⟨s.below, ?_⟩)
  exact rfl
 replace hm := ite_f hc19 hm
 refine WP.skip (tn (WP.seq (WP.region (V rfl (ov_load_whole (i := 1) isAgg28 sizeOf28 rfl rfl rfl rfl) (Vm rfl ?_)))))
 obtain ⟨r13, e18, hm⟩ := bind_some hm
 refine ws rfl (os_con call18 rfl rfl (fun w' s => (program_Unfold_con (Node.mk 2 (Step.mk [] 0) (IntKind.wrap .i64 ((Int.tmod (IntKind.wrap .i64 p_count) 64) + 1)) [] ([p_x] : List Node)) p_on none 0 (some ⟨b3, 0, none⟩) 1 ao3 cap3  w' H6 s.hold (SL.nil _ _ _) (Nat.le_refl _) h13 hc16 h3 hc3 hG r13 e18)) (fun rr4 H7 hle7 hR4 => ?_))
 replace h3 := h3.mono hle7
 replace h4 := h4.mono hle7
 replace h14 := h14.mono hle7
 replace hG := hG.mono hle7
 obtain ⟨ao11, cap11, rfl, h15, hc20⟩ := hR4
 refine Vm rfl (Ve rfl (Ve rfl (Va rfl (Va rfl (WL.nil (tn (WP.seq (WP.seq (WP.region (Vm rfl (Vm rfl (V rfl (ov_len_slice underlying42 rfl rfl) (V rfl (ov_mul rfl rfl rfl) ?_)))))))))))))
 refine V rfl (ov_gtr rfl rfl rfl) (Vm rfl (V rfl (ov_eql rfl rfl rfl) (V rfl (ov_bneq underlying4 rfl rfl rfl) (Vm rfl ?_))))
 obtain ⟨c4, e19, hm⟩ := bind_some hm
 refine WL.cut_bool 11 122 (x := c4) ?_ ?_
 ·
  rcases Bool.eq_false_or_eq_true (!((decide ((IntKind.wrap .i64 ((IntKind.wrap .i64 ((Int.tmod (IntKind.wrap .i64 p_count) 64) + 1)) * (r4.1.length : Int))) > 64)) == (r13.2 == 12))) with hc21 | hc21
  ·
   replace hm := ite_t hc21 e19
   refine Vi rfl (Idle.no rfl rfl rfl hc21) (Vi rfl (Idle.no rfl rfl rfl hc21) (Vi rfl (Idle.no rfl rfl rfl hc21) (Vi rfl (Idle.undef rfl rfl rfl) (Vi rfl (Idle.undef rfl rfl rfl) (Vi rfl (Idle.undef rfl rfl rfl) (Vi rfl (Idle.undef rfl rfl rfl) (Vi rfl (Idle.undef rfl rfl rfl) (Vi rfl (Idle.undef rfl rfl rfl) (Vi rfl (Idle.no rfl rfl rfl hc21) (V rfl (ov_pick_true rfl (guard_eq rfl hc21) rfl) ?_))))))))))
   exact WL.nil ⟨Sub.cons' rfl (congrArg Value.bool (Option.some.inj hm)) (Sub.dropn 11 rfl), fun _ s => s⟩
  replace hm := ite_f hc21 e19
  refine wy hc21 rfl (ov_move rfl rfl) ?_
  refine wy hc21 rfl (ov_eql rfl rfl rfl) ?_
  refine wy hc21 rfl (ov_move rfl rfl) ?_
  obtain ⟨c5, e20, hm⟩ := bind_some hm
  refine WL.cut_bool 7 121 (x := c5) ?_ ?_
  ·
   rcases Bool.eq_false_or_eq_true (r13.2 == 0) with hc22 | hc22
   ·
    replace hm := ite_t hc22 e20
    refine wy hc22 rfl (ov_move rfl rfl) ?_
    refine wy hc22 rfl (ov_move rfl rfl) ?_
    refine wy hc22 rfl (ov_move rfl rfl) ?_
    obtain ⟨r14, e21, hm⟩ := bind_some hm
    refine WL.step (Runs.yes rfl rfl rfl hc22) rfl rfl (os_con call41 rfl rfl (fun w' s => (repSt_con r4.1 (IntKind.wrap .i64 ((Int.tmod (IntKind.wrap .i64 p_count) 64) + 1)) ao4 cap4  w' H7 s.hold h4 hc6 hG r14 e21)) (fun rr5 H8 hle8 hR5 => ?_))
    replace h3 := h3.mono hle8
    replace h4 := h4.mono hle8
    replace h14 := h14.mono hle8
    replace h15 := h15.mono hle8
    replace hG := hG.mono hle8
    obtain ⟨ao12, cap12, rfl, h16, hc23⟩ := hR5
    obtain ⟨r15, e22, hm⟩ := bind_some hm
    refine WL.quiet (Runs.yes rfl rfl rfl hc22) rfl rfl (oq_con (r := (.bool r15)) call22 rfl rfl (fun w' s => ⟨_, (ref13_SameSteps_con r13.1 r14 ao11 cap11 ao12 cap12  w' H8 s.hold h15 hc20 h16 hc23 hG r15 e22)⟩)) ?_
    refine wy hc22 rfl (ov_not rfl rfl) ?_
    refine wy hc21 rfl (ov_pick_true rfl (guard_eq rfl hc22) rfl) ?_
    exact WL.nil ⟨Sub.cons' rfl (congrArg Value.bool (Option.some.inj hm)) (Sub.dropn 7 rfl), fun _ s => (s.heap hle8)⟩
   replace hm := ite_f hc22 e20
   refine Vi rfl (Idle.no rfl rfl rfl hc22) (Vi rfl (Idle.no rfl rfl rfl hc22) (Vi rfl (Idle.no rfl rfl rfl hc22) (Vi rfl (Idle.no rfl rfl rfl hc22) (Vi rfl (Idle.no rfl rfl rfl hc22) (Vi rfl (Idle.no rfl rfl rfl hc22) ?_)))))
   refine wy hc21 rfl (ov_pick_false rfl (guard_eq rfl hc22) rfl) ?_
   exact WL.nil ⟨Sub.cons' rfl (congrArg Value.bool (Option.some.inj hm)) (Sub.dropn 7 rfl), fun _ s => s⟩
  refine V rfl (ov_pick_false rfl (guard_eq rfl hc21) rfl) ?_
  exact WL.nil ⟨Sub.cons' rfl (congrArg Value.bool (Option.some.inj hm)) (Sub.dropn 5 rfl), fun _ s => s⟩
 refine WL.nil (tn ?_)
 refine WP.cond rfl (fun hc24 => ?_) (fun hc24 => ?_)
 ·
  replace hm := ite_t hc24 hm
  refine WP.seq (WP.region (Va rfl (WL.nil (tn (WP.ret (then_ret ?_))))))
  obtain rfl := Option.some.inj hm
  refine retQ_ret results10 (Res.tmp rfl Res.nil) rfl (fun w' s => ⟨s.below, ?_⟩)
  exact rfl
 replace hm := ite_f hc24 hm
 refine WP.skip (tn (WP.seq (WP.region (V rfl (ov_load_whole (i := 0) isAgg28 sizeOf28 rfl rfl rfl rfl) (Vm rfl ?_)))))
 obtain ⟨r16, e23, hm⟩ := bind_some hm
 refine ws rfl (os_con call18 rfl rfl (fun w' s => (program_Unfold_con (Node.mk 1 (Step.mk [] 0) 0 [] ([p_x, p_x] : List Node)) p_on none 0 (some ⟨b5, 0, none⟩) 2 ao3 cap3  w' H7 s.hold (SL.nil _ _ _) (Nat.le_refl _) h14 hc17 h3 hc3 hG r16 e23)) (fun rr6 H9 hle9 hR6 => ?_))
 replace h4 := h4.mono hle9
 replace hG := hG.mono hle9
 obtain ⟨ao13, cap13, rfl, h17, hc25⟩ := hR6
 refine Vm rfl (Ve rfl (Ve rfl (Va rfl (Va rfl (WL.nil (tn (WP.seq (WP.region (Vm rfl (V rfl (ov_len_slice underlying42 rfl rfl) (V rfl (ov_mul rfl rfl rfl) (V rfl (ov_gtr rfl rfl rfl) (Vm rfl ?_)))))))))))))
 refine V rfl (ov_eql rfl rfl rfl) (V rfl (ov_beql underlying4 rfl rfl rfl) (Vm rfl ?_))
 obtain ⟨c6, e24, hm⟩ := bind_some hm
 refine WL.cut_bool 11 147 (x := c6) ?_ ?_
 ·
  rcases Bool.eq_false_or_eq_true ((decide ((IntKind.wrap .i64 (2 * (r4.1.length : Int))) > 64)) == (r16.2 == 12)) with hc26 | hc26
  ·
   replace hm := ite_t hc26 e24
   refine wy hc26 rfl (ov_move rfl rfl) ?_
   refine wy hc26 rfl (ov_neq rfl rfl rfl) ?_
   refine wy hc26 rfl (ov_move rfl rfl) ?_
   obtain ⟨c7, e25, hm⟩ := bind_some hm
   refine WL.cut_bool 7 146 (x := c7) ?_ ?_
   ·
    rcases Bool.eq_false_or_eq_true (r16.2 != 0) with hc27 | hc27
    ·
     replace hm := ite_t hc27 e25
     refine Vi rfl (Idle.no rfl rfl rfl hc27) (Vi rfl (Idle.no rfl rfl rfl hc27) (Vi rfl (Idle.no rfl rfl rfl hc27) (Vi rfl (Idle.no rfl rfl rfl hc27) (Vi rfl (Idle.no rfl rfl rfl hc27) (Vi rfl (Idle.no rfl rfl rfl hc27) ?_)))))
     refine wy hc26 rfl (ov_pick_true rfl (guard_eq rfl hc27) rfl) ?_
     exact WL.nil ⟨Sub.cons' rfl (congrArg Value.bool (Option.some.inj hm)) (Sub.dropn 7 rfl), fun _ s => s⟩
    replace hm := ite_f hc27 e25
    refine wy hc27 rfl (ov_move rfl rfl) ?_
    refine wy hc27 rfl (ov_move rfl rfl) ?_
    refine wy hc27 rfl (ov_move rfl rfl) ?_
    have rl9 : RL H9 (encSl encStep) ([r4.1, r4.1] : List (List Step)) [(.slice ao4 r4.1.length cap4), (.slice ao4 r4.1.length cap4)] := RL.cons (cs := [(.slice ao4 r4.1.length cap4)]) (xs := [(.slice ao4 r4.1.length cap4)]) ⟨ao4, cap4, rfl, h4, hc6⟩ (RL.cons (cs := [(.slice ao4 r4.1.length cap4)]) (xs := []) ⟨ao4, cap4, rfl, h4, hc6⟩ (RL.nil _ _))
    refine WL.step (Runs.yes rfl rfl rfl hc27) rfl rfl (os_buildSlice (cs := [(.slice ao4 r4.1.length cap4), (.slice ao4 r4.1.length cap4)]) (E := 42) (sz := 1) rfl rfl (fun _ => by kernel_rfl) rfl (by decide) (fun b7 => ?_))
    refine WL.held rl9 (fun H10 hc28 hle10 h18 => ?_)
    replace h17 := h17.mono hle10
    replace hG := hG.mono hle10
    obtain ⟨r17, e26, hm⟩ := bind_some hm
    refine WL.step (Runs.yes rfl rfl rfl hc27) rfl rfl (os_con call42 rfl rfl (fun w' s => (slices_Concat_api_Stepapi_Step_con ([r4.1, r4.1] : List (List Step)) (some ⟨b7, 0, none⟩) 2  w' H10 s.hold h18 hc28 hG r17 e26)) (fun rr7 H11 hle11 hR7 => ?_))
    replace h17 := h17.mono hle11
    replace hG := hG.mono hle11
    obtain ⟨ao14, cap14, rfl, h19, hc29⟩ := hR7
    obtain ⟨r18, e27, hm⟩ := bind_some hm
    refine WL.quiet (Runs.yes rfl rfl rfl hc27) rfl rfl (oq_con (r := (.bool r18)) call22 rfl rfl (fun w' s => ⟨_, (ref13_SameSteps_con r16.1 r17 ao13 cap13 ao14 cap14  w' H11 s.hold h17 hc25 h19 hc29 hG r18 e27)⟩)) ?_
    refine wy hc26 rfl (ov_pick_false rfl (guard_eq rfl hc27) rfl) ?_
    exact WL.nil ⟨Sub.cons' rfl (congrArg Value.bool (Option.some.inj hm)) (Sub.dropn 7 rfl), fun _ s => (s.heap (hle10.trans hle11))⟩
   refine V rfl (ov_pick_true rfl (guard_eq rfl hc26) rfl) ?_
   exact WL.nil ⟨Sub.cons' rfl (congrArg Value.bool (Option.some.inj hm)) (Sub.dropn 5 rfl), fun _ s => s⟩
  replace hm := ite_f hc26 e24
  refine Vi rfl (Idle.no rfl rfl rfl hc26) (Vi rfl (Idle.no rfl rfl rfl hc26) (Vi rfl (Idle.no rfl rfl rfl hc26) (Vi rfl (Idle.undef rfl rfl rfl) (Vi rfl (Idle.undef rfl rfl rfl) (Vi rfl (Idle.undef rfl rfl rfl) (Vi rfl (Idle.undef rfl rfl rfl) (Vi rfl (Idle.undef rfl rfl rfl) (Vi rfl (Idle.undef rfl rfl rfl) (Vi rfl (Idle.no rfl rfl rfl hc26) (V rfl (ov_pick_false rfl (guard_eq rfl hc26) rfl) ?_))))))))))
  exact WL.nil ⟨Sub.cons' rfl (congrArg Value.bool (Option.some.inj hm)) (Sub.dropn 11 rfl), fun _ s => s⟩
 refine Vm rfl ?_
 obtain ⟨c8, e28, hm⟩ := bind_some hm
 refine WL.cut_bool 2 150 (x := c8) ?_ ?_
 ·
  rcases Bool.eq_false_or_eq_true c6 with hc30 | hc30
  ·
   replace hm := ite_t hc30 e28
   obtain ⟨r19, e29, hm⟩ := bind_some hm
   refine WL.quiet (Runs.yes rfl rfl rfl hc30) rfl rfl (oq_con (r := (.bool r19)) call11 rfl rfl (fun w' s => ⟨_, (law15_awake_con   w' H9 s.hold hG r19 e29)⟩)) ?_
   refine V rfl (ov_pick_true rfl (guard_eq rfl hc30) rfl) ?_
   exact WL.nil ⟨Sub.cons' rfl (congrArg Value.bool (Option.some.inj hm)) (Sub.dropn 2 rfl), fun _ s => s⟩
  replace hm := ite_f hc30 e28
  refine Vi rfl (Idle.no rfl rfl rfl hc30) (V rfl (ov_pick_false rfl (guard_eq rfl hc30) rfl) ?_)
  exact WL.nil ⟨Sub.cons' rfl (congrArg Value.bool (Option.some.inj hm)) (Sub.dropn 2 rfl), fun _ s => s⟩
 refine Va rfl (WL.nil (tn (WP.ret ?_)))
 obtain rfl := Option.some.inj hm
 refine retQ_ret results10 (Res.tmp rfl Res.nil) rfl (fun w' s => ⟨s.below, ?_⟩)
 exact rfl
end Go.Proofs.YtgpfgnpdbmbknaaGreatDoor.W
