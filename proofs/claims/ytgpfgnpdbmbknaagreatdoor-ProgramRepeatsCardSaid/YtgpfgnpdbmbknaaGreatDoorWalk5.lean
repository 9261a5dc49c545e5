import Derived.Test.YtgpfgnpdbmbknaaGreatDoorPlain
import Derived.Test.YtgpfgnpdbmbknaaGreatDoorEqs
import Derived.Test.YtgpfgnpdbmbknaaGreatDoorProg
import Derived.Test.YtgpfgnpdbmbknaaGreatDoorExt
import Derived.Test.YtgpfgnpdbmbknaaGreatDoorClone
import Derived.Test.YtgpfgnpdbmbknaaGreatDoorSort
import Derived.Test.YtgpfgnpdbmbknaaGreatDoorWalk2
import Derived.Test.YtgpfgnpdbmbknaaGreatDoorWalk3
import Derived.Test.YtgpfgnpdbmbknaaGreatDoorWalk4
set_option linter.unusedVariables false
set_option maxRecDepth 100000
set_option maxHeartbeats 4000000
namespace Go.Proofs.YtgpfgnpdbmbknaaGreatDoor.W
open Go Go.RowKit Go.Proofs.Tryz
theorem program_text_body_con (self : Motion → Option (List UInt8)) (hself : ∀ (p_m : Motion) (t1 : TypeId) (c1 : Value) (w : World) (H : Heap) (hH : Le H (hp w)) (h1 : MotionRep H p_m (.iface t1 c1)) (hG : Glob H) (r : (List UInt8)) (hm : self p_m = some r), Con prog 65 [(.iface t1 c1)] w H (fun v _ => v = (mkS r))) (p_m : Motion) (t1 : TypeId) (c1 : Value) (w : World) (H : Heap) (hH : Le H (hp w)) (h1 : MotionRep H p_m (.iface t1 c1)) (hG : Glob H) (r : (List UInt8)) (hm : program_text_body self p_m = some r) :
  Con prog 65 [(.iface t1 c1)] w H (fun v _ => v = (mkS r)) := by
 unfold program_text_body at hm
 refine con_of hH func65 rfl 72 ntmps65 rfl ?_
 refine WP.seq (WP.region (Va rfl (WL.nil (tn ?_))))
 obtain ⟨k1, hk1, hm⟩ := joinK_some hm
 refine WP.seq_join (fun g' S' => Sub [(1000000007, (.bool false))] g' ∧ (∀ w', S' w' → St w H [] H w') ∧ k1 = some r) ?_ ?_
 ·
  refine WP.seq (WP.region (Vm rfl (WL.nil (tn (WP.block (WP.seq (WP.region ?_)))))))
  rcases Bool.eq_false_or_eq_true p_m.isSingle with hc1 | hc1
  ·
   replace hm := ite_t hc1 hm
   obtain ⟨ao1, cap1, hv1, h2, hc2⟩ := MotionRep.open_isSingle h1 hc1
   refine V rfl (ov_typeAssert_yes (c := (.agg #[(.slice ao1 p_m.stp.strokes.length cap1), (.int .i64 p_m.stp.wait)])) underlying141 (fun _ h => by cases h) rfl rfl hv1) (Ve rfl (Ve rfl (WL.nil (tn (WP.cond_true rfl (WP.seq (WP.region ?_)))))))
   refine ws rfl (os_alloc (cs := [(.slice none 0 0), (.int .i64 0)]) zeroValue141 rfl rfl (fun b1 => ?_))
   refine ws0 rfl (os_store (i := 0) (vs := [(.slice ao1 p_m.stp.strokes.length cap1), (.int .i64 p_m.stp.wait)]) (cs' := [(.slice ao1 p_m.stp.strokes.length cap1), (.int .i64 p_m.stp.wait)]) sizeOf141 rfl rfl rfl rfl rfl rfl rfl rfl rfl ?_)
   refine WL.nil (tn (WP.seq (WP.region (V rfl (ov_fieldAddr underlying141 rfl rfl rfl sizeOf25 rfl rfl) (V rfl (ov_load_whole (i := 0) isAgg25 sizeOf25 rfl rfl rfl rfl) ?_)))))
   have rl1 : RL H encStep ([p_m.stp] : List Step) [(.slice ao1 p_m.stp.strokes.length cap1), (.int .i64 p_m.stp.wait)] := RL.cons (cs := [(.slice ao1 p_m.stp.strokes.length cap1), (.int .i64 p_m.stp.wait)]) (xs := []) ⟨ao1, cap1, rfl, h2, hc2⟩ (RL.nil _ _)
   refine ws rfl (os_buildSlice (cs := [(.slice ao1 p_m.stp.strokes.length cap1), (.int .i64 p_m.stp.wait)]) (E := 25) (sz := 2) rfl rfl (fun _ => by kernel_rfl) rfl (by decide) (fun b2 => ?_))
   refine WL.held rl1 (fun H1 hc3 hle1 h3 => ?_)
   replace h1 := h1.mono hle1
   replace hG := hG.mono hle1
   obtain ⟨r1, e1, hm⟩ := bind_some hm
   refine wo rfl (oq_con (r := (.tuple #[(mkS r1.1), (.int .i64 r1.2)])) call104 rfl rfl (fun w' s => ⟨_, (stroke_Format_con ([p_m.stp] : List Step) (some ⟨b2, 0, none⟩) 1  w' H1 s.hold h3 hc3 hG r1 e1)⟩)) ?_
   refine Vm rfl (Ve rfl (Ve rfl (Va rfl (Va rfl (WL.nil (tn (WP.seq (WP.region (Vm rfl (Va rfl (WL.nil (tn (WP.ret ?_)))))))))))))
   refine block_ret (then_ret ?_)
   obtain rfl := Option.some.inj hm
   refine retQ_ret results65 (Res.tmp rfl Res.nil) rfl (fun w' s => ⟨s.below, ?_⟩)
   exact rfl
  replace hm := ite_f hc1 hm
  obtain ⟨t2, v1, hv2, hv3⟩ := MotionRep.not_isSingle h1 hc1
  refine V rfl (ov_typeAssert_no (z := (.agg #[(.slice none 0 0), (.int .i64 0)])) underlying141 (fun _ h => by cases h) zeroValue141 rfl rfl hv2 hv3) (Ve rfl (Ve rfl (WL.nil (tn (WP.cond_false rfl (WP.seq (WP.region ?_)))))))
  rcases Bool.eq_false_or_eq_true p_m.isList with hc4 | hc4
  ·
   replace hm := ite_t hc4 hm
   obtain ⟨ao2, cap2, hv4, h4, hc5⟩ := MotionRep.open_isList h1 hc4
   refine V rfl (ov_typeAssert_yes (c := (.agg #[(.slice ao2 p_m.prts.length cap2)])) underlying144 (fun _ h => by cases h) rfl rfl hv4) (Ve rfl (Ve rfl (WL.nil (tn (WP.cond_true rfl (WP.seq (WP.region ?_)))))))
   refine ws rfl (os_alloc (cs := [(.slice none 0 0)]) zeroValue144 rfl rfl (fun b3 => ?_))
   refine ws0 rfl (os_store (i := 0) (vs := [(.slice ao2 p_m.prts.length cap2)]) (cs' := [(.slice ao2 p_m.prts.length cap2)]) sizeOf144 rfl rfl rfl rfl rfl rfl rfl rfl rfl ?_)
   refine WL.nil (tn (WP.seq (WP.region (Va rfl (WL.nil (tn ?_))))))
   obtain ⟨k2, hk2, hm⟩ := joinK_some hm
   refine WP.seq_join (fun g' S' => ∃ (l3 : (List (List UInt8))) (ao5 : Option Addr) (cap5 : Nat) (xs2 : List Value), RL H encStr l3 xs2 ∧ Sub [(7, (.slice ao5 l3.length cap5)), (1000000007, (.bool false))] g' ∧ (∀ w', S' w' → St w H [.row 9 (encStr).size l3.length (.slice ao5 l3.length cap5) xs2] H w') ∧ k2 l3 = some r) ?_ ?_
   ·
    refine WP.seq (WP.region (V rfl (ov_fieldAddr underlying144 rfl rfl rfl sizeOf142 rfl rfl) (Vl 0 isAgg142 rfl (V rfl (ov_len_slice underlying142 rfl rfl) (Vm rfl (WL.nil (tn (WP.block ?_))))))))
    have rl2 := RL.nil (α := (List UInt8)) H encStr
    refine WP.weaken (fun _ s => s.nilrow 9 (encStr).size) ?_
    refine WP.loop (fun m1 g' S' => ∃ (i1 : Int) (l1 : (List (List UInt8))) (ao3 : Option Addr) (cap3 : Nat) (xs1 : List Value), RL H encStr l1 xs1 ∧ Sub [(7, (.slice ao3 l1.length cap3)), (28, (.slice ao2 p_m.prts.length cap2)), (29, (.int .i64 (p_m.prts.length : Int))), (30, (.int .i64 i1)), (1000000007, (.bool false))] g' ∧ (∀ w', S' w' → St w H [.row 9 (encStr).size l1.length (.slice ao3 l1.length cap3) xs1] H w') ∧ program_text_loop1 p_m self k2 m1 i1 l1 = some r) ((Int.toNat ((p_m.prts.length : Int) - 0) + 1)) ⟨0, ([] : List (List UInt8)), none, 0, [], rl2, (Sub.all rfl), fun w' s => (s.select [0] (by decide) rfl), hm⟩ ?_ ?_
    ·
     rintro g' S' ⟨_, _, _, _, _, _, _, _, hm⟩
     exact none_some hm
    rintro m1 g' S' ⟨i1, l1, ao3, cap3, xs1, rl3, hsub1, hS1, hm⟩
    refine WP.sub hsub1 (WP.weaken hS1 ?_)
    rw [program_text_loop1] at hm
    refine WP.seq (WP.region (V rfl (ov_lss rfl rfl rfl) (WL.nil (tn (WP.seq ?_)))))
    refine WP.cond rfl (fun hc6 => ?_) (fun hc6 => ?_)
    ·
     replace hm := ite_t hc6 hm
     refine WP.skip (tn (WP.seq (WP.block (WP.seq (WP.region ?_)))))
     obtain ⟨x1, e2, hm⟩ := bind_some hm
     obtain ⟨h6, h7, h8, cs1, h9, h10⟩ := h4.get e2 (by decide)
     obtain ⟨t3, c2, rfl, h5⟩ := h9
     refine V rfl (ov_indexAddr underlying142 sizeOf99 rfl rfl rfl h6 h7 h8) (V rfl (ov_load_elem (v := (.iface t3 c2)) isAgg99 rfl rfl h10) (Va rfl (WL.nil (tn (WP.region (Vm rfl (Vm rfl ?_)))))))
     obtain ⟨r2, e3, hm⟩ := bind_some hm
     refine wo rfl (oq_con (r := (mkS r2)) call65 rfl rfl (fun w' s => ⟨_, (hself x1 t3 c2  w' H s.hold h5  hG r2 e3)⟩)) ?_
     have rl4 : RL H encStr ([r2] : List (List UInt8)) [(mkS r2)] := RL.cons (cs := [(mkS r2)]) (xs := []) rfl (RL.nil _ _)
     refine ws rfl (os_buildSlice (cs := [(mkS r2)]) (E := 9) (sz := 1) rfl rfl (fun _ => by kernel_rfl) rfl (by decide) (fun b4 => ?_))
     obtain ⟨l2, e4, hm⟩ := bind_some hm
     refine ws rfl (os_app (i := 1) (j := 0) (En := encStr) (xs := xs1) (ys := [(mkS r2)]) underlying36 (by kernel_rfl : (prog.info? 9).map (fun i => (i.zero, i.size, i.bytes)) = some (some (mkS []), (encStr).size, 16)) rfl (by decide) rfl rfl rfl rfl rfl rfl rl3 rl4 e4 (fun ao4 cap4 rl5 => ?_))
     refine Va rfl (WL.nil (bn (tn (WP.region (V rfl (ov_add rfl rfl rfl) (Vm rfl (WL.nil (tn ?_))))))))
     exact ⟨(IntKind.wrap .i64 (i1 + 1)), (l1 ++ ([r2] : List (List UInt8))), ao4, cap4, (xs1 ++ [(mkS r2)]), rl5, (Sub.all rfl), fun w' s => (s.select [1] (by decide) rfl), hm⟩
    replace hm := ite_f hc6 hm
    refine WP.exit (then_exit (then_exit (block_here (tn ?_))))
    exact ⟨l1, ao3, cap3, xs1, rl3, (Sub.all rfl), fun w' s => s, hm⟩
   rintro g' S' ⟨l3, ao5, cap5, xs2, rl6, hsub2, hS2, hm⟩
   refine WP.sub hsub2 (WP.weaken hS2 ?_)
   replace hm := (congrFun hk2 l3).symm.trans hm
   refine WP.seq (WP.region (Vm rfl ?_))
   obtain ⟨r3, e5, hm⟩ := bind_some hm
   refine wo rfl (oq_con (r := (mkS r3)) call105 rfl rfl (fun w' s => ⟨_, (joinS_con l3 [59, 32] ao5 cap5 w' (hp w') (Le.refl _) (s.row_arg (i := 0) rfl rl6).1 (s.row_arg (i := 0) rfl rl6).2 (hG.mono s.hold) r3 e5)⟩)) ?_
   obtain ⟨s1, e6, hm⟩ := bind_some hm
   refine V rfl (ov_sadd' e6 rfl rfl rfl) ?_
   obtain ⟨s2, e7, hm⟩ := bind_some hm
   refine V rfl (ov_sadd' e7 rfl rfl rfl) (Va rfl (WL.nil (tn (WP.ret (block_ret (then_ret ?_))))))
   obtain rfl := Option.some.inj hm
   refine retQ_ret results65 (Res.tmp rfl Res.nil) rfl (fun w' s => ⟨s.below, ?_⟩)
   exact rfl
  replace hm := ite_f hc4 hm
  obtain ⟨t4, v2, hv5, hv6⟩ := MotionRep.not_isList h1 hc4
  refine V rfl (ov_typeAssert_no (z := (.agg #[(.slice none 0 0)])) underlying144 (fun _ h => by cases h) zeroValue144 rfl rfl hv5 hv6) (Ve rfl (Ve rfl (WL.nil (tn (WP.cond_false rfl (WP.seq (WP.region ?_)))))))
  rcases Bool.eq_false_or_eq_true p_m.isRepeat with hc7 | hc7
  ·
   replace hm := ite_t hc7 hm
   obtain ⟨t5, c3, hv7, h11⟩ := MotionRep.open_isRepeat h1 hc7
   refine V rfl (ov_typeAssert_yes (c := (.agg #[(.int .i64 p_m.cnt), (.iface t5 c3)])) underlying146 (fun _ h => by cases h) rfl rfl hv7) (Ve rfl (Ve rfl (WL.nil (tn (WP.cond_true rfl (WP.seq (WP.region ?_)))))))
   refine ws rfl (os_alloc (cs := [(.int .i64 0), .nilIface]) zeroValue146 rfl rfl (fun b5 => ?_))
   refine ws0 rfl (os_store (i := 0) (vs := [(.int .i64 p_m.cnt), (.iface t5 c3)]) (cs' := [(.int .i64 p_m.cnt), (.iface t5 c3)]) sizeOf146 rfl rfl rfl rfl rfl rfl rfl rfl rfl ?_)
   refine WL.nil (tn (WP.seq ?_))
   refine WP.region_draws (by kernel_rfl) (by kernel_rfl) (fun _ s => s.drew) ?_
   refine qf rfl (ov_fieldAddr underlying146 rfl rfl rfl sizeOf3 rfl rfl) ?_
   refine qf rfl (ov_load_box (i := 0) isAgg3 rfl rfl rfl rfl) ?_
   obtain ⟨r4, e8, hm⟩ := bind_some hm
   refine QL.quiet (Runs.free rfl) rfl rfl (oq_con (r := (mkS r4)) call106 rfl rfl (fun w' s => ⟨_, (itoa_con p_m.cnt  w' H s.hold hG r4 e8)⟩)) ?_
   obtain ⟨s3, e9, hm⟩ := bind_some hm
   refine qf rfl (ov_sadd' e9 rfl rfl rfl) ?_
   obtain ⟨s4, e10, hm⟩ := bind_some hm
   refine qf rfl (ov_sadd' e10 rfl rfl rfl) ?_
   refine qf rfl (ov_fieldAddr underlying146 rfl rfl rfl sizeOf99 rfl rfl) ?_
   refine qf rfl (ov_load_box (i := 0) isAgg99 rfl rfl rfl rfl) ?_
   obtain ⟨r5, e11, hm⟩ := bind_some hm
   refine QL.quiet (Runs.free rfl) rfl rfl (oq_con (r := (mkS r5)) call65 rfl rfl (fun w' s => ⟨_, (hself p_m.prt t5 c3  w' H s.hold h11  hG r5 e11)⟩)) ?_
   obtain ⟨s5, e12, hm⟩ := bind_some hm
   refine qf rfl (ov_sadd' e12 rfl rfl rfl) ?_
   refine qf rfl (ov_assign rfl rfl) ?_
   refine QL.nil ?_
   refine tn (WP.ret (block_ret (then_ret ?_)))
   obtain rfl := Option.some.inj hm
   refine retQ_ret results65 (Res.tmp rfl Res.nil) rfl (fun w' s => ⟨s.below, ?_⟩)
   exact rfl
  replace hm := ite_f hc7 hm
  obtain ⟨t6, v3, hv8, hv9⟩ := MotionRep.not_isRepeat h1 hc7
  refine V rfl (ov_typeAssert_no (z := (.agg #[(.int .i64 0), .nilIface])) underlying146 (fun _ h => by cases h) zeroValue146 rfl rfl hv8 hv9) (Ve rfl (Ve rfl (WL.nil (tn (WP.cond_false rfl (WP.seq (WP.region ?_)))))))
  rcases Bool.eq_false_or_eq_true p_m.isChoice with hc8 | hc8
  ·
   replace hm := ite_t hc8 hm
   obtain ⟨t7, c4, t8, c5, hv10, h12, h13⟩ := MotionRep.open_isChoice h1 hc8
   refine V rfl (ov_typeAssert_yes (c := (.agg #[(mkS p_m.nm), (.iface t7 c4), (.iface t8 c5)])) underlying148 (fun _ h => by cases h) rfl rfl hv10) (Ve rfl (Ve rfl (WL.nil (tn (WP.cond_true rfl (WP.seq (WP.region ?_)))))))
   refine ws rfl (os_alloc (cs := [(mkS []), .nilIface, .nilIface]) zeroValue148 rfl rfl (fun b6 => ?_))
   refine ws0 rfl (os_store (i := 0) (vs := [(mkS p_m.nm), (.iface t7 c4), (.iface t8 c5)]) (cs' := [(mkS p_m.nm), (.iface t7 c4), (.iface t8 c5)]) sizeOf148 rfl rfl rfl rfl rfl rfl rfl rfl rfl ?_)
   refine WL.nil (tn (WP.seq ?_))
   refine WP.region_draws (by kernel_rfl) (by kernel_rfl) (fun _ s => s.drew) ?_
   refine qf rfl (ov_fieldAddr underlying148 rfl rfl rfl sizeOf9 rfl rfl) ?_
   refine qf rfl (ov_load_box (i := 0) isAgg9 rfl rfl rfl rfl) ?_
   obtain ⟨s6, e13, hm⟩ := bind_some hm
   refine qf rfl (ov_sadd' e13 rfl rfl rfl) ?_
   obtain ⟨s7, e14, hm⟩ := bind_some hm
   refine qf rfl (ov_sadd' e14 rfl rfl rfl) ?_
   refine qf rfl (ov_fieldAddr underlying148 rfl rfl rfl sizeOf99 rfl rfl) ?_
   refine qf rfl (ov_load_box (i := 0) isAgg99 rfl rfl rfl rfl) ?_
   obtain ⟨r6, e15, hm⟩ := bind_some hm
   refine QL.quiet (Runs.free rfl) rfl rfl (oq_con (r := (mkS r6)) call65 rfl rfl (fun w' s => ⟨_, (hself p_m.thn t7 c4  w' H s.hold h12  hG r6 e15)⟩)) ?_
   obtain ⟨s8, e16, hm⟩ := bind_some hm
   refine qf rfl (ov_sadd' e16 rfl rfl rfl) ?_
   obtain ⟨s9, e17, hm⟩ := bind_some hm
   refine qf rfl (ov_sadd' e17 rfl rfl rfl) ?_
   refine qf rfl (ov_fieldAddr underlying148 rfl rfl rfl sizeOf99 rfl rfl) ?_
   refine qf rfl (ov_load_box (i := 0) isAgg99 rfl rfl rfl rfl) ?_
   obtain ⟨r7, e18, hm⟩ := bind_some hm
   refine QL.quiet (Runs.free rfl) rfl rfl (oq_con (r := (mkS r7)) call65 rfl rfl (fun w' s => ⟨_, (hself p_m.oth t8 c5  w' H s.hold h13  hG r7 e18)⟩)) ?_
   obtain ⟨s10, e19, hm⟩ := bind_some hm
   refine qf rfl (ov_sadd' e19 rfl rfl rfl) ?_
   refine qf rfl (ov_assign rfl rfl) ?_
   refine QL.nil ?_
   refine tn (WP.ret (block_ret (then_ret ?_)))
   obtain rfl := Option.some.inj hm
   refine retQ_ret results65 (Res.tmp rfl Res.nil) rfl (fun w' s => ⟨s.below, ?_⟩)
   exact rfl
  replace hm := ite_f hc8 hm
  obtain ⟨t9, v4, hv11, hv12⟩ := MotionRep.not_isChoice h1 hc8
  refine V rfl (ov_typeAssert_no (z := (.agg #[(mkS []), .nilIface, .nilIface])) underlying148 (fun _ h => by cases h) zeroValue148 rfl rfl hv11 hv12) (Ve rfl (Ve rfl (WL.nil (tn (WP.cond_false rfl (WP.skip (bn (tn ?_))))))))
  exact ⟨(Sub.all rfl), fun w' s => s, hm⟩
 rintro g' S' ⟨hsub3, hS3, hm⟩
 refine WP.sub hsub3 (WP.weaken hS3 ?_)
 replace hm := hk1.symm.trans hm
 refine WP.seq (WP.region (Va rfl (WL.nil (tn (WP.ret ?_)))))
 obtain rfl := Option.some.inj hm
 refine retQ_ret results65 (Res.tmp rfl Res.nil) rfl (fun w' s => ⟨s.below, ?_⟩)
 exact rfl
theorem program_text_con (n : Nat) : ∀ (p_m : Motion) (t1 : TypeId) (c1 : Value) (w : World) (H : Heap) (hH : Le H (hp w)) (h1 : MotionRep H p_m (.iface t1 c1)) (hG : Glob H) (r : (List UInt8)) (hm : program_text n p_m = some r),
  Con prog 65 [(.iface t1 c1)] w H (fun v _ => v = (mkS r)) := by
 induction n with
 | zero => intro p_m t1 c1 w H hH h1 hG r hm; exact (none_some hm).elim
 | succ n ih => intro p_m t1 c1 w H hH h1 hG r hm; exact program_text_body_con (program_text n) ih p_m t1 c1 w H hH h1 hG r hm
theorem program_Format_con (p_n : Node) (ao1 : Option Addr) (cap1 : Nat) (ao2 : Option Addr) (cap2 : Nat) (w : World) (H : Heap) (hH : Le H (hp w)) (h1 : SL H encStroke ao1 p_n.step.strokes) (hc1 : p_n.step.strokes.length ≤ cap1) (h2 : SL H encNode ao2 p_n.nodes) (hc2 : p_n.nodes.length ≤ cap2) (hG : Glob H) (r : ((List UInt8) × Int)) (hm : program_Format p_n = some r) :
  Con prog 27 [(.agg #[(.int .i64 p_n.kind), (.slice ao1 p_n.step.strokes.length cap1), (.int .i64 p_n.step.wait), (.int .i64 p_n.count), (mkS p_n.name), (.slice ao2 p_n.nodes.length cap2)])] w H (fun v _ => v = (.tuple #[(mkS r.1), (.int .i64 r.2)])) := by
 unfold program_Format at hm
 refine con_of hH func27 rfl 18 ntmps27 rfl ?_
 refine WP.seq (WP.region ?_)
 refine ws rfl (os_box (cs := [(.int .i64 p_n.kind), (.slice ao1 p_n.step.strokes.length cap1), (.int .i64 p_n.step.wait), (.int .i64 p_n.count), (mkS p_n.name), (.slice ao2 p_n.nodes.length cap2)]) rfl rfl rfl (fun b1 => ?_))
 refine Va rfl (Va rfl (WL.nil (tn (WP.seq (WP.seq (WP.region (V rfl (ov_load_whole (i := 0) isAgg28 sizeOf28 rfl rfl rfl rfl) ?_)))))))
 obtain ⟨r1, e1, hm⟩ := bind_some hm
 refine wo rfl (oq_con (r := (.int .i64 r1)) call31 rfl rfl (fun w' s => ⟨_, (program_Check_con p_n ao1 cap1 ao2 cap2  w' H s.hold h1 hc1 h2 hc2 hG r1 e1)⟩)) ?_
 refine Va rfl (WL.nil (tn (WP.seq (WP.region (Vm rfl (V rfl (ov_neq rfl rfl rfl) (WL.nil (tn ?_))))))))
 refine WP.cond rfl (fun hc3 => ?_) (fun hc3 => ?_)
 ·
  replace hm := ite_t hc3 hm
  refine WP.seq (WP.region (Vm rfl (Va rfl (Va rfl (WL.nil (tn (WP.ret (then_ret ?_))))))))
  obtain rfl := Option.some.inj hm
  refine retQ_ret results27 (Res.tmp rfl (Res.tmp rfl Res.nil)) rfl (fun w' s => ⟨s.below, ?_⟩)
  exact rfl
 replace hm := ite_f hc3 hm
 refine WP.skip (tn (WP.seq (WP.region (V rfl (ov_load_whole (i := 0) isAgg28 sizeOf28 rfl rfl rfl rfl) ?_))))
 obtain ⟨r2, e2, hm⟩ := bind_some hm
 refine ws rfl (os_con call53 rfl rfl (fun w' s => (program_of_con 600 p_n ao1 cap1 ao2 cap2  w' H s.hold h1 hc1 h2 hc2 hG r2 e2)) (fun rr1 H1 hle1 hR1 => ?_))
 replace hG := hG.mono hle1
 obtain ⟨t1, c1, rfl, h3⟩ := hR1
 obtain ⟨r3, e3, hm⟩ := bind_some hm
 refine wo rfl (oq_con (r := (mkS r3)) call65 rfl rfl (fun w' s => ⟨_, (program_text_con 600 r2 t1 c1  w' H1 s.hold h3  hG r3 e3)⟩)) ?_
 refine Va rfl (WL.nil (tn (WP.seq (WP.seq (WP.region (Vm rfl (V rfl (ov_len_string underlying9 rfl rfl) (V rfl (ov_gtr rfl rfl rfl) (WL.nil (tn ?_))))))))))
 refine WP.cond rfl (fun hc4 => ?_) (fun hc4 => ?_)
 ·
  replace hm := ite_t hc4 hm
  refine WP.seq (WP.region (Va rfl (Va rfl (WL.nil (tn (WP.ret (then_ret ?_)))))))
  obtain rfl := Option.some.inj hm
  refine retQ_ret results27 (Res.tmp rfl (Res.tmp rfl Res.nil)) rfl (fun w' s => ⟨s.below, ?_⟩)
  exact rfl
 replace hm := ite_f hc4 hm
 refine WP.skip (tn (WP.seq (WP.region (Vm rfl (Va rfl (Va rfl (WL.nil (tn (WP.ret ?_)))))))))
 obtain rfl := Option.some.inj hm
 refine retQ_ret results27 (Res.tmp rfl (Res.tmp rfl Res.nil)) rfl (fun w' s => ⟨s.below, ?_⟩)
 exact rfl
theorem program_Inputs_con (p_n : Node) (ao1 : Option Addr) (cap1 : Nat) (ao2 : Option Addr) (cap2 : Nat) (w : World) (H : Heap) (hH : Le H (hp w)) (h1 : SL H encStroke ao1 p_n.step.strokes) (hc1 : p_n.step.strokes.length ≤ cap1) (h2 : SL H encNode ao2 p_n.nodes) (hc2 : p_n.nodes.length ≤ cap2) (hG : Glob H) (r : ((List (List UInt8)) × Int)) (hm : program_Inputs p_n = some r) :
  Con prog 29 [(.agg #[(.int .i64 p_n.kind), (.slice ao1 p_n.step.strokes.length cap1), (.int .i64 p_n.step.wait), (.int .i64 p_n.count), (mkS p_n.name), (.slice ao2 p_n.nodes.length cap2)])] w H (fun v H' => ∃ (ao3 : Option Addr) (cap3 : Nat), v = (.tuple #[(.slice ao3 r.1.length cap3), (.int .i64 r.2)]) ∧ SL H' encStr ao3 r.1 ∧ r.1.length ≤ cap3) := by
 unfold program_Inputs at hm
 refine con_of hH func29 rfl 12 ntmps29 rfl ?_
 refine WP.seq (WP.region ?_)
 refine ws rfl (os_box (cs := [(.int .i64 p_n.kind), (.slice ao1 p_n.step.strokes.length cap1), (.int .i64 p_n.step.wait), (.int .i64 p_n.count), (mkS p_n.name), (.slice ao2 p_n.nodes.length cap2)]) rfl rfl rfl (fun b1 => ?_))
 refine Va rfl (Va rfl (WL.nil (tn (WP.seq (WP.seq (WP.region (V rfl (ov_load_whole (i := 0) isAgg28 sizeOf28 rfl rfl rfl rfl) ?_)))))))
 obtain ⟨r1, e1, hm⟩ := bind_some hm
 refine wo rfl (oq_con (r := (.int .i64 r1)) call31 rfl rfl (fun w' s => ⟨_, (program_Check_con p_n ao1 cap1 ao2 cap2  w' H s.hold h1 hc1 h2 hc2 hG r1 e1)⟩)) ?_
 refine Va rfl (WL.nil (tn (WP.seq (WP.region (Vm rfl (V rfl (ov_neq rfl rfl rfl) (WL.nil (tn ?_))))))))
 refine WP.cond rfl (fun hc4 => ?_) (fun hc4 => ?_)
 ·
  replace hm := ite_t hc4 hm
  refine WP.seq (WP.region (Vm rfl (Va rfl (Va rfl (WL.nil (tn (WP.ret (then_ret ?_))))))))
  obtain rfl := Option.some.inj hm
  refine retQ_ret results29 (Res.tmp rfl (Res.tmp rfl Res.nil)) rfl (fun w' s => ⟨s.below, ?_⟩)
  exact ⟨none, 0, rfl, SL.nil _ _ _, Nat.le_refl _⟩
 replace hm := ite_f hc4 hm
 refine WP.skip (tn (WP.seq (WP.region (V rfl (ov_load_whole (i := 0) isAgg28 sizeOf28 rfl rfl rfl rfl) ?_))))
 obtain ⟨r2, e2, hm⟩ := bind_some hm
 refine ws rfl (os_con call61 rfl rfl (fun w' s => (program_inputs_con p_n ao1 cap1 ao2 cap2  w' H s.hold h1 hc1 h2 hc2 hG r2 e2)) (fun rr1 H1 hle1 hR1 => ?_))
 obtain ⟨ao4, cap4, rfl, h4, hc5⟩ := hR1
 refine Va rfl (Va rfl (WL.nil (tn (WP.ret ?_))))
 obtain rfl := Option.some.inj hm
 refine retQ_ret results29 (Res.tmp rfl (Res.tmp rfl Res.nil)) rfl (fun w' s => ⟨s.below, ?_⟩)
 exact ⟨ao4, cap4, rfl, h4.mono s.le_newer, hc5⟩
theorem slices_Equal_stringstring_con (p_s1 : (List (List UInt8))) (p_s2 : (List (List UInt8))) (ao1 : Option Addr) (cap1 : Nat) (ao2 : Option Addr) (cap2 : Nat) (w : World) (H : Heap) (hH : Le H (hp w)) (h1 : SL H encStr ao1 p_s1) (hc1 : p_s1.length ≤ cap1) (h2 : SL H encStr ao2 p_s2) (hc2 : p_s2.length ≤ cap2) (hG : Glob H) (r : Bool) (hm : slices_Equal_stringstring p_s1 p_s2 = some r) :
  Con prog 33 [(.slice ao1 p_s1.length cap1), (.slice ao2 p_s2.length cap2)] w H (fun v _ => v = (.bool r)) := by
 unfold slices_Equal_stringstring at hm
 refine con_of hH func33 rfl 26 ntmps33 rfl ?_
 refine WP.seq (WP.region (Va rfl (WL.nil (tn (WP.seq (WP.seq (WP.region (Vm rfl (V rfl (ov_len_slice underlying36 rfl rfl) (Vm rfl (V rfl (ov_len_slice underlying36 rfl rfl) (V rfl (ov_neq rfl rfl rfl) (WL.nil ?_)))))))))))))
 refine tn ?_
 refine WP.cond rfl (fun hc3 => ?_) (fun hc3 => ?_)
 ·
  replace hm := ite_t hc3 hm
  refine WP.seq (WP.region (Va rfl (WL.nil (tn (WP.ret (then_ret ?_))))))
  obtain rfl := Option.some.inj hm
  refine retQ_ret results33 (Res.tmp rfl Res.nil) rfl (fun w' s => ⟨s.below, ?_⟩)
  exact rfl
 replace hm := ite_f hc3 hm
 refine WP.skip (tn ?_)
 obtain ⟨k1, hk1, hm⟩ := joinK_some hm
 refine WP.seq_join (fun g' S' => Sub [(1000000007, (.bool false))] g' ∧ (∀ w', S' w' → St w H [] H w') ∧ k1 = some r) ?_ ?_
 ·
  refine WP.seq (WP.region (Vm rfl (V rfl (ov_len_slice underlying36 rfl rfl) (Vm rfl (WL.nil (tn (WP.block ?_)))))))
  refine WP.loop (fun m1 g' S' => ∃ (i1 : Int), Sub [(0, (.slice ao1 p_s1.length cap1)), (1, (.slice ao2 p_s2.length cap2)), (12, (.int .i64 (p_s1.length : Int))), (13, (.int .i64 i1)), (1000000007, (.bool false))] g' ∧ (∀ w', S' w' → St w H [] H w') ∧ slices_Equal_stringstring_loop1 p_s1 p_s2 k1 m1 i1 = some r) ((Int.toNat ((p_s1.length : Int) - 0) + 1)) ⟨0, (Sub.all rfl), fun w' s => s, hm⟩ ?_ ?_
  ·
   rintro g' S' ⟨_, _, _, hm⟩
   exact none_some hm
  rintro m1 g' S' ⟨i1, hsub1, hS1, hm⟩
  refine WP.sub hsub1 (WP.weaken hS1 ?_)
  rw [slices_Equal_stringstring_loop1] at hm
  refine WP.seq (WP.region (V rfl (ov_lss rfl rfl rfl) (WL.nil (tn (WP.seq ?_)))))
  refine WP.cond rfl (fun hc4 => ?_) (fun hc4 => ?_)
  ·
   replace hm := ite_t hc4 hm
   refine WP.skip (tn (WP.seq (WP.block (WP.seq (WP.region (Vm rfl (Va rfl (WL.nil (tn (WP.seq ?_))))))))))
   refine WP.region_draws (by kernel_rfl) (by kernel_rfl) (fun _ s => s.drew) ?_
   refine qf rfl (ov_move rfl rfl) ?_
   refine qf rfl (ov_move rfl rfl) ?_
   obtain ⟨x1, e1, hm⟩ := bind_some hm
   obtain ⟨h3, h4, h5, cs1, h6, h7⟩ := h1.get e1 (by decide)
   obtain rfl : cs1 = [(mkS x1)] := h6
   refine qf rfl (ov_indexAddr underlying36 sizeOf9 rfl rfl rfl h3 h4 h5) ?_
   refine qf rfl (ov_load_elem (v := (mkS x1)) isAgg9 rfl rfl h7) ?_
   refine qf rfl (ov_move rfl rfl) ?_
   refine qf rfl (ov_move rfl rfl) ?_
   obtain ⟨x2, e2, hm⟩ := bind_some hm
   obtain ⟨h8, h9, h10, cs2, h11, h12⟩ := h2.get e2 (by decide)
   obtain rfl : cs2 = [(mkS x2)] := h11
   refine qf rfl (ov_indexAddr underlying36 sizeOf9 rfl rfl rfl h8 h9 h10) ?_
   refine qf rfl (ov_load_elem (v := (mkS x2)) isAgg9 rfl rfl h12) ?_
   refine qf rfl (ov_sneq rfl rfl rfl) ?_
   refine QL.nil ?_
   refine tn ?_
   refine WP.cond rfl (fun hc5 => ?_) (fun hc5 => ?_)
   ·
    replace hm := ite_t hc5 hm
    refine WP.seq (WP.region (Va rfl (WL.nil (tn (WP.ret (block_ret (then_ret (then_ret (block_ret (then_ret ?_))))))))))
    obtain rfl := Option.some.inj hm
    refine retQ_ret results33 (Res.tmp rfl Res.nil) rfl (fun w' s => ⟨s.below, ?_⟩)
    exact rfl
   replace hm := ite_f hc5 hm
   refine WP.skip (bn (tn (WP.region (V rfl (ov_add rfl rfl rfl) (Vm rfl (WL.nil (tn ?_)))))))
   exact ⟨(IntKind.wrap .i64 (i1 + 1)), (Sub.all rfl), fun w' s => s, hm⟩
  replace hm := ite_f hc4 hm
  refine WP.exit (then_exit (then_exit (block_here (tn ?_))))
  exact ⟨(Sub.all rfl), fun w' s => s, hm⟩
 rintro g' S' ⟨hsub2, hS2, hm⟩
 refine WP.sub hsub2 (WP.weaken hS2 ?_)
 replace hm := hk1.symm.trans hm
 refine WP.seq (WP.region (Va rfl (WL.nil (tn (WP.ret ?_)))))
 obtain rfl := Option.some.inj hm
 refine retQ_ret results33 (Res.tmp rfl Res.nil) rfl (fun w' s => ⟨s.below, ?_⟩)
 exact rfl
theorem ref13_Written_con (p_x : Stroke) (w : World) (H : Heap) (hH : Le H (hp w)) (hG : Glob H) (r : (List UInt8)) (hm : ref13_Written p_x = some r) :
  Con prog 117 [(.agg #[(.int .i64 p_x.actuator), (.bool p_x.out)])] w H (fun v _ => v = (mkS r)) := by
 unfold ref13_Written at hm
 refine con_of hH func117 rfl 16 ntmps117 rfl ?_
 refine WP.seq (WP.region ?_)
 refine ws rfl (os_box (cs := [(.int .i64 p_x.actuator), (.bool p_x.out)]) rfl rfl rfl (fun b1 => ?_))
 refine Va rfl (WL.nil (tn (WP.seq (WP.region (V rfl (ov_fieldAddr underlying112 rfl rfl rfl sizeOf3 rfl rfl) (Vl 0 isAgg3 rfl (V rfl (ov_fieldAddr underlying112 rfl rfl rfl sizeOf3 rfl rfl) (Vl 0 isAgg3 rfl (V rfl (ov_add rfl rfl rfl) ?_)))))))))
 obtain ⟨s1, e1, hm⟩ := bind_some hm
 refine V rfl (ov_slice_string underlying9 rfl rfl rfl rfl e1) (Va rfl (WL.nil (tn (WP.seq (WP.seq (WP.region (V rfl (ov_fieldAddr underlying112 rfl rfl rfl sizeOf4 rfl rfl) (Vl 0 isAgg4 rfl (WL.nil (tn ?_))))))))))
 refine WP.cond rfl (fun hc1 => ?_) (fun hc1 => ?_)
 ·
  replace hm := ite_t hc1 hm
  refine WP.seq (WP.region (Vm rfl ?_))
  obtain ⟨s2, e2, hm⟩ := bind_some hm
  refine V rfl (ov_sadd' e2 rfl rfl rfl) (Va rfl (WL.nil (tn (WP.ret (then_ret ?_)))))
  obtain rfl := Option.some.inj hm
  refine retQ_ret results117 (Res.tmp rfl Res.nil) rfl (fun w' s => ⟨s.below, ?_⟩)
  exact rfl
 replace hm := ite_f hc1 hm
 refine WP.skip (tn (WP.seq (WP.region (Vm rfl ?_))))
 obtain ⟨s3, e3, hm⟩ := bind_some hm
 refine V rfl (ov_sadd' e3 rfl rfl rfl) (Va rfl (WL.nil (tn (WP.ret ?_))))
 obtain rfl := Option.some.inj hm
 refine retQ_ret results117 (Res.tmp rfl Res.nil) rfl (fun w' s => ⟨s.below, ?_⟩)
 exact rfl
theorem ref03_Digits_con (p_n : Int) (w : World) (H : Heap) (hH : Le H (hp w)) (hG : Glob H) (r : (List UInt8)) (hm : ref03_Digits p_n = some r) :
  Con prog 118 [(.int .i64 p_n)] w H (fun v _ => v = (mkS r)) := by
 unfold ref03_Digits at hm
 refine con_of hH func118 rfl 23 ntmps118 rfl ?_
 refine WP.seq (WP.region (Va rfl (WL.nil (tn (WP.seq (WP.region (Va rfl (WL.nil (tn ?_)))))))))
 obtain ⟨k1, hk1, hm⟩ := joinK_some hm
 refine WP.seq_join (fun g' S' => ∃ (s4 : (List UInt8)), Sub [(3, (mkS s4)), (1000000007, (.bool false))] g' ∧ (∀ w', S' w' → St w H [] H w') ∧ k1 s4 = some r) ?_ ?_
 ·
  refine WP.seq (WP.region (Vm rfl (Va rfl (WL.nil (tn (WP.block ?_))))))
  refine WP.loop (fun m1 g' S' => ∃ (s1 : (List UInt8)) (i1 : Int), Sub [(3, (mkS s1)), (4, (.int .i64 i1)), (1000000007, (.bool false))] g' ∧ (∀ w', S' w' → St w H [] H w') ∧ ref03_Digits_loop1 k1 m1 s1 i1 = some r) ((p_n.toNat + 2)) ⟨[], p_n, (Sub.all rfl), fun w' s => s, hm⟩ ?_ ?_
  ·
   rintro g' S' ⟨_, _, _, _, hm⟩
   exact none_some hm
  rintro m1 g' S' ⟨s1, i1, hsub1, hS1, hm⟩
  refine WP.sub hsub1 (WP.weaken hS1 ?_)
  rw [ref03_Digits_loop1] at hm
  refine WP.seq (WP.seq (WP.region (Vm rfl (V rfl (ov_gtr rfl rfl rfl) (Vm rfl ?_)))))
  refine WL.cut_bool 3 11 (x := ((decide (i1 > 0)) || (s1 == []))) ?_ ?_
  ·
   rcases Bool.eq_false_or_eq_true (decide (i1 > 0)) with hc1 | hc1
   ·
    refine Vi rfl (Idle.no rfl rfl rfl hc1) (Vi rfl (Idle.no rfl rfl rfl hc1) (V rfl (ov_pick_true rfl (guard_eq rfl hc1) rfl) ?_))
    exact WL.nil ⟨Sub.cons' rfl (congrArg Value.bool (orT hc1)) (Sub.dropn 3 rfl), fun _ s => s⟩
   refine wy hc1 rfl (ov_move rfl rfl) ?_
   refine wy hc1 rfl (ov_seql rfl rfl rfl) ?_
   refine V rfl (ov_pick_false rfl (guard_eq rfl hc1) rfl) ?_
   exact WL.nil ⟨Sub.cons' rfl (congrArg Value.bool (orF hc1)) (Sub.dropn 3 rfl), fun _ s => s⟩
  refine WL.nil (tn ?_)
  refine WP.cond rfl (fun hc2 => ?_) (fun hc2 => ?_)
  ·
   replace hm := ite_t hc2 hm
   refine WP.skip (tn (WP.seq (WP.block (WP.region (Vm rfl (V rfl (ov_rem rfl rfl rfl (by decide)) (Vm rfl (V rfl (ov_rem rfl rfl rfl (by decide)) (V rfl (ov_add rfl rfl rfl) ?_)))))))))
   obtain ⟨s2, e1, hm⟩ := bind_some hm
   refine V rfl (ov_slice_string underlying9 rfl rfl rfl rfl e1) (Vm rfl ?_)
   obtain ⟨s3, e2, hm⟩ := bind_some hm
   refine V rfl (ov_sadd' e2 rfl rfl rfl) (Va rfl (WL.nil (bn (tn (WP.region (Vm rfl (V rfl (ov_quo rfl rfl rfl (by decide)) (Va rfl (WL.nil (tn ?_))))))))))
   exact ⟨s3, (IntKind.wrap .i64 (Int.tdiv i1 10)), (Sub.all rfl), fun w' s => s, hm⟩
  replace hm := ite_f hc2 hm
  refine WP.exit (then_exit (then_exit (block_here (tn ?_))))
  exact ⟨s1, (Sub.all rfl), fun w' s => s, hm⟩
 rintro g' S' ⟨s4, hsub2, hS2, hm⟩
 refine WP.sub hsub2 (WP.weaken hS2 ?_)
 replace hm := (congrFun hk1 s4).symm.trans hm
 refine WP.seq (WP.region (Vm rfl (Va rfl (WL.nil (tn (WP.ret ?_))))))
 obtain rfl := Option.some.inj hm
 refine retQ_ret results118 (Res.tmp rfl Res.nil) rfl (fun w' s => ⟨s.below, ?_⟩)
 exact rfl
theorem ref13_Line_con (p_x : Step) (ao1 : Option Addr) (cap1 : Nat) (w : World) (H : Heap) (hH : Le H (hp w)) (h1 : SL H encStroke ao1 p_x.strokes) (hc1 : p_x.strokes.length ≤ cap1) (hG : Glob H) (r : (List UInt8)) (hm : ref13_Line p_x = some r) :
  Con prog 82 [(.agg #[(.slice ao1 p_x.strokes.length cap1), (.int .i64 p_x.wait)])] w H (fun v _ => v = (mkS r)) := by
 unfold ref13_Line at hm
 refine con_of hH func82 rfl 34 ntmps82 rfl ?_
 refine WP.seq (WP.region ?_)
 refine ws rfl (os_box (cs := [(.slice ao1 p_x.strokes.length cap1), (.int .i64 p_x.wait)]) rfl rfl rfl (fun b1 => ?_))
 refine Va rfl (WL.nil (tn (WP.seq (WP.region (Va rfl (WL.nil (tn ?_)))))))
 obtain ⟨k1, hk1, hm⟩ := joinK_some hm
 refine WP.seq_join (fun g' S' => ∃ (s5 : (List UInt8)), Sub [(1, (pB b1 0)), (3, (mkS s5)), (1000000007, (.bool false))] g' ∧ (∀ w', S' w' → St w H [.blk b1 25 [(.slice ao1 p_x.strokes.length cap1), (.int .i64 p_x.wait)]] H w') ∧ k1 s5 = some r) ?_ ?_
 ·
  refine WP.seq (WP.region (Va rfl (WL.nil (tn (WP.block ?_)))))
  refine WP.loop (fun m1 g' S' => ∃ (s1 : (List UInt8)) (i1 : Int), Sub [(1, (pB b1 0)), (3, (mkS s1)), (4, (.int .i64 i1)), (1000000007, (.bool false))] g' ∧ (∀ w', S' w' → St w H [.blk b1 25 [(.slice ao1 p_x.strokes.length cap1), (.int .i64 p_x.wait)]] H w') ∧ ref13_Line_loop1 p_x k1 m1 s1 i1 = some r) ((Int.toNat ((p_x.strokes.length : Int) - 0) + 1)) ⟨[], 0, (Sub.all rfl), fun w' s => s, hm⟩ ?_ ?_
  ·
   rintro g' S' ⟨_, _, _, _, hm⟩
   exact none_some hm
  rintro m1 g' S' ⟨s1, i1, hsub1, hS1, hm⟩
  refine WP.sub hsub1 (WP.weaken hS1 ?_)
  rw [ref13_Line_loop1] at hm
  refine WP.seq (WP.seq (WP.region (Vm rfl (V rfl (ov_fieldAddr underlying25 rfl rfl rfl sizeOf23 rfl rfl) (Vl 0 isAgg23 rfl (V rfl (ov_len_slice underlying23 rfl rfl) (V rfl (ov_lss rfl rfl rfl) (WL.nil (tn ?_)))))))))
  refine WP.cond rfl (fun hc2 => ?_) (fun hc2 => ?_)
  ·
   replace hm := ite_t hc2 hm
   refine WP.skip (tn (WP.seq (WP.block ?_)))
   obtain ⟨k2, hk2, hm⟩ := joinK_some hm
   refine WP.seq_join (fun g' S' => ∃ (s3 : (List UInt8)), Sub [(1, (pB b1 0)), (3, (mkS s3)), (4, (.int .i64 i1)), (1000000007, (.bool false))] g' ∧ (∀ w', S' w' → St w H [.blk b1 25 [(.slice ao1 p_x.strokes.length cap1), (.int .i64 p_x.wait)]] H w') ∧ k2 s3 = some r) ?_ ?_
   ·
    refine WP.seq (WP.region (Vm rfl (V rfl (ov_gtr rfl rfl rfl) (WL.nil (tn ?_)))))
    refine WP.cond rfl (fun hc3 => ?_) (fun hc3 => ?_)
    ·
     replace hm := ite_t hc3 hm
     refine WP.region (Vm rfl ?_)
     obtain ⟨s2, e1, hm⟩ := bind_some hm
     refine V rfl (ov_sadd' e1 rfl rfl rfl) (Va rfl (WL.nil (tn ?_)))
     exact ⟨s2, (Sub.all rfl), fun w' s => s, hm⟩
    replace hm := ite_f hc3 hm
    refine WP.skip (tn ?_)
    exact ⟨s1, (Sub.all rfl), fun w' s => s, hm⟩
   rintro g' S' ⟨s3, hsub2, hS2, hm⟩
   refine WP.sub hsub2 (WP.weaken hS2 ?_)
   replace hm := (congrFun hk2 s3).symm.trans hm
   refine WP.region (Vm rfl (V rfl (ov_fieldAddr underlying25 rfl rfl rfl sizeOf23 rfl rfl) (Vl 0 isAgg23 rfl (Vm rfl ?_))))
   obtain ⟨x1, e2, hm⟩ := bind_some hm
   obtain ⟨h2, h3, h4, cs1, h5, h6⟩ := h1.get e2 (by decide)
   obtain rfl : cs1 = [(.int .i64 x1.actuator), (.bool x1.out)] := h5
   refine V rfl (ov_indexAddr underlying23 sizeOf112 rfl rfl rfl h2 h3 h4) (V rfl (ov_load_elems (vs := [(.int .i64 x1.actuator), (.bool x1.out)]) isAgg112 sizeOf112 rfl rfl rfl h6 h4) ?_)
   obtain ⟨r1, e3, hm⟩ := bind_some hm
   refine wo rfl (oq_con (r := (mkS r1)) call117 rfl rfl (fun w' s => ⟨_, (ref13_Written_con x1  w' H s.hold hG r1 e3)⟩)) ?_
   obtain ⟨s4, e4, hm⟩ := bind_some hm
   refine V rfl (ov_sadd' e4 rfl rfl rfl) (Va rfl (WL.nil (bn (tn (WP.region (Vm rfl (V rfl (ov_add rfl rfl rfl) (Va rfl (WL.nil (tn ?_))))))))))
   exact ⟨s4, (IntKind.wrap .i64 (i1 + 1)), (Sub.all rfl), fun w' s => s, hm⟩
  replace hm := ite_f hc2 hm
  refine WP.exit (then_exit (then_exit (block_here (tn ?_))))
  exact ⟨s1, (Sub.all rfl), fun w' s => s, hm⟩
 rintro g' S' ⟨s5, hsub3, hS3, hm⟩
 refine WP.sub hsub3 (WP.weaken hS3 ?_)
 replace hm := (congrFun hk1 s5).symm.trans hm
 obtain ⟨k3, hk3, hm⟩ := joinK_some hm
 refine WP.seq_join (fun g' S' => ∃ (s8 : (List UInt8)), Sub [(3, (mkS s8)), (1000000007, (.bool false))] g' ∧ (∀ w', S' w' → St w H [] H w') ∧ k3 s8 = some r) ?_ ?_
 ·
  refine WP.seq (WP.region (V rfl (ov_fieldAddr underlying25 rfl rfl rfl sizeOf3 rfl rfl) (Vl 0 isAgg3 rfl (V rfl (ov_gtr rfl rfl rfl) (WL.nil (tn ?_))))))
  refine WP.cond rfl (fun hc4 => ?_) (fun hc4 => ?_)
  ·
   replace hm := ite_t hc4 hm
   refine WP.region (Vm rfl (V rfl (ov_fieldAddr underlying25 rfl rfl rfl sizeOf3 rfl rfl) (Vl 0 isAgg3 rfl ?_)))
   obtain ⟨r2, e5, hm⟩ := bind_some hm
   refine wo rfl (oq_con (r := (mkS r2)) call118 rfl rfl (fun w' s => ⟨_, (ref03_Digits_con p_x.wait  w' H s.hold hG r2 e5)⟩)) ?_
   obtain ⟨s6, e6, hm⟩ := bind_some hm
   refine V rfl (ov_sadd' e6 rfl rfl rfl) ?_
   obtain ⟨s7, e7, hm⟩ := bind_some hm
   refine V rfl (ov_sadd' e7 rfl rfl rfl) (Va rfl (WL.nil (tn ?_)))
   exact ⟨s7, (Sub.all rfl), fun w' s => (s.select [] (by decide) rfl), hm⟩
  replace hm := ite_f hc4 hm
  refine WP.skip (tn ?_)
  exact ⟨s5, (Sub.all rfl), fun w' s => (s.select [] (by decide) rfl), hm⟩
 rintro g' S' ⟨s8, hsub4, hS4, hm⟩
 refine WP.sub hsub4 (WP.weaken hS4 ?_)
 replace hm := (congrFun hk3 s8).symm.trans hm
 refine WP.seq (WP.region (Vm rfl (Va rfl (WL.nil (tn (WP.ret ?_))))))
 obtain rfl := Option.some.inj hm
 refine retQ_ret results82 (Res.tmp rfl Res.nil) rfl (fun w' s => ⟨s.below, ?_⟩)
 exact rfl
theorem ref13_Lines_con (p_l : (List Step)) (ao1 : Option Addr) (cap1 : Nat) (w : World) (H : Heap) (hH : Le H (hp w)) (h1 : SL H encStep ao1 p_l) (hc1 : p_l.length ≤ cap1) (hG : Glob H) (r : (List UInt8)) (hm : ref13_Lines p_l = some r) :
  Con prog 43 [(.slice ao1 p_l.length cap1)] w H (fun v _ => v = (mkS r)) := by
 unfold ref13_Lines at hm
 refine con_of hH func43 rfl 23 ntmps43 rfl ?_
 refine WP.seq (WP.region (Va rfl (WL.nil (tn (WP.seq (WP.region (Va rfl (WL.nil (tn ?_)))))))))
 obtain ⟨k1, hk1, hm⟩ := joinK_some hm
 refine WP.seq_join (fun g' S' => ∃ (s5 : (List UInt8)), Sub [(3, (mkS s5)), (1000000007, (.bool false))] g' ∧ (∀ w', S' w' → St w H [] H w') ∧ k1 s5 = some r) ?_ ?_
 ·
  refine WP.seq (WP.region (Va rfl (WL.nil (tn (WP.block ?_)))))
  refine WP.loop (fun m1 g' S' => ∃ (s1 : (List UInt8)) (i1 : Int), Sub [(0, (.slice ao1 p_l.length cap1)), (3, (mkS s1)), (4, (.int .i64 i1)), (1000000007, (.bool false))] g' ∧ (∀ w', S' w' → St w H [] H w') ∧ ref13_Lines_loop1 p_l k1 m1 s1 i1 = some r) ((Int.toNat ((p_l.length : Int) - 0) + 1)) ⟨[], 0, (Sub.all rfl), fun w' s => s, hm⟩ ?_ ?_
  ·
   rintro g' S' ⟨_, _, _, _, hm⟩
   exact none_some hm
  rintro m1 g' S' ⟨s1, i1, hsub1, hS1, hm⟩
  refine WP.sub hsub1 (WP.weaken hS1 ?_)
  rw [ref13_Lines_loop1] at hm
  refine WP.seq (WP.seq (WP.region (Vm rfl (Vm rfl (V rfl (ov_len_slice underlying42 rfl rfl) (V rfl (ov_lss rfl rfl rfl) (WL.nil (tn ?_))))))))
  refine WP.cond rfl (fun hc2 => ?_) (fun hc2 => ?_)
  ·
   replace hm := ite_t hc2 hm
   refine WP.skip (tn (WP.seq (WP.block ?_)))
   obtain ⟨k2, hk2, hm⟩ := joinK_some hm
   refine WP.seq_join (fun g' S' => ∃ (s3 : (List UInt8)), Sub [(0, (.slice ao1 p_l.length cap1)), (3, (mkS s3)), (4, (.int .i64 i1)), (1000000007, (.bool false))] g' ∧ (∀ w', S' w' → St w H [] H w') ∧ k2 s3 = some r) ?_ ?_
   ·
    refine WP.seq (WP.region (Vm rfl (V rfl (ov_gtr rfl rfl rfl) (WL.nil (tn ?_)))))
    refine WP.cond rfl (fun hc3 => ?_) (fun hc3 => ?_)
    ·
     replace hm := ite_t hc3 hm
     refine WP.region (Vm rfl ?_)
     obtain ⟨s2, e1, hm⟩ := bind_some hm
     refine V rfl (ov_sadd' e1 rfl rfl rfl) (Va rfl (WL.nil (tn ?_)))
     exact ⟨s2, (Sub.all rfl), fun w' s => s, hm⟩
    replace hm := ite_f hc3 hm
    refine WP.skip (tn ?_)
    exact ⟨s1, (Sub.all rfl), fun w' s => s, hm⟩
   rintro g' S' ⟨s3, hsub2, hS2, hm⟩
   refine WP.sub hsub2 (WP.weaken hS2 ?_)
   replace hm := (congrFun hk2 s3).symm.trans hm
   refine WP.region (Vm rfl (Vm rfl (Vm rfl ?_)))
   obtain ⟨x1, e2, hm⟩ := bind_some hm
   obtain ⟨h3, h4, h5, cs1, h6, h7⟩ := h1.get e2 (by decide)
   obtain ⟨ao2, cap2, rfl, h2, hc4⟩ := h6
   refine V rfl (ov_indexAddr underlying42 sizeOf25 rfl rfl rfl h3 h4 h5) (V rfl (ov_load_elems (vs := [(.slice ao2 x1.strokes.length cap2), (.int .i64 x1.wait)]) isAgg25 sizeOf25 rfl rfl rfl h7 h5) ?_)
   obtain ⟨r1, e3, hm⟩ := bind_some hm
   refine wo rfl (oq_con (r := (mkS r1)) call82 rfl rfl (fun w' s => ⟨_, (ref13_Line_con x1 ao2 cap2  w' H s.hold h2 hc4 hG r1 e3)⟩)) ?_
   obtain ⟨s4, e4, hm⟩ := bind_some hm
   refine V rfl (ov_sadd' e4 rfl rfl rfl) (Va rfl (WL.nil (bn (tn (WP.region (Vm rfl (V rfl (ov_add rfl rfl rfl) (Va rfl (WL.nil (tn ?_))))))))))
   exact ⟨s4, (IntKind.wrap .i64 (i1 + 1)), (Sub.all rfl), fun w' s => s, hm⟩
  replace hm := ite_f hc2 hm
  refine WP.exit (then_exit (then_exit (block_here (tn ?_))))
  exact ⟨s1, (Sub.all rfl), fun w' s => s, hm⟩
 rintro g' S' ⟨s5, hsub3, hS3, hm⟩
 refine WP.sub hsub3 (WP.weaken hS3 ?_)
 replace hm := (congrFun hk1 s5).symm.trans hm
 refine WP.seq (WP.region (Vm rfl (Va rfl (WL.nil (tn (WP.ret ?_))))))
 obtain rfl := Option.some.inj hm
 refine retQ_ret results43 (Res.tmp rfl Res.nil) rfl (fun w' s => ⟨s.below, ?_⟩)
 exact rfl
theorem law15_awake_con  (w : World) (H : Heap) (hH : Le H (hp w)) (hG : Glob H) (r : Bool) (hm : law15_awake  = some r) :
  Con prog 11 [] w H (fun v _ => v = (.bool r)) := by
 unfold law15_awake at hm
 refine con_of hH func11 rfl 142 ntmps11 rfl ?_
 refine WP.seq (WP.region (Va rfl (WL.nil (tn (WP.seq (WP.region ?_))))))
 obtain ⟨r1, e1, hm⟩ := bind_some hm
 refine ws rfl (os_con call12 rfl rfl (fun w' s => (program_Parse_con [123, 32, 65, 43, 59, 32, 105, 102, 32, 108, 111, 110, 103, 32, 114, 101, 112, 101, 97, 116, 32, 50, 32, 123, 32, 66, 43, 59, 32, 66, 45, 32, 125, 32, 101, 108, 115, 101, 32, 66, 43, 32, 66, 45, 32, 53, 48, 59, 32, 65, 45, 32, 125]  w' H s.hold hG r1 e1)) (fun rr1 H1 hle1 hR1 => ?_))
 replace hG := hG.mono hle1
 obtain ⟨ao1, cap1, ao2, cap2, rfl, h1, hc1, h2, hc2⟩ := hR1
 refine Vm rfl (Ve rfl (Ve rfl (Ve rfl ?_)))
 refine ws rfl (os_alloc (cs := [(.int .i64 0), (.slice none 0 0), (.int .i64 0), (.int .i64 0), (mkS []), (.slice none 0 0)]) zeroValue28 rfl rfl (fun b1 => ?_))
 refine ws0 rfl (os_store (i := 0) (vs := [(.int .i64 r1.1.kind), (.slice ao1 r1.1.step.strokes.length cap1), (.int .i64 r1.1.step.wait), (.int .i64 r1.1.count), (mkS r1.1.name), (.slice ao2 r1.1.nodes.length cap2)]) (cs' := [(.int .i64 r1.1.kind), (.slice ao1 r1.1.step.strokes.length cap1), (.int .i64 r1.1.step.wait), (.int .i64 r1.1.count), (mkS r1.1.name), (.slice ao2 r1.1.nodes.length cap2)]) sizeOf28 rfl rfl rfl rfl rfl rfl rfl rfl rfl ?_)
 refine Va rfl (Va rfl (WL.nil (tn (WP.seq (WP.region ?_)))))
 obtain ⟨r2, e2, hm⟩ := bind_some hm
 refine ws rfl (os_con call12 rfl rfl (fun w' s => (program_Parse_con [123, 32, 65, 43, 59, 32, 105, 102, 32, 108, 111, 110, 103, 32, 114, 101, 112, 101, 97, 116, 32, 50, 32, 123, 32, 66, 43, 59, 32, 66, 45, 32, 125, 32, 101, 108, 115, 101, 32, 123, 32, 66, 43, 59, 32, 66, 45, 32, 125, 59, 32, 65, 45, 32, 125]  w' H1 s.hold hG r2 e2)) (fun rr2 H2 hle2 hR2 => ?_))
 replace hG := hG.mono hle2
 obtain ⟨ao3, cap3, ao4, cap4, rfl, h3, hc3, h4, hc4⟩ := hR2
 refine Vm rfl (Ve rfl (Ve rfl (Ve rfl ?_)))
 refine ws rfl (os_alloc (cs := [(.int .i64 0), (.slice none 0 0), (.int .i64 0), (.int .i64 0), (mkS []), (.slice none 0 0)]) zeroValue28 rfl rfl (fun b2 => ?_))
 refine ws0 rfl (os_store (i := 0) (vs := [(.int .i64 r2.1.kind), (.slice ao3 r2.1.step.strokes.length cap3), (.int .i64 r2.1.step.wait), (.int .i64 r2.1.count), (mkS r2.1.name), (.slice ao4 r2.1.nodes.length cap4)]) (cs' := [(.int .i64 r2.1.kind), (.slice ao3 r2.1.step.strokes.length cap3), (.int .i64 r2.1.step.wait), (.int .i64 r2.1.count), (mkS r2.1.name), (.slice ao4 r2.1.nodes.length cap4)]) sizeOf28 rfl rfl rfl rfl rfl rfl rfl rfl rfl ?_)
 refine Va rfl (Va rfl (WL.nil (tn (WP.seq (WP.region (V rfl (ov_load_whole (i := 0) isAgg28 sizeOf28 rfl rfl rfl rfl) ?_))))))
 obtain ⟨r3, e3, hm⟩ := bind_some hm
 refine ws rfl (os_con call29 rfl rfl (fun w' s => (program_Inputs_con r2.1 ao3 cap3 ao4 cap4  w' H2 s.hold h3 hc3 h4 hc4 hG r3 e3)) (fun rr3 H3 hle3 hR3 => ?_))
 replace h3 := h3.mono hle3
 replace h4 := h4.mono hle3
 replace hG := hG.mono hle3
 obtain ⟨ao5, cap5, rfl, h5, hc5⟩ := hR3
 refine Vm rfl (Ve rfl (Ve rfl (Va rfl (Va rfl (WL.nil (tn (WP.seq (WP.region (V rfl (ov_load_whole (i := 0) isAgg28 sizeOf28 rfl rfl rfl rfl) ?_)))))))))
 have rl1 : RL H3 encStr ([[108, 111, 110, 103]] : List (List UInt8)) [(mkS [108, 111, 110, 103])] := RL.cons (cs := [(mkS [108, 111, 110, 103])]) (xs := []) rfl (RL.nil _ _)
 refine ws rfl (os_buildSlice (cs := [(mkS [108, 111, 110, 103])]) (E := 9) (sz := 1) rfl rfl (fun _ => by kernel_rfl) rfl (by decide) (fun b3 => ?_))
 refine WL.held rl1 (fun H4 hc6 hle4 h6 => ?_)
 replace h3 := h3.mono hle4
 replace h4 := h4.mono hle4
 replace h5 := h5.mono hle4
 replace hG := hG.mono hle4
 obtain ⟨r4, e4, hm⟩ := bind_some hm
 refine ws rfl (os_con call18 rfl rfl (fun w' s => (program_Unfold_con r2.1 ([[108, 111, 110, 103]] : List (List UInt8)) ao3 cap3 ao4 cap4 (some ⟨b3, 0, none⟩) 1  w' H4 s.hold h3 hc3 h4 hc4 h6 hc6 hG r4 e4)) (fun rr4 H5 hle5 hR4 => ?_))
 replace h3 := h3.mono hle5
 replace h4 := h4.mono hle5
 replace h5 := h5.mono hle5
 replace hG := hG.mono hle5
 obtain ⟨ao6, cap6, rfl, h7, hc7⟩ := hR4
 refine Vm rfl (Ve rfl (Ve rfl (Va rfl (Va rfl (WL.nil (tn (WP.seq (WP.region (V rfl (ov_load_whole (i := 0) isAgg28 sizeOf28 rfl rfl rfl rfl) ?_)))))))))
 obtain ⟨r5, e5, hm⟩ := bind_some hm
 refine ws rfl (os_con call18 rfl rfl (fun w' s => (program_Unfold_con r2.1 [] ao3 cap3 ao4 cap4 none 0  w' H5 s.hold h3 hc3 h4 hc4 (SL.nil _ _ _) (Nat.le_refl _) hG r5 e5)) (fun rr5 H6 hle6 hR5 => ?_))
 replace h3 := h3.mono hle6
 replace h4 := h4.mono hle6
 replace h5 := h5.mono hle6
 replace h7 := h7.mono hle6
 replace hG := hG.mono hle6
 obtain ⟨ao7, cap7, rfl, h8, hc8⟩ := hR5
 refine Vm rfl (Ve rfl (Ve rfl (Va rfl (Va rfl (WL.nil (tn (WP.seq (WP.region (V rfl (ov_load_whole (i := 0) isAgg28 sizeOf28 rfl rfl rfl rfl) ?_)))))))))
 obtain ⟨r6, e6, hm⟩ := bind_some hm
 refine ws rfl (os_con call25 rfl rfl (fun w' s => (program_Faulty_con r2.1 ao3 cap3 ao4 cap4  w' H6 s.hold h3 hc3 h4 hc4 hG r6 e6)) (fun rr6 H7 hle7 hR6 => ?_))
 replace h3 := h3.mono hle7
 replace h4 := h4.mono hle7
 replace h5 := h5.mono hle7
 replace h7 := h7.mono hle7
 replace h8 := h8.mono hle7
 replace hG := hG.mono hle7
 obtain ⟨ao8, cap8, rfl, h9, hc9⟩ := hR6
 refine Vm rfl (Ve rfl (Ve rfl (Ve rfl (Va rfl (Va rfl (Va rfl (WL.nil (tn (WP.seq (WP.region ?_))))))))))
 obtain ⟨r7, e7, hm⟩ := bind_some hm
 refine ws rfl (os_con call12 rfl rfl (fun w' s => (program_Parse_con [114, 101, 112, 101, 97, 116, 32, 51, 32, 65, 43]  w' H7 s.hold hG r7 e7)) (fun rr7 H8 hle8 hR7 => ?_))
 replace h3 := h3.mono hle8
 replace h4 := h4.mono hle8
 replace h5 := h5.mono hle8
 replace h7 := h7.mono hle8
 replace h8 := h8.mono hle8
 replace hG := hG.mono hle8
 obtain ⟨ao9, cap9, ao10, cap10, rfl, h10, hc10, h11, hc11⟩ := hR7
 refine Vm rfl (Ve rfl (Ve rfl (Ve rfl ?_)))
 refine ws rfl (os_alloc (cs := [(.int .i64 0), (.slice none 0 0), (.int .i64 0), (.int .i64 0), (mkS []), (.slice none 0 0)]) zeroValue28 rfl rfl (fun b4 => ?_))
 refine ws0 rfl (os_store (i := 0) (vs := [(.int .i64 r7.1.kind), (.slice ao9 r7.1.step.strokes.length cap9), (.int .i64 r7.1.step.wait), (.int .i64 r7.1.count), (mkS r7.1.name), (.slice ao10 r7.1.nodes.length cap10)]) (cs' := [(.int .i64 r7.1.kind), (.slice ao9 r7.1.step.strokes.length cap9), (.int .i64 r7.1.step.wait), (.int .i64 r7.1.count), (mkS r7.1.name), (.slice ao10 r7.1.nodes.length cap10)]) sizeOf28 rfl rfl rfl rfl rfl rfl rfl rfl rfl ?_)
 refine Va rfl (Va rfl (WL.nil (tn (WP.seq (WP.region (V rfl (ov_load_whole (i := 0) isAgg28 sizeOf28 rfl rfl rfl rfl) ?_))))))
 obtain ⟨r8, e8, hm⟩ := bind_some hm
 refine wo rfl (oq_con (r := (.tuple #[(.int .i64 r8.1), (.int .i64 r8.2)])) call16 rfl rfl (fun w' s => ⟨_, (program_Length_con r7.1 [] ao9 cap9 ao10 cap10 none 0  w' H8 s.hold h10 hc10 h11 hc11 (SL.nil _ _ _) (Nat.le_refl _) hG r8 e8)⟩)) ?_
 refine Vm rfl (Ve rfl (Ve rfl (Va rfl (Va rfl (WL.nil (tn (WP.seq (WP.region (V rfl (ov_load_whole (i := 0) isAgg28 sizeOf28 rfl rfl rfl rfl) ?_)))))))))
 obtain ⟨r9, e9, hm⟩ := bind_some hm
 refine ws rfl (os_con call20 rfl rfl (fun w' s => (program_Sequence_con r7.1 [] ao9 cap9 ao10 cap10 none 0  w' H8 s.hold h10 hc10 h11 hc11 (SL.nil _ _ _) (Nat.le_refl _) hG r9 e9)) (fun rr8 H9 hle9 hR8 => ?_))
 replace h3 := h3.mono hle9
 replace h4 := h4.mono hle9
 replace h5 := h5.mono hle9
 replace h7 := h7.mono hle9
 replace h8 := h8.mono hle9
 replace hG := hG.mono hle9
 obtain ⟨ao11, cap11, rfl, h12, hc12⟩ := hR8
 refine Vm rfl (Ve rfl (Ve rfl ?_))
 refine ws rfl (os_alloc (cs := [(.int .i64 0), (.slice none 0 0)]) zeroValue48 rfl rfl (fun b5 => ?_))
 refine ws0 rfl (os_store (i := 0) (vs := [(.int .i64 r9.1.actuators), (.slice ao11 r9.1.steps.length cap11)]) (cs' := [(.int .i64 r9.1.actuators), (.slice ao11 r9.1.steps.length cap11)]) sizeOf48 rfl rfl rfl rfl rfl rfl rfl rfl rfl ?_)
 refine Va rfl (WL.nil (tn (WP.seq (WP.region ?_))))
 obtain ⟨r10, e10, hm⟩ := bind_some hm
 refine ws rfl (os_con call12 rfl rfl (fun w' s => (program_Parse_con [123, 32, 65, 43, 32, 59, 32, 125]  w' H9 s.hold hG r10 e10)) (fun rr9 H10 hle10 hR9 => ?_))
 replace h3 := h3.mono hle10
 replace h4 := h4.mono hle10
 replace h5 := h5.mono hle10
 replace h7 := h7.mono hle10
 replace h8 := h8.mono hle10
 replace hG := hG.mono hle10
 obtain ⟨ao12, cap12, ao13, cap13, rfl, h13, hc13, h14, hc14⟩ := hR9
 refine Vm rfl (Ve rfl (Ve rfl (Ve rfl ?_)))
 refine ws rfl (os_alloc (cs := [(.int .i64 0), (.slice none 0 0), (.int .i64 0), (.int .i64 0), (mkS []), (.slice none 0 0)]) zeroValue28 rfl rfl (fun b6 => ?_))
 refine ws0 rfl (os_store (i := 0) (vs := [(.int .i64 r10.1.kind), (.slice ao12 r10.1.step.strokes.length cap12), (.int .i64 r10.1.step.wait), (.int .i64 r10.1.count), (mkS r10.1.name), (.slice ao13 r10.1.nodes.length cap13)]) (cs' := [(.int .i64 r10.1.kind), (.slice ao12 r10.1.step.strokes.length cap12), (.int .i64 r10.1.step.wait), (.int .i64 r10.1.count), (mkS r10.1.name), (.slice ao13 r10.1.nodes.length cap13)]) sizeOf28 rfl rfl rfl rfl rfl rfl rfl rfl rfl ?_)
 refine Va rfl (Va rfl (WL.nil (tn (WP.seq (WP.region (V rfl (ov_load_whole (i := 3) isAgg28 sizeOf28 rfl rfl rfl rfl) ?_))))))
 obtain ⟨r11, e11, hm⟩ := bind_some hm
 refine wo rfl (oq_con (r := (.tuple #[(mkS r11.1), (.int .i64 r11.2)])) call27 rfl rfl (fun w' s => ⟨_, (program_Format_con r2.1 ao3 cap3 ao4 cap4  w' H10 s.hold h3 hc3 h4 hc4 hG r11 e11)⟩)) ?_
 refine Vm rfl (Ve rfl (Ve rfl (Va rfl (Va rfl (WL.nil (tn (WP.seq (WP.seq (WP.region (Vm rfl (Vm rfl (V rfl (ov_add rfl rfl rfl) (Vm rfl ?_)))))))))))))
 refine V rfl (ov_add rfl rfl rfl) (Vm rfl (V rfl (ov_add rfl rfl rfl) (Vm rfl (V rfl (ov_add rfl rfl rfl) (Vm rfl (V rfl (ov_add rfl rfl rfl) (Vm rfl (V rfl (ov_add rfl rfl rfl) (Vm rfl (V rfl (ov_add rfl rfl rfl) (V rfl (ov_neq rfl rfl rfl) (Vm rfl ?_))))))))))))
 refine WL.cut_bool 3 104 (x := (((IntKind.wrap .i64 ((IntKind.wrap .i64 ((IntKind.wrap .i64 ((IntKind.wrap .i64 ((IntKind.wrap .i64 ((IntKind.wrap .i64 ((IntKind.wrap .i64 (r2.2.2 + r3.2)) + r4.2)) + r5.2)) + r6.2.2)) + r7.2.2)) + r8.2)) + r11.2)) != 0) || (r1.2.2 != 7))) ?_ ?_
 ·
  rcases Bool.eq_false_or_eq_true ((IntKind.wrap .i64 ((IntKind.wrap .i64 ((IntKind.wrap .i64 ((IntKind.wrap .i64 ((IntKind.wrap .i64 ((IntKind.wrap .i64 ((IntKind.wrap .i64 (r2.2.2 + r3.2)) + r4.2)) + r5.2)) + r6.2.2)) + r7.2.2)) + r8.2)) + r11.2)) != 0) with hc15 | hc15
  ·
   refine Vi rfl (Idle.no rfl rfl rfl hc15) (Vi rfl (Idle.no rfl rfl rfl hc15) (V rfl (ov_pick_true rfl (guard_eq rfl hc15) rfl) ?_))
   exact WL.nil ⟨Sub.cons' rfl (congrArg Value.bool (orT hc15)) (Sub.dropn 3 rfl), fun _ s => s⟩
  refine wy hc15 rfl (ov_move rfl rfl) ?_
  refine wy hc15 rfl (ov_neq rfl rfl rfl) ?_
  refine V rfl (ov_pick_false rfl (guard_eq rfl hc15) rfl) ?_
  exact WL.nil ⟨Sub.cons' rfl (congrArg Value.bool (orF hc15)) (Sub.dropn 3 rfl), fun _ s => s⟩
 refine Vm rfl ?_
 refine WL.cut_bool 3 108 (x := ((((IntKind.wrap .i64 ((IntKind.wrap .i64 ((IntKind.wrap .i64 ((IntKind.wrap .i64 ((IntKind.wrap .i64 ((IntKind.wrap .i64 ((IntKind.wrap .i64 (r2.2.2 + r3.2)) + r4.2)) + r5.2)) + r6.2.2)) + r7.2.2)) + r8.2)) + r11.2)) != 0) || (r1.2.2 != 7)) || (r6.2.1 != 0))) ?_ ?_
 ·
  rcases Bool.eq_false_or_eq_true (((IntKind.wrap .i64 ((IntKind.wrap .i64 ((IntKind.wrap .i64 ((IntKind.wrap .i64 ((IntKind.wrap .i64 ((IntKind.wrap .i64 ((IntKind.wrap .i64 (r2.2.2 + r3.2)) + r4.2)) + r5.2)) + r6.2.2)) + r7.2.2)) + r8.2)) + r11.2)) != 0) || (r1.2.2 != 7)) with hc16 | hc16
  ·
   refine Vi rfl (Idle.no rfl rfl rfl hc16) (Vi rfl (Idle.no rfl rfl rfl hc16) (V rfl (ov_pick_true rfl (guard_eq rfl hc16) rfl) ?_))
   exact WL.nil ⟨Sub.cons' rfl (congrArg Value.bool (orT hc16)) (Sub.dropn 3 rfl), fun _ s => s⟩
  refine wy hc16 rfl (ov_move rfl rfl) ?_
  refine wy hc16 rfl (ov_neq rfl rfl rfl) ?_
  refine V rfl (ov_pick_false rfl (guard_eq rfl hc16) rfl) ?_
  exact WL.nil ⟨Sub.cons' rfl (congrArg Value.bool (orF hc16)) (Sub.dropn 3 rfl), fun _ s => s⟩
 refine Vm rfl ?_
 refine WL.cut_bool 3 112 (x := (((((IntKind.wrap .i64 ((IntKind.wrap .i64 ((IntKind.wrap .i64 ((IntKind.wrap .i64 ((IntKind.wrap .i64 ((IntKind.wrap .i64 ((IntKind.wrap .i64 (r2.2.2 + r3.2)) + r4.2)) + r5.2)) + r6.2.2)) + r7.2.2)) + r8.2)) + r11.2)) != 0) || (r1.2.2 != 7)) || (r6.2.1 != 0)) || (r9.2 != 14))) ?_ ?_
 ·
  rcases Bool.eq_false_or_eq_true ((((IntKind.wrap .i64 ((IntKind.wrap .i64 ((IntKind.wrap .i64 ((IntKind.wrap .i64 ((IntKind.wrap .i64 ((IntKind.wrap .i64 ((IntKind.wrap .i64 (r2.2.2 + r3.2)) + r4.2)) + r5.2)) + r6.2.2)) + r7.2.2)) + r8.2)) + r11.2)) != 0) || (r1.2.2 != 7)) || (r6.2.1 != 0)) with hc17 | hc17
  ·
   refine Vi rfl (Idle.no rfl rfl rfl hc17) (Vi rfl (Idle.no rfl rfl rfl hc17) (V rfl (ov_pick_true rfl (guard_eq rfl hc17) rfl) ?_))
   exact WL.nil ⟨Sub.cons' rfl (congrArg Value.bool (orT hc17)) (Sub.dropn 3 rfl), fun _ s => s⟩
  refine wy hc17 rfl (ov_move rfl rfl) ?_
  refine wy hc17 rfl (ov_neq rfl rfl rfl) ?_
  refine V rfl (ov_pick_false rfl (guard_eq rfl hc17) rfl) ?_
  exact WL.nil ⟨Sub.cons' rfl (congrArg Value.bool (orF hc17)) (Sub.dropn 3 rfl), fun _ s => s⟩
 refine Vm rfl ?_
 refine WL.cut_bool 3 116 (x := ((((((IntKind.wrap .i64 ((IntKind.wrap .i64 ((IntKind.wrap .i64 ((IntKind.wrap .i64 ((IntKind.wrap .i64 ((IntKind.wrap .i64 ((IntKind.wrap .i64 (r2.2.2 + r3.2)) + r4.2)) + r5.2)) + r6.2.2)) + r7.2.2)) + r8.2)) + r11.2)) != 0) || (r1.2.2 != 7)) || (r6.2.1 != 0)) || (r9.2 != 14)) || (r10.2.2 != 4))) ?_ ?_
 ·
  rcases Bool.eq_false_or_eq_true (((((IntKind.wrap .i64 ((IntKind.wrap .i64 ((IntKind.wrap .i64 ((IntKind.wrap .i64 ((IntKind.wrap .i64 ((IntKind.wrap .i64 ((IntKind.wrap .i64 (r2.2.2 + r3.2)) + r4.2)) + r5.2)) + r6.2.2)) + r7.2.2)) + r8.2)) + r11.2)) != 0) || (r1.2.2 != 7)) || (r6.2.1 != 0)) || (r9.2 != 14)) with hc18 | hc18
  ·
   refine Vi rfl (Idle.no rfl rfl rfl hc18) (Vi rfl (Idle.no rfl rfl rfl hc18) (V rfl (ov_pick_true rfl (guard_eq rfl hc18) rfl) ?_))
   exact WL.nil ⟨Sub.cons' rfl (congrArg Value.bool (orT hc18)) (Sub.dropn 3 rfl), fun _ s => s⟩
  refine wy hc18 rfl (ov_move rfl rfl) ?_
  refine wy hc18 rfl (ov_neq rfl rfl rfl) ?_
  refine V rfl (ov_pick_false rfl (guard_eq rfl hc18) rfl) ?_
  exact WL.nil ⟨Sub.cons' rfl (congrArg Value.bool (orF hc18)) (Sub.dropn 3 rfl), fun _ s => s⟩
 refine Vm rfl ?_
 refine WL.cut_bool 3 120 (x := (((((((IntKind.wrap .i64 ((IntKind.wrap .i64 ((IntKind.wrap .i64 ((IntKind.wrap .i64 ((IntKind.wrap .i64 ((IntKind.wrap .i64 ((IntKind.wrap .i64 (r2.2.2 + r3.2)) + r4.2)) + r5.2)) + r6.2.2)) + r7.2.2)) + r8.2)) + r11.2)) != 0) || (r1.2.2 != 7)) || (r6.2.1 != 0)) || (r9.2 != 14)) || (r10.2.2 != 4)) || (r10.2.1 != 7))) ?_ ?_
 ·
  rcases Bool.eq_false_or_eq_true ((((((IntKind.wrap .i64 ((IntKind.wrap .i64 ((IntKind.wrap .i64 ((IntKind.wrap .i64 ((IntKind.wrap .i64 ((IntKind.wrap .i64 ((IntKind.wrap .i64 (r2.2.2 + r3.2)) + r4.2)) + r5.2)) + r6.2.2)) + r7.2.2)) + r8.2)) + r11.2)) != 0) || (r1.2.2 != 7)) || (r6.2.1 != 0)) || (r9.2 != 14)) || (r10.2.2 != 4)) with hc19 | hc19
  ·
   refine Vi rfl (Idle.no rfl rfl rfl hc19) (Vi rfl (Idle.no rfl rfl rfl hc19) (V rfl (ov_pick_true rfl (guard_eq rfl hc19) rfl) ?_))
   exact WL.nil ⟨Sub.cons' rfl (congrArg Value.bool (orT hc19)) (Sub.dropn 3 rfl), fun _ s => s⟩
  refine wy hc19 rfl (ov_move rfl rfl) ?_
  refine wy hc19 rfl (ov_neq rfl rfl rfl) ?_
  refine V rfl (ov_pick_false rfl (guard_eq rfl hc19) rfl) ?_
  exact WL.nil ⟨Sub.cons' rfl (congrArg Value.bool (orF hc19)) (Sub.dropn 3 rfl), fun _ s => s⟩
 refine Vm rfl ?_
 refine WL.cut_bool 3 124 (x := ((((((((IntKind.wrap .i64 ((IntKind.wrap .i64 ((IntKind.wrap .i64 ((IntKind.wrap .i64 ((IntKind.wrap .i64 ((IntKind.wrap .i64 ((IntKind.wrap .i64 (r2.2.2 + r3.2)) + r4.2)) + r5.2)) + r6.2.2)) + r7.2.2)) + r8.2)) + r11.2)) != 0) || (r1.2.2 != 7)) || (r6.2.1 != 0)) || (r9.2 != 14)) || (r10.2.2 != 4)) || (r10.2.1 != 7)) || (r8.1 != 3))) ?_ ?_
 ·
  rcases Bool.eq_false_or_eq_true (((((((IntKind.wrap .i64 ((IntKind.wrap .i64 ((IntKind.wrap .i64 ((IntKind.wrap .i64 ((IntKind.wrap .i64 ((IntKind.wrap .i64 ((IntKind.wrap .i64 (r2.2.2 + r3.2)) + r4.2)) + r5.2)) + r6.2.2)) + r7.2.2)) + r8.2)) + r11.2)) != 0) || (r1.2.2 != 7)) || (r6.2.1 != 0)) || (r9.2 != 14)) || (r10.2.2 != 4)) || (r10.2.1 != 7)) with hc20 | hc20
  ·
   refine Vi rfl (Idle.no rfl rfl rfl hc20) (Vi rfl (Idle.no rfl rfl rfl hc20) (V rfl (ov_pick_true rfl (guard_eq rfl hc20) rfl) ?_))
   exact WL.nil ⟨Sub.cons' rfl (congrArg Value.bool (orT hc20)) (Sub.dropn 3 rfl), fun _ s => s⟩
  refine wy hc20 rfl (ov_move rfl rfl) ?_
  refine wy hc20 rfl (ov_neq rfl rfl rfl) ?_
  refine V rfl (ov_pick_false rfl (guard_eq rfl hc20) rfl) ?_
  exact WL.nil ⟨Sub.cons' rfl (congrArg Value.bool (orF hc20)) (Sub.dropn 3 rfl), fun _ s => s⟩
 refine Vm rfl ?_
 refine WL.cut_bool 3 128 (x := (((((((((IntKind.wrap .i64 ((IntKind.wrap .i64 ((IntKind.wrap .i64 ((IntKind.wrap .i64 ((IntKind.wrap .i64 ((IntKind.wrap .i64 ((IntKind.wrap .i64 (r2.2.2 + r3.2)) + r4.2)) + r5.2)) + r6.2.2)) + r7.2.2)) + r8.2)) + r11.2)) != 0) || (r1.2.2 != 7)) || (r6.2.1 != 0)) || (r9.2 != 14)) || (r10.2.2 != 4)) || (r10.2.1 != 7)) || (r8.1 != 3)) || (!(r11.1 == [123, 32, 65, 43, 59, 32, 105, 102, 32, 108, 111, 110, 103, 32, 114, 101, 112, 101, 97, 116, 32, 50, 32, 123, 32, 66, 43, 59, 32, 66, 45, 32, 125, 32, 101, 108, 115, 101, 32, 123, 32, 66, 43, 59, 32, 66, 45, 32, 125, 59, 32, 65, 45, 32, 125])))) ?_ ?_
 ·
  rcases Bool.eq_false_or_eq_true ((((((((IntKind.wrap .i64 ((IntKind.wrap .i64 ((IntKind.wrap .i64 ((IntKind.wrap .i64 ((IntKind.wrap .i64 ((IntKind.wrap .i64 ((IntKind.wrap .i64 (r2.2.2 + r3.2)) + r4.2)) + r5.2)) + r6.2.2)) + r7.2.2)) + r8.2)) + r11.2)) != 0) || (r1.2.2 != 7)) || (r6.2.1 != 0)) || (r9.2 != 14)) || (r10.2.2 != 4)) || (r10.2.1 != 7)) || (r8.1 != 3)) with hc21 | hc21
  ·
   refine Vi rfl (Idle.no rfl rfl rfl hc21) (Vi rfl (Idle.no rfl rfl rfl hc21) (V rfl (ov_pick_true rfl (guard_eq rfl hc21) rfl) ?_))
   exact WL.nil ⟨Sub.cons' rfl (congrArg Value.bool (orT hc21)) (Sub.dropn 3 rfl), fun _ s => s⟩
  refine wy hc21 rfl (ov_move rfl rfl) ?_
  refine wy hc21 rfl (ov_sneq rfl rfl rfl) ?_
  refine V rfl (ov_pick_false rfl (guard_eq rfl hc21) rfl) ?_
  exact WL.nil ⟨Sub.cons' rfl (congrArg Value.bool (orF hc21)) (Sub.dropn 3 rfl), fun _ s => s⟩
 refine WL.nil (tn ?_)
 refine WP.cond rfl (fun hc22 => ?_) (fun hc22 => ?_)
 ·
  replace hm := ite_t hc22 hm
  refine WP.seq (WP.region (Va rfl (WL.nil (tn (WP.ret (then_ret ?_))))))
  obtain rfl := Option.some.inj hm
  refine retQ_ret results11 (Res.tmp rfl Res.nil) rfl (fun w' s => ⟨s.below, ?_⟩)
  exact rfl
 replace hm := ite_f hc22 hm
 refine WP.skip (tn (WP.seq (WP.region (Vm rfl ?_))))
 have rl2 : RL H10 encStr ([[108, 111, 110, 103]] : List (List UInt8)) [(mkS [108, 111, 110, 103])] := RL.cons (cs := [(mkS [108, 111, 110, 103])]) (xs := []) rfl (RL.nil _ _)
 refine ws rfl (os_buildSlice (cs := [(mkS [108, 111, 110, 103])]) (E := 9) (sz := 1) rfl rfl (fun _ => by kernel_rfl) rfl (by decide) (fun b7 => ?_))
 refine WL.held rl2 (fun H11 hc23 hle11 h15 => ?_)
 replace h5 := h5.mono hle11
 replace h7 := h7.mono hle11
 replace h8 := h8.mono hle11
 replace hG := hG.mono hle11
 obtain ⟨r12, e12, hm⟩ := bind_some hm
 refine wo rfl (oq_con (r := (.bool r12)) call33 rfl rfl (fun w' s => ⟨_, (slices_Equal_stringstring_con r3.1 ([[108, 111, 110, 103]] : List (List UInt8)) ao5 cap5 (some ⟨b7, 0, none⟩) 1  w' H11 s.hold h5 hc5 h15 hc23 hG r12 e12)⟩)) ?_
 refine Vm rfl ?_
 obtain ⟨c1, e13, hm⟩ := bind_some hm
 refine WL.cut_bool 4 136 (x := c1) ?_ ?_
 ·
  rcases Bool.eq_false_or_eq_true r12 with hc24 | hc24
  ·
   replace hm := ite_t hc24 e13
   refine wy hc24 rfl (ov_move rfl rfl) ?_
   obtain ⟨r13, e14, hm⟩ := bind_some hm
   refine WL.quiet (Runs.yes rfl rfl rfl hc24) rfl rfl (oq_con (r := (mkS r13)) call43 rfl rfl (fun w' s => ⟨_, (ref13_Lines_con r4.1 ao6 cap6  w' H11 s.hold h7 hc7 hG r13 e14)⟩)) ?_
   refine wy hc24 rfl (ov_seql rfl rfl rfl) ?_
   refine V rfl (ov_pick_true rfl (guard_eq rfl hc24) rfl) ?_
   exact WL.nil ⟨Sub.cons' rfl (congrArg Value.bool (Option.some.inj hm)) (Sub.dropn 4 rfl), fun _ s => s⟩
  replace hm := ite_f hc24 e13
  refine Vi rfl (Idle.no rfl rfl rfl hc24) (Vi rfl (Idle.no rfl rfl rfl hc24) (Vi rfl (Idle.no rfl rfl rfl hc24) (V rfl (ov_pick_false rfl (guard_eq rfl hc24) rfl) ?_)))
  exact WL.nil ⟨Sub.cons' rfl (congrArg Value.bool (Option.some.inj hm)) (Sub.dropn 4 rfl), fun _ s => s⟩
 refine Vm rfl ?_
 obtain ⟨c2, e15, hm⟩ := bind_some hm
 refine WL.cut_bool 4 141 (x := c2) ?_ ?_
 ·
  rcases Bool.eq_false_or_eq_true c1 with hc25 | hc25
  ·
   replace hm := ite_t hc25 e15
   refine wy hc25 rfl (ov_move rfl rfl) ?_
   obtain ⟨r14, e16, hm⟩ := bind_some hm
   refine WL.quiet (Runs.yes rfl rfl rfl hc25) rfl rfl (oq_con (r := (mkS r14)) call43 rfl rfl (fun w' s => ⟨_, (ref13_Lines_con r5.1 ao7 cap7  w' H11 s.hold h8 hc8 hG r14 e16)⟩)) ?_
   refine wy hc25 rfl (ov_seql rfl rfl rfl) ?_
   refine V rfl (ov_pick_true rfl (guard_eq rfl hc25) rfl) ?_
   exact WL.nil ⟨Sub.cons' rfl (congrArg Value.bool (Option.some.inj hm)) (Sub.dropn 4 rfl), fun _ s => s⟩
  replace hm := ite_f hc25 e15
  refine Vi rfl (Idle.no rfl rfl rfl hc25) (Vi rfl (Idle.no rfl rfl rfl hc25) (Vi rfl (Idle.no rfl rfl rfl hc25) (V rfl (ov_pick_false rfl (guard_eq rfl hc25) rfl) ?_)))
  exact WL.nil ⟨Sub.cons' rfl (congrArg Value.bool (Option.some.inj hm)) (Sub.dropn 4 rfl), fun _ s => s⟩
 refine Va rfl (WL.nil (tn (WP.ret ?_)))
 obtain rfl := Option.some.inj hm
 refine retQ_ret results11 (Res.tmp rfl Res.nil) rfl (fun w' s => ⟨s.below, ?_⟩)
 exact rfl
theorem ref15_count_body_con (self : Node → Int → Option Int) (hself : ∀ (p_x : Node) (p_most : Int) (ao1 : Option Addr) (cap1 : Nat) (ao2 : Option Addr) (cap2 : Nat) (w : World) (H : Heap) (hH : Le H (hp w)) (h1 : SL H encStroke ao1 p_x.step.strokes) (hc1 : p_x.step.strokes.length ≤ cap1) (h2 : SL H encNode ao2 p_x.nodes) (hc2 : p_x.nodes.length ≤ cap2) (hG : Glob H) (r : Int) (hm : self p_x p_most = some r), Con prog 77 [(.agg #[(.int .i64 p_x.kind), (.slice ao1 p_x.step.strokes.length cap1), (.int .i64 p_x.step.wait), (.int .i64 p_x.count), (mkS p_x.name), (.slice ao2 p_x.nodes.length cap2)]), (.int .i64 p_most)] w H (fun v _ => v = (.int .i64 r))) (p_x : Node) (p_most : Int) (ao1 : Option Addr) (cap1 : Nat) (ao2 : Option Addr) (cap2 : Nat) (w : World) (H : Heap) (hH : Le H (hp w)) (h1 : SL H encStroke ao1 p_x.step.strokes) (hc1 : p_x.step.strokes.length ≤ cap1) (h2 : SL H encNode ao2 p_x.nodes) (hc2 : p_x.nodes.length ≤ cap2) (hG : Glob H) (r : Int) (hm : ref15_count_body self p_x p_most = some r) :
  Con prog 77 [(.agg #[(.int .i64 p_x.kind), (.slice ao1 p_x.step.strokes.length cap1), (.int .i64 p_x.step.wait), (.int .i64 p_x.count), (mkS p_x.name), (.slice ao2 p_x.nodes.length cap2)]), (.int .i64 p_most)] w H (fun v _ => v = (.int .i64 r)) := by
 unfold ref15_count_body at hm
 refine con_of hH func77 rfl 31 ntmps77 rfl ?_
 refine WP.seq (WP.region ?_)
 refine ws rfl (os_box (cs := [(.int .i64 p_x.kind), (.slice ao1 p_x.step.strokes.length cap1), (.int .i64 p_x.step.wait), (.int .i64 p_x.count), (mkS p_x.name), (.slice ao2 p_x.nodes.length cap2)]) rfl rfl rfl (fun b1 => ?_))
 refine Va rfl (WL.nil (tn (WP.seq (WP.region (Va rfl (WL.nil (tn ?_)))))))
 obtain ⟨k1, hk1, hm⟩ := joinK_some hm
 refine WP.seq_join (fun g' S' => ∃ (i3 : Int), Sub [(5, (.int .i64 i3)), (1000000007, (.bool false))] g' ∧ (∀ w', S' w' → St w H [] H w') ∧ k1 i3 = some r) ?_ ?_
 ·
  refine WP.seq (WP.region (Va rfl (WL.nil (tn (WP.block ?_)))))
  refine WP.loop (fun m1 g' S' => ∃ (i1 : Int) (i2 : Int), Sub [(1, (.int .i64 p_most)), (2, (pB b1 0)), (5, (.int .i64 i1)), (6, (.int .i64 i2)), (1000000007, (.bool false))] g' ∧ (∀ w', S' w' → St w H [.blk b1 28 [(.int .i64 p_x.kind), (.slice ao1 p_x.step.strokes.length cap1), (.int .i64 p_x.step.wait), (.int .i64 p_x.count), (mkS p_x.name), (.slice ao2 p_x.nodes.length cap2)]] H w') ∧ ref15_count_loop1 p_x p_most self k1 m1 i1 i2 = some r) ((p_x.nodes.length + 1)) ⟨1, 0, (Sub.all rfl), fun w' s => s, hm⟩ ?_ ?_
  ·
   rintro g' S' ⟨_, _, _, _, hm⟩
   exact none_some hm
  rintro m1 g' S' ⟨i1, i2, hsub1, hS1, hm⟩
  refine WP.sub hsub1 (WP.weaken hS1 ?_)
  rw [ref15_count_loop1] at hm
  refine WP.seq (WP.seq (WP.region (Vm rfl (V rfl (ov_fieldAddr underlying28 rfl rfl rfl sizeOf26 rfl rfl) (Vl 0 isAgg26 rfl (V rfl (ov_len_slice underlying26 rfl rfl) (V rfl (ov_lss rfl rfl rfl) (Vm rfl ?_))))))))
  refine WL.cut_bool 4 16 (x := ((decide (i2 < (p_x.nodes.length : Int))) && (decide (i1 ≤ p_most)))) ?_ ?_
  ·
   rcases Bool.eq_false_or_eq_true (decide (i2 < (p_x.nodes.length : Int))) with hc3 | hc3
   ·
    refine wy hc3 rfl (ov_move rfl rfl) ?_
    refine wy hc3 rfl (ov_move rfl rfl) ?_
    refine wy hc3 rfl (ov_leq rfl rfl rfl) ?_
    refine V rfl (ov_pick_true rfl (guard_eq rfl hc3) rfl) ?_
    exact WL.nil ⟨Sub.cons' rfl (congrArg Value.bool (andT hc3)) (Sub.dropn 4 rfl), fun _ s => s⟩
   refine Vi rfl (Idle.no rfl rfl rfl hc3) (Vi rfl (Idle.no rfl rfl rfl hc3) (Vi rfl (Idle.no rfl rfl rfl hc3) (V rfl (ov_pick_false rfl (guard_eq rfl hc3) rfl) ?_)))
   exact WL.nil ⟨Sub.cons' rfl (congrArg Value.bool (andF hc3)) (Sub.dropn 4 rfl), fun _ s => s⟩
  refine WL.nil (tn ?_)
  refine WP.cond rfl (fun hc4 => ?_) (fun hc4 => ?_)
  ·
   replace hm := ite_t hc4 hm
   refine WP.skip (tn (WP.seq (WP.block (WP.region (Vm rfl (V rfl (ov_fieldAddr underlying28 rfl rfl rfl sizeOf26 rfl rfl) (Vl 0 isAgg26 rfl (Vm rfl ?_))))))))
   obtain ⟨x1, e1, hm⟩ := bind_some hm
   obtain ⟨h5, h6, h7, cs1, h8, h9⟩ := h2.get e1 (by decide)
   obtain ⟨ao3, cap3, ao4, cap4, rfl, h3, hc5, h4, hc6⟩ := (encNode_open h8)
   refine V rfl (ov_indexAddr underlying26 sizeOf28 rfl rfl rfl h5 h6 h7) (V rfl (ov_load_elems (vs := [(.int .i64 x1.kind), (.slice ao3 x1.step.strokes.length cap3), (.int .i64 x1.step.wait), (.int .i64 x1.count), (mkS x1.name), (.slice ao4 x1.nodes.length cap4)]) isAgg28 sizeOf28 rfl rfl rfl h9 h7) (Vm rfl (Vm rfl (V rfl (ov_sub rfl rfl rfl) ?_))))
   obtain ⟨r1, e2, hm⟩ := bind_some hm
   refine wo rfl (oq_con (r := (.int .i64 r1)) call77 rfl rfl (fun w' s => ⟨_, (hself x1 (IntKind.wrap .i64 (p_most - i1)) ao3 cap3 ao4 cap4  w' H s.hold h3 hc5 h4 hc6 hG r1 e2)⟩)) ?_
   refine V rfl (ov_add rfl rfl rfl) (Va rfl (WL.nil (bn (tn (WP.region (Vm rfl (V rfl (ov_add rfl rfl rfl) (Va rfl (WL.nil (tn ?_))))))))))
   exact ⟨(IntKind.wrap .i64 (i1 + r1)), (IntKind.wrap .i64 (i2 + 1)), (Sub.all rfl), fun w' s => s, hm⟩
  replace hm := ite_f hc4 hm
  refine WP.exit (then_exit (then_exit (block_here (tn ?_))))
  exact ⟨i1, (Sub.all rfl), fun w' s => (s.select [] (by decide) rfl), hm⟩
 rintro g' S' ⟨i3, hsub2, hS2, hm⟩
 refine WP.sub hsub2 (WP.weaken hS2 ?_)
 replace hm := (congrFun hk1 i3).symm.trans hm
 refine WP.seq (WP.region (Vm rfl (Va rfl (WL.nil (tn (WP.ret ?_))))))
 obtain rfl := Option.some.inj hm
 refine retQ_ret results77 (Res.tmp rfl Res.nil) rfl (fun w' s => ⟨s.below, ?_⟩)
 exact rfl
theorem ref15_count_con (n : Nat) : ∀ (p_x : Node) (p_most : Int) (ao1 : Option Addr) (cap1 : Nat) (ao2 : Option Addr) (cap2 : Nat) (w : World) (H : Heap) (hH : Le H (hp w)) (h1 : SL H encStroke ao1 p_x.step.strokes) (hc1 : p_x.step.strokes.length ≤ cap1) (h2 : SL H encNode ao2 p_x.nodes) (hc2 : p_x.nodes.length ≤ cap2) (hG : Glob H) (r : Int) (hm : ref15_count n p_x p_most = some r),
  Con prog 77 [(.agg #[(.int .i64 p_x.kind), (.slice ao1 p_x.step.strokes.length cap1), (.int .i64 p_x.step.wait), (.int .i64 p_x.count), (mkS p_x.name), (.slice ao2 p_x.nodes.length cap2)]), (.int .i64 p_most)] w H (fun v _ => v = (.int .i64 r)) := by
 induction n with
 | zero => intro p_x p_most ao1 cap1 ao2 cap2 w H hH h1 hc1 h2 hc2 hG r hm; exact (none_some hm).elim
 | succ n ih => intro p_x p_most ao1 cap1 ao2 cap2 w H hH h1 hc1 h2 hc2 hG r hm; exact ref15_count_body_con (ref15_count n) ih p_x p_most ao1 cap1 ao2 cap2 w H hH h1 hc1 h2 hc2 hG r hm
theorem ref15_deep_body_con (self : Node → Int → Option Bool) (hself : ∀ (p_x : Node) (p_most : Int) (ao1 : Option Addr) (cap1 : Nat) (ao2 : Option Addr) (cap2 : Nat) (w : World) (H : Heap) (hH : Le H (hp w)) (h1 : SL H encStroke ao1 p_x.step.strokes) (hc1 : p_x.step.strokes.length ≤ cap1) (h2 : SL H encNode ao2 p_x.nodes) (hc2 : p_x.nodes.length ≤ cap2) (hG : Glob H) (r : Bool) (hm : self p_x p_most = some r), Con prog 78 [(.agg #[(.int .i64 p_x.kind), (.slice ao1 p_x.step.strokes.length cap1), (.int .i64 p_x.step.wait), (.int .i64 p_x.count), (mkS p_x.name), (.slice ao2 p_x.nodes.length cap2)]), (.int .i64 p_most)] w H (fun v _ => v = (.bool r))) (p_x : Node) (p_most : Int) (ao1 : Option Addr) (cap1 : Nat) (ao2 : Option Addr) (cap2 : Nat) (w : World) (H : Heap) (hH : Le H (hp w)) (h1 : SL H encStroke ao1 p_x.step.strokes) (hc1 : p_x.step.strokes.length ≤ cap1) (h2 : SL H encNode ao2 p_x.nodes) (hc2 : p_x.nodes.length ≤ cap2) (hG : Glob H) (r : Bool) (hm : ref15_deep_body self p_x p_most = some r) :
  Con prog 78 [(.agg #[(.int .i64 p_x.kind), (.slice ao1 p_x.step.strokes.length cap1), (.int .i64 p_x.step.wait), (.int .i64 p_x.count), (mkS p_x.name), (.slice ao2 p_x.nodes.length cap2)]), (.int .i64 p_most)] w H (fun v _ => v = (.bool r)) := by
 unfold ref15_deep_body at hm
 refine con_of hH func78 rfl 30 ntmps78 rfl ?_
 refine WP.seq (WP.region ?_)
 refine ws rfl (os_box (cs := [(.int .i64 p_x.kind), (.slice ao1 p_x.step.strokes.length cap1), (.int .i64 p_x.step.wait), (.int .i64 p_x.count), (mkS p_x.name), (.slice ao2 p_x.nodes.length cap2)]) rfl rfl rfl (fun b1 => ?_))
 refine Va rfl (WL.nil (tn (WP.seq (WP.seq (WP.region (Vm rfl (V rfl (ov_lss rfl rfl rfl) (WL.nil (tn ?_)))))))))
 refine WP.cond rfl (fun hc3 => ?_) (fun hc3 => ?_)
 ·
  replace hm := ite_t hc3 hm
  refine WP.seq (WP.region (Va rfl (WL.nil (tn (WP.ret (then_ret ?_))))))
  obtain rfl := Option.some.inj hm
  refine retQ_ret results78 (Res.tmp rfl Res.nil) rfl (fun w' s => ⟨s.below, ?_⟩)
  exact rfl
 replace hm := ite_f hc3 hm
 refine WP.skip (tn (WP.seq (WP.seq (WP.region (Vm rfl (V rfl (ov_eql rfl rfl rfl) (WL.nil (tn ?_))))))))
 refine WP.cond rfl (fun hc4 => ?_) (fun hc4 => ?_)
 ·
  replace hm := ite_t hc4 hm
  refine WP.seq (WP.region (V rfl (ov_fieldAddr underlying28 rfl rfl rfl sizeOf26 rfl rfl) (Vl 0 isAgg26 rfl (V rfl (ov_len_slice underlying26 rfl rfl) (V rfl (ov_eql rfl rfl rfl) (Va rfl (WL.nil (tn (WP.ret (then_ret ?_))))))))))
  obtain rfl := Option.some.inj hm
  refine retQ_ret results78 (Res.tmp rfl Res.nil) rfl (fun w' s => ⟨s.below, ?_⟩)
  exact rfl
 replace hm := ite_f hc4 hm
 refine WP.skip (tn ?_)
 obtain ⟨k1, hk1, hm⟩ := joinK_some hm
 refine WP.seq_join (fun g' S' => Sub [(1000000007, (.bool false))] g' ∧ (∀ w', S' w' → St w H [] H w') ∧ k1 = some r) ?_ ?_
 ·
  refine WP.seq (WP.region (Va rfl (WL.nil (tn (WP.block ?_)))))
  refine WP.loop (fun m1 g' S' => ∃ (i1 : Int), Sub [(1, (.int .i64 p_most)), (2, (pB b1 0)), (5, (.int .i64 i1)), (1000000007, (.bool false))] g' ∧ (∀ w', S' w' → St w H [.blk b1 28 [(.int .i64 p_x.kind), (.slice ao1 p_x.step.strokes.length cap1), (.int .i64 p_x.step.wait), (.int .i64 p_x.count), (mkS p_x.name), (.slice ao2 p_x.nodes.length cap2)]] H w') ∧ ref15_deep_loop1 p_x p_most self k1 m1 i1 = some r) ((Int.toNat ((p_x.nodes.length : Int) - 0) + 1)) ⟨0, (Sub.all rfl), fun w' s => s, hm⟩ ?_ ?_
  ·
   rintro g' S' ⟨_, _, _, hm⟩
   exact none_some hm
  rintro m1 g' S' ⟨i1, hsub1, hS1, hm⟩
  refine WP.sub hsub1 (WP.weaken hS1 ?_)
  rw [ref15_deep_loop1] at hm
  refine WP.seq (WP.seq (WP.region (Vm rfl (V rfl (ov_fieldAddr underlying28 rfl rfl rfl sizeOf26 rfl rfl) (Vl 0 isAgg26 rfl (V rfl (ov_len_slice underlying26 rfl rfl) (V rfl (ov_lss rfl rfl rfl) (WL.nil (tn ?_)))))))))
  refine WP.cond rfl (fun hc5 => ?_) (fun hc5 => ?_)
  ·
   replace hm := ite_t hc5 hm
   refine WP.skip (tn (WP.seq (WP.block (WP.seq (WP.region (V rfl (ov_fieldAddr underlying28 rfl rfl rfl sizeOf26 rfl rfl) (Vl 0 isAgg26 rfl (Vm rfl ?_))))))))
   obtain ⟨x1, e1, hm⟩ := bind_some hm
   obtain ⟨h5, h6, h7, cs1, h8, h9⟩ := h2.get e1 (by decide)
   obtain ⟨ao3, cap3, ao4, cap4, rfl, h3, hc6, h4, hc7⟩ := (encNode_open h8)
   refine V rfl (ov_indexAddr underlying26 sizeOf28 rfl rfl rfl h5 h6 h7) (V rfl (ov_load_elems (vs := [(.int .i64 x1.kind), (.slice ao3 x1.step.strokes.length cap3), (.int .i64 x1.step.wait), (.int .i64 x1.count), (mkS x1.name), (.slice ao4 x1.nodes.length cap4)]) isAgg28 sizeOf28 rfl rfl rfl h9 h7) (Vm rfl (V rfl (ov_sub rfl rfl rfl) ?_)))
   obtain ⟨r1, e2, hm⟩ := bind_some hm
   refine wo rfl (oq_con (r := (.bool r1)) call78 rfl rfl (fun w' s => ⟨_, (hself x1 (IntKind.wrap .i64 (p_most - 1)) ao3 cap3 ao4 cap4  w' H s.hold h3 hc6 h4 hc7 hG r1 e2)⟩)) ?_
   refine V rfl (ov_not rfl rfl) (WL.nil (tn ?_))
   refine WP.cond rfl (fun hc8 => ?_) (fun hc8 => ?_)
   ·
    replace hm := ite_t hc8 hm
    refine WP.seq (WP.region (Va rfl (WL.nil (tn (WP.ret (block_ret (then_ret (then_ret (block_ret (then_ret ?_))))))))))
    obtain rfl := Option.some.inj hm
    refine retQ_ret results78 (Res.tmp rfl Res.nil) rfl (fun w' s => ⟨s.below, ?_⟩)
    exact rfl
   replace hm := ite_f hc8 hm
   refine WP.skip (bn (tn (WP.region (Vm rfl (V rfl (ov_add rfl rfl rfl) (Va rfl (WL.nil (tn ?_))))))))
   exact ⟨(IntKind.wrap .i64 (i1 + 1)), (Sub.all rfl), fun w' s => s, hm⟩
  replace hm := ite_f hc5 hm
  refine WP.exit (then_exit (then_exit (block_here (tn ?_))))
  exact ⟨(Sub.all rfl), fun w' s => (s.select [] (by decide) rfl), hm⟩
 rintro g' S' ⟨hsub2, hS2, hm⟩
 refine WP.sub hsub2 (WP.weaken hS2 ?_)
 replace hm := hk1.symm.trans hm
 refine WP.seq (WP.region (Va rfl (WL.nil (tn (WP.ret ?_)))))
 obtain rfl := Option.some.inj hm
 refine retQ_ret results78 (Res.tmp rfl Res.nil) rfl (fun w' s => ⟨s.below, ?_⟩)
 exact rfl
theorem ref15_deep_con (n : Nat) : ∀ (p_x : Node) (p_most : Int) (ao1 : Option Addr) (cap1 : Nat) (ao2 : Option Addr) (cap2 : Nat) (w : World) (H : Heap) (hH : Le H (hp w)) (h1 : SL H encStroke ao1 p_x.step.strokes) (hc1 : p_x.step.strokes.length ≤ cap1) (h2 : SL H encNode ao2 p_x.nodes) (hc2 : p_x.nodes.length ≤ cap2) (hG : Glob H) (r : Bool) (hm : ref15_deep n p_x p_most = some r),
  Con prog 78 [(.agg #[(.int .i64 p_x.kind), (.slice ao1 p_x.step.strokes.length cap1), (.int .i64 p_x.step.wait), (.int .i64 p_x.count), (mkS p_x.name), (.slice ao2 p_x.nodes.length cap2)]), (.int .i64 p_most)] w H (fun v _ => v = (.bool r)) := by
 induction n with
 | zero => intro p_x p_most ao1 cap1 ao2 cap2 w H hH h1 hc1 h2 hc2 hG r hm; exact (none_some hm).elim
 | succ n ih => intro p_x p_most ao1 cap1 ao2 cap2 w H hH h1 hc1 h2 hc2 hG r hm; exact ref15_deep_body_con (ref15_deep n) ih p_x p_most ao1 cap1 ao2 cap2 w H hH h1 hc1 h2 hc2 hG r hm
theorem ref15_Light_con (p_x : Node) (ao1 : Option Addr) (cap1 : Nat) (ao2 : Option Addr) (cap2 : Nat) (w : World) (H : Heap) (hH : Le H (hp w)) (h1 : SL H encStroke ao1 p_x.step.strokes) (hc1 : p_x.step.strokes.length ≤ cap1) (h2 : SL H encNode ao2 p_x.nodes) (hc2 : p_x.nodes.length ≤ cap2) (hG : Glob H) (r : Bool) (hm : ref15_Light p_x = some r) :
  Con prog 38 [(.agg #[(.int .i64 p_x.kind), (.slice ao1 p_x.step.strokes.length cap1), (.int .i64 p_x.step.wait), (.int .i64 p_x.count), (mkS p_x.name), (.slice ao2 p_x.nodes.length cap2)])] w H (fun v _ => v = (.bool r)) := by
 unfold ref15_Light at hm
 refine con_of hH func38 rfl 10 ntmps38 rfl ?_
 refine WP.seq (WP.region ?_)
 refine ws rfl (os_box (cs := [(.int .i64 p_x.kind), (.slice ao1 p_x.step.strokes.length cap1), (.int .i64 p_x.step.wait), (.int .i64 p_x.count), (mkS p_x.name), (.slice ao2 p_x.nodes.length cap2)]) rfl rfl rfl (fun b1 => ?_))
 refine Va rfl (WL.nil (tn (WP.seq (WP.region (V rfl (ov_load_whole (i := 0) isAgg28 sizeOf28 rfl rfl rfl rfl) ?_)))))
 obtain ⟨r1, e1, hm⟩ := bind_some hm
 refine wo rfl (oq_con (r := (.int .i64 r1)) call77 rfl rfl (fun w' s => ⟨_, (ref15_count_con 600 p_x 256 ao1 cap1 ao2 cap2  w' H s.hold h1 hc1 h2 hc2 hG r1 e1)⟩)) ?_
 refine V rfl (ov_leq rfl rfl rfl) (Vm rfl ?_)
 obtain ⟨c1, e2, hm⟩ := bind_some hm
 refine WL.cut_bool 3 9 (x := c1) ?_ ?_
 ·
  rcases Bool.eq_false_or_eq_true (decide (r1 ≤ 256)) with hc3 | hc3
  ·
   replace hm := ite_t hc3 e2
   refine wy hc3 rfl (ov_load_whole (i := 0) isAgg28 sizeOf28 rfl rfl rfl rfl) ?_
   obtain ⟨r2, e3, hm⟩ := bind_some hm
   refine WL.quiet (Runs.yes rfl rfl rfl hc3) rfl rfl (oq_con (r := (.bool r2)) call78 rfl rfl (fun w' s => ⟨_, (ref15_deep_con 600 p_x 16 ao1 cap1 ao2 cap2  w' H s.hold h1 hc1 h2 hc2 hG r2 e3)⟩)) ?_
   refine V rfl (ov_pick_true rfl (guard_eq rfl hc3) rfl) ?_
   exact WL.nil ⟨Sub.cons' rfl (congrArg Value.bool (Option.some.inj hm)) (Sub.dropn 3 rfl), fun _ s => s⟩
  replace hm := ite_f hc3 e2
  refine Vi rfl (Idle.no rfl rfl rfl hc3) (Vi rfl (Idle.no rfl rfl rfl hc3) (V rfl (ov_pick_false rfl (guard_eq rfl hc3) rfl) ?_))
  exact WL.nil ⟨Sub.cons' rfl (congrArg Value.bool (Option.some.inj hm)) (Sub.dropn 3 rfl), fun _ s => s⟩
 refine Va rfl (WL.nil (tn (WP.ret ?_)))
 obtain rfl := Option.some.inj hm
 refine retQ_ret results38 (Res.tmp rfl Res.nil) rfl (fun w' s => ⟨s.below, ?_⟩)
 exact rfl
theorem ref12_Letter_con (p_b : Int) (w : World) (H : Heap) (hH : Le H (hp w)) (hG : Glob H) (r : Bool) (hm : ref12_Letter p_b = some r) :
  Con prog 125 [(.int .u8 p_b)] w H (fun v _ => v = (.bool r)) := by
 unfold ref12_Letter at hm
 refine con_of hH func125 rfl 17 ntmps125 rfl ?_
 refine WP.seq (WP.region (Va rfl (WL.nil (tn (WP.seq (WP.region (Vm rfl (V rfl (ov_geq rfl rfl rfl) (Vm rfl ?_)))))))))
 refine WL.cut_bool 3 8 (x := ((decide (p_b ≥ 97)) && (decide (p_b ≤ 122)))) ?_ ?_
 ·
  rcases Bool.eq_false_or_eq_true (decide (p_b ≥ 97)) with hc1 | hc1
  ·
   refine wy hc1 rfl (ov_move rfl rfl) ?_
   refine wy hc1 rfl (ov_leq rfl rfl rfl) ?_
   refine V rfl (ov_pick_true rfl (guard_eq rfl hc1) rfl) ?_
   exact WL.nil ⟨Sub.cons' rfl (congrArg Value.bool (andT hc1)) (Sub.dropn 3 rfl), fun _ s => s⟩
  refine Vi rfl (Idle.no rfl rfl rfl hc1) (Vi rfl (Idle.no rfl rfl rfl hc1) (V rfl (ov_pick_false rfl (guard_eq rfl hc1) rfl) ?_))
  exact WL.nil ⟨Sub.cons' rfl (congrArg Value.bool (andF hc1)) (Sub.dropn 3 rfl), fun _ s => s⟩
 refine Vm rfl ?_
 refine WL.cut_bool 7 16 (x := (((decide (p_b ≥ 97)) && (decide (p_b ≤ 122))) || ((decide (p_b ≥ 65)) && (decide (p_b ≤ 90))))) ?_ ?_
 ·
  rcases Bool.eq_false_or_eq_true ((decide (p_b ≥ 97)) && (decide (p_b ≤ 122))) with hc2 | hc2
  ·
   refine Vi rfl (Idle.no rfl rfl rfl hc2) (Vi rfl (Idle.no rfl rfl rfl hc2) (Vi rfl (Idle.no rfl rfl rfl hc2) (Vi rfl (Idle.undef rfl rfl rfl) (Vi rfl (Idle.undef rfl rfl rfl) (Vi rfl (Idle.no rfl rfl rfl hc2) (V rfl (ov_pick_true rfl (guard_eq rfl hc2) rfl) ?_))))))
   exact WL.nil ⟨Sub.cons' rfl (congrArg Value.bool (orT hc2)) (Sub.dropn 7 rfl), fun _ s => s⟩
  refine wy hc2 rfl (ov_move rfl rfl) ?_
  refine wy hc2 rfl (ov_geq rfl rfl rfl) ?_
  refine wy hc2 rfl (ov_move rfl rfl) ?_
  refine WL.cut_bool 3 15 (x := ((decide (p_b ≥ 65)) && (decide (p_b ≤ 90)))) ?_ ?_
  ·
   rcases Bool.eq_false_or_eq_true (decide (p_b ≥ 65)) with hc3 | hc3
   ·
    refine wy hc3 rfl (ov_move rfl rfl) ?_
    refine wy hc3 rfl (ov_leq rfl rfl rfl) ?_
    refine wy hc2 rfl (ov_pick_true rfl (guard_eq rfl hc3) rfl) ?_
    exact WL.nil ⟨Sub.cons' rfl (congrArg Value.bool (andT hc3)) (Sub.dropn 3 rfl), fun _ s => s⟩
   refine Vi rfl (Idle.no rfl rfl rfl hc3) (Vi rfl (Idle.no rfl rfl rfl hc3) ?_)
   refine wy hc2 rfl (ov_pick_false rfl (guard_eq rfl hc3) rfl) ?_
   exact WL.nil ⟨Sub.cons' rfl (congrArg Value.bool (andF hc3)) (Sub.dropn 3 rfl), fun _ s => s⟩
  refine V rfl (ov_pick_false rfl (guard_eq rfl hc2) rfl) ?_
  exact WL.nil ⟨Sub.cons' rfl (congrArg Value.bool (orF hc2)) (Sub.dropn 5 rfl), fun _ s => s⟩
 refine Va rfl (WL.nil (tn (WP.ret ?_)))
 obtain rfl := Option.some.inj hm
 refine retQ_ret results125 (Res.tmp rfl Res.nil) rfl (fun w' s => ⟨s.below, ?_⟩)
 exact rfl
theorem ref12_Digit_con (p_b : Int) (w : World) (H : Heap) (hH : Le H (hp w)) (hG : Glob H) (r : Bool) (hm : ref12_Digit p_b = some r) :
  Con prog 128 [(.int .u8 p_b)] w H (fun v _ => v = (.bool r)) := by
 unfold ref12_Digit at hm
 refine con_of hH func128 rfl 9 ntmps128 rfl ?_
 refine WP.seq (WP.region (Va rfl (WL.nil (tn (WP.seq (WP.region (Vm rfl (V rfl (ov_geq rfl rfl rfl) (Vm rfl ?_)))))))))
 refine WL.cut_bool 3 8 (x := ((decide (p_b ≥ 48)) && (decide (p_b ≤ 57)))) ?_ ?_
 ·
  rcases Bool.eq_false_or_eq_true (decide (p_b ≥ 48)) with hc1 | hc1
  ·
   refine wy hc1 rfl (ov_move rfl rfl) ?_
   refine wy hc1 rfl (ov_leq rfl rfl rfl) ?_
   refine V rfl (ov_pick_true rfl (guard_eq rfl hc1) rfl) ?_
   exact WL.nil ⟨Sub.cons' rfl (congrArg Value.bool (andT hc1)) (Sub.dropn 3 rfl), fun _ s => s⟩
  refine Vi rfl (Idle.no rfl rfl rfl hc1) (Vi rfl (Idle.no rfl rfl rfl hc1) (V rfl (ov_pick_false rfl (guard_eq rfl hc1) rfl) ?_))
  exact WL.nil ⟨Sub.cons' rfl (congrArg Value.bool (andF hc1)) (Sub.dropn 3 rfl), fun _ s => s⟩
 refine Va rfl (WL.nil (tn (WP.ret ?_)))
 obtain rfl := Option.some.inj hm
 refine retQ_ret results128 (Res.tmp rfl Res.nil) rfl (fun w' s => ⟨s.below, ?_⟩)
 exact rfl
theorem ref12_inner_con (p_b : Int) (w : World) (H : Heap) (hH : Le H (hp w)) (hG : Glob H) (r : Bool) (hm : ref12_inner p_b = some r) :
  Con prog 126 [(.int .u8 p_b)] w H (fun v _ => v = (.bool r)) := by
 unfold ref12_inner at hm
 refine con_of hH func126 rfl 13 ntmps126 rfl ?_
 refine WP.seq (WP.region (Va rfl (WL.nil (tn (WP.seq (WP.region (Vm rfl ?_)))))))
 obtain ⟨r1, e1, hm⟩ := bind_some hm
 refine wo rfl (oq_con (r := (.bool r1)) call125 rfl rfl (fun w' s => ⟨_, (ref12_Letter_con p_b  w' H s.hold hG r1 e1)⟩)) ?_
 refine Vm rfl ?_
 obtain ⟨c1, e2, hm⟩ := bind_some hm
 refine WL.cut_bool 3 8 (x := c1) ?_ ?_
 ·
  rcases Bool.eq_false_or_eq_true r1 with hc1 | hc1
  ·
   replace hm := ite_t hc1 e2
   refine Vi rfl (Idle.no rfl rfl rfl hc1) (Vi rfl (Idle.no rfl rfl rfl hc1) (V rfl (ov_pick_true rfl (guard_eq rfl hc1) rfl) ?_))
   exact WL.nil ⟨Sub.cons' rfl (congrArg Value.bool (Option.some.inj hm)) (Sub.dropn 3 rfl), fun _ s => s⟩
  replace hm := ite_f hc1 e2
  refine wy hc1 rfl (ov_move rfl rfl) ?_
  obtain ⟨r2, e3, hm⟩ := bind_some hm
  refine WL.quiet (Runs.yes rfl rfl rfl hc1) rfl rfl (oq_con (r := (.bool r2)) call128 rfl rfl (fun w' s => ⟨_, (ref12_Digit_con p_b  w' H s.hold hG r2 e3)⟩)) ?_
  refine V rfl (ov_pick_false rfl (guard_eq rfl hc1) rfl) ?_
  exact WL.nil ⟨Sub.cons' rfl (congrArg Value.bool (Option.some.inj hm)) (Sub.dropn 3 rfl), fun _ s => s⟩
 refine Vm rfl ?_
 refine WL.cut_bool 3 12 (x := (c1 || (p_b == 95))) ?_ ?_
 ·
  rcases Bool.eq_false_or_eq_true c1 with hc2 | hc2
  ·
   refine Vi rfl (Idle.no rfl rfl rfl hc2) (Vi rfl (Idle.no rfl rfl rfl hc2) (V rfl (ov_pick_true rfl (guard_eq rfl hc2) rfl) ?_))
   exact WL.nil ⟨Sub.cons' rfl (congrArg Value.bool (orT hc2)) (Sub.dropn 3 rfl), fun _ s => s⟩
  refine wy hc2 rfl (ov_move rfl rfl) ?_
  refine wy hc2 rfl (ov_eql rfl rfl rfl) ?_
  refine V rfl (ov_pick_false rfl (guard_eq rfl hc2) rfl) ?_
  exact WL.nil ⟨Sub.cons' rfl (congrArg Value.bool (orF hc2)) (Sub.dropn 3 rfl), fun _ s => s⟩
 refine Va rfl (WL.nil (tn (WP.ret ?_)))
 obtain rfl := Option.some.inj hm
 refine retQ_ret results126 (Res.tmp rfl Res.nil) rfl (fun w' s => ⟨s.below, ?_⟩)
 exact rfl
theorem ref12_Word_con (p_s : (List UInt8)) (w : World) (H : Heap) (hH : Le H (hp w)) (hG : Glob H) (r : Int) (hm : ref12_Word p_s = some r) :
  Con prog 127 [(mkS p_s)] w H (fun v _ => v = (.int .i64 r)) := by
 unfold ref12_Word at hm
 refine con_of hH func127 rfl 27 ntmps127 rfl ?_
 refine WP.seq (WP.region (Va rfl (WL.nil (tn (WP.seq (WP.seq (WP.region (Vm rfl (V rfl (ov_len_string underlying9 rfl rfl) (V rfl (ov_eql rfl rfl rfl) (Vm rfl ?_)))))))))))
 obtain ⟨c1, e1, hm⟩ := bind_some hm
 refine WL.cut_bool 5 12 (x := c1) ?_ ?_
 ·
  rcases Bool.eq_false_or_eq_true ((p_s.length : Int) == 0) with hc1 | hc1
  ·
   replace hm := ite_t hc1 e1
   refine Vi rfl (Idle.no rfl rfl rfl hc1) (Vi rfl (Idle.no rfl rfl rfl hc1) (Vi rfl (Idle.no rfl rfl rfl hc1) (Vi rfl (Idle.no rfl rfl rfl hc1) (V rfl (ov_pick_true rfl (guard_eq rfl hc1) rfl) ?_))))
   exact WL.nil ⟨Sub.cons' rfl (congrArg Value.bool (Option.some.inj hm)) (Sub.dropn 5 rfl), fun _ s => s⟩
  replace hm := ite_f hc1 e1
  refine wy hc1 rfl (ov_move rfl rfl) ?_
  obtain ⟨b1, e2, hm⟩ := bind_some hm
  refine wy hc1 rfl (ov_index_string underlying9 rfl rfl rfl e2) ?_
  obtain ⟨r1, e3, hm⟩ := bind_some hm
  refine WL.quiet (Runs.yes rfl rfl rfl hc1) rfl rfl (oq_con (r := (.bool r1)) call125 rfl rfl (fun w' s => ⟨_, (ref12_Letter_con (b1.toNat : Int)  w' H s.hold hG r1 e3)⟩)) ?_
  refine wy hc1 rfl (ov_not rfl rfl) ?_
  refine V rfl (ov_pick_false rfl (guard_eq rfl hc1) rfl) ?_
  exact WL.nil ⟨Sub.cons' rfl (congrArg Value.bool (Option.some.inj hm)) (Sub.dropn 5 rfl), fun _ s => s⟩
 refine WL.nil (tn ?_)
 refine WP.cond rfl (fun hc2 => ?_) (fun hc2 => ?_)
 ·
  replace hm := ite_t hc2 hm
  refine WP.seq (WP.region (Va rfl (WL.nil (tn (WP.ret (then_ret ?_))))))
  obtain rfl := Option.some.inj hm
  refine retQ_ret results127 (Res.tmp rfl Res.nil) rfl (fun w' s => ⟨s.below, ?_⟩)
  exact rfl
 replace hm := ite_f hc2 hm
 refine WP.skip (tn ?_)
 obtain ⟨k1, hk1, hm⟩ := joinK_some hm
 refine WP.seq_join (fun g' S' => Sub [(0, (mkS p_s)), (1000000007, (.bool false))] g' ∧ (∀ w', S' w' → St w H [] H w') ∧ k1 = some r) ?_ ?_
 ·
  refine WP.seq (WP.region (Va rfl (WL.nil (tn (WP.block ?_)))))
  refine WP.loop (fun m1 g' S' => ∃ (i1 : Int), Sub [(0, (mkS p_s)), (3, (.int .i64 i1)), (1000000007, (.bool false))] g' ∧ (∀ w', S' w' → St w H [] H w') ∧ ref12_Word_loop1 p_s k1 m1 i1 = some r) ((Int.toNat ((p_s.length : Int) - 0) + 1)) ⟨0, (Sub.all rfl), fun w' s => s, hm⟩ ?_ ?_
  ·
   rintro g' S' ⟨_, _, _, hm⟩
   exact none_some hm
  rintro m1 g' S' ⟨i1, hsub1, hS1, hm⟩
  refine WP.sub hsub1 (WP.weaken hS1 ?_)
  rw [ref12_Word_loop1] at hm
  refine WP.seq (WP.seq (WP.region (Vm rfl (Vm rfl (V rfl (ov_len_string underlying9 rfl rfl) (V rfl (ov_lss rfl rfl rfl) (WL.nil (tn ?_))))))))
  refine WP.cond rfl (fun hc3 => ?_) (fun hc3 => ?_)
  ·
   replace hm := ite_t hc3 hm
   refine WP.skip (tn (WP.seq (WP.block (WP.seq (WP.region (Vm rfl (Vm rfl ?_)))))))
   obtain ⟨b2, e4, hm⟩ := bind_some hm
   refine V rfl (ov_index_string underlying9 rfl rfl rfl e4) ?_
   obtain ⟨r2, e5, hm⟩ := bind_some hm
   refine wo rfl (oq_con (r := (.bool r2)) call126 rfl rfl (fun w' s => ⟨_, (ref12_inner_con (b2.toNat : Int)  w' H s.hold hG r2 e5)⟩)) ?_
   refine V rfl (ov_not rfl rfl) (WL.nil (tn ?_))
   refine WP.cond rfl (fun hc4 => ?_) (fun hc4 => ?_)
   ·
    replace hm := ite_t hc4 hm
    refine WP.seq (WP.region (Va rfl (WL.nil (tn (WP.ret (block_ret (then_ret (then_ret (block_ret (then_ret ?_))))))))))
    obtain rfl := Option.some.inj hm
    refine retQ_ret results127 (Res.tmp rfl Res.nil) rfl (fun w' s => ⟨s.below, ?_⟩)
    exact rfl
   replace hm := ite_f hc4 hm
   refine WP.skip (bn (tn (WP.region (Vm rfl (V rfl (ov_add rfl rfl rfl) (Va rfl (WL.nil (tn ?_))))))))
   exact ⟨(IntKind.wrap .i64 (i1 + 1)), (Sub.all rfl), fun w' s => s, hm⟩
  replace hm := ite_f hc3 hm
  refine WP.exit (then_exit (then_exit (block_here (tn ?_))))
  exact ⟨(Sub.all rfl), fun w' s => s, hm⟩
 rintro g' S' ⟨hsub2, hS2, hm⟩
 refine WP.sub hsub2 (WP.weaken hS2 ?_)
 replace hm := hk1.symm.trans hm
 refine WP.seq (WP.seq (WP.region (Vm rfl (V rfl (ov_len_string underlying9 rfl rfl) (V rfl (ov_gtr rfl rfl rfl) (WL.nil (tn ?_)))))))
 refine WP.cond rfl (fun hc5 => ?_) (fun hc5 => ?_)
 ·
  replace hm := ite_t hc5 hm
  refine WP.seq (WP.region (Va rfl (WL.nil (tn (WP.ret (then_ret ?_))))))
  obtain rfl := Option.some.inj hm
  refine retQ_ret results127 (Res.tmp rfl Res.nil) rfl (fun w' s => ⟨s.below, ?_⟩)
  exact rfl
 replace hm := ite_f hc5 hm
 refine WP.skip (tn (WP.seq (WP.region (Va rfl (WL.nil (tn (WP.ret ?_)))))))
 obtain rfl := Option.some.inj hm
 refine retQ_ret results127 (Res.tmp rfl Res.nil) rfl (fun w' s => ⟨s.below, ?_⟩)
 exact rfl
theorem ref13_Actuator_con (p_n : Int) (w : World) (H : Heap) (hH : Le H (hp w)) (hG : Glob H) (r : Bool) (hm : ref13_Actuator p_n = some r) :
  Con prog 152 [(.int .i64 p_n)] w H (fun v _ => v = (.bool r)) := by
 unfold ref13_Actuator at hm
 refine con_of hH func152 rfl 9 ntmps152 rfl ?_
 refine WP.seq (WP.region (Va rfl (WL.nil (tn (WP.seq (WP.region (Vm rfl (V rfl (ov_geq rfl rfl rfl) (Vm rfl ?_)))))))))
 refine WL.cut_bool 3 8 (x := ((decide (p_n ≥ 0)) && (decide (p_n < 6)))) ?_ ?_
 ·
  rcases Bool.eq_false_or_eq_true (decide (p_n ≥ 0)) with hc1 | hc1
  ·
   refine wy hc1 rfl (ov_move rfl rfl) ?_
   refine wy hc1 rfl (ov_lss rfl rfl rfl) ?_
   refine V rfl (ov_pick_true rfl (guard_eq rfl hc1) rfl) ?_
   exact WL.nil ⟨Sub.cons' rfl (congrArg Value.bool (andT hc1)) (Sub.dropn 3 rfl), fun _ s => s⟩
  refine Vi rfl (Idle.no rfl rfl rfl hc1) (Vi rfl (Idle.no rfl rfl rfl hc1) (V rfl (ov_pick_false rfl (guard_eq rfl hc1) rfl) ?_))
  exact WL.nil ⟨Sub.cons' rfl (congrArg Value.bool (andF hc1)) (Sub.dropn 3 rfl), fun _ s => s⟩
 refine Va rfl (WL.nil (tn (WP.ret ?_)))
 obtain rfl := Option.some.inj hm
 refine retQ_ret results152 (Res.tmp rfl Res.nil) rfl (fun w' s => ⟨s.below, ?_⟩)
 exact rfl
theorem ref03_Time_con (p_n : Int) (w : World) (H : Heap) (hH : Le H (hp w)) (hG : Glob H) (r : Bool) (hm : ref03_Time p_n = some r) :
  Con prog 153 [(.int .i64 p_n)] w H (fun v _ => v = (.bool r)) := by
 unfold ref03_Time at hm
 refine con_of hH func153 rfl 9 ntmps153 rfl ?_
 refine WP.seq (WP.region (Va rfl (WL.nil (tn (WP.seq (WP.region (Vm rfl (V rfl (ov_geq rfl rfl rfl) (Vm rfl ?_)))))))))
 refine WL.cut_bool 3 8 (x := ((decide (p_n ≥ 0)) && (decide (p_n ≤ 1000000)))) ?_ ?_
 ·
  rcases Bool.eq_false_or_eq_true (decide (p_n ≥ 0)) with hc1 | hc1
  ·
   refine wy hc1 rfl (ov_move rfl rfl) ?_
   refine wy hc1 rfl (ov_leq rfl rfl rfl) ?_
   refine V rfl (ov_pick_true rfl (guard_eq rfl hc1) rfl) ?_
   exact WL.nil ⟨Sub.cons' rfl (congrArg Value.bool (andT hc1)) (Sub.dropn 3 rfl), fun _ s => s⟩
  refine Vi rfl (Idle.no rfl rfl rfl hc1) (Vi rfl (Idle.no rfl rfl rfl hc1) (V rfl (ov_pick_false rfl (guard_eq rfl hc1) rfl) ?_))
  exact WL.nil ⟨Sub.cons' rfl (congrArg Value.bool (andF hc1)) (Sub.dropn 3 rfl), fun _ s => s⟩
 refine Va rfl (WL.nil (tn (WP.ret ?_)))
 obtain rfl := Option.some.inj hm
 refine retQ_ret results153 (Res.tmp rfl Res.nil) rfl (fun w' s => ⟨s.below, ?_⟩)
 exact rfl
theorem ref13_CheckStep_con (p_x : Step) (ao1 : Option Addr) (cap1 : Nat) (w : World) (H : Heap) (hH : Le H (hp w)) (h1 : SL H encStroke ao1 p_x.strokes) (hc1 : p_x.strokes.length ≤ cap1) (hG : Glob H) (r : Int) (hm : ref13_CheckStep p_x = some r) :
  Con prog 132 [(.agg #[(.slice ao1 p_x.strokes.length cap1), (.int .i64 p_x.wait)])] w H (fun v _ => v = (.int .i64 r)) := by
 unfold ref13_CheckStep at hm
 refine con_of hH func132 rfl 67 ntmps132 rfl ?_
 refine WP.seq (WP.region ?_)
 refine ws rfl (os_box (cs := [(.slice ao1 p_x.strokes.length cap1), (.int .i64 p_x.wait)]) rfl rfl rfl (fun b1 => ?_))
 refine Va rfl (WL.nil (tn (WP.seq (WP.seq (WP.region (V rfl (ov_fieldAddr underlying25 rfl rfl rfl sizeOf23 rfl rfl) (Vl 0 isAgg23 rfl (V rfl (ov_len_slice underlying23 rfl rfl) (V rfl (ov_eql rfl rfl rfl) (WL.nil (tn ?_)))))))))))
 refine WP.cond rfl (fun hc2 => ?_) (fun hc2 => ?_)
 ·
  replace hm := ite_t hc2 hm
  refine WP.seq (WP.region (Va rfl (WL.nil (tn (WP.ret (then_ret ?_))))))
  obtain rfl := Option.some.inj hm
  refine retQ_ret results132 (Res.tmp rfl Res.nil) rfl (fun w' s => ⟨s.below, ?_⟩)
  exact rfl
 replace hm := ite_f hc2 hm
 refine WP.skip (tn (WP.seq (WP.seq (WP.region (V rfl (ov_fieldAddr underlying25 rfl rfl rfl sizeOf23 rfl rfl) (Vl 0 isAgg23 rfl (V rfl (ov_len_slice underlying23 rfl rfl) (V rfl (ov_gtr rfl rfl rfl) (WL.nil (tn ?_))))))))))
 refine WP.cond rfl (fun hc3 => ?_) (fun hc3 => ?_)
 ·
  replace hm := ite_t hc3 hm
  refine WP.seq (WP.region (Va rfl (WL.nil (tn (WP.ret (then_ret ?_))))))
  obtain rfl := Option.some.inj hm
  refine retQ_ret results132 (Res.tmp rfl Res.nil) rfl (fun w' s => ⟨s.below, ?_⟩)
  exact rfl
 replace hm := ite_f hc3 hm
 refine WP.skip (tn ?_)
 obtain ⟨k1, hk1, hm⟩ := joinK_some hm
 refine WP.seq_join (fun g' S' => Sub [(1, (pB b1 0)), (1000000007, (.bool false))] g' ∧ (∀ w', S' w' → St w H [.blk b1 25 [(.slice ao1 p_x.strokes.length cap1), (.int .i64 p_x.wait)]] H w') ∧ k1 = some r) ?_ ?_
 ·
  refine WP.seq (WP.region (Va rfl (WL.nil (tn (WP.block ?_)))))
  refine WP.loop (fun m1 g' S' => ∃ (i1 : Int), Sub [(1, (pB b1 0)), (3, (.int .i64 i1)), (1000000007, (.bool false))] g' ∧ (∀ w', S' w' → St w H [.blk b1 25 [(.slice ao1 p_x.strokes.length cap1), (.int .i64 p_x.wait)]] H w') ∧ ref13_CheckStep_loop1 p_x k1 m1 i1 = some r) ((Int.toNat ((p_x.strokes.length : Int) - 0) + 1)) ⟨0, (Sub.all rfl), fun w' s => s, hm⟩ ?_ ?_
  ·
   rintro g' S' ⟨_, _, _, hm⟩
   exact none_some hm
  rintro m1 g' S' ⟨i1, hsub1, hS1, hm⟩
  refine WP.sub hsub1 (WP.weaken hS1 ?_)
  rw [ref13_CheckStep_loop1] at hm
  refine WP.seq (WP.seq (WP.region (Vm rfl (V rfl (ov_fieldAddr underlying25 rfl rfl rfl sizeOf23 rfl rfl) (Vl 0 isAgg23 rfl (V rfl (ov_len_slice underlying23 rfl rfl) (V rfl (ov_lss rfl rfl rfl) (WL.nil (tn ?_)))))))))
  refine WP.cond rfl (fun hc4 => ?_) (fun hc4 => ?_)
  ·
   replace hm := ite_t hc4 hm
   refine WP.skip (tn (WP.seq (WP.block (WP.seq (WP.seq (WP.region (V rfl (ov_fieldAddr underlying25 rfl rfl rfl sizeOf23 rfl rfl) (Vl 0 isAgg23 rfl (Vm rfl ?_)))))))))
   obtain ⟨x1, e1, hm⟩ := bind_some hm
   obtain ⟨h2, h3, h4, cs1, h5, h6⟩ := h1.get e1 (by decide)
   obtain rfl : cs1 = [(.int .i64 x1.actuator), (.bool x1.out)] := h5
   refine V rfl (ov_indexAddr underlying23 sizeOf112 rfl rfl rfl h2 h3 h4) (V rfl (ov_fieldAddrE underlying112 rfl rfl rfl sizeOf3 rfl rfl) ?_)
   refine V rfl (ov_load_elem (v := (.int .i64 x1.actuator)) isAgg3 rfl rfl (h6.one (off := 0) rfl)) ?_
   obtain ⟨r1, e2, hm⟩ := bind_some hm
   refine wo rfl (oq_con (r := (.bool r1)) call152 rfl rfl (fun w' s => ⟨_, (ref13_Actuator_con x1.actuator  w' H s.hold hG r1 e2)⟩)) ?_
   refine V rfl (ov_not rfl rfl) (WL.nil (tn ?_))
   refine WP.cond rfl (fun hc5 => ?_) (fun hc5 => ?_)
   ·
    replace hm := ite_t hc5 hm
    refine WP.seq (WP.region (Va rfl (WL.nil (tn (WP.ret (then_ret (block_ret (then_ret (then_ret (block_ret (then_ret ?_)))))))))))
    obtain rfl := Option.some.inj hm
    refine retQ_ret results132 (Res.tmp rfl Res.nil) rfl (fun w' s => ⟨s.below, ?_⟩)
    exact rfl
   replace hm := ite_f hc5 hm
   refine WP.skip (tn (WP.seq (WP.seq ?_)))
   refine WP.region_draws (by kernel_rfl) (by kernel_rfl) (fun _ s => s.drew) ?_
   refine qf rfl (ov_move rfl rfl) ?_
   refine qf rfl (ov_gtr rfl rfl rfl) ?_
   refine qf rfl (ov_move rfl rfl) ?_
   obtain ⟨c1, e3, hm⟩ := bind_some hm
   refine QL.part_bool 15 44 (x := c1) ?_ ?_
   ·
    rcases Bool.eq_false_or_eq_true (decide (i1 > 0)) with hc6 | hc6
    ·
     replace hm := ite_t hc6 e3
     refine qy hc6 rfl (ov_fieldAddr underlying25 rfl rfl rfl sizeOf23 rfl rfl) ?_
     refine qy hc6 rfl (ov_load_box (i := 0) isAgg23 rfl rfl rfl rfl) ?_
     refine qy hc6 rfl (ov_move rfl rfl) ?_
     obtain ⟨x2, e4, hm⟩ := bind_some hm
     obtain ⟨h7, h8, h9, cs2, h10, h11⟩ := h1.get e4 (by decide)
     obtain rfl : cs2 = [(.int .i64 x2.actuator), (.bool x2.out)] := h10
     refine qy hc6 rfl (ov_indexAddr underlying23 sizeOf112 rfl rfl rfl h7 h8 h9) ?_
     refine qy hc6 rfl (ov_fieldAddrE underlying112 rfl rfl rfl sizeOf3 rfl rfl) ?_
     refine qy hc6 rfl (ov_load_elem (v := (.int .i64 x2.actuator)) isAgg3 rfl rfl (h11.one (off := 0) rfl)) ?_
     refine qy hc6 rfl (ov_fieldAddr underlying25 rfl rfl rfl sizeOf23 rfl rfl) ?_
     refine qy hc6 rfl (ov_load_box (i := 0) isAgg23 rfl rfl rfl rfl) ?_
     refine qy hc6 rfl (ov_move rfl rfl) ?_
     refine qy hc6 rfl (ov_sub rfl rfl rfl) ?_
     obtain ⟨x3, e5, hm⟩ := bind_some hm
     obtain ⟨h12, h13, h14, cs3, h15, h16⟩ := h1.get e5 (by decide)
     obtain rfl : cs3 = [(.int .i64 x3.actuator), (.bool x3.out)] := h15
     refine qy hc6 rfl (ov_indexAddr underlying23 sizeOf112 rfl rfl rfl h12 h13 h14) ?_
     refine qy hc6 rfl (ov_fieldAddrE underlying112 rfl rfl rfl sizeOf3 rfl rfl) ?_
     refine qy hc6 rfl (ov_load_elem (v := (.int .i64 x3.actuator)) isAgg3 rfl rfl (h16.one (off := 0) rfl)) ?_
     refine qy hc6 rfl (ov_eql rfl rfl rfl) ?_
     refine qf rfl (ov_pick_true rfl (guard_eq rfl hc6) rfl) ?_
     exact QL.nil (Sub.cons' rfl (congrArg Value.bool (Option.some.inj hm)) (Sub.dropn 15 rfl))
    replace hm := ite_f hc6 e3
    refine QL.idle (Idle.no rfl rfl rfl hc6) rfl rfl ?_
    refine QL.idle (Idle.no rfl rfl rfl hc6) rfl rfl ?_
    refine QL.idle (Idle.no rfl rfl rfl hc6) rfl rfl ?_
    refine QL.idle (Idle.no rfl rfl rfl hc6) rfl rfl ?_
    refine QL.idle (Idle.no rfl rfl rfl hc6) rfl rfl ?_
    refine QL.idle (Idle.no rfl rfl rfl hc6) rfl rfl ?_
    refine QL.idle (Idle.no rfl rfl rfl hc6) rfl rfl ?_
    refine QL.idle (Idle.no rfl rfl rfl hc6) rfl rfl ?_
    refine QL.idle (Idle.no rfl rfl rfl hc6) rfl rfl ?_
    refine QL.idle (Idle.no rfl rfl rfl hc6) rfl rfl ?_
    refine QL.idle (Idle.no rfl rfl rfl hc6) rfl rfl ?_
    refine QL.idle (Idle.no rfl rfl rfl hc6) rfl rfl ?_
    refine QL.idle (Idle.no rfl rfl rfl hc6) rfl rfl ?_
    refine QL.idle (Idle.no rfl rfl rfl hc6) rfl rfl ?_
    refine qf rfl (ov_pick_false rfl (guard_eq rfl hc6) rfl) ?_
    exact QL.nil (Sub.cons' rfl (congrArg Value.bool (Option.some.inj hm)) (Sub.dropn 15 rfl))
   refine QL.nil ?_
   refine tn ?_
   refine WP.cond rfl (fun hc7 => ?_) (fun hc7 => ?_)
   ·
    replace hm := ite_t hc7 hm
    refine WP.seq (WP.region (Va rfl (WL.nil (tn (WP.ret (then_ret (block_ret (then_ret (then_ret (block_ret (then_ret ?_)))))))))))
    obtain rfl := Option.some.inj hm
    refine retQ_ret results132 (Res.tmp rfl Res.nil) rfl (fun w' s => ⟨s.below, ?_⟩)
    exact rfl
   replace hm := ite_f hc7 hm
   refine WP.skip (tn (WP.seq ?_))
   refine WP.region_draws (by kernel_rfl) (by kernel_rfl) (fun _ s => s.drew) ?_
   refine qf rfl (ov_move rfl rfl) ?_
   refine qf rfl (ov_gtr rfl rfl rfl) ?_
   refine qf rfl (ov_move rfl rfl) ?_
   obtain ⟨c2, e6, hm⟩ := bind_some hm
   refine QL.part_bool 15 62 (x := c2) ?_ ?_
   ·
    rcases Bool.eq_false_or_eq_true (decide (i1 > 0)) with hc8 | hc8
    ·
     replace hm := ite_t hc8 e6
     refine qy hc8 rfl (ov_fieldAddr underlying25 rfl rfl rfl sizeOf23 rfl rfl) ?_
     refine qy hc8 rfl (ov_load_box (i := 0) isAgg23 rfl rfl rfl rfl) ?_
     refine qy hc8 rfl (ov_move rfl rfl) ?_
     obtain ⟨x4, e7, hm⟩ := bind_some hm
     obtain ⟨h17, h18, h19, cs4, h20, h21⟩ := h1.get e7 (by decide)
     obtain rfl : cs4 = [(.int .i64 x4.actuator), (.bool x4.out)] := h20
     refine qy hc8 rfl (ov_indexAddr underlying23 sizeOf112 rfl rfl rfl h17 h18 h19) ?_
     refine qy hc8 rfl (ov_fieldAddrE underlying112 rfl rfl rfl sizeOf3 rfl rfl) ?_
     refine qy hc8 rfl (ov_load_elem (v := (.int .i64 x4.actuator)) isAgg3 rfl rfl (h21.one (off := 0) rfl)) ?_
     refine qy hc8 rfl (ov_fieldAddr underlying25 rfl rfl rfl sizeOf23 rfl rfl) ?_
     refine qy hc8 rfl (ov_load_box (i := 0) isAgg23 rfl rfl rfl rfl) ?_
     refine qy hc8 rfl (ov_move rfl rfl) ?_
     refine qy hc8 rfl (ov_sub rfl rfl rfl) ?_
     obtain ⟨x5, e8, hm⟩ := bind_some hm
     obtain ⟨h22, h23, h24, cs5, h25, h26⟩ := h1.get e8 (by decide)
     obtain rfl : cs5 = [(.int .i64 x5.actuator), (.bool x5.out)] := h25
     refine qy hc8 rfl (ov_indexAddr underlying23 sizeOf112 rfl rfl rfl h22 h23 h24) ?_
     refine qy hc8 rfl (ov_fieldAddrE underlying112 rfl rfl rfl sizeOf3 rfl rfl) ?_
     refine qy hc8 rfl (ov_load_elem (v := (.int .i64 x5.actuator)) isAgg3 rfl rfl (h26.one (off := 0) rfl)) ?_
     refine qy hc8 rfl (ov_lss rfl rfl rfl) ?_
     refine qf rfl (ov_pick_true rfl (guard_eq rfl hc8) rfl) ?_
     exact QL.nil (Sub.cons' rfl (congrArg Value.bool (Option.some.inj hm)) (Sub.dropn 15 rfl))
    replace hm := ite_f hc8 e6
    refine QL.idle (Idle.no rfl rfl rfl hc8) rfl rfl ?_
    refine QL.idle (Idle.no rfl rfl rfl hc8) rfl rfl ?_
    refine QL.idle (Idle.no rfl rfl rfl hc8) rfl rfl ?_
    refine QL.idle (Idle.no rfl rfl rfl hc8) rfl rfl ?_
    refine QL.idle (Idle.no rfl rfl rfl hc8) rfl rfl ?_
    refine QL.idle (Idle.no rfl rfl rfl hc8) rfl rfl ?_
    refine QL.idle (Idle.no rfl rfl rfl hc8) rfl rfl ?_
    refine QL.idle (Idle.no rfl rfl rfl hc8) rfl rfl ?_
    refine QL.idle (Idle.no rfl rfl rfl hc8) rfl rfl ?_
    refine QL.idle (Idle.no rfl rfl rfl hc8) rfl rfl ?_
    refine QL.idle (Idle.no rfl rfl rfl hc8) rfl rfl ?_
    refine QL.idle (Idle.no rfl rfl rfl hc8) rfl rfl ?_
    refine QL.idle (Idle.no rfl rfl rfl hc8) rfl rfl ?_
    refine QL.idle (Idle.no rfl rfl rfl hc8) rfl rfl ?_
    refine qf rfl (ov_pick_false rfl (guard_eq rfl hc8) rfl) ?_
    exact QL.nil (Sub.cons' rfl (congrArg Value.bool (Option.some.inj hm)) (Sub.dropn 15 rfl))
   refine QL.nil ?_
   refine tn ?_
   refine WP.cond rfl (fun hc9 => ?_) (fun hc9 => ?_)
   ·
    replace hm := ite_t hc9 hm
    refine WP.seq (WP.region (Va rfl (WL.nil (tn (WP.ret (block_ret (then_ret (then_ret (block_ret (then_ret ?_))))))))))
    obtain rfl := Option.some.inj hm
    refine retQ_ret results132 (Res.tmp rfl Res.nil) rfl (fun w' s => ⟨s.below, ?_⟩)
    exact rfl
   replace hm := ite_f hc9 hm
   refine WP.skip (bn (tn (WP.region (Vm rfl (V rfl (ov_add rfl rfl rfl) (Va rfl (WL.nil (tn ?_))))))))
   exact ⟨(IntKind.wrap .i64 (i1 + 1)), (Sub.all rfl), fun w' s => s, hm⟩
  replace hm := ite_f hc4 hm
  refine WP.exit (then_exit (then_exit (block_here (tn ?_))))
  exact ⟨(Sub.all rfl), fun w' s => s, hm⟩
 rintro g' S' ⟨hsub2, hS2, hm⟩
 refine WP.sub hsub2 (WP.weaken hS2 ?_)
 replace hm := hk1.symm.trans hm
 refine WP.seq (WP.seq (WP.region (V rfl (ov_fieldAddr underlying25 rfl rfl rfl sizeOf3 rfl rfl) (Vl 0 isAgg3 rfl ?_))))
 obtain ⟨r2, e9, hm⟩ := bind_some hm
 refine wo rfl (oq_con (r := (.bool r2)) call153 rfl rfl (fun w' s => ⟨_, (ref03_Time_con p_x.wait  w' H s.hold hG r2 e9)⟩)) ?_
 refine V rfl (ov_not rfl rfl) (WL.nil (tn ?_))
 refine WP.cond rfl (fun hc10 => ?_) (fun hc10 => ?_)
 ·
  replace hm := ite_t hc10 hm
  refine WP.seq (WP.region (Va rfl (WL.nil (tn (WP.ret (then_ret ?_))))))
  obtain rfl := Option.some.inj hm
  refine retQ_ret results132 (Res.tmp rfl Res.nil) rfl (fun w' s => ⟨s.below, ?_⟩)
  exact rfl
 replace hm := ite_f hc10 hm
 refine WP.skip (tn (WP.seq (WP.region (Va rfl (WL.nil (tn (WP.ret ?_)))))))
 obtain rfl := Option.some.inj hm
 refine retQ_ret results132 (Res.tmp rfl Res.nil) rfl (fun w' s => ⟨s.below, ?_⟩)
 exact rfl
theorem ref15_shape_con (p_x : Node) (ao1 : Option Addr) (cap1 : Nat) (ao2 : Option Addr) (cap2 : Nat) (w : World) (H : Heap) (hH : Le H (hp w)) (h1 : SL H encStroke ao1 p_x.step.strokes) (hc1 : p_x.step.strokes.length ≤ cap1) (h2 : SL H encNode ao2 p_x.nodes) (hc2 : p_x.nodes.length ≤ cap2) (hG : Glob H) (r : Bool) (hm : ref15_shape p_x = some r) :
  Con prog 144 [(.agg #[(.int .i64 p_x.kind), (.slice ao1 p_x.step.strokes.length cap1), (.int .i64 p_x.step.wait), (.int .i64 p_x.count), (mkS p_x.name), (.slice ao2 p_x.nodes.length cap2)])] w H (fun v _ => v = (.bool r)) := by
 unfold ref15_shape at hm
 refine con_of hH func144 rfl 74 ntmps144 rfl ?_
 refine WP.seq (WP.region ?_)
 refine ws rfl (os_box (cs := [(.int .i64 p_x.kind), (.slice ao1 p_x.step.strokes.length cap1), (.int .i64 p_x.step.wait), (.int .i64 p_x.count), (mkS p_x.name), (.slice ao2 p_x.nodes.length cap2)]) rfl rfl rfl (fun b1 => ?_))
 refine Va rfl (WL.nil (tn (WP.seq (WP.region (V rfl (ov_fieldAddr underlying28 rfl rfl rfl sizeOf26 rfl rfl) (Vl 0 isAgg26 rfl (V rfl (ov_len_slice underlying26 rfl rfl) (Va rfl (WL.nil (tn (WP.seq (WP.region (V rfl (ov_fieldAddr underlying28 rfl rfl rfl sizeOf25 rfl rfl) ?_)))))))))))))
 refine V rfl (ov_fieldAddr underlying25 rfl rfl rfl sizeOf23 rfl rfl) (Vl 0 isAgg23 rfl (V rfl (ov_len_slice underlying23 rfl rfl) (V rfl (ov_eql rfl rfl rfl) (Vm rfl ?_))))
 refine WL.cut_bool 5 18 (x := (((p_x.step.strokes.length : Int) == 0) && (p_x.step.wait == 0))) ?_ ?_
 ·
  rcases Bool.eq_false_or_eq_true ((p_x.step.strokes.length : Int) == 0) with hc3 | hc3
  ·
   refine wy hc3 rfl (ov_fieldAddr underlying28 rfl rfl rfl sizeOf25 rfl rfl) ?_
   refine wy hc3 rfl (ov_fieldAddr underlying25 rfl rfl rfl sizeOf3 rfl rfl) ?_
   refine wy hc3 rfl (ov_load_box (i := 0) isAgg3 rfl rfl rfl rfl) ?_
   refine wy hc3 rfl (ov_eql rfl rfl rfl) ?_
   refine V rfl (ov_pick_true rfl (guard_eq rfl hc3) rfl) ?_
   exact WL.nil ⟨Sub.cons' rfl (congrArg Value.bool (andT hc3)) (Sub.dropn 5 rfl), fun _ s => s⟩
  refine Vi rfl (Idle.no rfl rfl rfl hc3) (Vi rfl (Idle.no rfl rfl rfl hc3) (Vi rfl (Idle.no rfl rfl rfl hc3) (Vi rfl (Idle.no rfl rfl rfl hc3) (V rfl (ov_pick_false rfl (guard_eq rfl hc3) rfl) ?_))))
  exact WL.nil ⟨Sub.cons' rfl (congrArg Value.bool (andF hc3)) (Sub.dropn 5 rfl), fun _ s => s⟩
 refine Va rfl (WL.nil (tn (WP.seq (WP.seq (WP.region (V rfl (ov_fieldAddr underlying28 rfl rfl rfl sizeOf3 rfl rfl) (Vl 0 isAgg3 rfl (WL.nil (tn (WP.block (WP.seq (WP.region (V rfl (ov_eql rfl rfl rfl) ?_)))))))))))))
 refine Va rfl (WL.nil (tn ?_))
 refine WP.cond rfl (fun hc4 => ?_) (fun hc4 => ?_)
 ·
  replace hm := ite_t hc4 hm
  refine WP.seq (WP.region (Vm rfl (V rfl (ov_eql rfl rfl rfl) (Vm rfl ?_))))
  refine WL.cut_bool 4 29 (x := (((p_x.nodes.length : Int) == 0) && (p_x.count == 0))) ?_ ?_
  ·
   rcases Bool.eq_false_or_eq_true ((p_x.nodes.length : Int) == 0) with hc5 | hc5
   ·
    refine wy hc5 rfl (ov_fieldAddr underlying28 rfl rfl rfl sizeOf3 rfl rfl) ?_
    refine wy hc5 rfl (ov_load_box (i := 0) isAgg3 rfl rfl rfl rfl) ?_
    refine wy hc5 rfl (ov_eql rfl rfl rfl) ?_
    refine V rfl (ov_pick_true rfl (guard_eq rfl hc5) rfl) ?_
    exact WL.nil ⟨Sub.cons' rfl (congrArg Value.bool (andT hc5)) (Sub.dropn 4 rfl), fun _ s => s⟩
   refine Vi rfl (Idle.no rfl rfl rfl hc5) (Vi rfl (Idle.no rfl rfl rfl hc5) (Vi rfl (Idle.no rfl rfl rfl hc5) (V rfl (ov_pick_false rfl (guard_eq rfl hc5) rfl) ?_)))
   exact WL.nil ⟨Sub.cons' rfl (congrArg Value.bool (andF hc5)) (Sub.dropn 4 rfl), fun _ s => s⟩
  refine Vm rfl ?_
  refine WL.cut_bool 4 34 (x := ((((p_x.nodes.length : Int) == 0) && (p_x.count == 0)) && (p_x.name == []))) ?_ ?_
  ·
   rcases Bool.eq_false_or_eq_true (((p_x.nodes.length : Int) == 0) && (p_x.count == 0)) with hc6 | hc6
   ·
    refine wy hc6 rfl (ov_fieldAddr underlying28 rfl rfl rfl sizeOf9 rfl rfl) ?_
    refine wy hc6 rfl (ov_load_box (i := 0) isAgg9 rfl rfl rfl rfl) ?_
    refine wy hc6 rfl (ov_seql rfl rfl rfl) ?_
    refine V rfl (ov_pick_true rfl (guard_eq rfl hc6) rfl) ?_
    exact WL.nil ⟨Sub.cons' rfl (congrArg Value.bool (andT hc6)) (Sub.dropn 4 rfl), fun _ s => s⟩
   refine Vi rfl (Idle.no rfl rfl rfl hc6) (Vi rfl (Idle.no rfl rfl rfl hc6) (Vi rfl (Idle.no rfl rfl rfl hc6) (V rfl (ov_pick_false rfl (guard_eq rfl hc6) rfl) ?_)))
   exact WL.nil ⟨Sub.cons' rfl (congrArg Value.bool (andF hc6)) (Sub.dropn 4 rfl), fun _ s => s⟩
  refine Va rfl (WL.nil (tn (WP.ret (block_ret (then_ret ?_)))))
  obtain rfl := Option.some.inj hm
  refine retQ_ret results144 (Res.tmp rfl Res.nil) rfl (fun w' s => ⟨s.below, ?_⟩)
  exact rfl
 replace hm := ite_f hc4 hm
 refine WP.seq (WP.region (V rfl (ov_eql rfl rfl rfl) (Va rfl (WL.nil (tn ?_)))))
 refine WP.cond rfl (fun hc7 => ?_) (fun hc7 => ?_)
 ·
  replace hm := ite_t hc7 hm
  refine WP.seq (WP.region (Vm rfl (V rfl (ov_gtr rfl rfl rfl) (Vm rfl ?_))))
  refine WL.cut_bool 2 41 (x := ((decide ((p_x.nodes.length : Int) > 0)) && (((p_x.step.strokes.length : Int) == 0) && (p_x.step.wait == 0)))) ?_ ?_
  ·
   rcases Bool.eq_false_or_eq_true (decide ((p_x.nodes.length : Int) > 0)) with hc8 | hc8
   ·
    refine wy hc8 rfl (ov_move rfl rfl) ?_
    refine V rfl (ov_pick_true rfl (guard_eq rfl hc8) rfl) ?_
    exact WL.nil ⟨Sub.cons' rfl (congrArg Value.bool (andT hc8)) (Sub.dropn 2 rfl), fun _ s => s⟩
   refine Vi rfl (Idle.no rfl rfl rfl hc8) (V rfl (ov_pick_false rfl (guard_eq rfl hc8) rfl) ?_)
   exact WL.nil ⟨Sub.cons' rfl (congrArg Value.bool (andF hc8)) (Sub.dropn 2 rfl), fun _ s => s⟩
  refine Vm rfl ?_
  refine WL.cut_bool 4 46 (x := (((decide ((p_x.nodes.length : Int) > 0)) && (((p_x.step.strokes.length : Int) == 0) && (p_x.step.wait == 0))) && (p_x.count == 0))) ?_ ?_
  ·
   rcases Bool.eq_false_or_eq_true ((decide ((p_x.nodes.length : Int) > 0)) && (((p_x.step.strokes.length : Int) == 0) && (p_x.step.wait == 0))) with hc9 | hc9
   ·
    refine wy hc9 rfl (ov_fieldAddr underlying28 rfl rfl rfl sizeOf3 rfl rfl) ?_
    refine wy hc9 rfl (ov_load_box (i := 0) isAgg3 rfl rfl rfl rfl) ?_
    refine wy hc9 rfl (ov_eql rfl rfl rfl) ?_
    refine V rfl (ov_pick_true rfl (guard_eq rfl hc9) rfl) ?_
    exact WL.nil ⟨Sub.cons' rfl (congrArg Value.bool (andT hc9)) (Sub.dropn 4 rfl), fun _ s => s⟩
   refine Vi rfl (Idle.no rfl rfl rfl hc9) (Vi rfl (Idle.no rfl rfl rfl hc9) (Vi rfl (Idle.no rfl rfl rfl hc9) (V rfl (ov_pick_false rfl (guard_eq rfl hc9) rfl) ?_)))
   exact WL.nil ⟨Sub.cons' rfl (congrArg Value.bool (andF hc9)) (Sub.dropn 4 rfl), fun _ s => s⟩
  refine Vm rfl ?_
  refine WL.cut_bool 4 51 (x := ((((decide ((p_x.nodes.length : Int) > 0)) && (((p_x.step.strokes.length : Int) == 0) && (p_x.step.wait == 0))) && (p_x.count == 0)) && (p_x.name == []))) ?_ ?_
  ·
   rcases Bool.eq_false_or_eq_true (((decide ((p_x.nodes.length : Int) > 0)) && (((p_x.step.strokes.length : Int) == 0) && (p_x.step.wait == 0))) && (p_x.count == 0)) with hc10 | hc10
   ·
    refine wy hc10 rfl (ov_fieldAddr underlying28 rfl rfl rfl sizeOf9 rfl rfl) ?_
    refine wy hc10 rfl (ov_load_box (i := 0) isAgg9 rfl rfl rfl rfl) ?_
    refine wy hc10 rfl (ov_seql rfl rfl rfl) ?_
    refine V rfl (ov_pick_true rfl (guard_eq rfl hc10) rfl) ?_
    exact WL.nil ⟨Sub.cons' rfl (congrArg Value.bool (andT hc10)) (Sub.dropn 4 rfl), fun _ s => s⟩
   refine Vi rfl (Idle.no rfl rfl rfl hc10) (Vi rfl (Idle.no rfl rfl rfl hc10) (Vi rfl (Idle.no rfl rfl rfl hc10) (V rfl (ov_pick_false rfl (guard_eq rfl hc10) rfl) ?_)))
   exact WL.nil ⟨Sub.cons' rfl (congrArg Value.bool (andF hc10)) (Sub.dropn 4 rfl), fun _ s => s⟩
  refine Va rfl (WL.nil (tn (WP.ret (block_ret (then_ret ?_)))))
  obtain rfl := Option.some.inj hm
  refine retQ_ret results144 (Res.tmp rfl Res.nil) rfl (fun w' s => ⟨s.below, ?_⟩)
  exact rfl
 replace hm := ite_f hc7 hm
 refine WP.seq (WP.region (V rfl (ov_eql rfl rfl rfl) (Va rfl (WL.nil (tn ?_)))))
 refine WP.cond rfl (fun hc11 => ?_) (fun hc11 => ?_)
 ·
  replace hm := ite_t hc11 hm
  refine WP.seq (WP.region (Vm rfl (V rfl (ov_eql rfl rfl rfl) (Vm rfl ?_))))
  refine WL.cut_bool 2 58 (x := (((p_x.nodes.length : Int) == 1) && (((p_x.step.strokes.length : Int) == 0) && (p_x.step.wait == 0)))) ?_ ?_
  ·
   rcases Bool.eq_false_or_eq_true ((p_x.nodes.length : Int) == 1) with hc12 | hc12
   ·
    refine wy hc12 rfl (ov_move rfl rfl) ?_
    refine V rfl (ov_pick_true rfl (guard_eq rfl hc12) rfl) ?_
    exact WL.nil ⟨Sub.cons' rfl (congrArg Value.bool (andT hc12)) (Sub.dropn 2 rfl), fun _ s => s⟩
   refine Vi rfl (Idle.no rfl rfl rfl hc12) (V rfl (ov_pick_false rfl (guard_eq rfl hc12) rfl) ?_)
   exact WL.nil ⟨Sub.cons' rfl (congrArg Value.bool (andF hc12)) (Sub.dropn 2 rfl), fun _ s => s⟩
  refine Vm rfl ?_
  refine WL.cut_bool 4 63 (x := ((((p_x.nodes.length : Int) == 1) && (((p_x.step.strokes.length : Int) == 0) && (p_x.step.wait == 0))) && (p_x.name == []))) ?_ ?_
  ·
   rcases Bool.eq_false_or_eq_true (((p_x.nodes.length : Int) == 1) && (((p_x.step.strokes.length : Int) == 0) && (p_x.step.wait == 0))) with hc13 | hc13
   ·
    refine wy hc13 rfl (ov_fieldAddr underlying28 rfl rfl rfl sizeOf9 rfl rfl) ?_
    refine wy hc13 rfl (ov_load_box (i := 0) isAgg9 rfl rfl rfl rfl) ?_
    refine wy hc13 rfl (ov_seql rfl rfl rfl) ?_
    refine V rfl (ov_pick_true rfl (guard_eq rfl hc13) rfl) ?_
    exact WL.nil ⟨Sub.cons' rfl (congrArg Value.bool (andT hc13)) (Sub.dropn 4 rfl), fun _ s => s⟩
   refine Vi rfl (Idle.no rfl rfl rfl hc13) (Vi rfl (Idle.no rfl rfl rfl hc13) (Vi rfl (Idle.no rfl rfl rfl hc13) (V rfl (ov_pick_false rfl (guard_eq rfl hc13) rfl) ?_)))
   exact WL.nil ⟨Sub.cons' rfl (congrArg Value.bool (andF hc13)) (Sub.dropn 4 rfl), fun _ s => s⟩
  refine Va rfl (WL.nil (tn (WP.ret (block_ret (then_ret ?_)))))
  obtain rfl := Option.some.inj hm
  refine retQ_ret results144 (Res.tmp rfl Res.nil) rfl (fun w' s => ⟨s.below, ?_⟩)
  exact rfl
 replace hm := ite_f hc11 hm
 refine WP.skip (bn (tn (WP.seq (WP.region (Vm rfl (V rfl (ov_eql rfl rfl rfl) (Vm rfl ?_)))))))
 refine WL.cut_bool 2 68 (x := (((p_x.nodes.length : Int) == 2) && (((p_x.step.strokes.length : Int) == 0) && (p_x.step.wait == 0)))) ?_ ?_
 ·
  rcases Bool.eq_false_or_eq_true ((p_x.nodes.length : Int) == 2) with hc14 | hc14
  ·
   refine wy hc14 rfl (ov_move rfl rfl) ?_
   refine V rfl (ov_pick_true rfl (guard_eq rfl hc14) rfl) ?_
   exact WL.nil ⟨Sub.cons' rfl (congrArg Value.bool (andT hc14)) (Sub.dropn 2 rfl), fun _ s => s⟩
  refine Vi rfl (Idle.no rfl rfl rfl hc14) (V rfl (ov_pick_false rfl (guard_eq rfl hc14) rfl) ?_)
  exact WL.nil ⟨Sub.cons' rfl (congrArg Value.bool (andF hc14)) (Sub.dropn 2 rfl), fun _ s => s⟩
 refine Vm rfl ?_
 refine WL.cut_bool 4 73 (x := ((((p_x.nodes.length : Int) == 2) && (((p_x.step.strokes.length : Int) == 0) && (p_x.step.wait == 0))) && (p_x.count == 0))) ?_ ?_
 ·
  rcases Bool.eq_false_or_eq_true (((p_x.nodes.length : Int) == 2) && (((p_x.step.strokes.length : Int) == 0) && (p_x.step.wait == 0))) with hc15 | hc15
  ·
   refine wy hc15 rfl (ov_fieldAddr underlying28 rfl rfl rfl sizeOf3 rfl rfl) ?_
   refine wy hc15 rfl (ov_load_box (i := 0) isAgg3 rfl rfl rfl rfl) ?_
   refine wy hc15 rfl (ov_eql rfl rfl rfl) ?_
   refine V rfl (ov_pick_true rfl (guard_eq rfl hc15) rfl) ?_
   exact WL.nil ⟨Sub.cons' rfl (congrArg Value.bool (andT hc15)) (Sub.dropn 4 rfl), fun _ s => s⟩
  refine Vi rfl (Idle.no rfl rfl rfl hc15) (Vi rfl (Idle.no rfl rfl rfl hc15) (Vi rfl (Idle.no rfl rfl rfl hc15) (V rfl (ov_pick_false rfl (guard_eq rfl hc15) rfl) ?_)))
  exact WL.nil ⟨Sub.cons' rfl (congrArg Value.bool (andF hc15)) (Sub.dropn 4 rfl), fun _ s => s⟩
 refine Va rfl (WL.nil (tn (WP.ret ?_)))
 obtain rfl := Option.some.inj hm
 refine retQ_ret results144 (Res.tmp rfl Res.nil) rfl (fun w' s => ⟨s.below, ?_⟩)
 exact rfl
end Go.Proofs.YtgpfgnpdbmbknaaGreatDoor.W
