import Derived.Test.YtgpfgnpdbmbknaaGreatDoorPlain
import Derived.Test.YtgpfgnpdbmbknaaGreatDoorEqs
import Derived.Test.YtgpfgnpdbmbknaaGreatDoorProg
import Derived.Test.YtgpfgnpdbmbknaaGreatDoorExt
import Derived.Test.YtgpfgnpdbmbknaaGreatDoorClone
import Derived.Test.YtgpfgnpdbmbknaaGreatDoorSort
import Derived.Test.YtgpfgnpdbmbknaaGreatDoorIter
import Derived.Test.YtgpfgnpdbmbknaaGreatDoorWalk2
import Derived.Test.YtgpfgnpdbmbknaaGreatDoorWalk3
set_option linter.unusedVariables false
set_option maxRecDepth 100000
set_option maxHeartbeats 4000000
namespace Go.Proofs.YtgpfgnpdbmbknaaGreatDoor.W
open Go Go.RowKit Go.Proofs.Tryz
theorem program_Length_con (p_n : Node) (p_on : (List (List UInt8))) (ao1 : Option Addr) (cap1 : Nat) (ao2 : Option Addr) (cap2 : Nat) (ao3 : Option Addr) (cap3 : Nat) (w : World) (H : Heap) (hH : Le H (hp w)) (h1 : SL H encStroke ao1 p_n.step.strokes) (hc1 : p_n.step.strokes.length ≤ cap1) (h2 : SL H encNode ao2 p_n.nodes) (hc2 : p_n.nodes.length ≤ cap2) (h3 : SL H encStr ao3 p_on) (hc3 : p_on.length ≤ cap3) (hG : Glob H) (r : (Int × Int)) (hm : program_Length p_n p_on = some r) :
  Con prog 16 [(.agg #[(.int .i64 p_n.kind), (.slice ao1 p_n.step.strokes.length cap1), (.int .i64 p_n.step.wait), (.int .i64 p_n.count), (mkS p_n.name), (.slice ao2 p_n.nodes.length cap2)]), (.slice ao3 p_on.length cap3)] w H (fun v _ => v = (.tuple #[(.int .i64 r.1), (.int .i64 r.2)])) := by
 unfold program_Length at hm
 refine con_of hH func16 rfl 20 ntmps16 rfl ?_
 refine WP.seq (WP.region ?_)
 refine ws rfl (os_box (cs := [(.int .i64 p_n.kind), (.slice ao1 p_n.step.strokes.length cap1), (.int .i64 p_n.step.wait), (.int .i64 p_n.count), (mkS p_n.name), (.slice ao2 p_n.nodes.length cap2)]) rfl rfl rfl (fun b1 => ?_))
 refine Va rfl (Va rfl (WL.nil (tn (WP.seq (WP.seq (WP.region (V rfl (ov_load_whole (i := 0) isAgg28 sizeOf28 rfl rfl rfl rfl) ?_)))))))
 obtain ⟨r1, e1, hm⟩ := bind_some hm
 refine wo rfl (oq_con (r := (.int .i64 r1)) call31 rfl rfl (fun w' s => ⟨_, (program_Check_con p_n ao1 cap1 ao2 cap2  w' H s.hold h1 hc1 h2 hc2 hG r1 e1)⟩)) ?_
 refine Va rfl (WL.nil (tn (WP.seq (WP.region (Vm rfl (V rfl (ov_neq rfl rfl rfl) (WL.nil (tn ?_))))))))
 refine WP.cond rfl (fun hc4 => ?_) (fun hc4 => ?_)
 ·
  replace hm := ite_t hc4 hm
  refine WP.seq (WP.region (Vm rfl (Va rfl (Va rfl (WL.nil (tn (WP.ret (then_ret ?_))))))))
  obtain rfl := Option.some.inj hm
  refine retQ_ret results16 (Res.tmp rfl (Res.tmp rfl Res.nil)) rfl (fun w' s => ⟨s.below, ?_⟩)
  exact rfl
 replace hm := ite_f hc4 hm
 refine WP.skip (tn (WP.seq (WP.region (V rfl (ov_load_whole (i := 0) isAgg28 sizeOf28 rfl rfl rfl rfl) ?_))))
 obtain ⟨r2, e2, hm⟩ := bind_some hm
 refine ws rfl (os_con call53 rfl rfl (fun w' s => (program_of_con 600 p_n ao1 cap1 ao2 cap2  w' H s.hold h1 hc1 h2 hc2 hG r2 e2)) (fun rr1 H1 hle1 hR1 => ?_))
 replace h3 := h3.mono hle1
 replace hG := hG.mono hle1
 obtain ⟨t1, c1, rfl, h4⟩ := hR1
 refine Vm rfl ?_
 obtain ⟨r3, e3, hm⟩ := bind_some hm
 refine wo rfl (oq_con (r := (.int .i64 r3)) call52 rfl rfl (fun w' s => ⟨_, (program_length_con 600 r2 p_on t1 c1 ao3 cap3  w' H1 s.hold h4  h3 hc3 hG r3 e3)⟩)) ?_
 refine Va rfl (WL.nil (tn (WP.seq (WP.seq (WP.region (Vm rfl (V rfl (ov_gtr rfl rfl rfl) (WL.nil (tn ?_)))))))))
 refine WP.cond rfl (fun hc5 => ?_) (fun hc5 => ?_)
 ·
  replace hm := ite_t hc5 hm
  refine WP.seq (WP.region (Va rfl (Va rfl (WL.nil (tn (WP.ret (then_ret ?_)))))))
  obtain rfl := Option.some.inj hm
  refine retQ_ret results16 (Res.tmp rfl (Res.tmp rfl Res.nil)) rfl (fun w' s => ⟨s.below, ?_⟩)
  exact rfl
 replace hm := ite_f hc5 hm
 refine WP.skip (tn (WP.seq (WP.region (Vm rfl (Va rfl (Va rfl (WL.nil (tn (WP.ret ?_)))))))))
 obtain rfl := Option.some.inj hm
 refine retQ_ret results16 (Res.tmp rfl (Res.tmp rfl Res.nil)) rfl (fun w' s => ⟨s.below, ?_⟩)
 exact rfl
theorem program_unfolded_con (p_n : Node) (p_on : (List (List UInt8))) (ao1 : Option Addr) (cap1 : Nat) (ao2 : Option Addr) (cap2 : Nat) (ao3 : Option Addr) (cap3 : Nat) (w : World) (H : Heap) (hH : Le H (hp w)) (h1 : SL H encStroke ao1 p_n.step.strokes) (hc1 : p_n.step.strokes.length ≤ cap1) (h2 : SL H encNode ao2 p_n.nodes) (hc2 : p_n.nodes.length ≤ cap2) (h3 : SL H encStr ao3 p_on) (hc3 : p_on.length ≤ cap3) (hG : Glob H) (r : ((List Step) × Int)) (hm : program_unfolded p_n p_on = some r) :
  Con prog 55 [(.agg #[(.int .i64 p_n.kind), (.slice ao1 p_n.step.strokes.length cap1), (.int .i64 p_n.step.wait), (.int .i64 p_n.count), (mkS p_n.name), (.slice ao2 p_n.nodes.length cap2)]), (.slice ao3 p_on.length cap3)] w H (fun v H' => ∃ (ao4 : Option Addr) (cap4 : Nat), v = (.tuple #[(.slice ao4 r.1.length cap4), (.int .i64 r.2)]) ∧ SL H' encStep ao4 r.1 ∧ r.1.length ≤ cap4) := by
 unfold program_unfolded at hm
 refine con_of hH func55 rfl 26 ntmps55 rfl ?_
 refine WP.seq (WP.region ?_)
 refine ws rfl (os_box (cs := [(.int .i64 p_n.kind), (.slice ao1 p_n.step.strokes.length cap1), (.int .i64 p_n.step.wait), (.int .i64 p_n.count), (mkS p_n.name), (.slice ao2 p_n.nodes.length cap2)]) rfl rfl rfl (fun b1 => ?_))
 refine ws rfl (os_alloc (cs := [(.slice none 0 0)]) zeroValue42 rfl rfl (fun b2 => ?_))
 refine ws rfl (os_alloc (cs := [(.int .i64 0)]) zeroValue29 rfl rfl (fun b3 => ?_))
 refine WL.nil (tn (WP.seq (WP.region ?_)))
 refine ws rfl (os_alloc (cs := [(.slice none 0 0)]) zeroValue42 rfl rfl (fun b4 => ?_))
 refine WL.nil (tn (WP.seq (WP.seq (WP.region (V rfl (ov_load_whole (i := 3) isAgg28 sizeOf28 rfl rfl rfl rfl) ?_)))))
 obtain ⟨r1, e1, hm⟩ := bind_some hm
 refine ws rfl (os_con call53 rfl rfl (fun w' s => (program_of_con 600 p_n ao1 cap1 ao2 cap2  w' H s.hold h1 hc1 h2 hc2 hG r1 e1)) (fun rr1 H1 hle1 hR1 => ?_))
 replace h3 := h3.mono hle1
 replace hG := hG.mono hle1
 obtain ⟨t1, c1, rfl, h5⟩ := hR1
 refine Vm rfl ?_
 obtain ⟨r2, e2, hm⟩ := bind_some hm
 refine ws rfl (os_invoke rfl rfl rfl (fun w' s => steps_con 600 hc3 r1 t1 c1 w' H1 s.hold h5 h3 hG r2 e2) (fun v1 H2 hle2 h6 => ?_))
 replace hG := hG.mono hle2
 refine WL.nil (tn (WP.block ?_))
 have rl1 := RL.nil (α := Step) H2 encStep
 refine WP.weaken (fun _ s => s.nilrow 25 (encStep).size) ?_
 obtain ⟨r3, e5, hm⟩ := bind_some hm
 refine WP.rangeC rfl (fun l1 D1 R1 hr1 w2 hs2 => ?_)
 have hY1 : Yields prog w H (.func (.yield l1) #[] #[]) encSeqStep (program_unfolded_rng1) (fun (q1 : ((List Step) × Int × (List Step))) (H3 : Heap) (ms : List Ent) => ∃ (ao5 : Option Addr) (cap5 : Nat) (xs1 : List Value) (ao6 : Option Addr) (cap6 : Nat), Le H2 H3 ∧ RL H3 encStep q1.1 xs1 ∧ SL H3 encStep ao6 q1.2.2 ∧ q1.2.2.length ≤ cap6 ∧ ms = [.obj l1 (R1 .ready none), .obj D1 (.deferred (some [])), .row 25 (encStep).size q1.1.length (.slice ao5 q1.1.length cap5) xs1, .blk b4 42 [(.slice ao5 q1.1.length cap5)], .blk b3 29 [(.int .i64 q1.2.1)], .blk b2 42 [(.slice ao6 q1.2.2.length cap6)], .blk b1 28 [(.int .i64 p_n.kind), (.slice ao1 p_n.step.strokes.length cap1), (.int .i64 p_n.step.wait), (.int .i64 p_n.count), (mkS p_n.name), (.slice ao2 p_n.nodes.length cap2)]]) (fun (q1 : ((List Step) × Int × (List Step))) (H3 : Heap) (ms : List Ent) => ∃ (ao5 : Option Addr) (cap5 : Nat) (xs1 : List Value) (ao6 : Option Addr) (cap6 : Nat), Le H2 H3 ∧ RL H3 encStep q1.1 xs1 ∧ SL H3 encStep ao6 q1.2.2 ∧ q1.2.2.length ≤ cap6 ∧ ms = [.obj l1 (R1 .done (some .ret)), .obj D1 (.deferred (some [])), .row 25 (encStep).size q1.1.length (.slice ao5 q1.1.length cap5) xs1, .blk b4 42 [(.slice ao5 q1.1.length cap5)], .blk b3 29 [(.int .i64 q1.2.1)], .blk b2 42 [(.slice ao6 q1.2.2.length cap6)], .blk b1 28 [(.int .i64 p_n.kind), (.slice ao1 p_n.step.strokes.length cap1), (.int .i64 p_n.step.wait), (.int .i64 p_n.count), (mkS p_n.name), (.slice ao2 p_n.nodes.length cap2)]]) := by
  refine ⟨?_, ?_, _, rfl, ?_⟩
  ·
   rintro q1 Ha Hb msx k ⟨ao5, cap5, xs1, ao6, cap6, h0, rl2, h7, hc5, rfl⟩; exact ⟨ao5, cap5, xs1, ao6, cap6, h0.trans k, rl2.mono k, h7.mono k, hc5, rfl⟩
  ·
   rintro q1 Ha Hb msx k ⟨ao5, cap5, xs1, ao6, cap6, h0, rl2, h7, hc5, rfl⟩; exact ⟨ao5, cap5, xs1, ao6, cap6, h0.trans k, rl2.mono k, h7.mono k, hc5, rfl⟩
  ·
   rintro q1 xx1 bq1 q2 vs H3 ms fr1 hm ⟨ao7, cap7, rfl, h8, hc6⟩ ⟨ao5, cap5, xs1, ao6, cap6, hle3, rl2, h7, hc5, rfl⟩ w1 hs1
   unfold program_unfolded_rng1 at hm
   replace h6 := h6.mono hle3
   replace rl1 := rl1.mono hle3
   replace hG := hG.mono hle3
   refine yields_call (i := 0) (vs := [(.agg #[(.slice ao7 xx1.strokes.length cap7), (.int .i64 xx1.wait)])]) (b := bq1) (q := q2) (T := (fun (q1 : ((List Step) × Int × (List Step))) (H3 : Heap) (ms : List Ent) => ∃ (ao5 : Option Addr) (cap5 : Nat) (xs1 : List Value) (ao6 : Option Addr) (cap6 : Nat), Le H2 H3 ∧ RL H3 encStep q1.1 xs1 ∧ SL H3 encStep ao6 q1.2.2 ∧ q1.2.2.length ≤ cap6 ∧ ms = [.obj l1 (R1 .ready none), .obj D1 (.deferred (some [])), .row 25 (encStep).size q1.1.length (.slice ao5 q1.1.length cap5) xs1, .blk b4 42 [(.slice ao5 q1.1.length cap5)], .blk b3 29 [(.int .i64 q1.2.1)], .blk b2 42 [(.slice ao6 q1.2.2.length cap6)], .blk b1 28 [(.int .i64 p_n.kind), (.slice ao1 p_n.step.strokes.length cap1), (.int .i64 p_n.step.wait), (.int .i64 p_n.count), (mkS p_n.name), (.slice ao2 p_n.nodes.length cap2)]])) (T' := (fun (q1 : ((List Step) × Int × (List Step))) (H3 : Heap) (ms : List Ent) => ∃ (ao5 : Option Addr) (cap5 : Nat) (xs1 : List Value) (ao6 : Option Addr) (cap6 : Nat), Le H2 H3 ∧ RL H3 encStep q1.1 xs1 ∧ SL H3 encStep ao6 q1.2.2 ∧ q1.2.2.length ≤ cap6 ∧ ms = [.obj l1 (R1 .done (some .ret)), .obj D1 (.deferred (some [])), .row 25 (encStep).size q1.1.length (.slice ao5 q1.1.length cap5) xs1, .blk b4 42 [(.slice ao5 q1.1.length cap5)], .blk b3 29 [(.int .i64 q1.2.1)], .blk b2 42 [(.slice ao6 q1.2.2.length cap6)], .blk b1 28 [(.int .i64 p_n.kind), (.slice ao1 p_n.step.strokes.length cap1), (.int .i64 p_n.step.wait), (.int .i64 p_n.count), (mkS p_n.name), (.slice ao2 p_n.nodes.length cap2)]])) hr1 hs1 rfl rfl rfl ?_
   refine WP.weaken (S₁ := St w H (.obj l1 (R1 .ready none) :: .obj D1 (.deferred (some [])) :: .row 25 (encStep).size q1.1.length (.slice ao5 q1.1.length cap5) xs1 :: .blk b4 42 [(.slice ao5 q1.1.length cap5)] :: .blk b3 29 [(.int .i64 q1.2.1)] :: .blk b2 42 [(.slice ao6 q1.2.2.length cap6)] :: .blk b1 28 [(.int .i64 p_n.kind), (.slice ao1 p_n.step.strokes.length cap1), (.int .i64 p_n.step.wait), (.int .i64 p_n.count), (mkS p_n.name), (.slice ao2 p_n.nodes.length cap2)] :: fr1) H3) (fun _ s => s) ?_
   refine WP.region ?_
   refine ws rfl (os_alloc (cs := [(.slice none 0 0), (.int .i64 0)]) zeroValue25 rfl rfl (fun b5 => ?_))
   refine ws0 rfl (os_store (i := 0) (vs := [(.slice ao7 xx1.strokes.length cap7), (.int .i64 xx1.wait)]) (cs' := [(.slice ao7 xx1.strokes.length cap7), (.int .i64 xx1.wait)]) sizeOf25 rfl rfl rfl rfl rfl rfl rfl rfl rfl ?_)
   refine WL.nil (tn ?_)
   refine begin_of (i := 1) rfl ?_
   refine WP.block (WP.seq (WP.seq (WP.region (Vl 4 isAgg42 rfl (V rfl (ov_len_slice underlying42 rfl rfl) (V rfl (ov_eql rfl rfl rfl) (WL.nil (tn ?_))))))))
   refine WP.cond rfl (fun hc7 => ?_) (fun hc7 => ?_)
   ·
    replace hm := ite_t hc7 hm
    refine WP.seq (WP.region ?_)
    refine ws0 rfl (os_store (i := 6) (vs := [(.slice none 0 0)]) (cs' := [(.slice none 0 0)]) sizeOf42 rfl rfl rfl rfl rfl rfl rfl rfl rfl ?_)
    refine ws0 rfl (os_store (i := 5) (vs := [(.int .i64 12)]) (cs' := [(.int .i64 12)]) sizeOf29 rfl rfl rfl rfl rfl rfl rfl rfl rfl ?_)
    refine WL.nil (tn (WP.ret (then_ret (block_ret ?_))))
    refine round_ret (i := 1) rfl ?_
    obtain ⟨rfl, rfl⟩ := Prod.mk.inj (Option.some.inj hm)
    exact ⟨rfl, H3, [.obj l1 (R1 .done (some .ret)), .obj D1 (.deferred (some [])), .row 25 (encStep).size q1.1.length (.slice ao5 q1.1.length cap5) xs1, .blk b4 42 [(.slice ao5 q1.1.length cap5)], .blk b3 29 [(.int .i64 12)], .blk b2 42 [(.slice none 0 0)], .blk b1 28 [(.int .i64 p_n.kind), (.slice ao1 p_n.step.strokes.length cap1), (.int .i64 p_n.step.wait), (.int .i64 p_n.count), (mkS p_n.name), (.slice ao2 p_n.nodes.length cap2)]], (Le.refl _), condF ⟨ao5, cap5, xs1, none, 0, (hle3.trans (Le.refl _)), rl2, (SL.nil _ _ _), (Nat.le_refl _), rfl⟩, fun w' s => (s.selectT 8 [1, 2, 3, 4, 5, 6, 7] (by decide) rfl rfl)⟩
   ·
    replace hm := ite_f hc7 hm
    refine WP.skip (tn ?_)
    refine WP.region_anyF (S₀ := St w H (.blk b5 25 [(.slice ao7 xx1.strokes.length cap7), (.int .i64 xx1.wait)] :: .obj l1 (R1 .busy none) :: .obj D1 (.deferred (some [])) :: .blk b3 29 [(.int .i64 q1.2.1)] :: .blk b2 42 [(.slice ao6 q1.2.2.length cap6)] :: .blk b1 28 [(.int .i64 p_n.kind), (.slice ao1 p_n.step.strokes.length cap1), (.int .i64 p_n.step.wait), (.int .i64 p_n.count), (mkS p_n.name), (.slice ao2 p_n.nodes.length cap2)] :: fr1) H3) 10 rfl (by kernel_rfl) (by kernel_rfl) (fun w' s => (s.selectT 8 [0, 1, 2, 5, 6, 7] (by decide) rfl rfl)) (fun _ s => s.drew) ?_
    refine TQ 1 (by kernel_rfl) rfl (ov_fieldAddr underlying25 rfl rfl rfl sizeOf23 rfl rfl) (TQ 2 (by kernel_rfl) rfl (ov_load_box (i := 0) isAgg23 rfl rfl rfl rfl) (TQ 4 (by kernel_rfl) rfl (ov_fieldAddr underlying25 rfl rfl rfl sizeOf3 rfl rfl) (TQ 5 (by kernel_rfl) rfl (ov_load_box (i := 0) isAgg3 rfl rfl rfl rfl) ?_)))
    refine AL.any (rs := [0, 3]) (by kernel_rfl) (by decide) ?_
    refine ALs.cons (i := 0) rfl (Runs.free rfl) rfl rfl ?_ ?_
    ·
     refine OQ.step (OV.quiet (ov_load_box (i := 4) isAgg42 rfl rfl rfl rfl)) ?_
     refine ⟨fun w' s => (s.selectT 8 [0, 1, 2, 5, 6, 7] (by decide) rfl rfl), ?_⟩
     refine AL.any (rs := [3]) (by kernel_rfl) (by decide) ?_
     refine ALs.cons (i := 3) rfl (Runs.free rfl) rfl rfl ?_ ?_
     ·
      obtain ⟨l4, e3, hm⟩ := bind_some hm
      refine os_cloneS rfl rfl h8 hc6 e3 (fun ao8 cap8 xs2 rl3 => ?_)
      refine ⟨fun w' s => (s.selectT 9 [1, 2, 3, 6, 7, 8] (by decide) rfl rfl), ?_⟩
      refine TQ 6 (by kernel_rfl) rfl (ov_build (r := (.agg #[(.slice ao8 xx1.strokes.length cap8), (.int .i64 xx1.wait)])) rfl rfl (fun _ => by kernel_rfl)) ?_
      refine AL.any (rs := [7]) (by kernel_rfl) (by decide) ?_
      refine ALs.cons (i := 7) rfl (Runs.free rfl) rfl rfl ?_ ?_
      ·
       refine OS.held rl3 (fun H4 hc8 hle4 h9 => ?_)
       replace h6 := h6.mono hle4
       replace h8 := h8.mono hle4
       replace rl2 := rl2.mono hle4
       replace h7 := h7.mono hle4
       replace hG := hG.mono hle4
       have rl4 : RL H4 encStep ([xx1] : List Step) [(.slice ao8 xx1.strokes.length cap8), (.int .i64 xx1.wait)] := RL.cons (cs := [(.slice ao8 xx1.strokes.length cap8), (.int .i64 xx1.wait)]) (xs := []) ⟨ao8, cap8, rfl, h9, hc8⟩ (RL.nil _ _)
       refine os_buildSlice (cs := [(.slice ao8 xx1.strokes.length cap8), (.int .i64 xx1.wait)]) (E := 25) (sz := 2) rfl rfl (fun _ => by kernel_rfl) rfl (by decide) (fun b6 => ?_)
       refine ⟨fun w' s => ((s.selectT 9 [1, 2, 3, 6, 7, 8] (by decide) rfl rfl).heap hle4), ?_⟩
       refine AL.any (rs := [8]) (by kernel_rfl) (by decide) ?_
       refine ALs.cons (i := 8) rfl (Runs.free rfl) rfl rfl ?_ ?_
       ·
        obtain ⟨l5, e4, hm⟩ := bind_some hm
        refine os_app (i := 4) (j := 0) (En := encStep) (xs := xs1) (ys := [(.slice ao8 xx1.strokes.length cap8), (.int .i64 xx1.wait)]) underlying42 (by kernel_rfl : (prog.info? 25).map (fun i => (i.zero, i.size, i.bytes)) = some (some (.agg #[(.slice none 0 0), (.int .i64 0)]), (encStep).size, 32)) rfl (by decide) rfl rfl rfl rfl rfl rfl rl2 rl4 e4 (fun ao9 cap9 rl5 => ?_)
        refine ⟨fun w' s => ((s.selectT 9 [1, 2, 3, 6, 7, 8] (by decide) rfl rfl).heap hle4), ?_⟩
        refine AL.any (rs := [9]) (by kernel_rfl) (by decide) ?_
        refine ALs.cons0 (i := 9) rfl (Runs.free rfl) rfl ?_ ?_
        ·
         refine os_store (i := 5) (vs := [(.slice ao9 (q1.1 ++ ([xx1] : List Step)).length cap9)]) (cs' := [(.slice ao9 (q1.1 ++ ([xx1] : List Step)).length cap9)]) sizeOf42 rfl rfl rfl rfl rfl rfl rfl rfl rfl ?_
         refine ⟨fun w' s => ((s.selectT 9 [1, 2, 3, 6, 7, 8] (by decide) rfl rfl).heap hle4), ?_⟩
         refine AL.done (by kernel_rfl) ?_
         refine bn ?_
         refine round_normal (i := 2) rfl ?_
         obtain ⟨rfl, rfl⟩ := Prod.mk.inj (Option.some.inj hm)
         exact ⟨rfl, H4, [.obj l1 (R1 .ready none), .obj D1 (.deferred (some [])), .row 25 (encStep).size (q1.1 ++ ([xx1] : List Step)).length (.slice ao9 (q1.1 ++ ([xx1] : List Step)).length cap9) (xs1 ++ [(.slice ao8 xx1.strokes.length cap8), (.int .i64 xx1.wait)]), .blk b4 42 [(.slice ao9 (q1.1 ++ ([xx1] : List Step)).length cap9)], .blk b3 29 [(.int .i64 q1.2.1)], .blk b2 42 [(.slice ao6 q1.2.2.length cap6)], .blk b1 28 [(.int .i64 p_n.kind), (.slice ao1 p_n.step.strokes.length cap1), (.int .i64 p_n.step.wait), (.int .i64 p_n.count), (mkS p_n.name), (.slice ao2 p_n.nodes.length cap2)]], hle4, condT ⟨ao9, cap9, (xs1 ++ [(.slice ao8 xx1.strokes.length cap8), (.int .i64 xx1.wait)]), ao6, cap6, (hle3.trans hle4), rl5, h7, hc5, rfl⟩, fun w' s => (s.selectT 9 [2, 3, 4, 5, 6, 7, 8] (by decide) rfl rfl)⟩
        exact ALs.nil
       exact ALs.nil
      exact ALs.nil
     exact ALs.nil
    refine ALs.cons (i := 3) rfl (Runs.free rfl) rfl rfl ?_ ?_
    ·
     obtain ⟨l4, e3, hm⟩ := bind_some hm
     refine os_cloneS rfl rfl h8 hc6 e3 (fun ao8 cap8 xs2 rl3 => ?_)
     refine ⟨fun w' s => (s.selectT 9 [1, 2, 3, 6, 7, 8] (by decide) rfl rfl), ?_⟩
     refine TQ 6 (by kernel_rfl) rfl (ov_build (r := (.agg #[(.slice ao8 xx1.strokes.length cap8), (.int .i64 xx1.wait)])) rfl rfl (fun _ => by kernel_rfl)) ?_
     refine AL.any (rs := [0, 7]) (by kernel_rfl) (by decide) ?_
     refine ALs.cons (i := 0) rfl (Runs.free rfl) rfl rfl ?_ ?_
     ·
      refine OQ.step (OV.quiet (ov_load_box (i := 5) isAgg42 rfl rfl rfl rfl)) ?_
      refine ⟨fun w' s => (s.selectT 9 [1, 2, 3, 6, 7, 8] (by decide) rfl rfl), ?_⟩
      refine AL.any (rs := [7]) (by kernel_rfl) (by decide) ?_
      refine ALs.cons (i := 7) rfl (Runs.free rfl) rfl rfl ?_ ?_
      ·
       refine OS.held rl3 (fun H4 hc8 hle4 h9 => ?_)
       replace h6 := h6.mono hle4
       replace rl2 := rl2.mono hle4
       replace h7 := h7.mono hle4
       replace hG := hG.mono hle4
       have rl4 : RL H4 encStep ([xx1] : List Step) [(.slice ao8 xx1.strokes.length cap8), (.int .i64 xx1.wait)] := RL.cons (cs := [(.slice ao8 xx1.strokes.length cap8), (.int .i64 xx1.wait)]) (xs := []) ⟨ao8, cap8, rfl, h9, hc8⟩ (RL.nil _ _)
       refine os_buildSlice (cs := [(.slice ao8 xx1.strokes.length cap8), (.int .i64 xx1.wait)]) (E := 25) (sz := 2) rfl rfl (fun _ => by kernel_rfl) rfl (by decide) (fun b6 => ?_)
       refine ⟨fun w' s => ((s.selectT 9 [1, 2, 3, 6, 7, 8] (by decide) rfl rfl).heap hle4), ?_⟩
       refine AL.any (rs := [8]) (by kernel_rfl) (by decide) ?_
       refine ALs.cons (i := 8) rfl (Runs.free rfl) rfl rfl ?_ ?_
       ·
        obtain ⟨l5, e4, hm⟩ := bind_some hm
        refine os_app (i := 4) (j := 0) (En := encStep) (xs := xs1) (ys := [(.slice ao8 xx1.strokes.length cap8), (.int .i64 xx1.wait)]) underlying42 (by kernel_rfl : (prog.info? 25).map (fun i => (i.zero, i.size, i.bytes)) = some (some (.agg #[(.slice none 0 0), (.int .i64 0)]), (encStep).size, 32)) rfl (by decide) rfl rfl rfl rfl rfl rfl rl2 rl4 e4 (fun ao9 cap9 rl5 => ?_)
        refine ⟨fun w' s => ((s.selectT 9 [1, 2, 3, 6, 7, 8] (by decide) rfl rfl).heap hle4), ?_⟩
        refine AL.any (rs := [9]) (by kernel_rfl) (by decide) ?_
        refine ALs.cons0 (i := 9) rfl (Runs.free rfl) rfl ?_ ?_
        ·
         refine os_store (i := 5) (vs := [(.slice ao9 (q1.1 ++ ([xx1] : List Step)).length cap9)]) (cs' := [(.slice ao9 (q1.1 ++ ([xx1] : List Step)).length cap9)]) sizeOf42 rfl rfl rfl rfl rfl rfl rfl rfl rfl ?_
         refine ⟨fun w' s => ((s.selectT 9 [1, 2, 3, 6, 7, 8] (by decide) rfl rfl).heap hle4), ?_⟩
         refine AL.done (by kernel_rfl) ?_
         refine bn ?_
         refine round_normal (i := 2) rfl ?_
         obtain ⟨rfl, rfl⟩ := Prod.mk.inj (Option.some.inj hm)
         exact ⟨rfl, H4, [.obj l1 (R1 .ready none), .obj D1 (.deferred (some [])), .row 25 (encStep).size (q1.1 ++ ([xx1] : List Step)).length (.slice ao9 (q1.1 ++ ([xx1] : List Step)).length cap9) (xs1 ++ [(.slice ao8 xx1.strokes.length cap8), (.int .i64 xx1.wait)]), .blk b4 42 [(.slice ao9 (q1.1 ++ ([xx1] : List Step)).length cap9)], .blk b3 29 [(.int .i64 q1.2.1)], .blk b2 42 [(.slice ao6 q1.2.2.length cap6)], .blk b1 28 [(.int .i64 p_n.kind), (.slice ao1 p_n.step.strokes.length cap1), (.int .i64 p_n.step.wait), (.int .i64 p_n.count), (mkS p_n.name), (.slice ao2 p_n.nodes.length cap2)]], hle4, condT ⟨ao9, cap9, (xs1 ++ [(.slice ao8 xx1.strokes.length cap8), (.int .i64 xx1.wait)]), ao6, cap6, (hle3.trans hle4), rl5, h7, hc5, rfl⟩, fun w' s => (s.selectT 9 [2, 3, 4, 5, 6, 7, 8] (by decide) rfl rfl)⟩
        exact ALs.nil
       exact ALs.nil
      exact ALs.nil
     refine ALs.cons (i := 7) rfl (Runs.free rfl) rfl rfl ?_ ?_
     ·
      refine OS.held rl3 (fun H4 hc8 hle4 h9 => ?_)
      replace h6 := h6.mono hle4
      replace rl2 := rl2.mono hle4
      replace h7 := h7.mono hle4
      replace hG := hG.mono hle4
      have rl4 : RL H4 encStep ([xx1] : List Step) [(.slice ao8 xx1.strokes.length cap8), (.int .i64 xx1.wait)] := RL.cons (cs := [(.slice ao8 xx1.strokes.length cap8), (.int .i64 xx1.wait)]) (xs := []) ⟨ao8, cap8, rfl, h9, hc8⟩ (RL.nil _ _)
      refine os_buildSlice (cs := [(.slice ao8 xx1.strokes.length cap8), (.int .i64 xx1.wait)]) (E := 25) (sz := 2) rfl rfl (fun _ => by kernel_rfl) rfl (by decide) (fun b6 => ?_)
      refine ⟨fun w' s => ((s.selectT 9 [1, 2, 3, 6, 7, 8] (by decide) rfl rfl).heap hle4), ?_⟩
      refine AL.any (rs := [0]) (by kernel_rfl) (by decide) ?_
      refine ALs.cons (i := 0) rfl (Runs.free rfl) rfl rfl ?_ ?_
      ·
       refine OQ.step (OV.quiet (ov_load_box (i := 5) isAgg42 rfl rfl rfl rfl)) ?_
       refine ⟨fun w' s => ((s.selectT 9 [1, 2, 3, 6, 7, 8] (by decide) rfl rfl).heap hle4), ?_⟩
       refine AL.any (rs := [8]) (by kernel_rfl) (by decide) ?_
       refine ALs.cons (i := 8) rfl (Runs.free rfl) rfl rfl ?_ ?_
       ·
        obtain ⟨l5, e4, hm⟩ := bind_some hm
        refine os_app (i := 4) (j := 0) (En := encStep) (xs := xs1) (ys := [(.slice ao8 xx1.strokes.length cap8), (.int .i64 xx1.wait)]) underlying42 (by kernel_rfl : (prog.info? 25).map (fun i => (i.zero, i.size, i.bytes)) = some (some (.agg #[(.slice none 0 0), (.int .i64 0)]), (encStep).size, 32)) rfl (by decide) rfl rfl rfl rfl rfl rfl rl2 rl4 e4 (fun ao9 cap9 rl5 => ?_)
        refine ⟨fun w' s => ((s.selectT 9 [1, 2, 3, 6, 7, 8] (by decide) rfl rfl).heap hle4), ?_⟩
        refine AL.any (rs := [9]) (by kernel_rfl) (by decide) ?_
        refine ALs.cons0 (i := 9) rfl (Runs.free rfl) rfl ?_ ?_
        ·
         refine os_store (i := 5) (vs := [(.slice ao9 (q1.1 ++ ([xx1] : List Step)).length cap9)]) (cs' := [(.slice ao9 (q1.1 ++ ([xx1] : List Step)).length cap9)]) sizeOf42 rfl rfl rfl rfl rfl rfl rfl rfl rfl ?_
         refine ⟨fun w' s => ((s.selectT 9 [1, 2, 3, 6, 7, 8] (by decide) rfl rfl).heap hle4), ?_⟩
         refine AL.done (by kernel_rfl) ?_
         refine bn ?_
         refine round_normal (i := 2) rfl ?_
         obtain ⟨rfl, rfl⟩ := Prod.mk.inj (Option.some.inj hm)
         exact ⟨rfl, H4, [.obj l1 (R1 .ready none), .obj D1 (.deferred (some [])), .row 25 (encStep).size (q1.1 ++ ([xx1] : List Step)).length (.slice ao9 (q1.1 ++ ([xx1] : List Step)).length cap9) (xs1 ++ [(.slice ao8 xx1.strokes.length cap8), (.int .i64 xx1.wait)]), .blk b4 42 [(.slice ao9 (q1.1 ++ ([xx1] : List Step)).length cap9)], .blk b3 29 [(.int .i64 q1.2.1)], .blk b2 42 [(.slice ao6 q1.2.2.length cap6)], .blk b1 28 [(.int .i64 p_n.kind), (.slice ao1 p_n.step.strokes.length cap1), (.int .i64 p_n.step.wait), (.int .i64 p_n.count), (mkS p_n.name), (.slice ao2 p_n.nodes.length cap2)]], hle4, condT ⟨ao9, cap9, (xs1 ++ [(.slice ao8 xx1.strokes.length cap8), (.int .i64 xx1.wait)]), ao6, cap6, (hle3.trans hle4), rl5, h7, hc5, rfl⟩, fun w' s => (s.selectT 9 [2, 3, 4, 5, 6, 7, 8] (by decide) rfl rfl)⟩
        exact ALs.nil
       exact ALs.nil
      exact ALs.nil
     exact ALs.nil
    exact ALs.nil
 have hT1 : TH hY1 (([] : List Step), 0, []) H2 [.obj l1 (R1 .ready none), .obj D1 (.deferred (some [])), .row 25 (encStep).size ([] : List Step).length (.slice none ([] : List Step).length 0) [], .blk b4 42 [(.slice none ([] : List Step).length 0)], .blk b3 29 [(.int .i64 0)], .blk b2 42 [(.slice none 0 0)], .blk b1 28 [(.int .i64 p_n.kind), (.slice ao1 p_n.step.strokes.length cap1), (.int .i64 p_n.step.wait), (.int .i64 p_n.count), (mkS p_n.name), (.slice ao2 p_n.nodes.length cap2)]] := ⟨none, 0, [], none, 0, Le.refl _, rl1, (SL.nil _ _ _), (Nat.le_refl _), rfl⟩
 refine VCalls.mono ((iterRun_con (program_unfolded_rng1) hY1 600 r2 p_on (([] : List Step), 0, []) v1 H2 h6 hG [.obj l1 (R1 .ready none), .obj D1 (.deferred (some [])), .row 25 (encStep).size ([] : List Step).length (.slice none ([] : List Step).length 0) [], .blk b4 42 [(.slice none ([] : List Step).length 0)], .blk b3 29 [(.int .i64 0)], .blk b2 42 [(.slice none 0 0)], .blk b1 28 [(.int .i64 p_n.kind), (.slice ao1 p_n.step.strokes.length cap1), (.int .i64 p_n.step.wait), (.int .i64 p_n.count), (mkS p_n.name), (.slice ao2 p_n.nodes.length cap2)]] hT1 r3 e5) [] w2 hs2) ?_
 rintro e w3 ⟨rv1, H5, ms1, rfl, hle5, ⟨tl1, rfl, hT2⟩, hs3⟩
 refine ⟨_, rfl, ?_⟩
 rcases Bool.eq_false_or_eq_true r3.1 with hc9 | hc9
 ·
  replace hm := ite_t hc9 hm
  obtain ⟨ao10, cap10, xs3, ao11, cap11, hle6, rl6, h10, hc10, rfl⟩ := cond_t hc9 hT2
  refine ⟨St w H [.obj l1 (R1 .ready none), .obj D1 (.deferred (some [])), .row 25 (encStep).size r3.2.1.length (.slice ao10 r3.2.1.length cap10) xs3, .blk b4 42 [(.slice ao10 r3.2.1.length cap10)], .blk b3 29 [(.int .i64 r3.2.2.1)], .blk b2 42 [(.slice ao11 r3.2.2.2.length cap11)], .blk b1 28 [(.int .i64 p_n.kind), (.slice ao1 p_n.step.strokes.length cap1), (.int .i64 p_n.step.wait), (.int .i64 p_n.count), (mkS p_n.name), (.slice ao2 p_n.nodes.length cap2)]] H5, ?_, hs3⟩
  refine after_normal ?_
  refine bn (tn (WP.seq (WP.region (Vl 2 isAgg42 rfl ?_))))
  refine ws0 rfl (os_store (i := 4) (vs := [(.slice ao10 r3.2.1.length cap10)]) (cs' := [(.slice ao10 r3.2.1.length cap10)]) sizeOf42 rfl rfl rfl rfl rfl rfl rfl rfl rfl ?_)
  refine ws0 rfl (os_store (i := 3) (vs := [(.int .i64 0)]) (cs' := [(.int .i64 0)]) sizeOf29 rfl rfl rfl rfl rfl rfl rfl rfl rfl ?_)
  refine WL.nil (tn (WP.ret ?_))
  obtain rfl := Option.some.inj hm
  refine retQ_retM (i := 0) rfl results55 (Res.cell rfl (box_load (i := 3) isAgg42 rfl) (Res.cell rfl (box_load (i := 2) isAgg29 rfl) Res.nil)) rfl (fun w' s => ⟨s.below, ?_⟩)
  obtain ⟨h11, hc11⟩ := s.ret_row (i := 0) rfl rl6
  exact ⟨ao10, cap10, rfl, h11, hc11⟩
 replace hm := ite_f hc9 hm
 obtain ⟨ao12, cap12, xs4, ao13, cap13, hle7, rl7, h12, hc12, rfl⟩ := cond_f hc9 hT2
 refine ⟨St w H [.obj l1 (R1 .done (some .ret)), .obj D1 (.deferred (some [])), .row 25 (encStep).size r3.2.1.length (.slice ao12 r3.2.1.length cap12) xs4, .blk b4 42 [(.slice ao12 r3.2.1.length cap12)], .blk b3 29 [(.int .i64 r3.2.2.1)], .blk b2 42 [(.slice ao13 r3.2.2.2.length cap13)], .blk b1 28 [(.int .i64 p_n.kind), (.slice ao1 p_n.step.strokes.length cap1), (.int .i64 p_n.step.wait), (.int .i64 p_n.count), (mkS p_n.name), (.slice ao2 p_n.nodes.length cap2)]] H5, ?_, hs3⟩
 refine after_ret ?_
 refine block_ret (then_ret ?_)
 obtain rfl := Option.some.inj hm
 refine retQ_retM (i := 0) rfl results55 (Res.cell rfl (box_load (i := 3) isAgg42 rfl) (Res.cell rfl (box_load (i := 2) isAgg29 rfl) Res.nil)) rfl (fun w' s => ⟨s.below, ?_⟩)
 exact ⟨ao13, cap13, rfl, h12.mono s.le_newer, hc12⟩
theorem program_Unfold_con (p_n : Node) (p_on : (List (List UInt8))) (ao1 : Option Addr) (cap1 : Nat) (ao2 : Option Addr) (cap2 : Nat) (ao3 : Option Addr) (cap3 : Nat) (w : World) (H : Heap) (hH : Le H (hp w)) (h1 : SL H encStroke ao1 p_n.step.strokes) (hc1 : p_n.step.strokes.length ≤ cap1) (h2 : SL H encNode ao2 p_n.nodes) (hc2 : p_n.nodes.length ≤ cap2) (h3 : SL H encStr ao3 p_on) (hc3 : p_on.length ≤ cap3) (hG : Glob H) (r : ((List Step) × Int)) (hm : program_Unfold p_n p_on = some r) :
  Con prog 18 [(.agg #[(.int .i64 p_n.kind), (.slice ao1 p_n.step.strokes.length cap1), (.int .i64 p_n.step.wait), (.int .i64 p_n.count), (mkS p_n.name), (.slice ao2 p_n.nodes.length cap2)]), (.slice ao3 p_on.length cap3)] w H (fun v H' => ∃ (ao4 : Option Addr) (cap4 : Nat), v = (.tuple #[(.slice ao4 r.1.length cap4), (.int .i64 r.2)]) ∧ SL H' encStep ao4 r.1 ∧ r.1.length ≤ cap4) := by
 unfold program_Unfold at hm
 refine con_of hH func18 rfl 17 ntmps18 rfl ?_
 refine WP.seq (WP.region ?_)
 refine ws rfl (os_box (cs := [(.int .i64 p_n.kind), (.slice ao1 p_n.step.strokes.length cap1), (.int .i64 p_n.step.wait), (.int .i64 p_n.count), (mkS p_n.name), (.slice ao2 p_n.nodes.length cap2)]) rfl rfl rfl (fun b1 => ?_))
 refine Va rfl (Va rfl (WL.nil (tn (WP.seq (WP.seq (WP.region (V rfl (ov_load_whole (i := 0) isAgg28 sizeOf28 rfl rfl rfl rfl) ?_)))))))
 obtain ⟨r1, e1, hm⟩ := bind_some hm
 refine wo rfl (oq_con (r := (.int .i64 r1)) call31 rfl rfl (fun w' s => ⟨_, (program_Check_con p_n ao1 cap1 ao2 cap2  w' H s.hold h1 hc1 h2 hc2 hG r1 e1)⟩)) ?_
 refine Va rfl (WL.nil (tn (WP.seq (WP.region (Vm rfl (V rfl (ov_neq rfl rfl rfl) (WL.nil (tn ?_))))))))
 refine WP.cond rfl (fun hc5 => ?_) (fun hc5 => ?_)
 ·
  replace hm := ite_t hc5 hm
  refine WP.seq (WP.region (Vm rfl (Va rfl (Va rfl (WL.nil (tn (WP.ret (then_ret ?_))))))))
  obtain rfl := Option.some.inj hm
  refine retQ_ret results18 (Res.tmp rfl (Res.tmp rfl Res.nil)) rfl (fun w' s => ⟨s.below, ?_⟩)
  exact ⟨none, 0, rfl, SL.nil _ _ _, Nat.le_refl _⟩
 replace hm := ite_f hc5 hm
 refine WP.skip (tn (WP.seq (WP.region (V rfl (ov_load_whole (i := 0) isAgg28 sizeOf28 rfl rfl rfl rfl) (Vm rfl ?_)))))
 obtain ⟨r2, e2, hm⟩ := bind_some hm
 refine ws rfl (os_con call55 rfl rfl (fun w' s => (program_unfolded_con p_n p_on ao1 cap1 ao2 cap2 ao3 cap3  w' H s.hold h1 hc1 h2 hc2 h3 hc3 hG r2 e2)) (fun rr1 H1 hle1 hR1 => ?_))
 obtain ⟨ao5, cap5, rfl, h5, hc6⟩ := hR1
 refine Ve rfl (Ve rfl (Va rfl (Va rfl (WL.nil (tn (WP.ret ?_))))))
 obtain rfl := Option.some.inj hm
 refine retQ_ret results18 (Res.tmp rfl (Res.tmp rfl Res.nil)) rfl (fun w' s => ⟨s.below, ?_⟩)
 exact ⟨ao5, cap5, rfl, h5.mono s.le_newer, hc6⟩
theorem sequence_fits_con (p_s : Sequence) (p_step : Step) (p_x : Ends6) (ao1 : Option Addr) (cap1 : Nat) (ao2 : Option Addr) (cap2 : Nat) (w : World) (H : Heap) (hH : Le H (hp w)) (h1 : SL H encStep ao1 p_s.steps) (hc1 : p_s.steps.length ≤ cap1) (h2 : SL H encStroke ao2 p_step.strokes) (hc2 : p_step.strokes.length ≤ cap2) (hG : Glob H) (r : Int) (hm : sequence_fits p_s p_step p_x = some r) :
  Con prog 62 [(.agg #[(.int .i64 p_s.actuators), (.slice ao1 p_s.steps.length cap1)]), (.agg #[(.slice ao2 p_step.strokes.length cap2), (.int .i64 p_step.wait)]), (.agg #[(.bool p_x.a0), (.bool p_x.a1), (.bool p_x.a2), (.bool p_x.a3), (.bool p_x.a4), (.bool p_x.a5)])] w H (fun v _ => v = (.int .i64 r)) := by
 unfold sequence_fits at hm
 refine con_of hH func62 rfl 45 ntmps62 rfl ?_
 refine WP.seq (WP.region ?_)
 refine ws rfl (os_box (cs := [(.int .i64 p_s.actuators), (.slice ao1 p_s.steps.length cap1)]) rfl rfl rfl (fun b1 => ?_))
 refine ws rfl (os_box (cs := [(.slice ao2 p_step.strokes.length cap2), (.int .i64 p_step.wait)]) rfl rfl rfl (fun b2 => ?_))
 refine ws rfl (os_box (cs := [(.bool p_x.a0), (.bool p_x.a1), (.bool p_x.a2), (.bool p_x.a3), (.bool p_x.a4), (.bool p_x.a5)]) rfl rfl rfl (fun b3 => ?_))
 refine Va rfl (WL.nil (tn (WP.seq (WP.seq (WP.region (V rfl (ov_load_whole (i := 1) isAgg25 sizeOf25 rfl rfl rfl rfl) ?_))))))
 obtain ⟨r1, e1, hm⟩ := bind_some hm
 refine wo rfl (oq_con (r := (.int .i64 r1)) call102 rfl rfl (fun w' s => ⟨_, (stroke_CheckStep_con p_step ao2 cap2  w' H s.hold h2 hc2 hG r1 e1)⟩)) ?_
 refine Va rfl (WL.nil (tn (WP.seq (WP.region (Vm rfl (V rfl (ov_neq rfl rfl rfl) (WL.nil (tn ?_))))))))
 refine WP.cond rfl (fun hc3 => ?_) (fun hc3 => ?_)
 ·
  replace hm := ite_t hc3 hm
  refine WP.seq (WP.region (Vm rfl (Va rfl (WL.nil (tn (WP.ret (then_ret ?_)))))))
  obtain rfl := Option.some.inj hm
  refine retQ_ret results62 (Res.tmp rfl Res.nil) rfl (fun w' s => ⟨s.below, ?_⟩)
  exact rfl
 replace hm := ite_f hc3 hm
 refine WP.skip (tn ?_)
 obtain ⟨k1, hk1, hm⟩ := joinK_some hm
 refine WP.seq_join (fun g' S' => Sub [(4, (pB b2 0)), (5, (pB b3 0)), (1000000007, (.bool false))] g' ∧ (∀ w', S' w' → St w H [.blk b3 108 [(.bool p_x.a0), (.bool p_x.a1), (.bool p_x.a2), (.bool p_x.a3), (.bool p_x.a4), (.bool p_x.a5)], .blk b2 25 [(.slice ao2 p_step.strokes.length cap2), (.int .i64 p_step.wait)]] H w') ∧ k1 = some r) ?_ ?_
 ·
  refine WP.seq (WP.region (V rfl (ov_fieldAddr underlying25 rfl rfl rfl sizeOf23 rfl rfl) (Vl 1 isAgg23 rfl (V rfl (ov_len_slice underlying23 rfl rfl) (Vm rfl (WL.nil (tn (WP.block ?_))))))))
  refine WP.loop (fun m1 g' S' => ∃ (i1 : Int), Sub [(3, (pB b1 0)), (4, (pB b2 0)), (5, (pB b3 0)), (18, (.slice ao2 p_step.strokes.length cap2)), (19, (.int .i64 (p_step.strokes.length : Int))), (20, (.int .i64 i1)), (1000000007, (.bool false))] g' ∧ (∀ w', S' w' → St w H [.blk b3 108 [(.bool p_x.a0), (.bool p_x.a1), (.bool p_x.a2), (.bool p_x.a3), (.bool p_x.a4), (.bool p_x.a5)], .blk b2 25 [(.slice ao2 p_step.strokes.length cap2), (.int .i64 p_step.wait)], .blk b1 48 [(.int .i64 p_s.actuators), (.slice ao1 p_s.steps.length cap1)]] H w') ∧ sequence_fits_loop1 p_s p_step k1 m1 i1 = some r) ((Int.toNat ((p_step.strokes.length : Int) - 0) + 1)) ⟨0, (Sub.all rfl), fun w' s => s, hm⟩ ?_ ?_
  ·
   rintro g' S' ⟨_, _, _, hm⟩
   exact none_some hm
  rintro m1 g' S' ⟨i1, hsub1, hS1, hm⟩
  refine WP.sub hsub1 (WP.weaken hS1 ?_)
  rw [sequence_fits_loop1] at hm
  refine WP.seq (WP.region (V rfl (ov_lss rfl rfl rfl) (WL.nil (tn (WP.seq ?_)))))
  refine WP.cond rfl (fun hc4 => ?_) (fun hc4 => ?_)
  ·
   replace hm := ite_t hc4 hm
   refine WP.skip (tn (WP.seq (WP.block (WP.seq (WP.region ?_)))))
   obtain ⟨x1, e2, hm⟩ := bind_some hm
   obtain ⟨h3, h4, h5, cs1, h6, h7⟩ := h2.get e2 (by decide)
   obtain rfl : cs1 = [(.int .i64 x1.actuator), (.bool x1.out)] := h6
   refine V rfl (ov_indexAddr underlying23 sizeOf112 rfl rfl rfl h3 h4 h5) (V rfl (ov_load_elems (vs := [(.int .i64 x1.actuator), (.bool x1.out)]) isAgg112 sizeOf112 rfl rfl rfl h7 h5) ?_)
   refine ws rfl (os_alloc (cs := [(.int .i64 0), (.bool false)]) zeroValue112 rfl rfl (fun b4 => ?_))
   refine ws0 rfl (os_store (i := 0) (vs := [(.int .i64 x1.actuator), (.bool x1.out)]) (cs' := [(.int .i64 x1.actuator), (.bool x1.out)]) sizeOf112 rfl rfl rfl rfl rfl rfl rfl rfl rfl ?_)
   refine WL.nil (tn (WP.seq (WP.region (V rfl (ov_fieldAddr underlying112 rfl rfl rfl sizeOf3 rfl rfl) (Vl 0 isAgg3 rfl (V rfl (ov_fieldAddr underlying48 rfl rfl rfl sizeOf3 rfl rfl) (Vl 3 isAgg3 rfl (V rfl (ov_geq rfl rfl rfl) (WL.nil (tn ?_))))))))))
   refine WP.cond rfl (fun hc5 => ?_) (fun hc5 => ?_)
   ·
    replace hm := ite_t hc5 hm
    refine WP.seq (WP.region (Va rfl (WL.nil (tn (WP.ret (block_ret (then_ret (then_ret (block_ret (then_ret ?_))))))))))
    obtain rfl := Option.some.inj hm
    refine retQ_ret results62 (Res.tmp rfl Res.nil) rfl (fun w' s => ⟨s.below, ?_⟩)
    exact rfl
   replace hm := ite_f hc5 hm
   refine WP.skip (bn (tn (WP.region (V rfl (ov_add rfl rfl rfl) (Vm rfl (WL.nil (tn ?_)))))))
   exact ⟨(IntKind.wrap .i64 (i1 + 1)), (Sub.all rfl), fun w' s => (s.select [1, 2, 3] (by decide) rfl), hm⟩
  replace hm := ite_f hc4 hm
  refine WP.exit (then_exit (then_exit (block_here (tn ?_))))
  exact ⟨(Sub.all rfl), fun w' s => (s.select [0, 1] (by decide) rfl), hm⟩
 rintro g' S' ⟨hsub2, hS2, hm⟩
 refine WP.sub hsub2 (WP.weaken hS2 ?_)
 replace hm := hk1.symm.trans hm
 obtain ⟨k2, hk2, hm⟩ := joinK_some hm
 refine WP.seq_join (fun g' S' => Sub [(1000000007, (.bool false))] g' ∧ (∀ w', S' w' → St w H [] H w') ∧ k2 = some r) ?_ ?_
 ·
  refine WP.seq (WP.region (V rfl (ov_fieldAddr underlying25 rfl rfl rfl sizeOf23 rfl rfl) (Vl 1 isAgg23 rfl (V rfl (ov_len_slice underlying23 rfl rfl) (Vm rfl (WL.nil (tn (WP.block ?_))))))))
  refine WP.loop (fun m2 g' S' => ∃ (i2 : Int), Sub [(5, (pB b3 0)), (31, (.slice ao2 p_step.strokes.length cap2)), (32, (.int .i64 (p_step.strokes.length : Int))), (33, (.int .i64 i2)), (1000000007, (.bool false))] g' ∧ (∀ w', S' w' → St w H [.blk b3 108 [(.bool p_x.a0), (.bool p_x.a1), (.bool p_x.a2), (.bool p_x.a3), (.bool p_x.a4), (.bool p_x.a5)]] H w') ∧ sequence_fits_loop2 p_step p_x k2 m2 i2 = some r) ((Int.toNat ((p_step.strokes.length : Int) - 0) + 1)) ⟨0, (Sub.all rfl), fun w' s => (s.select [0] (by decide) rfl), hm⟩ ?_ ?_
  ·
   rintro g' S' ⟨_, _, _, hm⟩
   exact none_some hm
  rintro m2 g' S' ⟨i2, hsub3, hS3, hm⟩
  refine WP.sub hsub3 (WP.weaken hS3 ?_)
  rw [sequence_fits_loop2] at hm
  refine WP.seq (WP.region (V rfl (ov_lss rfl rfl rfl) (WL.nil (tn (WP.seq ?_)))))
  refine WP.cond rfl (fun hc6 => ?_) (fun hc6 => ?_)
  ·
   replace hm := ite_t hc6 hm
   refine WP.skip (tn (WP.seq (WP.block (WP.seq (WP.region ?_)))))
   obtain ⟨x2, e3, hm⟩ := bind_some hm
   obtain ⟨h8, h9, h10, cs2, h11, h12⟩ := h2.get e3 (by decide)
   obtain rfl : cs2 = [(.int .i64 x2.actuator), (.bool x2.out)] := h11
   refine V rfl (ov_indexAddr underlying23 sizeOf112 rfl rfl rfl h8 h9 h10) (V rfl (ov_load_elems (vs := [(.int .i64 x2.actuator), (.bool x2.out)]) isAgg112 sizeOf112 rfl rfl rfl h12 h10) ?_)
   refine ws rfl (os_alloc (cs := [(.int .i64 0), (.bool false)]) zeroValue112 rfl rfl (fun b5 => ?_))
   refine ws0 rfl (os_store (i := 0) (vs := [(.int .i64 x2.actuator), (.bool x2.out)]) (cs' := [(.int .i64 x2.actuator), (.bool x2.out)]) sizeOf112 rfl rfl rfl rfl rfl rfl rfl rfl rfl ?_)
   refine WL.nil (tn ?_)
   obtain ⟨k3, hk3, hm⟩ := joinK_some hm
   refine WP.seq_join (fun g' S' => ∃ (c1 : Bool), Sub [(5, (pB b3 0)), (31, (.slice ao2 p_step.strokes.length cap2)), (32, (.int .i64 (p_step.strokes.length : Int))), (33, (.int .i64 i2)), (43, (.bool c1)), (1000000007, (.bool false))] g' ∧ (∀ w', S' w' → St w H [.blk b3 108 [(.bool p_x.a0), (.bool p_x.a1), (.bool p_x.a2), (.bool p_x.a3), (.bool p_x.a4), (.bool p_x.a5)]] H w') ∧ k3 c1 = some r) ?_ ?_
   ·
    refine WP.region_draws (by kernel_rfl) (by kernel_rfl) (fun _ s => s.drew) ?_
    refine qf rfl (ov_fieldAddr underlying112 rfl rfl rfl sizeOf3 rfl rfl) ?_
    refine qf rfl (ov_load_box (i := 0) isAgg3 rfl rfl rfl rfl) ?_
    rcases Bool.eq_false_or_eq_true (x2.actuator == 0) with hc7 | hc7
    ·
     replace hm := ite_t hc7 hm
     refine qf rfl (ov_indexAddr_at (j := 0) underlying108 sizeOf4 rfl rfl rfl (eq_of_beq hc7) rfl) ?_
     refine qf rfl (ov_load_box (i := 1) isAgg4 rfl rfl rfl rfl) ?_
     refine qf rfl (ov_fieldAddr underlying112 rfl rfl rfl sizeOf4 rfl rfl) ?_
     refine qf rfl (ov_load_box (i := 0) isAgg4 rfl rfl rfl rfl) ?_
     refine qf rfl (ov_beql underlying4 rfl rfl rfl) ?_
     refine QL.nil ?_
     refine tn ?_
     exact ⟨(p_x.a0 == x2.out), (Sub.all rfl), fun w' s => (s.select [1] (by decide) rfl), hm⟩
    replace hm := ite_f hc7 hm
    rcases Bool.eq_false_or_eq_true (x2.actuator == 1) with hc8 | hc8
    ·
     replace hm := ite_t hc8 hm
     refine qf rfl (ov_indexAddr_at (j := 1) underlying108 sizeOf4 rfl rfl rfl (eq_of_beq hc8) rfl) ?_
     refine qf rfl (ov_load_box (i := 1) isAgg4 rfl rfl rfl rfl) ?_
     refine qf rfl (ov_fieldAddr underlying112 rfl rfl rfl sizeOf4 rfl rfl) ?_
     refine qf rfl (ov_load_box (i := 0) isAgg4 rfl rfl rfl rfl) ?_
     refine qf rfl (ov_beql underlying4 rfl rfl rfl) ?_
     refine QL.nil ?_
     refine tn ?_
     exact ⟨(p_x.a1 == x2.out), (Sub.all rfl), fun w' s => (s.select [1] (by decide) rfl), hm⟩
    replace hm := ite_f hc8 hm
    rcases Bool.eq_false_or_eq_true (x2.actuator == 2) with hc9 | hc9
    ·
     replace hm := ite_t hc9 hm
     refine qf rfl (ov_indexAddr_at (j := 2) underlying108 sizeOf4 rfl rfl rfl (eq_of_beq hc9) rfl) ?_
     refine qf rfl (ov_load_box (i := 1) isAgg4 rfl rfl rfl rfl) ?_
     refine qf rfl (ov_fieldAddr underlying112 rfl rfl rfl sizeOf4 rfl rfl) ?_
     refine qf rfl (ov_load_box (i := 0) isAgg4 rfl rfl rfl rfl) ?_
     refine qf rfl (ov_beql underlying4 rfl rfl rfl) ?_
     refine QL.nil ?_
     refine tn ?_
     exact ⟨(p_x.a2 == x2.out), (Sub.all rfl), fun w' s => (s.select [1] (by decide) rfl), hm⟩
    replace hm := ite_f hc9 hm
    rcases Bool.eq_false_or_eq_true (x2.actuator == 3) with hc10 | hc10
    ·
     replace hm := ite_t hc10 hm
     refine qf rfl (ov_indexAddr_at (j := 3) underlying108 sizeOf4 rfl rfl rfl (eq_of_beq hc10) rfl) ?_
     refine qf rfl (ov_load_box (i := 1) isAgg4 rfl rfl rfl rfl) ?_
     refine qf rfl (ov_fieldAddr underlying112 rfl rfl rfl sizeOf4 rfl rfl) ?_
     refine qf rfl (ov_load_box (i := 0) isAgg4 rfl rfl rfl rfl) ?_
     refine qf rfl (ov_beql underlying4 rfl rfl rfl) ?_
     refine QL.nil ?_
     refine tn ?_
     exact ⟨(p_x.a3 == x2.out), (Sub.all rfl), fun w' s => (s.select [1] (by decide) rfl), hm⟩
    replace hm := ite_f hc10 hm
    rcases Bool.eq_false_or_eq_true (x2.actuator == 4) with hc11 | hc11
    ·
     replace hm := ite_t hc11 hm
     refine qf rfl (ov_indexAddr_at (j := 4) underlying108 sizeOf4 rfl rfl rfl (eq_of_beq hc11) rfl) ?_
     refine qf rfl (ov_load_box (i := 1) isAgg4 rfl rfl rfl rfl) ?_
     refine qf rfl (ov_fieldAddr underlying112 rfl rfl rfl sizeOf4 rfl rfl) ?_
     refine qf rfl (ov_load_box (i := 0) isAgg4 rfl rfl rfl rfl) ?_
     refine qf rfl (ov_beql underlying4 rfl rfl rfl) ?_
     refine QL.nil ?_
     refine tn ?_
     exact ⟨(p_x.a4 == x2.out), (Sub.all rfl), fun w' s => (s.select [1] (by decide) rfl), hm⟩
    replace hm := ite_f hc11 hm
    rcases Bool.eq_false_or_eq_true (x2.actuator == 5) with hc12 | hc12
    ·
     replace hm := ite_t hc12 hm
     refine qf rfl (ov_indexAddr_at (j := 5) underlying108 sizeOf4 rfl rfl rfl (eq_of_beq hc12) rfl) ?_
     refine qf rfl (ov_load_box (i := 1) isAgg4 rfl rfl rfl rfl) ?_
     refine qf rfl (ov_fieldAddr underlying112 rfl rfl rfl sizeOf4 rfl rfl) ?_
     refine qf rfl (ov_load_box (i := 0) isAgg4 rfl rfl rfl rfl) ?_
     refine qf rfl (ov_beql underlying4 rfl rfl rfl) ?_
     refine QL.nil ?_
     refine tn ?_
     exact ⟨(p_x.a5 == x2.out), (Sub.all rfl), fun w' s => (s.select [1] (by decide) rfl), hm⟩
    replace hm := ite_f hc12 hm
    exact (none_some hm).elim
   rintro g' S' ⟨c1, hsub4, hS4, hm⟩
   refine WP.sub hsub4 (WP.weaken hS4 ?_)
   replace hm := (congrFun hk3 c1).symm.trans hm
   refine WP.cond rfl (fun hc13 => ?_) (fun hc13 => ?_)
   ·
    replace hm := ite_t hc13 hm
    refine WP.seq (WP.region (Va rfl (WL.nil (tn (WP.ret (block_ret (then_ret (then_ret (block_ret (then_ret ?_))))))))))
    obtain rfl := Option.some.inj hm
    refine retQ_ret results62 (Res.tmp rfl Res.nil) rfl (fun w' s => ⟨s.below, ?_⟩)
    exact rfl
   replace hm := ite_f hc13 hm
   refine WP.skip (bn (tn (WP.region (V rfl (ov_add rfl rfl rfl) (Vm rfl (WL.nil (tn ?_)))))))
   exact ⟨(IntKind.wrap .i64 (i2 + 1)), (Sub.all rfl), fun w' s => s, hm⟩
  replace hm := ite_f hc6 hm
  refine WP.exit (then_exit (then_exit (block_here (tn ?_))))
  exact ⟨(Sub.all rfl), fun w' s => (s.select [] (by decide) rfl), hm⟩
 rintro g' S' ⟨hsub5, hS5, hm⟩
 refine WP.sub hsub5 (WP.weaken hS5 ?_)
 replace hm := hk2.symm.trans hm
 refine WP.seq (WP.region (Va rfl (WL.nil (tn (WP.ret ?_)))))
 obtain rfl := Option.some.inj hm
 refine retQ_ret results62 (Res.tmp rfl Res.nil) rfl (fun w' s => ⟨s.below, ?_⟩)
 exact rfl
theorem sequence_ends_behind_con (p_x : Ends6) (p_s : Step) (ao1 : Option Addr) (cap1 : Nat) (w : World) (H : Heap) (hH : Le H (hp w)) (h1 : SL H encStroke ao1 p_s.strokes) (hc1 : p_s.strokes.length ≤ cap1) (hG : Glob H) (r : Ends6) (hm : sequence_ends_behind p_x p_s = some r) :
  Con prog 63 [(.agg #[(.bool p_x.a0), (.bool p_x.a1), (.bool p_x.a2), (.bool p_x.a3), (.bool p_x.a4), (.bool p_x.a5)]), (.agg #[(.slice ao1 p_s.strokes.length cap1), (.int .i64 p_s.wait)])] w H (fun v _ => v = (.agg #[(.bool r.a0), (.bool r.a1), (.bool r.a2), (.bool r.a3), (.bool r.a4), (.bool r.a5)])) := by
 unfold sequence_ends_behind at hm
 refine con_of hH func63 rfl 21 ntmps63 rfl ?_
 refine WP.seq (WP.region ?_)
 refine ws rfl (os_box (cs := [(.bool p_x.a0), (.bool p_x.a1), (.bool p_x.a2), (.bool p_x.a3), (.bool p_x.a4), (.bool p_x.a5)]) rfl rfl rfl (fun b1 => ?_))
 refine ws rfl (os_box (cs := [(.slice ao1 p_s.strokes.length cap1), (.int .i64 p_s.wait)]) rfl rfl rfl (fun b2 => ?_))
 refine ws rfl (os_alloc (cs := [(.bool false), (.bool false), (.bool false), (.bool false), (.bool false), (.bool false)]) zeroValue108 rfl rfl (fun b3 => ?_))
 refine WL.nil (tn ?_)
 obtain ⟨k1, hk1, hm⟩ := joinK_some hm
 refine WP.seq_join (fun g' S' => ∃ (c7 : Bool) (c8 : Bool) (c9 : Bool) (c10 : Bool) (c11 : Bool) (c12 : Bool), Sub [(2, (pB b1 0)), (4, (pB b3 0)), (1000000007, (.bool false))] g' ∧ (∀ w', S' w' → St w H [.blk b3 108 [(.bool false), (.bool false), (.bool false), (.bool false), (.bool false), (.bool false)], .blk b1 108 [(.bool c7), (.bool c8), (.bool c9), (.bool c10), (.bool c11), (.bool c12)]] H w') ∧ k1 c7 c8 c9 c10 c11 c12 = some r) ?_ ?_
 ·
  refine WP.seq (WP.region (V rfl (ov_fieldAddr underlying25 rfl rfl rfl sizeOf23 rfl rfl) (Vl 1 isAgg23 rfl (V rfl (ov_len_slice underlying23 rfl rfl) (Vm rfl (WL.nil (tn (WP.block ?_))))))))
  refine WP.loop (fun m1 g' S' => ∃ (i1 : Int) (c1 : Bool) (c2 : Bool) (c3 : Bool) (c4 : Bool) (c5 : Bool) (c6 : Bool), Sub [(2, (pB b1 0)), (4, (pB b3 0)), (8, (.slice ao1 p_s.strokes.length cap1)), (9, (.int .i64 (p_s.strokes.length : Int))), (10, (.int .i64 i1)), (1000000007, (.bool false))] g' ∧ (∀ w', S' w' → St w H [.blk b3 108 [(.bool false), (.bool false), (.bool false), (.bool false), (.bool false), (.bool false)], .blk b1 108 [(.bool c1), (.bool c2), (.bool c3), (.bool c4), (.bool c5), (.bool c6)]] H w') ∧ sequence_ends_behind_loop1 p_s k1 m1 i1 c1 c2 c3 c4 c5 c6 = some r) ((Int.toNat ((p_s.strokes.length : Int) - 0) + 1)) ⟨0, p_x.a0, p_x.a1, p_x.a2, p_x.a3, p_x.a4, p_x.a5, (Sub.all rfl), fun w' s => (s.select [0, 2] (by decide) rfl), hm⟩ ?_ ?_
  ·
   rintro g' S' ⟨_, _, _, _, _, _, _, _, _, hm⟩
   exact none_some hm
  rintro m1 g' S' ⟨i1, c1, c2, c3, c4, c5, c6, hsub1, hS1, hm⟩
  refine WP.sub hsub1 (WP.weaken hS1 ?_)
  rw [sequence_ends_behind_loop1] at hm
  refine WP.seq (WP.region (V rfl (ov_lss rfl rfl rfl) (WL.nil (tn (WP.seq ?_)))))
  refine WP.cond rfl (fun hc2 => ?_) (fun hc2 => ?_)
  ·
   replace hm := ite_t hc2 hm
   refine WP.skip (tn (WP.seq (WP.block (WP.seq (WP.region ?_)))))
   obtain ⟨x1, e1, hm⟩ := bind_some hm
   obtain ⟨h2, h3, h4, cs1, h5, h6⟩ := h1.get e1 (by decide)
   obtain rfl : cs1 = [(.int .i64 x1.actuator), (.bool x1.out)] := h5
   refine V rfl (ov_indexAddr underlying23 sizeOf112 rfl rfl rfl h2 h3 h4) (V rfl (ov_load_elems (vs := [(.int .i64 x1.actuator), (.bool x1.out)]) isAgg112 sizeOf112 rfl rfl rfl h6 h4) ?_)
   refine ws rfl (os_alloc (cs := [(.int .i64 0), (.bool false)]) zeroValue112 rfl rfl (fun b4 => ?_))
   refine ws0 rfl (os_store (i := 0) (vs := [(.int .i64 x1.actuator), (.bool x1.out)]) (cs' := [(.int .i64 x1.actuator), (.bool x1.out)]) sizeOf112 rfl rfl rfl rfl rfl rfl rfl rfl rfl ?_)
   refine WL.nil (tn (WP.region (V rfl (ov_fieldAddr underlying112 rfl rfl rfl sizeOf3 rfl rfl) (Vl 0 isAgg3 rfl (V rfl (ov_fieldAddr underlying112 rfl rfl rfl sizeOf4 rfl rfl) (Vl 0 isAgg4 rfl ?_))))))
   rcases Bool.eq_false_or_eq_true (x1.actuator == 0) with hc3 | hc3
   ·
    replace hm := ite_t hc3 hm
    refine V rfl (ov_indexAddr_at (j := 0) underlying108 sizeOf4 rfl rfl rfl (eq_of_beq hc3) rfl) ?_
    refine ws0 rfl (os_store (i := 2) (vs := [(.bool x1.out)]) (cs' := [(.bool x1.out), (.bool c2), (.bool c3), (.bool c4), (.bool c5), (.bool c6)]) sizeOf4 rfl rfl rfl rfl rfl rfl rfl rfl rfl ?_)
    refine WL.nil (bn (tn (WP.region (V rfl (ov_add rfl rfl rfl) (Vm rfl (WL.nil (tn ?_)))))))
    exact ⟨(IntKind.wrap .i64 (i1 + 1)), x1.out, c2, c3, c4, c5, c6, (Sub.all rfl), fun w' s => (s.select [1, 2] (by decide) rfl), hm⟩
   replace hm := ite_f hc3 hm
   rcases Bool.eq_false_or_eq_true (x1.actuator == 1) with hc4 | hc4
   ·
    replace hm := ite_t hc4 hm
    refine V rfl (ov_indexAddr_at (j := 1) underlying108 sizeOf4 rfl rfl rfl (eq_of_beq hc4) rfl) ?_
    refine ws0 rfl (os_store (i := 2) (vs := [(.bool x1.out)]) (cs' := [(.bool c1), (.bool x1.out), (.bool c3), (.bool c4), (.bool c5), (.bool c6)]) sizeOf4 rfl rfl rfl rfl rfl rfl rfl rfl rfl ?_)
    refine WL.nil (bn (tn (WP.region (V rfl (ov_add rfl rfl rfl) (Vm rfl (WL.nil (tn ?_)))))))
    exact ⟨(IntKind.wrap .i64 (i1 + 1)), c1, x1.out, c3, c4, c5, c6, (Sub.all rfl), fun w' s => (s.select [1, 2] (by decide) rfl), hm⟩
   replace hm := ite_f hc4 hm
   rcases Bool.eq_false_or_eq_true (x1.actuator == 2) with hc5 | hc5
   ·
    replace hm := ite_t hc5 hm
    refine V rfl (ov_indexAddr_at (j := 2) underlying108 sizeOf4 rfl rfl rfl (eq_of_beq hc5) rfl) ?_
    refine ws0 rfl (os_store (i := 2) (vs := [(.bool x1.out)]) (cs' := [(.bool c1), (.bool c2), (.bool x1.out), (.bool c4), (.bool c5), (.bool c6)]) sizeOf4 rfl rfl rfl rfl rfl rfl rfl rfl rfl ?_)
    refine WL.nil (bn (tn (WP.region (V rfl (ov_add rfl rfl rfl) (Vm rfl (WL.nil (tn ?_)))))))
    exact ⟨(IntKind.wrap .i64 (i1 + 1)), c1, c2, x1.out, c4, c5, c6, (Sub.all rfl), fun w' s => (s.select [1, 2] (by decide) rfl), hm⟩
   replace hm := ite_f hc5 hm
   rcases Bool.eq_false_or_eq_true (x1.actuator == 3) with hc6 | hc6
   ·
    replace hm := ite_t hc6 hm
    refine V rfl (ov_indexAddr_at (j := 3) underlying108 sizeOf4 rfl rfl rfl (eq_of_beq hc6) rfl) ?_
    refine ws0 rfl (os_store (i := 2) (vs := [(.bool x1.out)]) (cs' := [(.bool c1), (.bool c2), (.bool c3), (.bool x1.out), (.bool c5), (.bool c6)]) sizeOf4 rfl rfl rfl rfl rfl rfl rfl rfl rfl ?_)
    refine WL.nil (bn (tn (WP.region (V rfl (ov_add rfl rfl rfl) (Vm rfl (WL.nil (tn ?_)))))))
    exact ⟨(IntKind.wrap .i64 (i1 + 1)), c1, c2, c3, x1.out, c5, c6, (Sub.all rfl), fun w' s => (s.select [1, 2] (by decide) rfl), hm⟩
   replace hm := ite_f hc6 hm
   rcases Bool.eq_false_or_eq_true (x1.actuator == 4) with hc7 | hc7
   ·
    replace hm := ite_t hc7 hm
    refine V rfl (ov_indexAddr_at (j := 4) underlying108 sizeOf4 rfl rfl rfl (eq_of_beq hc7) rfl) ?_
    refine ws0 rfl (os_store (i := 2) (vs := [(.bool x1.out)]) (cs' := [(.bool c1), (.bool c2), (.bool c3), (.bool c4), (.bool x1.out), (.bool c6)]) sizeOf4 rfl rfl rfl rfl rfl rfl rfl rfl rfl ?_)
    refine WL.nil (bn (tn (WP.region (V rfl (ov_add rfl rfl rfl) (Vm rfl (WL.nil (tn ?_)))))))
    exact ⟨(IntKind.wrap .i64 (i1 + 1)), c1, c2, c3, c4, x1.out, c6, (Sub.all rfl), fun w' s => (s.select [1, 2] (by decide) rfl), hm⟩
   replace hm := ite_f hc7 hm
   rcases Bool.eq_false_or_eq_true (x1.actuator == 5) with hc8 | hc8
   ·
    replace hm := ite_t hc8 hm
    refine V rfl (ov_indexAddr_at (j := 5) underlying108 sizeOf4 rfl rfl rfl (eq_of_beq hc8) rfl) ?_
    refine ws0 rfl (os_store (i := 2) (vs := [(.bool x1.out)]) (cs' := [(.bool c1), (.bool c2), (.bool c3), (.bool c4), (.bool c5), (.bool x1.out)]) sizeOf4 rfl rfl rfl rfl rfl rfl rfl rfl rfl ?_)
    refine WL.nil (bn (tn (WP.region (V rfl (ov_add rfl rfl rfl) (Vm rfl (WL.nil (tn ?_)))))))
    exact ⟨(IntKind.wrap .i64 (i1 + 1)), c1, c2, c3, c4, c5, x1.out, (Sub.all rfl), fun w' s => (s.select [1, 2] (by decide) rfl), hm⟩
   replace hm := ite_f hc8 hm
   exact (none_some hm).elim
  replace hm := ite_f hc2 hm
  refine WP.exit (then_exit (then_exit (block_here (tn ?_))))
  exact ⟨c1, c2, c3, c4, c5, c6, (Sub.all rfl), fun w' s => s, hm⟩
 rintro g' S' ⟨c7, c8, c9, c10, c11, c12, hsub2, hS2, hm⟩
 refine WP.sub hsub2 (WP.weaken hS2 ?_)
 replace hm := (congrFun (congrFun (congrFun (congrFun (congrFun (congrFun hk1 c7) c8) c9) c10) c11) c12).symm.trans hm
 refine WP.seq (WP.region (V rfl (ov_load_whole (i := 1) isAgg108 sizeOf108 rfl rfl rfl rfl) ?_))
 refine ws0 rfl (os_store (i := 0) (vs := [(.bool c7), (.bool c8), (.bool c9), (.bool c10), (.bool c11), (.bool c12)]) (cs' := [(.bool c7), (.bool c8), (.bool c9), (.bool c10), (.bool c11), (.bool c12)]) sizeOf108 rfl rfl rfl rfl rfl rfl rfl rfl rfl ?_)
 refine WL.nil (tn (WP.ret ?_))
 obtain rfl := Option.some.inj hm
 refine retQ_ret results63 (Res.cell rfl (box_loads (i := 0) isAgg108 sizeOf108 rfl rfl) Res.nil) rfl (fun w' s => ⟨s.below, ?_⟩)
 exact rfl
theorem slices_Index_boolbool_con (p_s : (List Bool)) (p_v : Bool) (ao1 : Option Addr) (cap1 : Nat) (w : World) (H : Heap) (hH : Le H (hp w)) (h1 : SL H encBool ao1 p_s) (hc1 : p_s.length ≤ cap1) (hG : Glob H) (r : Int) (hm : slices_Index_boolbool p_s p_v = some r) :
  Con prog 103 [(.slice ao1 p_s.length cap1), (.bool p_v)] w H (fun v _ => v = (.int .i64 r)) := by
 unfold slices_Index_boolbool at hm
 refine con_of hH func103 rfl 19 ntmps103 rfl ?_
 refine WP.seq (WP.region (Va rfl (WL.nil (tn ?_))))
 obtain ⟨k1, hk1, hm⟩ := joinK_some hm
 refine WP.seq_join (fun g' S' => Sub [(1000000007, (.bool false))] g' ∧ (∀ w', S' w' → St w H [] H w') ∧ k1 = some r) ?_ ?_
 ·
  refine WP.seq (WP.region (Vm rfl (V rfl (ov_len_slice underlying114 rfl rfl) (Vm rfl (WL.nil (tn (WP.block ?_)))))))
  refine WP.loop (fun m1 g' S' => ∃ (i1 : Int), Sub [(0, (.slice ao1 p_s.length cap1)), (1, (.bool p_v)), (7, (.int .i64 (p_s.length : Int))), (8, (.int .i64 i1)), (1000000007, (.bool false))] g' ∧ (∀ w', S' w' → St w H [] H w') ∧ slices_Index_boolbool_loop1 p_s p_v k1 m1 i1 = some r) ((Int.toNat ((p_s.length : Int) - 0) + 1)) ⟨0, (Sub.all rfl), fun w' s => s, hm⟩ ?_ ?_
  ·
   rintro g' S' ⟨_, _, _, hm⟩
   exact none_some hm
  rintro m1 g' S' ⟨i1, hsub1, hS1, hm⟩
  refine WP.sub hsub1 (WP.weaken hS1 ?_)
  rw [slices_Index_boolbool_loop1] at hm
  refine WP.seq (WP.region (V rfl (ov_lss rfl rfl rfl) (WL.nil (tn (WP.seq ?_)))))
  refine WP.cond rfl (fun hc2 => ?_) (fun hc2 => ?_)
  ·
   replace hm := ite_t hc2 hm
   refine WP.skip (tn (WP.seq (WP.block (WP.seq (WP.region (Vm rfl (Va rfl (WL.nil (tn (WP.seq (WP.region (Vm rfl (Vm rfl ?_)))))))))))))
   refine Vm rfl ?_
   obtain ⟨x1, e1, hm⟩ := bind_some hm
   obtain ⟨h2, h3, h4, cs1, h5, h6⟩ := h1.get e1 (by decide)
   obtain rfl : cs1 = [(.bool x1)] := h5
   refine V rfl (ov_indexAddr underlying114 sizeOf4 rfl rfl rfl h2 h3 h4) (V rfl (ov_load_elem (v := (.bool x1)) isAgg4 rfl rfl h6) (V rfl (ov_beql underlying4 rfl rfl rfl) (WL.nil (tn ?_))))
   refine WP.cond rfl (fun hc3 => ?_) (fun hc3 => ?_)
   ·
    replace hm := ite_t hc3 hm
    refine WP.seq (WP.region (Vm rfl (Va rfl (WL.nil (tn (WP.ret (block_ret (then_ret (then_ret (block_ret (then_ret ?_)))))))))))
    obtain rfl := Option.some.inj hm
    refine retQ_ret results103 (Res.tmp rfl Res.nil) rfl (fun w' s => ⟨s.below, ?_⟩)
    exact rfl
   replace hm := ite_f hc3 hm
   refine WP.skip (bn (tn (WP.region (V rfl (ov_add rfl rfl rfl) (Vm rfl (WL.nil (tn ?_)))))))
   exact ⟨(IntKind.wrap .i64 (i1 + 1)), (Sub.all rfl), fun w' s => s, hm⟩
  replace hm := ite_f hc2 hm
  refine WP.exit (then_exit (then_exit (block_here (tn ?_))))
  exact ⟨(Sub.all rfl), fun w' s => s, hm⟩
 rintro g' S' ⟨hsub2, hS2, hm⟩
 refine WP.sub hsub2 (WP.weaken hS2 ?_)
 replace hm := hk1.symm.trans hm
 refine WP.seq (WP.region (Va rfl (WL.nil (tn (WP.ret ?_)))))
 obtain rfl := Option.some.inj hm
 refine retQ_ret results103 (Res.tmp rfl Res.nil) rfl (fun w' s => ⟨s.below, ?_⟩)
 exact rfl
theorem slices_Contains_boolbool_con (p_s : (List Bool)) (p_v : Bool) (ao1 : Option Addr) (cap1 : Nat) (w : World) (H : Heap) (hH : Le H (hp w)) (h1 : SL H encBool ao1 p_s) (hc1 : p_s.length ≤ cap1) (hG : Glob H) (r : Bool) (hm : slices_Contains_boolbool p_s p_v = some r) :
  Con prog 64 [(.slice ao1 p_s.length cap1), (.bool p_v)] w H (fun v _ => v = (.bool r)) := by
 unfold slices_Contains_boolbool at hm
 refine con_of hH func64 rfl 9 ntmps64 rfl ?_
 refine WP.seq (WP.region (Va rfl (WL.nil (tn (WP.seq (WP.region (Vm rfl (Vm rfl ?_))))))))
 obtain ⟨r1, e1, hm⟩ := bind_some hm
 refine wo rfl (oq_con (r := (.int .i64 r1)) call103 rfl rfl (fun w' s => ⟨_, (slices_Index_boolbool_con p_s p_v ao1 cap1  w' H s.hold h1 hc1 hG r1 e1)⟩)) ?_
 refine V rfl (ov_geq rfl rfl rfl) (Va rfl (WL.nil (tn (WP.ret ?_))))
 obtain rfl := Option.some.inj hm
 refine retQ_ret results64 (Res.tmp rfl Res.nil) rfl (fun w' s => ⟨s.below, ?_⟩)
 exact rfl
theorem sequence_Check_con (p_s : Sequence) (ao1 : Option Addr) (cap1 : Nat) (w : World) (H : Heap) (hH : Le H (hp w)) (h1 : SL H encStep ao1 p_s.steps) (hc1 : p_s.steps.length ≤ cap1) (hG : Glob H) (r : Int) (hm : sequence_Check p_s = some r) :
  Con prog 26 [(.agg #[(.int .i64 p_s.actuators), (.slice ao1 p_s.steps.length cap1)])] w H (fun v _ => v = (.int .i64 r)) := by
 unfold sequence_Check at hm
 refine con_of hH func26 rfl 65 ntmps26 rfl ?_
 refine WP.seq (WP.region ?_)
 refine ws rfl (os_box (cs := [(.int .i64 p_s.actuators), (.slice ao1 p_s.steps.length cap1)]) rfl rfl rfl (fun b1 => ?_))
 refine Va rfl (WL.nil (tn (WP.seq (WP.block (WP.seq (WP.region (V rfl (ov_fieldAddr underlying48 rfl rfl rfl sizeOf3 rfl rfl) (Vl 0 isAgg3 rfl (V rfl (ov_lss rfl rfl rfl) (Vm rfl ?_))))))))))
 refine WL.cut_bool 4 18 (x := ((decide (p_s.actuators < 1)) || (decide (p_s.actuators > 6)))) ?_ ?_
 ·
  rcases Bool.eq_false_or_eq_true (decide (p_s.actuators < 1)) with hc2 | hc2
  ·
   refine Vi rfl (Idle.no rfl rfl rfl hc2) (Vi rfl (Idle.no rfl rfl rfl hc2) (Vi rfl (Idle.no rfl rfl rfl hc2) (V rfl (ov_pick_true rfl (guard_eq rfl hc2) rfl) ?_)))
   exact WL.nil ⟨Sub.cons' rfl (congrArg Value.bool (orT hc2)) (Sub.dropn 4 rfl), fun _ s => s⟩
  refine wy hc2 rfl (ov_fieldAddr underlying48 rfl rfl rfl sizeOf3 rfl rfl) ?_
  refine wy hc2 rfl (ov_load_box (i := 0) isAgg3 rfl rfl rfl rfl) ?_
  refine wy hc2 rfl (ov_gtr rfl rfl rfl) ?_
  refine V rfl (ov_pick_false rfl (guard_eq rfl hc2) rfl) ?_
  exact WL.nil ⟨Sub.cons' rfl (congrArg Value.bool (orF hc2)) (Sub.dropn 4 rfl), fun _ s => s⟩
 refine Va rfl (WL.nil (tn ?_))
 refine WP.cond rfl (fun hc3 => ?_) (fun hc3 => ?_)
 ·
  replace hm := ite_t hc3 hm
  refine WP.seq (WP.region (Va rfl (WL.nil (tn (WP.ret (block_ret (then_ret ?_)))))))
  obtain rfl := Option.some.inj hm
  refine retQ_ret results26 (Res.tmp rfl Res.nil) rfl (fun w' s => ⟨s.below, ?_⟩)
  exact rfl
 replace hm := ite_f hc3 hm
 refine WP.seq (WP.region (V rfl (ov_fieldAddr underlying48 rfl rfl rfl sizeOf42 rfl rfl) (Vl 0 isAgg42 rfl (V rfl (ov_len_slice underlying42 rfl rfl) (V rfl (ov_eql rfl rfl rfl) (Va rfl (WL.nil (tn ?_))))))))
 refine WP.cond rfl (fun hc4 => ?_) (fun hc4 => ?_)
 ·
  replace hm := ite_t hc4 hm
  refine WP.seq (WP.region (Va rfl (WL.nil (tn (WP.ret (block_ret (then_ret ?_)))))))
  obtain rfl := Option.some.inj hm
  refine retQ_ret results26 (Res.tmp rfl Res.nil) rfl (fun w' s => ⟨s.below, ?_⟩)
  exact rfl
 replace hm := ite_f hc4 hm
 refine WP.seq (WP.region (V rfl (ov_fieldAddr underlying48 rfl rfl rfl sizeOf42 rfl rfl) (Vl 0 isAgg42 rfl (V rfl (ov_len_slice underlying42 rfl rfl) (V rfl (ov_gtr rfl rfl rfl) (Va rfl (WL.nil (tn ?_))))))))
 refine WP.cond rfl (fun hc5 => ?_) (fun hc5 => ?_)
 ·
  replace hm := ite_t hc5 hm
  refine WP.seq (WP.region (Va rfl (WL.nil (tn (WP.ret (block_ret (then_ret ?_)))))))
  obtain rfl := Option.some.inj hm
  refine retQ_ret results26 (Res.tmp rfl Res.nil) rfl (fun w' s => ⟨s.below, ?_⟩)
  exact rfl
 replace hm := ite_f hc5 hm
 refine WP.skip (bn (tn (WP.seq (WP.region ?_))))
 refine ws rfl (os_alloc (cs := [(.bool false), (.bool false), (.bool false), (.bool false), (.bool false), (.bool false)]) zeroValue108 rfl rfl (fun b2 => ?_))
 refine ws rfl (os_alloc (cs := [(.bool false), (.bool false), (.bool false), (.bool false), (.bool false), (.bool false)]) zeroValue108 rfl rfl (fun b3 => ?_))
 refine WL.nil (tn ?_)
 obtain ⟨k1, hk1, hm⟩ := joinK_some hm
 refine WP.seq_join (fun g' S' => ∃ (c31 : Bool) (c32 : Bool) (c33 : Bool) (c34 : Bool) (c35 : Bool) (c36 : Bool) (c37 : Bool) (c38 : Bool) (c39 : Bool) (c40 : Bool) (c41 : Bool) (c42 : Bool), Sub [(1, (pB b1 0)), (3, (pB b2 0)), (4, (pB b3 0)), (1000000007, (.bool false))] g' ∧ (∀ w', S' w' → St w H [.blk b3 108 [(.bool c37), (.bool c38), (.bool c39), (.bool c40), (.bool c41), (.bool c42)], .blk b2 108 [(.bool c31), (.bool c32), (.bool c33), (.bool c34), (.bool c35), (.bool c36)], .blk b1 48 [(.int .i64 p_s.actuators), (.slice ao1 p_s.steps.length cap1)]] H w') ∧ k1 c31 c32 c33 c34 c35 c36 c37 c38 c39 c40 c41 c42 = some r) ?_ ?_
 ·
  refine WP.seq (WP.region (V rfl (ov_fieldAddr underlying48 rfl rfl rfl sizeOf42 rfl rfl) (Vl 2 isAgg42 rfl (V rfl (ov_len_slice underlying42 rfl rfl) (Vm rfl (WL.nil (tn (WP.block ?_))))))))
  refine WP.loop (fun m1 g' S' => ∃ (i1 : Int) (c1 : Bool) (c2 : Bool) (c3 : Bool) (c4 : Bool) (c5 : Bool) (c6 : Bool) (c7 : Bool) (c8 : Bool) (c9 : Bool) (c10 : Bool) (c11 : Bool) (c12 : Bool), Sub [(1, (pB b1 0)), (3, (pB b2 0)), (4, (pB b3 0)), (30, (.slice ao1 p_s.steps.length cap1)), (31, (.int .i64 (p_s.steps.length : Int))), (32, (.int .i64 i1)), (1000000007, (.bool false))] g' ∧ (∀ w', S' w' → St w H [.blk b3 108 [(.bool c7), (.bool c8), (.bool c9), (.bool c10), (.bool c11), (.bool c12)], .blk b2 108 [(.bool c1), (.bool c2), (.bool c3), (.bool c4), (.bool c5), (.bool c6)], .blk b1 48 [(.int .i64 p_s.actuators), (.slice ao1 p_s.steps.length cap1)]] H w') ∧ sequence_Check_loop1 p_s k1 m1 i1 c1 c2 c3 c4 c5 c6 c7 c8 c9 c10 c11 c12 = some r) ((Int.toNat ((p_s.steps.length : Int) - 0) + 1)) ⟨0, false, false, false, false, false, false, false, false, false, false, false, false, (Sub.all rfl), fun w' s => s, hm⟩ ?_ ?_
  ·
   rintro g' S' ⟨_, _, _, _, _, _, _, _, _, _, _, _, _, _, _, hm⟩
   exact none_some hm
  rintro m1 g' S' ⟨i1, c1, c2, c3, c4, c5, c6, c7, c8, c9, c10, c11, c12, hsub1, hS1, hm⟩
  refine WP.sub hsub1 (WP.weaken hS1 ?_)
  rw [sequence_Check_loop1] at hm
  refine WP.seq (WP.region (V rfl (ov_lss rfl rfl rfl) (WL.nil (tn (WP.seq ?_)))))
  refine WP.cond rfl (fun hc6 => ?_) (fun hc6 => ?_)
  ·
   replace hm := ite_t hc6 hm
   refine WP.skip (tn ?_)
   obtain ⟨k2, hk2, hm⟩ := joinK_some hm
   refine WP.seq_join (fun g' S' => ∃ (c19 : Bool) (c20 : Bool) (c21 : Bool) (c22 : Bool) (c23 : Bool) (c24 : Bool) (c25 : Bool) (c26 : Bool) (c27 : Bool) (c28 : Bool) (c29 : Bool) (c30 : Bool), Sub [(1, (pB b1 0)), (3, (pB b2 0)), (4, (pB b3 0)), (30, (.slice ao1 p_s.steps.length cap1)), (31, (.int .i64 (p_s.steps.length : Int))), (32, (.int .i64 i1)), (1000000007, (.bool false))] g' ∧ (∀ w', S' w' → St w H [.blk b3 108 [(.bool c25), (.bool c26), (.bool c27), (.bool c28), (.bool c29), (.bool c30)], .blk b2 108 [(.bool c19), (.bool c20), (.bool c21), (.bool c22), (.bool c23), (.bool c24)], .blk b1 48 [(.int .i64 p_s.actuators), (.slice ao1 p_s.steps.length cap1)]] H w') ∧ k2 c19 c20 c21 c22 c23 c24 c25 c26 c27 c28 c29 c30 = some r) ?_ ?_
   ·
    refine WP.block (WP.seq (WP.region ?_))
    obtain ⟨x1, e1, hm⟩ := bind_some hm
    obtain ⟨h3, h4, h5, cs1, h6, h7⟩ := h1.get e1 (by decide)
    obtain ⟨ao2, cap2, rfl, h2, hc7⟩ := h6
    refine V rfl (ov_indexAddr underlying42 sizeOf25 rfl rfl rfl h3 h4 h5) (V rfl (ov_load_elems (vs := [(.slice ao2 x1.strokes.length cap2), (.int .i64 x1.wait)]) isAgg25 sizeOf25 rfl rfl rfl h7 h5) ?_)
    refine ws rfl (os_alloc (cs := [(.slice none 0 0), (.int .i64 0)]) zeroValue25 rfl rfl (fun b4 => ?_))
    refine ws0 rfl (os_store (i := 0) (vs := [(.slice ao2 x1.strokes.length cap2), (.int .i64 x1.wait)]) (cs' := [(.slice ao2 x1.strokes.length cap2), (.int .i64 x1.wait)]) sizeOf25 rfl rfl rfl rfl rfl rfl rfl rfl rfl ?_)
    refine WL.nil (tn (WP.seq (WP.seq (WP.region (V rfl (ov_load_whole (i := 3) isAgg48 sizeOf48 rfl rfl rfl rfl) (V rfl (ov_load_whole (i := 0) isAgg25 sizeOf25 rfl rfl rfl rfl) (V rfl (ov_load_whole (i := 2) isAgg108 sizeOf108 rfl rfl rfl rfl) ?_)))))))
    obtain ⟨r1, e2, hm⟩ := bind_some hm
    refine wo rfl (oq_con (r := (.int .i64 r1)) call62 rfl rfl (fun w' s => ⟨_, (sequence_fits_con p_s x1 (Ends6.mk c1 c2 c3 c4 c5 c6) ao1 cap1 ao2 cap2  w' H s.hold h1 hc1 h2 hc7 hG r1 e2)⟩)) ?_
    refine Va rfl (WL.nil (tn (WP.seq (WP.region (Vm rfl (V rfl (ov_neq rfl rfl rfl) (WL.nil (tn ?_))))))))
    refine WP.cond rfl (fun hc8 => ?_) (fun hc8 => ?_)
    ·
     replace hm := ite_t hc8 hm
     refine WP.seq (WP.region (Vm rfl (Va rfl (WL.nil (tn (WP.ret (then_ret (block_ret (then_ret (then_ret (block_ret (then_ret ?_))))))))))))
     obtain rfl := Option.some.inj hm
     refine retQ_ret results26 (Res.tmp rfl Res.nil) rfl (fun w' s => ⟨s.below, ?_⟩)
     exact rfl
    replace hm := ite_f hc8 hm
    refine WP.skip (tn (WP.seq (WP.region (V rfl (ov_load_whole (i := 2) isAgg108 sizeOf108 rfl rfl rfl rfl) (V rfl (ov_load_whole (i := 0) isAgg25 sizeOf25 rfl rfl rfl rfl) ?_)))))
    obtain ⟨r2, e3, hm⟩ := bind_some hm
    refine wo rfl (oq_con (r := (.agg #[(.bool r2.a0), (.bool r2.a1), (.bool r2.a2), (.bool r2.a3), (.bool r2.a4), (.bool r2.a5)])) call63 rfl rfl (fun w' s => ⟨_, (sequence_ends_behind_con (Ends6.mk c1 c2 c3 c4 c5 c6) x1 ao2 cap2  w' H s.hold h2 hc7 hG r2 e3)⟩)) ?_
    refine ws0 rfl (os_store (i := 2) (vs := [(.bool r2.a0), (.bool r2.a1), (.bool r2.a2), (.bool r2.a3), (.bool r2.a4), (.bool r2.a5)]) (cs' := [(.bool r2.a0), (.bool r2.a1), (.bool r2.a2), (.bool r2.a3), (.bool r2.a4), (.bool r2.a5)]) sizeOf108 rfl rfl rfl rfl rfl rfl rfl rfl rfl ?_)
    refine WL.nil (tn (WP.seq (WP.region (V rfl (ov_fieldAddr underlying25 rfl rfl rfl sizeOf23 rfl rfl) (Vl 0 isAgg23 rfl (V rfl (ov_len_slice underlying23 rfl rfl) (Vm rfl (WL.nil (tn (WP.block ?_))))))))))
    refine WP.loop (fun m2 g' S' => ∃ (i2 : Int) (c13 : Bool) (c14 : Bool) (c15 : Bool) (c16 : Bool) (c17 : Bool) (c18 : Bool), Sub [(1, (pB b1 0)), (3, (pB b2 0)), (4, (pB b3 0)), (30, (.slice ao1 p_s.steps.length cap1)), (31, (.int .i64 (p_s.steps.length : Int))), (32, (.int .i64 i1)), (47, (.slice ao2 x1.strokes.length cap2)), (48, (.int .i64 (x1.strokes.length : Int))), (49, (.int .i64 i2)), (1000000007, (.bool false))] g' ∧ (∀ w', S' w' → St w H [.blk b3 108 [(.bool c13), (.bool c14), (.bool c15), (.bool c16), (.bool c17), (.bool c18)], .blk b2 108 [(.bool r2.a0), (.bool r2.a1), (.bool r2.a2), (.bool r2.a3), (.bool r2.a4), (.bool r2.a5)], .blk b1 48 [(.int .i64 p_s.actuators), (.slice ao1 p_s.steps.length cap1)]] H w') ∧ sequence_Check_loop2 k2 x1 r2 m2 i2 c13 c14 c15 c16 c17 c18 = some r) ((Int.toNat ((x1.strokes.length : Int) - 0) + 1)) ⟨0, c7, c8, c9, c10, c11, c12, (Sub.all rfl), fun w' s => (s.select [1, 2, 3] (by decide) rfl), hm⟩ ?_ ?_
    ·
     rintro g' S' ⟨_, _, _, _, _, _, _, _, _, hm⟩
     exact none_some hm
    rintro m2 g' S' ⟨i2, c13, c14, c15, c16, c17, c18, hsub2, hS2, hm⟩
    refine WP.sub hsub2 (WP.weaken hS2 ?_)
    rw [sequence_Check_loop2] at hm
    refine WP.seq (WP.region (V rfl (ov_lss rfl rfl rfl) (WL.nil (tn (WP.seq ?_)))))
    refine WP.cond rfl (fun hc9 => ?_) (fun hc9 => ?_)
    ·
     replace hm := ite_t hc9 hm
     refine WP.skip (tn (WP.seq (WP.block (WP.seq (WP.region ?_)))))
     obtain ⟨x2, e4, hm⟩ := bind_some hm
     obtain ⟨h8, h9, h10, cs2, h11, h12⟩ := h2.get e4 (by decide)
     obtain rfl : cs2 = [(.int .i64 x2.actuator), (.bool x2.out)] := h11
     refine V rfl (ov_indexAddr underlying23 sizeOf112 rfl rfl rfl h8 h9 h10) (V rfl (ov_load_elems (vs := [(.int .i64 x2.actuator), (.bool x2.out)]) isAgg112 sizeOf112 rfl rfl rfl h12 h10) ?_)
     refine ws rfl (os_alloc (cs := [(.int .i64 0), (.bool false)]) zeroValue112 rfl rfl (fun b5 => ?_))
     refine ws0 rfl (os_store (i := 0) (vs := [(.int .i64 x2.actuator), (.bool x2.out)]) (cs' := [(.int .i64 x2.actuator), (.bool x2.out)]) sizeOf112 rfl rfl rfl rfl rfl rfl rfl rfl rfl ?_)
     refine WL.nil (tn (WP.region (V rfl (ov_fieldAddr underlying112 rfl rfl rfl sizeOf3 rfl rfl) (Vl 0 isAgg3 rfl ?_))))
     rcases Bool.eq_false_or_eq_true (x2.actuator == 0) with hc10 | hc10
     ·
      replace hm := ite_t hc10 hm
      refine V rfl (ov_indexAddr_at (j := 0) underlying108 sizeOf4 rfl rfl rfl (eq_of_beq hc10) rfl) ?_
      refine ws0 rfl (os_store (i := 1) (vs := [(.bool true)]) (cs' := [(.bool true), (.bool c14), (.bool c15), (.bool c16), (.bool c17), (.bool c18)]) sizeOf4 rfl rfl rfl rfl rfl rfl rfl rfl rfl ?_)
      refine WL.nil (bn (tn (WP.region (V rfl (ov_add rfl rfl rfl) (Vm rfl (WL.nil (tn ?_)))))))
      exact ⟨(IntKind.wrap .i64 (i2 + 1)), true, c14, c15, c16, c17, c18, (Sub.all rfl), fun w' s => (s.select [1, 2, 3] (by decide) rfl), hm⟩
     replace hm := ite_f hc10 hm
     rcases Bool.eq_false_or_eq_true (x2.actuator == 1) with hc11 | hc11
     ·
      replace hm := ite_t hc11 hm
      refine V rfl (ov_indexAddr_at (j := 1) underlying108 sizeOf4 rfl rfl rfl (eq_of_beq hc11) rfl) ?_
      refine ws0 rfl (os_store (i := 1) (vs := [(.bool true)]) (cs' := [(.bool c13), (.bool true), (.bool c15), (.bool c16), (.bool c17), (.bool c18)]) sizeOf4 rfl rfl rfl rfl rfl rfl rfl rfl rfl ?_)
      refine WL.nil (bn (tn (WP.region (V rfl (ov_add rfl rfl rfl) (Vm rfl (WL.nil (tn ?_)))))))
      exact ⟨(IntKind.wrap .i64 (i2 + 1)), c13, true, c15, c16, c17, c18, (Sub.all rfl), fun w' s => (s.select [1, 2, 3] (by decide) rfl), hm⟩
     replace hm := ite_f hc11 hm
     rcases Bool.eq_false_or_eq_true (x2.actuator == 2) with hc12 | hc12
     ·
      replace hm := ite_t hc12 hm
      refine V rfl (ov_indexAddr_at (j := 2) underlying108 sizeOf4 rfl rfl rfl (eq_of_beq hc12) rfl) ?_
      refine ws0 rfl (os_store (i := 1) (vs := [(.bool true)]) (cs' := [(.bool c13), (.bool c14), (.bool true), (.bool c16), (.bool c17), (.bool c18)]) sizeOf4 rfl rfl rfl rfl rfl rfl rfl rfl rfl ?_)
      refine WL.nil (bn (tn (WP.region (V rfl (ov_add rfl rfl rfl) (Vm rfl (WL.nil (tn ?_)))))))
      exact ⟨(IntKind.wrap .i64 (i2 + 1)), c13, c14, true, c16, c17, c18, (Sub.all rfl), fun w' s => (s.select [1, 2, 3] (by decide) rfl), hm⟩
     replace hm := ite_f hc12 hm
     rcases Bool.eq_false_or_eq_true (x2.actuator == 3) with hc13 | hc13
     ·
      replace hm := ite_t hc13 hm
      refine V rfl (ov_indexAddr_at (j := 3) underlying108 sizeOf4 rfl rfl rfl (eq_of_beq hc13) rfl) ?_
      refine ws0 rfl (os_store (i := 1) (vs := [(.bool true)]) (cs' := [(.bool c13), (.bool c14), (.bool c15), (.bool true), (.bool c17), (.bool c18)]) sizeOf4 rfl rfl rfl rfl rfl rfl rfl rfl rfl ?_)
      refine WL.nil (bn (tn (WP.region (V rfl (ov_add rfl rfl rfl) (Vm rfl (WL.nil (tn ?_)))))))
      exact ⟨(IntKind.wrap .i64 (i2 + 1)), c13, c14, c15, true, c17, c18, (Sub.all rfl), fun w' s => (s.select [1, 2, 3] (by decide) rfl), hm⟩
     replace hm := ite_f hc13 hm
     rcases Bool.eq_false_or_eq_true (x2.actuator == 4) with hc14 | hc14
     ·
      replace hm := ite_t hc14 hm
      refine V rfl (ov_indexAddr_at (j := 4) underlying108 sizeOf4 rfl rfl rfl (eq_of_beq hc14) rfl) ?_
      refine ws0 rfl (os_store (i := 1) (vs := [(.bool true)]) (cs' := [(.bool c13), (.bool c14), (.bool c15), (.bool c16), (.bool true), (.bool c18)]) sizeOf4 rfl rfl rfl rfl rfl rfl rfl rfl rfl ?_)
      refine WL.nil (bn (tn (WP.region (V rfl (ov_add rfl rfl rfl) (Vm rfl (WL.nil (tn ?_)))))))
      exact ⟨(IntKind.wrap .i64 (i2 + 1)), c13, c14, c15, c16, true, c18, (Sub.all rfl), fun w' s => (s.select [1, 2, 3] (by decide) rfl), hm⟩
     replace hm := ite_f hc14 hm
     rcases Bool.eq_false_or_eq_true (x2.actuator == 5) with hc15 | hc15
     ·
      replace hm := ite_t hc15 hm
      refine V rfl (ov_indexAddr_at (j := 5) underlying108 sizeOf4 rfl rfl rfl (eq_of_beq hc15) rfl) ?_
      refine ws0 rfl (os_store (i := 1) (vs := [(.bool true)]) (cs' := [(.bool c13), (.bool c14), (.bool c15), (.bool c16), (.bool c17), (.bool true)]) sizeOf4 rfl rfl rfl rfl rfl rfl rfl rfl rfl ?_)
      refine WL.nil (bn (tn (WP.region (V rfl (ov_add rfl rfl rfl) (Vm rfl (WL.nil (tn ?_)))))))
      exact ⟨(IntKind.wrap .i64 (i2 + 1)), c13, c14, c15, c16, c17, true, (Sub.all rfl), fun w' s => (s.select [1, 2, 3] (by decide) rfl), hm⟩
     replace hm := ite_f hc15 hm
     exact (none_some hm).elim
    replace hm := ite_f hc9 hm
    refine WP.exit (then_exit (then_exit (block_here (bn (tn ?_)))))
    exact ⟨r2.a0, r2.a1, r2.a2, r2.a3, r2.a4, r2.a5, c13, c14, c15, c16, c17, c18, (Sub.all rfl), fun w' s => s, hm⟩
   rintro g' S' ⟨c19, c20, c21, c22, c23, c24, c25, c26, c27, c28, c29, c30, hsub3, hS3, hm⟩
   refine WP.sub hsub3 (WP.weaken hS3 ?_)
   replace hm := (congrFun (congrFun (congrFun (congrFun (congrFun (congrFun (congrFun (congrFun (congrFun (congrFun (congrFun (congrFun hk2 c19) c20) c21) c22) c23) c24) c25) c26) c27) c28) c29) c30).symm.trans hm
   refine WP.region (V rfl (ov_add rfl rfl rfl) (Vm rfl (WL.nil (tn ?_))))
   exact ⟨(IntKind.wrap .i64 (i1 + 1)), c19, c20, c21, c22, c23, c24, c25, c26, c27, c28, c29, c30, (Sub.all rfl), fun w' s => s, hm⟩
  replace hm := ite_f hc6 hm
  refine WP.exit (then_exit (then_exit (block_here (tn ?_))))
  exact ⟨c1, c2, c3, c4, c5, c6, c7, c8, c9, c10, c11, c12, (Sub.all rfl), fun w' s => s, hm⟩
 rintro g' S' ⟨c31, c32, c33, c34, c35, c36, c37, c38, c39, c40, c41, c42, hsub4, hS4, hm⟩
 refine WP.sub hsub4 (WP.weaken hS4 ?_)
 replace hm := (congrFun (congrFun (congrFun (congrFun (congrFun (congrFun (congrFun (congrFun (congrFun (congrFun (congrFun (congrFun hk1 c31) c32) c33) c34) c35) c36) c37) c38) c39) c40) c41) c42).symm.trans hm
 refine WP.seq (WP.seq (WP.region (V rfl (ov_load_whole (i := 1) isAgg108 sizeOf108 rfl rfl rfl rfl) (V rfl (ov_build (r := (.agg #[(.bool false), (.bool false), (.bool false), (.bool false), (.bool false), (.bool false)])) rfl rfl (fun _ => by kernel_rfl)) (V rfl (neq_struct108 (a := (Ends6.mk c31 c32 c33 c34 c35 c36)) (b := (Ends6.mk false false false false false false)) rfl rfl rfl) (WL.nil (tn ?_)))))))
 refine WP.cond rfl (fun hc16 => ?_) (fun hc16 => ?_)
 ·
  replace hm := ite_t hc16 hm
  refine WP.seq (WP.region (Va rfl (WL.nil (tn (WP.ret (then_ret ?_))))))
  obtain rfl := Option.some.inj hm
  refine retQ_ret results26 (Res.tmp rfl Res.nil) rfl (fun w' s => ⟨s.below, ?_⟩)
  exact rfl
 replace hm := ite_f hc16 hm
 refine WP.skip (tn (WP.seq (WP.seq (WP.region (V rfl (ov_fieldAddr underlying48 rfl rfl rfl sizeOf3 rfl rfl) (Vl 2 isAgg3 rfl ?_))))))
 refine WL.box_held (fun H1 hle1 hc17 => ?_)
 have h13 : SL H1 encBool (some ⟨b3, 0, none⟩) ([c37, c38, c39, c40, c41, c42] : List Bool) := sl_boxB hc17
 replace hG := hG.mono hle1
 obtain ⟨l1, e5, hm⟩ := bind_some hm
 obtain ⟨ao3, cap3, h14, h15, hc18⟩ := sl_arr_h h13 e5
 refine V rfl (h14 underlying108 sizeOf4 rfl rfl rfl) ?_
 obtain ⟨r3, e6, hm⟩ := bind_some hm
 refine wo rfl (oq_con (r := (.bool r3)) call64 rfl rfl (fun w' s => ⟨_, (slices_Contains_boolbool_con l1 false ao3 cap3  w' H1 s.hold h15 hc18 hG r3 e6)⟩)) ?_
 refine WL.nil (tn ?_)
 refine WP.cond rfl (fun hc19 => ?_) (fun hc19 => ?_)
 ·
  replace hm := ite_t hc19 hm
  refine WP.seq (WP.region (Va rfl (WL.nil (tn (WP.ret (then_ret ?_))))))
  obtain rfl := Option.some.inj hm
  refine retQ_ret results26 (Res.tmp rfl Res.nil) rfl (fun w' s => ⟨s.below, ?_⟩)
  exact rfl
 replace hm := ite_f hc19 hm
 refine WP.skip (tn (WP.seq (WP.region (Va rfl (WL.nil (tn (WP.ret ?_)))))))
 obtain rfl := Option.some.inj hm
 refine retQ_ret results26 (Res.tmp rfl Res.nil) rfl (fun w' s => ⟨s.below, ?_⟩)
 exact rfl
theorem program_done_con (p_n : Node) (p_on : (List (List UInt8))) (ao1 : Option Addr) (cap1 : Nat) (ao2 : Option Addr) (cap2 : Nat) (ao3 : Option Addr) (cap3 : Nat) (w : World) (H : Heap) (hH : Le H (hp w)) (h1 : SL H encStroke ao1 p_n.step.strokes) (hc1 : p_n.step.strokes.length ≤ cap1) (h2 : SL H encNode ao2 p_n.nodes) (hc2 : p_n.nodes.length ≤ cap2) (h3 : SL H encStr ao3 p_on) (hc3 : p_on.length ≤ cap3) (hG : Glob H) (r : (Sequence × Int)) (hm : program_done p_n p_on = some r) :
  Con prog 57 [(.agg #[(.int .i64 p_n.kind), (.slice ao1 p_n.step.strokes.length cap1), (.int .i64 p_n.step.wait), (.int .i64 p_n.count), (mkS p_n.name), (.slice ao2 p_n.nodes.length cap2)]), (.slice ao3 p_on.length cap3)] w H (fun v H' => ∃ (ao4 : Option Addr) (cap4 : Nat), v = (.tuple #[(.agg #[(.int .i64 r.1.actuators), (.slice ao4 r.1.steps.length cap4)]), (.int .i64 r.2)]) ∧ SL H' encStep ao4 r.1.steps ∧ r.1.steps.length ≤ cap4) := by
 unfold program_done at hm
 refine con_of hH func57 rfl 55 ntmps57 rfl ?_
 refine WP.seq (WP.region ?_)
 refine ws rfl (os_box (cs := [(.int .i64 p_n.kind), (.slice ao1 p_n.step.strokes.length cap1), (.int .i64 p_n.step.wait), (.int .i64 p_n.count), (mkS p_n.name), (.slice ao2 p_n.nodes.length cap2)]) rfl rfl rfl (fun b1 => ?_))
 refine ws rfl (os_alloc (cs := [(.int .i64 0), (.slice none 0 0)]) zeroValue48 rfl rfl (fun b2 => ?_))
 refine Va rfl (WL.nil (tn (WP.seq (WP.region (V rfl (ov_load_whole (i := 1) isAgg28 sizeOf28 rfl rfl rfl rfl) (Vm rfl ?_))))))
 obtain ⟨r1, e1, hm⟩ := bind_some hm
 refine ws rfl (os_con call55 rfl rfl (fun w' s => (program_unfolded_con p_n p_on ao1 cap1 ao2 cap2 ao3 cap3  w' H s.hold h1 hc1 h2 hc2 h3 hc3 hG r1 e1)) (fun rr1 H1 hle1 hR1 => ?_))
 replace hG := hG.mono hle1
 obtain ⟨ao5, cap5, rfl, h5, hc5⟩ := hR1
 refine Vm rfl (Ve rfl (Ve rfl (Va rfl (Va rfl (WL.nil (tn (WP.seq (WP.seq (WP.region (Vm rfl (V rfl (ov_neq rfl rfl rfl) (WL.nil (tn ?_)))))))))))))
 refine WP.cond rfl (fun hc6 => ?_) (fun hc6 => ?_)
 ·
  replace hm := ite_t hc6 hm
  refine WP.seq (WP.region (V rfl (ov_build (r := (.agg #[(.int .i64 0), (.slice none 0 0)])) rfl rfl (fun _ => by kernel_rfl)) (Vm rfl ?_)))
  refine ws0 rfl (os_store (i := 0) (vs := [(.int .i64 0), (.slice none 0 0)]) (cs' := [(.int .i64 0), (.slice none 0 0)]) sizeOf48 rfl rfl rfl rfl rfl rfl rfl rfl rfl ?_)
  refine Va rfl (WL.nil (tn (WP.ret (then_ret ?_))))
  obtain rfl := Option.some.inj hm
  refine retQ_ret results57 (Res.cell rfl (box_loads (i := 0) isAgg48 sizeOf48 rfl rfl) (Res.tmp rfl Res.nil)) rfl (fun w' s => ⟨s.below, ?_⟩)
  exact ⟨none, 0, rfl, SL.nil _ _ _, Nat.le_refl _⟩
 replace hm := ite_f hc6 hm
 refine WP.skip (tn (WP.seq (WP.region (Vm rfl (V rfl (ov_build (r := (.agg #[(.int .i64 0), (.slice ao5 r1.1.length cap5)])) rfl rfl (fun _ => by kernel_rfl)) ?_)))))
 refine ws rfl (os_alloc (cs := [(.int .i64 0), (.slice none 0 0)]) zeroValue48 rfl rfl (fun b3 => ?_))
 refine ws0 rfl (os_store (i := 0) (vs := [(.int .i64 0), (.slice ao5 r1.1.length cap5)]) (cs' := [(.int .i64 0), (.slice ao5 r1.1.length cap5)]) sizeOf48 rfl rfl rfl rfl rfl rfl rfl rfl rfl ?_)
 refine WL.nil (tn ?_)
 obtain ⟨k1, hk1, hm⟩ := joinK_some hm
 refine WP.seq_join (fun g' S' => ∃ (i6 : Int), Sub [(4, (pB b2 0)), (8, (pB b3 0)), (1000000007, (.bool false))] g' ∧ (∀ w', S' w' → St w H [.blk b3 48 [(.int .i64 i6), (.slice ao5 r1.1.length cap5)], .blk b2 48 [(.int .i64 0), (.slice none 0 0)]] H1 w') ∧ k1 i6 = some r) ?_ ?_
 ·
  refine WP.seq (WP.region (Vm rfl (V rfl (ov_len_slice underlying42 rfl rfl) (Vm rfl (WL.nil (tn (WP.block ?_)))))))
  refine WP.loop (fun m1 g' S' => ∃ (i1 : Int) (i2 : Int), Sub [(4, (pB b2 0)), (8, (pB b3 0)), (26, (.slice ao5 r1.1.length cap5)), (27, (.int .i64 (r1.1.length : Int))), (28, (.int .i64 i1)), (1000000007, (.bool false))] g' ∧ (∀ w', S' w' → St w H [.blk b3 48 [(.int .i64 i2), (.slice ao5 r1.1.length cap5)], .blk b2 48 [(.int .i64 0), (.slice none 0 0)]] H1 w') ∧ program_done_loop1 r1 k1 m1 i1 i2 = some r) ((Int.toNat ((r1.1.length : Int) - 0) + 1)) ⟨0, 0, (Sub.all rfl), fun w' s => (s.select [0, 1] (by decide) rfl), hm⟩ ?_ ?_
  ·
   rintro g' S' ⟨_, _, _, _, hm⟩
   exact none_some hm
  rintro m1 g' S' ⟨i1, i2, hsub1, hS1, hm⟩
  refine WP.sub hsub1 (WP.weaken hS1 ?_)
  rw [program_done_loop1] at hm
  refine WP.seq (WP.region (V rfl (ov_lss rfl rfl rfl) (WL.nil (tn (WP.seq ?_)))))
  refine WP.cond rfl (fun hc7 => ?_) (fun hc7 => ?_)
  ·
   replace hm := ite_t hc7 hm
   refine WP.skip (tn ?_)
   obtain ⟨k2, hk2, hm⟩ := joinK_some hm
   refine WP.seq_join (fun g' S' => ∃ (i5 : Int), Sub [(4, (pB b2 0)), (8, (pB b3 0)), (26, (.slice ao5 r1.1.length cap5)), (27, (.int .i64 (r1.1.length : Int))), (28, (.int .i64 i1)), (1000000007, (.bool false))] g' ∧ (∀ w', S' w' → St w H [.blk b3 48 [(.int .i64 i5), (.slice ao5 r1.1.length cap5)], .blk b2 48 [(.int .i64 0), (.slice none 0 0)]] H1 w') ∧ k2 i5 = some r) ?_ ?_
   ·
    refine WP.block (WP.seq (WP.region ?_))
    obtain ⟨x1, e2, hm⟩ := bind_some hm
    obtain ⟨h7, h8, h9, cs1, h10, h11⟩ := h5.get e2 (by decide)
    obtain ⟨ao6, cap6, rfl, h6, hc8⟩ := h10
    refine V rfl (ov_indexAddr underlying42 sizeOf25 rfl rfl rfl h7 h8 h9) (V rfl (ov_load_elems (vs := [(.slice ao6 x1.strokes.length cap6), (.int .i64 x1.wait)]) isAgg25 sizeOf25 rfl rfl rfl h11 h9) ?_)
    refine ws rfl (os_alloc (cs := [(.slice none 0 0), (.int .i64 0)]) zeroValue25 rfl rfl (fun b4 => ?_))
    refine ws0 rfl (os_store (i := 0) (vs := [(.slice ao6 x1.strokes.length cap6), (.int .i64 x1.wait)]) (cs' := [(.slice ao6 x1.strokes.length cap6), (.int .i64 x1.wait)]) sizeOf25 rfl rfl rfl rfl rfl rfl rfl rfl rfl ?_)
    refine WL.nil (tn (WP.seq (WP.region (V rfl (ov_fieldAddr underlying25 rfl rfl rfl sizeOf23 rfl rfl) (Vl 0 isAgg23 rfl (V rfl (ov_len_slice underlying23 rfl rfl) (Vm rfl (WL.nil (tn (WP.block ?_))))))))))
    refine WP.loop (fun m2 g' S' => ∃ (i3 : Int) (i4 : Int), Sub [(4, (pB b2 0)), (8, (pB b3 0)), (26, (.slice ao5 r1.1.length cap5)), (27, (.int .i64 (r1.1.length : Int))), (28, (.int .i64 i1)), (33, (.slice ao6 x1.strokes.length cap6)), (34, (.int .i64 (x1.strokes.length : Int))), (35, (.int .i64 i3)), (1000000007, (.bool false))] g' ∧ (∀ w', S' w' → St w H [.blk b3 48 [(.int .i64 i4), (.slice ao5 r1.1.length cap5)], .blk b2 48 [(.int .i64 0), (.slice none 0 0)]] H1 w') ∧ program_done_loop2 k2 x1 m2 i3 i4 = some r) ((Int.toNat ((x1.strokes.length : Int) - 0) + 1)) ⟨0, i2, (Sub.all rfl), fun w' s => (s.select [1, 2] (by decide) rfl), hm⟩ ?_ ?_
    ·
     rintro g' S' ⟨_, _, _, _, hm⟩
     exact none_some hm
    rintro m2 g' S' ⟨i3, i4, hsub2, hS2, hm⟩
    refine WP.sub hsub2 (WP.weaken hS2 ?_)
    rw [program_done_loop2] at hm
    refine WP.seq (WP.region (V rfl (ov_lss rfl rfl rfl) (WL.nil (tn (WP.seq ?_)))))
    refine WP.cond rfl (fun hc9 => ?_) (fun hc9 => ?_)
    ·
     replace hm := ite_t hc9 hm
     refine WP.skip (tn (WP.seq (WP.block (WP.seq (WP.region ?_)))))
     obtain ⟨x2, e3, hm⟩ := bind_some hm
     obtain ⟨h12, h13, h14, cs2, h15, h16⟩ := h6.get e3 (by decide)
     obtain rfl : cs2 = [(.int .i64 x2.actuator), (.bool x2.out)] := h15
     refine V rfl (ov_indexAddr underlying23 sizeOf112 rfl rfl rfl h12 h13 h14) (V rfl (ov_load_elems (vs := [(.int .i64 x2.actuator), (.bool x2.out)]) isAgg112 sizeOf112 rfl rfl rfl h16 h14) ?_)
     refine ws rfl (os_alloc (cs := [(.int .i64 0), (.bool false)]) zeroValue112 rfl rfl (fun b5 => ?_))
     refine ws0 rfl (os_store (i := 0) (vs := [(.int .i64 x2.actuator), (.bool x2.out)]) (cs' := [(.int .i64 x2.actuator), (.bool x2.out)]) sizeOf112 rfl rfl rfl rfl rfl rfl rfl rfl rfl ?_)
     refine WL.nil (tn (WP.region (V rfl (ov_fieldAddr underlying48 rfl rfl rfl sizeOf3 rfl rfl) (Vl 1 isAgg3 rfl (V rfl (ov_fieldAddr underlying112 rfl rfl rfl sizeOf3 rfl rfl) (Vl 0 isAgg3 rfl (V rfl (ov_add rfl rfl rfl) (V rfl (ov_max rfl rfl rfl) (V rfl (ov_fieldAddr underlying48 rfl rfl rfl sizeOf3 rfl rfl) ?_)))))))))
     refine ws0 rfl (os_store (i := 1) (vs := [(.int .i64 (if (IntKind.wrap .i64 (x2.actuator + 1)) > i4 then (IntKind.wrap .i64 (x2.actuator + 1)) else i4))]) (cs' := [(.int .i64 (if (IntKind.wrap .i64 (x2.actuator + 1)) > i4 then (IntKind.wrap .i64 (x2.actuator + 1)) else i4)), (.slice ao5 r1.1.length cap5)]) sizeOf3 rfl rfl rfl rfl rfl rfl rfl rfl rfl ?_)
     refine WL.nil (bn (tn (WP.region (V rfl (ov_add rfl rfl rfl) (Vm rfl (WL.nil (tn ?_)))))))
     exact ⟨(IntKind.wrap .i64 (i3 + 1)), (if (IntKind.wrap .i64 (x2.actuator + 1)) > i4 then (IntKind.wrap .i64 (x2.actuator + 1)) else i4), (Sub.all rfl), fun w' s => (s.select [1, 2] (by decide) rfl), hm⟩
    replace hm := ite_f hc9 hm
    refine WP.exit (then_exit (then_exit (block_here (bn (tn ?_)))))
    exact ⟨i4, (Sub.all rfl), fun w' s => s, hm⟩
   rintro g' S' ⟨i5, hsub3, hS3, hm⟩
   refine WP.sub hsub3 (WP.weaken hS3 ?_)
   replace hm := (congrFun hk2 i5).symm.trans hm
   refine WP.region (V rfl (ov_add rfl rfl rfl) (Vm rfl (WL.nil (tn ?_))))
   exact ⟨(IntKind.wrap .i64 (i1 + 1)), i5, (Sub.all rfl), fun w' s => s, hm⟩
  replace hm := ite_f hc7 hm
  refine WP.exit (then_exit (then_exit (block_here (tn ?_))))
  exact ⟨i2, (Sub.all rfl), fun w' s => s, hm⟩
 rintro g' S' ⟨i6, hsub4, hS4, hm⟩
 refine WP.sub hsub4 (WP.weaken hS4 ?_)
 replace hm := (congrFun hk1 i6).symm.trans hm
 refine WP.seq (WP.seq (WP.region (V rfl (ov_load_whole (i := 0) isAgg48 sizeOf48 rfl rfl rfl rfl) ?_)))
 obtain ⟨r2, e4, hm⟩ := bind_some hm
 refine wo rfl (oq_con (r := (.int .i64 r2)) call26 rfl rfl (fun w' s => ⟨_, (sequence_Check_con (Sequence.mk i6 r1.1) ao5 cap5  w' H1 s.hold h5 hc5 hG r2 e4)⟩)) ?_
 refine Va rfl (WL.nil (tn (WP.seq (WP.region (Vm rfl (V rfl (ov_neq rfl rfl rfl) (WL.nil (tn ?_))))))))
 refine WP.cond rfl (fun hc10 => ?_) (fun hc10 => ?_)
 ·
  replace hm := ite_t hc10 hm
  refine WP.seq (WP.region (V rfl (ov_build (r := (.agg #[(.int .i64 0), (.slice none 0 0)])) rfl rfl (fun _ => by kernel_rfl)) (Vm rfl ?_)))
  refine ws0 rfl (os_store (i := 1) (vs := [(.int .i64 0), (.slice none 0 0)]) (cs' := [(.int .i64 0), (.slice none 0 0)]) sizeOf48 rfl rfl rfl rfl rfl rfl rfl rfl rfl ?_)
  refine Va rfl (WL.nil (tn (WP.ret (then_ret ?_))))
  obtain rfl := Option.some.inj hm
  refine retQ_ret results57 (Res.cell rfl (box_loads (i := 1) isAgg48 sizeOf48 rfl rfl) (Res.tmp rfl Res.nil)) rfl (fun w' s => ⟨s.below, ?_⟩)
  exact ⟨none, 0, rfl, SL.nil _ _ _, Nat.le_refl _⟩
 replace hm := ite_f hc10 hm
 refine WP.skip (tn (WP.seq (WP.region (V rfl (ov_load_whole (i := 0) isAgg48 sizeOf48 rfl rfl rfl rfl) ?_))))
 refine ws0 rfl (os_store (i := 1) (vs := [(.int .i64 i6), (.slice ao5 r1.1.length cap5)]) (cs' := [(.int .i64 i6), (.slice ao5 r1.1.length cap5)]) sizeOf48 rfl rfl rfl rfl rfl rfl rfl rfl rfl ?_)
 refine Va rfl (WL.nil (tn (WP.ret ?_)))
 obtain rfl := Option.some.inj hm
 refine retQ_ret results57 (Res.cell rfl (box_loads (i := 1) isAgg48 sizeOf48 rfl rfl) (Res.tmp rfl Res.nil)) rfl (fun w' s => ⟨s.below, ?_⟩)
 exact ⟨ao5, cap5, rfl, h5.mono s.le_newer, hc5⟩
theorem program_Sequence_con (p_n : Node) (p_on : (List (List UInt8))) (ao1 : Option Addr) (cap1 : Nat) (ao2 : Option Addr) (cap2 : Nat) (ao3 : Option Addr) (cap3 : Nat) (w : World) (H : Heap) (hH : Le H (hp w)) (h1 : SL H encStroke ao1 p_n.step.strokes) (hc1 : p_n.step.strokes.length ≤ cap1) (h2 : SL H encNode ao2 p_n.nodes) (hc2 : p_n.nodes.length ≤ cap2) (h3 : SL H encStr ao3 p_on) (hc3 : p_on.length ≤ cap3) (hG : Glob H) (r : (Sequence × Int)) (hm : program_Sequence p_n p_on = some r) :
  Con prog 20 [(.agg #[(.int .i64 p_n.kind), (.slice ao1 p_n.step.strokes.length cap1), (.int .i64 p_n.step.wait), (.int .i64 p_n.count), (mkS p_n.name), (.slice ao2 p_n.nodes.length cap2)]), (.slice ao3 p_on.length cap3)] w H (fun v H' => ∃ (ao4 : Option Addr) (cap4 : Nat), v = (.tuple #[(.agg #[(.int .i64 r.1.actuators), (.slice ao4 r.1.steps.length cap4)]), (.int .i64 r.2)]) ∧ SL H' encStep ao4 r.1.steps ∧ r.1.steps.length ≤ cap4) := by
 unfold program_Sequence at hm
 refine con_of hH func20 rfl 18 ntmps20 rfl ?_
 refine WP.seq (WP.region ?_)
 refine ws rfl (os_box (cs := [(.int .i64 p_n.kind), (.slice ao1 p_n.step.strokes.length cap1), (.int .i64 p_n.step.wait), (.int .i64 p_n.count), (mkS p_n.name), (.slice ao2 p_n.nodes.length cap2)]) rfl rfl rfl (fun b1 => ?_))
 refine ws rfl (os_alloc (cs := [(.int .i64 0), (.slice none 0 0)]) zeroValue48 rfl rfl (fun b2 => ?_))
 refine Va rfl (WL.nil (tn (WP.seq (WP.seq (WP.region (V rfl (ov_load_whole (i := 1) isAgg28 sizeOf28 rfl rfl rfl rfl) ?_))))))
 obtain ⟨r1, e1, hm⟩ := bind_some hm
 refine wo rfl (oq_con (r := (.int .i64 r1)) call31 rfl rfl (fun w' s => ⟨_, (program_Check_con p_n ao1 cap1 ao2 cap2  w' H s.hold h1 hc1 h2 hc2 hG r1 e1)⟩)) ?_
 refine Va rfl (WL.nil (tn (WP.seq (WP.region (Vm rfl (V rfl (ov_neq rfl rfl rfl) (WL.nil (tn ?_))))))))
 refine WP.cond rfl (fun hc5 => ?_) (fun hc5 => ?_)
 ·
  replace hm := ite_t hc5 hm
  refine WP.seq (WP.region (V rfl (ov_build (r := (.agg #[(.int .i64 0), (.slice none 0 0)])) rfl rfl (fun _ => by kernel_rfl)) (Vm rfl ?_)))
  refine ws0 rfl (os_store (i := 0) (vs := [(.int .i64 0), (.slice none 0 0)]) (cs' := [(.int .i64 0), (.slice none 0 0)]) sizeOf48 rfl rfl rfl rfl rfl rfl rfl rfl rfl ?_)
  refine Va rfl (WL.nil (tn (WP.ret (then_ret ?_))))
  obtain rfl := Option.some.inj hm
  refine retQ_ret results20 (Res.cell rfl (box_loads (i := 0) isAgg48 sizeOf48 rfl rfl) (Res.tmp rfl Res.nil)) rfl (fun w' s => ⟨s.below, ?_⟩)
  exact ⟨none, 0, rfl, SL.nil _ _ _, Nat.le_refl _⟩
 replace hm := ite_f hc5 hm
 refine WP.skip (tn (WP.seq (WP.region (V rfl (ov_load_whole (i := 1) isAgg28 sizeOf28 rfl rfl rfl rfl) (Vm rfl ?_)))))
 obtain ⟨r2, e2, hm⟩ := bind_some hm
 refine ws rfl (os_con call57 rfl rfl (fun w' s => (program_done_con p_n p_on ao1 cap1 ao2 cap2 ao3 cap3  w' H s.hold h1 hc1 h2 hc2 h3 hc3 hG r2 e2)) (fun rr1 H1 hle1 hR1 => ?_))
 obtain ⟨ao5, cap5, rfl, h5, hc6⟩ := hR1
 refine Ve rfl (Ve rfl ?_)
 refine ws0 rfl (os_store (i := 0) (vs := [(.int .i64 r2.1.actuators), (.slice ao5 r2.1.steps.length cap5)]) (cs' := [(.int .i64 r2.1.actuators), (.slice ao5 r2.1.steps.length cap5)]) sizeOf48 rfl rfl rfl rfl rfl rfl rfl rfl rfl ?_)
 refine Va rfl (WL.nil (tn (WP.ret ?_)))
 obtain rfl := Option.some.inj hm
 refine retQ_ret results20 (Res.cell rfl (box_loads (i := 0) isAgg48 sizeOf48 rfl rfl) (Res.tmp rfl Res.nil)) rfl (fun w' s => ⟨s.below, ?_⟩)
 exact ⟨ao5, cap5, rfl, h5.mono s.le_newer, hc6⟩
theorem program_inputs_con (p_n : Node) (ao1 : Option Addr) (cap1 : Nat) (ao2 : Option Addr) (cap2 : Nat) (w : World) (H : Heap) (hH : Le H (hp w)) (h1 : SL H encStroke ao1 p_n.step.strokes) (hc1 : p_n.step.strokes.length ≤ cap1) (h2 : SL H encNode ao2 p_n.nodes) (hc2 : p_n.nodes.length ≤ cap2) (hG : Glob H) (r : (List (List UInt8))) (hm : program_inputs p_n = some r) :
  Con prog 61 [(.agg #[(.int .i64 p_n.kind), (.slice ao1 p_n.step.strokes.length cap1), (.int .i64 p_n.step.wait), (.int .i64 p_n.count), (mkS p_n.name), (.slice ao2 p_n.nodes.length cap2)])] w H (fun v H' => ∃ (ao3 : Option Addr) (cap3 : Nat), v = (.slice ao3 r.length cap3) ∧ SL H' encStr ao3 r ∧ r.length ≤ cap3) := by
 unfold program_inputs at hm
 refine con_of hH func61 rfl 22 ntmps61 rfl ?_
 refine WP.seq (WP.region ?_)
 refine ws rfl (os_box (cs := [(.int .i64 p_n.kind), (.slice ao1 p_n.step.strokes.length cap1), (.int .i64 p_n.step.wait), (.int .i64 p_n.count), (mkS p_n.name), (.slice ao2 p_n.nodes.length cap2)]) rfl rfl rfl (fun b1 => ?_))
 refine Va rfl (WL.nil (tn (WP.seq (WP.region ?_))))
 refine ws rfl (os_alloc (cs := [(.slice none 0 0)]) zeroValue36 rfl rfl (fun b2 => ?_))
 refine WL.nil (tn (WP.seq (WP.seq (WP.region (V rfl (ov_load_whole (i := 1) isAgg28 sizeOf28 rfl rfl rfl rfl) ?_)))))
 refine ws rfl (os_inline (cap := []) (vs := [(.agg #[(.int .i64 p_n.kind), (.slice ao1 p_n.step.strokes.length cap1), (.int .i64 p_n.step.wait), (.int .i64 p_n.count), (mkS p_n.name), (.slice ao2 p_n.nodes.length cap2)])]) call69 rfl rfl rfl func69 rfl 4 ntmps69 rfl (fun w' s => ?_))
 refine WP.seq (WP.region ?_)
 refine ws rfl (os_box (cs := [(.int .i64 p_n.kind), (.slice ao1 p_n.step.strokes.length cap1), (.int .i64 p_n.step.wait), (.int .i64 p_n.count), (mkS p_n.name), (.slice ao2 p_n.nodes.length cap2)]) rfl rfl rfl (fun b3 => ?_))
 refine Va rfl (WL.nil (tn (WP.seq (WP.region (V rfl (ov_makeFunc' (first := []) rfl rfl rfl) (Va rfl (WL.nil (tn (WP.ret ?_)))))))))
 refine retQ_ret (v := (.func (.func 109) #[] #[(pB b3 0)])) results69 (Res.tmp rfl Res.nil) rfl (fun w' s => ⟨_, ?_, s⟩)
 refine WL.nil (tn (WP.block ?_))
 refine WP.box_held (fun H1 hle1 hc4 => ?_)
 have hb1 : RowAt H1 (some ⟨b3, 0, none⟩) 0 [(.int .i64 p_n.kind), (.slice ao1 p_n.step.strokes.length cap1), (.int .i64 p_n.step.wait), (.int .i64 p_n.count), (mkS p_n.name), (.slice ao2 p_n.nodes.length cap2)] := rowAt_box hc4
 replace h1 := h1.mono hle1
 replace h2 := h2.mono hle1
 replace hG := hG.mono hle1
 have rl1 := RL.nil (α := (List UInt8)) H1 encStr
 refine WP.weaken (fun _ s => s.nilrow 9 (encStr).size) ?_
 obtain ⟨r1, e2, hm⟩ := bind_some hm
 refine WP.rangeC rfl (fun l1 D1 R1 hr1 w2 hs2 => ?_)
 have hY1 : Yields prog w H (.func (.yield l1) #[] #[]) encSeqNode (program_inputs_rng1) (fun (q1 : (List (List UInt8))) (H2 : Heap) (ms : List Ent) => ∃ (ao4 : Option Addr) (cap4 : Nat) (xs1 : List Value), Le H1 H2 ∧ RL H2 encStr q1 xs1 ∧ ms = [.obj l1 (R1 .ready none), .obj D1 (.deferred (some [])), .row 9 (encStr).size q1.length (.slice ao4 q1.length cap4) xs1, .blk b2 36 [(.slice ao4 q1.length cap4)], .blk b1 28 [(.int .i64 p_n.kind), (.slice ao1 p_n.step.strokes.length cap1), (.int .i64 p_n.step.wait), (.int .i64 p_n.count), (mkS p_n.name), (.slice ao2 p_n.nodes.length cap2)]]) (fun _ _ _ => False) := by
  refine ⟨?_, ?_, _, rfl, ?_⟩
  ·
   rintro q1 Ha Hb msx k ⟨ao4, cap4, xs1, h0, rl2, rfl⟩; exact ⟨ao4, cap4, xs1, h0.trans k, rl2.mono k, rfl⟩
  ·
   intro _ _ _ _ _ h; exact h.elim
  ·
   rintro q1 xx1 bq1 q2 vs H2 ms fr1 hm ⟨ao5, cap5, ao6, cap6, rfl, h4, hc5, h5, hc6⟩ ⟨ao4, cap4, xs1, hle2, rl2, rfl⟩ w1 hs1
   unfold program_inputs_rng1 at hm
   replace h1 := h1.mono hle2
   replace h2 := h2.mono hle2
   replace rl1 := rl1.mono hle2
   replace hG := hG.mono hle2
   replace hb1 := hb1.mono hle2
   refine yields_call (i := 0) (vs := [(.int .i64 xx1.1), (.agg #[(.int .i64 xx1.2.kind), (.slice ao5 xx1.2.step.strokes.length cap5), (.int .i64 xx1.2.step.wait), (.int .i64 xx1.2.count), (mkS xx1.2.name), (.slice ao6 xx1.2.nodes.length cap6)])]) (b := bq1) (q := q2) (T := (fun (q1 : (List (List UInt8))) (H2 : Heap) (ms : List Ent) => ∃ (ao4 : Option Addr) (cap4 : Nat) (xs1 : List Value), Le H1 H2 ∧ RL H2 encStr q1 xs1 ∧ ms = [.obj l1 (R1 .ready none), .obj D1 (.deferred (some [])), .row 9 (encStr).size q1.length (.slice ao4 q1.length cap4) xs1, .blk b2 36 [(.slice ao4 q1.length cap4)], .blk b1 28 [(.int .i64 p_n.kind), (.slice ao1 p_n.step.strokes.length cap1), (.int .i64 p_n.step.wait), (.int .i64 p_n.count), (mkS p_n.name), (.slice ao2 p_n.nodes.length cap2)]])) (T' := (fun _ _ _ => False)) hr1 hs1 rfl rfl rfl ?_
   refine WP.weaken (S₁ := St w H (.obj l1 (R1 .ready none) :: .obj D1 (.deferred (some [])) :: .row 9 (encStr).size q1.length (.slice ao4 q1.length cap4) xs1 :: .blk b2 36 [(.slice ao4 q1.length cap4)] :: .blk b1 28 [(.int .i64 p_n.kind), (.slice ao1 p_n.step.strokes.length cap1), (.int .i64 p_n.step.wait), (.int .i64 p_n.count), (mkS p_n.name), (.slice ao2 p_n.nodes.length cap2)] :: fr1) H2) (fun _ s => s) ?_
   refine WP.region ?_
   refine ws rfl (os_alloc (cs := [(.int .i64 0), (.slice none 0 0), (.int .i64 0), (.int .i64 0), (mkS []), (.slice none 0 0)]) zeroValue28 rfl rfl (fun b4 => ?_))
   refine ws0 rfl (os_store (i := 0) (vs := [(.int .i64 xx1.2.kind), (.slice ao5 xx1.2.step.strokes.length cap5), (.int .i64 xx1.2.step.wait), (.int .i64 xx1.2.count), (mkS xx1.2.name), (.slice ao6 xx1.2.nodes.length cap6)]) (cs' := [(.int .i64 xx1.2.kind), (.slice ao5 xx1.2.step.strokes.length cap5), (.int .i64 xx1.2.step.wait), (.int .i64 xx1.2.count), (mkS xx1.2.name), (.slice ao6 xx1.2.nodes.length cap6)]) sizeOf28 rfl rfl rfl rfl rfl rfl rfl rfl rfl ?_)
   refine WL.nil (tn ?_)
   refine begin_of (i := 1) rfl ?_
   obtain ⟨k1, hk1, hm⟩ := joinK_some hm
   refine WP.join_normal (fun g' S' => ∃ (l4 : (List (List UInt8))) (ao8 : Option Addr) (cap8 : Nat) (xs2 : List Value), RL H2 encStr l4 xs2 ∧ Sub [(1000000007, (.bool false))] g' ∧ (∀ w', S' w' → St w H (.obj l1 (R1 .busy none) :: .obj D1 (.deferred (some [])) :: .row 9 (encStr).size l4.length (.slice ao8 l4.length cap8) xs2 :: .blk b2 36 [(.slice ao8 l4.length cap8)] :: .blk b1 28 [(.int .i64 p_n.kind), (.slice ao1 p_n.step.strokes.length cap1), (.int .i64 p_n.step.wait), (.int .i64 p_n.count), (mkS p_n.name), (.slice ao2 p_n.nodes.length cap2)] :: fr1) H2 w') ∧ k1 l4 = some (bq1, q2)) ?_ ?_
   ·
    refine WP.block (WP.seq (WP.region (V rfl (ov_fieldAddr underlying28 rfl rfl rfl sizeOf3 rfl rfl) (Vl 0 isAgg3 rfl (V rfl (ov_eql rfl rfl rfl) (WL.nil (tn ?_)))))))
    refine WP.cond rfl (fun hc7 => ?_) (fun hc7 => ?_)
    ·
     replace hm := ite_t hc7 hm
     refine WP.region (Vl 4 isAgg36 rfl (V rfl (ov_fieldAddr underlying28 rfl rfl rfl sizeOf9 rfl rfl) (Vl 0 isAgg9 rfl ?_)))
     have rl3 : RL H2 encStr ([xx1.2.name] : List (List UInt8)) [(mkS xx1.2.name)] := RL.cons (cs := [(mkS xx1.2.name)]) (xs := []) rfl (RL.nil _ _)
     refine ws rfl (os_buildSlice (cs := [(mkS xx1.2.name)]) (E := 9) (sz := 1) rfl rfl (fun _ => by kernel_rfl) rfl (by decide) (fun b5 => ?_))
     obtain ⟨l3, e1, hm⟩ := bind_some hm
     refine ws rfl (os_app (i := 4) (j := 0) (En := encStr) (xs := xs1) (ys := [(mkS xx1.2.name)]) underlying36 (by kernel_rfl : (prog.info? 9).map (fun i => (i.zero, i.size, i.bytes)) = some (some (mkS []), (encStr).size, 16)) rfl (by decide) rfl rfl rfl rfl rfl rfl rl2 rl3 e1 (fun ao7 cap7 rl4 => ?_))
     refine ws0 rfl (os_store (i := 5) (vs := [(.slice ao7 (q1 ++ ([xx1.2.name] : List (List UInt8))).length cap7)]) (cs' := [(.slice ao7 (q1 ++ ([xx1.2.name] : List (List UInt8))).length cap7)]) sizeOf36 rfl rfl rfl rfl rfl rfl rfl rfl rfl ?_)
     refine WL.nil (bn (tn ?_))
     exact ⟨(q1 ++ ([xx1.2.name] : List (List UInt8))), ao7, cap7, (xs1 ++ [(mkS xx1.2.name)]), rl4, (Sub.all rfl), fun w' s => (s.selectT 7 [2, 3, 4, 5, 6] (by decide) rfl rfl), hm⟩
    ·
     replace hm := ite_f hc7 hm
     refine WP.skip (bn (tn ?_))
     exact ⟨q1, ao4, cap4, xs1, rl2, (Sub.all rfl), fun w' s => (s.selectT 6 [1, 2, 3, 4, 5] (by decide) rfl rfl), hm⟩
   ·
    rintro g' S' ⟨l4, ao8, cap8, xs2, rl5, hsub1, hS1, hm⟩
    replace hm := (congrFun hk1 l4).symm.trans hm
    refine round_from (i := 0) hS1 rfl ?_
    obtain ⟨rfl, rfl⟩ := Prod.mk.inj (Option.some.inj hm)
    exact ⟨rfl, H2, [.obj l1 (R1 .ready none), .obj D1 (.deferred (some [])), .row 9 (encStr).size l4.length (.slice ao8 l4.length cap8) xs2, .blk b2 36 [(.slice ao8 l4.length cap8)], .blk b1 28 [(.int .i64 p_n.kind), (.slice ao1 p_n.step.strokes.length cap1), (.int .i64 p_n.step.wait), (.int .i64 p_n.count), (mkS p_n.name), (.slice ao2 p_n.nodes.length cap2)]], (Le.refl _), condT ⟨ao8, cap8, xs2, (hle2.trans (Le.refl _)), rl5, rfl⟩, fun w' s => s⟩
 have hT1 : TH hY1 ([] : List (List UInt8)) H1 [.obj l1 (R1 .ready none), .obj D1 (.deferred (some [])), .row 9 (encStr).size ([] : List (List UInt8)).length (.slice none ([] : List (List UInt8)).length 0) [], .blk b2 36 [(.slice none ([] : List (List UInt8)).length 0)], .blk b1 28 [(.int .i64 p_n.kind), (.slice ao1 p_n.step.strokes.length cap1), (.int .i64 p_n.step.wait), (.int .i64 p_n.count), (mkS p_n.name), (.slice ao2 p_n.nodes.length cap2)]] := ⟨none, 0, [], Le.refl _, rl1, rfl⟩
 refine ⟨109, [(pB b3 0)], rfl, call109, ?_⟩
 refine Calls.mono ((program_preorder_1_con (program_inputs_rng1) hY1 p_n ([] : List (List UInt8)) b3 ao1 cap1 ao2 cap2 [] [.obj l1 (R1 .ready none), .obj D1 (.deferred (some [])), .row 9 (encStr).size ([] : List (List UInt8)).length (.slice none ([] : List (List UInt8)).length 0) [], .blk b2 36 [(.slice none ([] : List (List UInt8)).length 0)], .blk b1 28 [(.int .i64 p_n.kind), (.slice ao1 p_n.step.strokes.length cap1), (.int .i64 p_n.step.wait), (.int .i64 p_n.count), (mkS p_n.name), (.slice ao2 p_n.nodes.length cap2)]] H1 h1 hc1 h2 hc2 hb1 hT1 hG r1 e2) w2 hs2) ?_
 rintro e w3 ⟨rv1, H3, ms1, rfl, hle3, ⟨rfl, tl1, rfl, hT2⟩, hs3⟩
 refine ⟨_, rfl, ?_⟩
 rcases Bool.eq_false_or_eq_true r1.1 with hc8 | hc8
 ·
  replace hm := ite_t hc8 hm
  obtain ⟨ao9, cap9, xs3, hle4, rl6, rfl⟩ := cond_t hc8 hT2
  refine ⟨St w H [.obj l1 (R1 .ready none), .obj D1 (.deferred (some [])), .row 9 (encStr).size r1.2.length (.slice ao9 r1.2.length cap9) xs3, .blk b2 36 [(.slice ao9 r1.2.length cap9)], .blk b1 28 [(.int .i64 p_n.kind), (.slice ao1 p_n.step.strokes.length cap1), (.int .i64 p_n.step.wait), (.int .i64 p_n.count), (mkS p_n.name), (.slice ao2 p_n.nodes.length cap2)]] H3, ?_, hs3⟩
  refine after_normal ?_
  refine bn (tn (WP.seq (WP.region (Vl 2 isAgg36 rfl ?_))))
  obtain ⟨l5, e3, hm⟩ := bind_some hm
  refine ws rfl (os_sortS (i := 1) rfl rfl rfl rl6 e3 (fun ys1 hlen1 rl7 => ?_))
  rw [← hlen1]
  refine WL.nil (tn (WP.seq (WP.region (Vl 2 isAgg36 rfl ?_))))
  obtain ⟨l6, e4, hm⟩ := bind_some hm
  refine ws rfl (os_compactS (i := 1) rfl rfl rfl rl7 e4 (fun ys2 rl8 => ?_))
  refine Va rfl (WL.nil (tn (WP.ret ?_)))
  obtain rfl := Option.some.inj hm
  refine retQ_retM (i := 0) rfl results61 (Res.tmp rfl Res.nil) rfl (fun w' s => ⟨s.below, ?_⟩)
  obtain ⟨h6, hc9⟩ := s.ret_row (i := 0) rfl rl8
  exact ⟨ao9, cap9, rfl, h6, hc9⟩
 replace hm := ite_f hc8 hm
 exact (none_some hm).elim
theorem program_Faulty_con (p_n : Node) (ao1 : Option Addr) (cap1 : Nat) (ao2 : Option Addr) (cap2 : Nat) (w : World) (H : Heap) (hH : Le H (hp w)) (h1 : SL H encStroke ao1 p_n.step.strokes) (hc1 : p_n.step.strokes.length ≤ cap1) (h2 : SL H encNode ao2 p_n.nodes) (hc2 : p_n.nodes.length ≤ cap2) (hG : Glob H) (r : ((List (List UInt8)) × Int × Int)) (hm : program_Faulty p_n = some r) :
  Con prog 25 [(.agg #[(.int .i64 p_n.kind), (.slice ao1 p_n.step.strokes.length cap1), (.int .i64 p_n.step.wait), (.int .i64 p_n.count), (mkS p_n.name), (.slice ao2 p_n.nodes.length cap2)])] w H (fun v H' => ∃ (ao3 : Option Addr) (cap3 : Nat), v = (.tuple #[(.slice ao3 r.1.length cap3), (.int .i64 r.2.1), (.int .i64 r.2.2)]) ∧ SL H' encStr ao3 r.1 ∧ r.1.length ≤ cap3) := by
 unfold program_Faulty at hm
 refine con_of hH func25 rfl 57 ntmps25 rfl ?_
 refine WP.seq (WP.region ?_)
 refine ws rfl (os_box (cs := [(.int .i64 p_n.kind), (.slice ao1 p_n.step.strokes.length cap1), (.int .i64 p_n.step.wait), (.int .i64 p_n.count), (mkS p_n.name), (.slice ao2 p_n.nodes.length cap2)]) rfl rfl rfl (fun b1 => ?_))
 refine Va rfl (Va rfl (Va rfl (WL.nil (tn (WP.seq (WP.seq (WP.region (V rfl (ov_load_whole (i := 0) isAgg28 sizeOf28 rfl rfl rfl rfl) ?_))))))))
 obtain ⟨r1, e1, hm⟩ := bind_some hm
 refine wo rfl (oq_con (r := (.int .i64 r1)) call31 rfl rfl (fun w' s => ⟨_, (program_Check_con p_n ao1 cap1 ao2 cap2  w' H s.hold h1 hc1 h2 hc2 hG r1 e1)⟩)) ?_
 refine Va rfl (WL.nil (tn (WP.seq (WP.region (Vm rfl (V rfl (ov_neq rfl rfl rfl) (WL.nil (tn ?_))))))))
 refine WP.cond rfl (fun hc4 => ?_) (fun hc4 => ?_)
 ·
  replace hm := ite_t hc4 hm
  refine WP.seq (WP.region (Vm rfl (Va rfl (Va rfl (Va rfl (WL.nil (tn (WP.ret (then_ret ?_)))))))))
  obtain rfl := Option.some.inj hm
  refine retQ_ret results25 (Res.tmp rfl (Res.tmp rfl (Res.tmp rfl Res.nil))) rfl (fun w' s => ⟨s.below, ?_⟩)
  exact ⟨none, 0, rfl, SL.nil _ _ _, Nat.le_refl _⟩
 replace hm := ite_f hc4 hm
 refine WP.skip (tn (WP.seq (WP.region (V rfl (ov_load_whole (i := 0) isAgg28 sizeOf28 rfl rfl rfl rfl) ?_))))
 obtain ⟨r2, e2, hm⟩ := bind_some hm
 refine ws rfl (os_con call61 rfl rfl (fun w' s => (program_inputs_con p_n ao1 cap1 ao2 cap2  w' H s.hold h1 hc1 h2 hc2 hG r2 e2)) (fun rr1 H1 hle1 hR1 => ?_))
 replace h1 := h1.mono hle1
 replace h2 := h2.mono hle1
 replace hG := hG.mono hle1
 obtain ⟨ao4, cap4, rfl, h4, hc5⟩ := hR1
 refine Va rfl (WL.nil (tn (WP.seq (WP.seq (WP.region (Vm rfl (V rfl (ov_len_slice underlying36 rfl rfl) (V rfl (ov_gtr rfl rfl rfl) (WL.nil (tn ?_))))))))))
 refine WP.cond rfl (fun hc6 => ?_) (fun hc6 => ?_)
 ·
  replace hm := ite_t hc6 hm
  refine WP.seq (WP.region (Va rfl (Va rfl (Va rfl (WL.nil (tn (WP.ret (then_ret ?_))))))))
  obtain rfl := Option.some.inj hm
  refine retQ_ret results25 (Res.tmp rfl (Res.tmp rfl (Res.tmp rfl Res.nil))) rfl (fun w' s => ⟨s.below, ?_⟩)
  exact ⟨none, 0, rfl, SL.nil _ _ _, Nat.le_refl _⟩
 replace hm := ite_f hc6 hm
 refine WP.skip (tn ?_)
 obtain ⟨k1, hk1, hm⟩ := joinK_some hm
 refine WP.seq_join (fun g' S' => ∃ (H6 : Heap), Le H1 H6 ∧ Sub [(1000000007, (.bool false))] g' ∧ (∀ w', S' w' → St w H [] H6 w') ∧ k1 = some r) ?_ ?_
 ·
  refine WP.seq (WP.region (Vm rfl (V rfl (ov_len_slice underlying36 rfl rfl) ?_)))
  obtain ⟨u1, e3, hm⟩ := bind_some hm
  replace e3 := guardO_some e3
  refine V rfl (ov_shlG (b := 64) rfl e3 rfl rfl rfl) (Vm rfl (WL.nil (tn (WP.block ?_))))
  refine WP.loop (fun m1 g' S' => ∃ (H2 : Heap) (i1 : Int), Le H1 H2 ∧ Sub [(1, (pB b1 0)), (6, (.slice ao4 r2.length cap4)), (25, (.int .i64 (IntKind.wrap .i64 ((1 : Int) * 2 ^ Int.toNat (r2.length : Int))))), (26, (.int .i64 i1)), (1000000007, (.bool false))] g' ∧ (∀ w', S' w' → St w H [.blk b1 28 [(.int .i64 p_n.kind), (.slice ao1 p_n.step.strokes.length cap1), (.int .i64 p_n.step.wait), (.int .i64 p_n.count), (mkS p_n.name), (.slice ao2 p_n.nodes.length cap2)]] H2 w') ∧ program_Faulty_loop1 p_n r2 k1 m1 i1 = some r) ((Int.toNat ((IntKind.wrap .i64 ((1 : Int) * 2 ^ Int.toNat (r2.length : Int))) - 0) + 1)) ⟨H1, 0, (Le.refl _), (Sub.all rfl), fun w' s => s, hm⟩ ?_ ?_
  ·
   rintro g' S' ⟨_, _, _, _, _, hm⟩
   exact none_some hm
  rintro m1 g' S' ⟨H2, i1, hle2, hsub1, hS1, hm⟩
  refine WP.sub hsub1 (WP.weaken hS1 ?_)
  rw [program_Faulty_loop1] at hm
  replace h4 := h4.mono hle2
  replace h1 := h1.mono hle2
  replace h2 := h2.mono hle2
  replace hG := hG.mono hle2
  refine WP.seq (WP.region (V rfl (ov_lss rfl rfl rfl) (WL.nil (tn (WP.seq ?_)))))
  refine WP.cond rfl (fun hc7 => ?_) (fun hc7 => ?_)
  ·
   replace hm := ite_t hc7 hm
   refine WP.skip (tn ?_)
   obtain ⟨k2, hk2, hm⟩ := joinK_some hm
   refine WP.seq_join (fun g' S' => ∃ (H5 : Heap), Le H2 H5 ∧ Sub [(1, (pB b1 0)), (6, (.slice ao4 r2.length cap4)), (25, (.int .i64 (IntKind.wrap .i64 ((1 : Int) * 2 ^ Int.toNat (r2.length : Int))))), (26, (.int .i64 i1)), (1000000007, (.bool false))] g' ∧ (∀ w', S' w' → St w H [.blk b1 28 [(.int .i64 p_n.kind), (.slice ao1 p_n.step.strokes.length cap1), (.int .i64 p_n.step.wait), (.int .i64 p_n.count), (mkS p_n.name), (.slice ao2 p_n.nodes.length cap2)]] H5 w') ∧ k2 = some r) ?_ ?_
   ·
    refine WP.block (WP.seq (WP.region (Vm rfl (Va rfl (WL.nil (tn (WP.seq (WP.region (Va rfl (WL.nil (tn ?_)))))))))))
    obtain ⟨k3, hk3, hm⟩ := joinK_some hm
    refine WP.seq_join (fun g' S' => ∃ (l4 : (List (List UInt8))) (ao8 : Option Addr) (cap8 : Nat) (xs3 : List Value), RL H2 encStr l4 xs3 ∧ Sub [(1, (pB b1 0)), (6, (.slice ao4 r2.length cap4)), (8, (.slice ao8 l4.length cap8)), (25, (.int .i64 (IntKind.wrap .i64 ((1 : Int) * 2 ^ Int.toNat (r2.length : Int))))), (26, (.int .i64 i1)), (1000000007, (.bool false))] g' ∧ (∀ w', S' w' → St w H [.row 9 (encStr).size l4.length (.slice ao8 l4.length cap8) xs3, .blk b1 28 [(.int .i64 p_n.kind), (.slice ao1 p_n.step.strokes.length cap1), (.int .i64 p_n.step.wait), (.int .i64 p_n.count), (mkS p_n.name), (.slice ao2 p_n.nodes.length cap2)]] H2 w') ∧ k3 l4 = some r) ?_ ?_
    ·
     refine WP.seq (WP.region (Vm rfl (V rfl (ov_len_slice underlying36 rfl rfl) (Vm rfl (WL.nil (tn (WP.block ?_)))))))
     have rl1 := RL.nil (α := (List UInt8)) H2 encStr
     refine WP.weaken (fun _ s => s.nilrow 9 (encStr).size) ?_
     refine WP.loop (fun m2 g' S' => ∃ (i2 : Int) (l1 : (List (List UInt8))) (ao5 : Option Addr) (cap5 : Nat) (xs1 : List Value), RL H2 encStr l1 xs1 ∧ Sub [(1, (pB b1 0)), (6, (.slice ao4 r2.length cap4)), (7, (.int .i64 i1)), (8, (.slice ao5 l1.length cap5)), (25, (.int .i64 (IntKind.wrap .i64 ((1 : Int) * 2 ^ Int.toNat (r2.length : Int))))), (26, (.int .i64 i1)), (29, (.slice ao4 r2.length cap4)), (30, (.int .i64 (r2.length : Int))), (31, (.int .i64 i2)), (1000000007, (.bool false))] g' ∧ (∀ w', S' w' → St w H [.row 9 (encStr).size l1.length (.slice ao5 l1.length cap5) xs1, .blk b1 28 [(.int .i64 p_n.kind), (.slice ao1 p_n.step.strokes.length cap1), (.int .i64 p_n.step.wait), (.int .i64 p_n.count), (mkS p_n.name), (.slice ao2 p_n.nodes.length cap2)]] H2 w') ∧ program_Faulty_loop2 r2 i1 k3 m2 i2 l1 = some r) ((Int.toNat ((r2.length : Int) - 0) + 1)) ⟨0, ([] : List (List UInt8)), none, 0, [], rl1, (Sub.all rfl), fun w' s => s, hm⟩ ?_ ?_
     ·
      rintro g' S' ⟨_, _, _, _, _, _, _, _, hm⟩
      exact none_some hm
     rintro m2 g' S' ⟨i2, l1, ao5, cap5, xs1, rl2, hsub2, hS2, hm⟩
     refine WP.sub hsub2 (WP.weaken hS2 ?_)
     rw [program_Faulty_loop2] at hm
     refine WP.seq (WP.region (V rfl (ov_lss rfl rfl rfl) (WL.nil (tn (WP.seq ?_)))))
     refine WP.cond rfl (fun hc8 => ?_) (fun hc8 => ?_)
     ·
      replace hm := ite_t hc8 hm
      refine WP.skip (tn ?_)
      obtain ⟨k4, hk4, hm⟩ := joinK_some hm
      refine WP.seq_join (fun g' S' => ∃ (l3 : (List (List UInt8))) (ao7 : Option Addr) (cap7 : Nat) (xs2 : List Value), RL H2 encStr l3 xs2 ∧ Sub [(1, (pB b1 0)), (6, (.slice ao4 r2.length cap4)), (7, (.int .i64 i1)), (8, (.slice ao7 l3.length cap7)), (25, (.int .i64 (IntKind.wrap .i64 ((1 : Int) * 2 ^ Int.toNat (r2.length : Int))))), (26, (.int .i64 i1)), (29, (.slice ao4 r2.length cap4)), (30, (.int .i64 (r2.length : Int))), (31, (.int .i64 i2)), (1000000007, (.bool false))] g' ∧ (∀ w', S' w' → St w H [.row 9 (encStr).size l3.length (.slice ao7 l3.length cap7) xs2, .blk b1 28 [(.int .i64 p_n.kind), (.slice ao1 p_n.step.strokes.length cap1), (.int .i64 p_n.step.wait), (.int .i64 p_n.count), (mkS p_n.name), (.slice ao2 p_n.nodes.length cap2)]] H2 w') ∧ k4 l3 = some r) ?_ ?_
      ·
       refine WP.block (WP.seq (WP.region (Vm rfl ?_)))
       obtain ⟨x1, e4, hm⟩ := bind_some hm
       obtain ⟨h5, h6, h7, cs1, h8, h9⟩ := h4.get e4 (by decide)
       obtain rfl : cs1 = [(mkS x1)] := h8
       refine V rfl (ov_indexAddr underlying36 sizeOf9 rfl rfl rfl h5 h6 h7) (V rfl (ov_load_elem (v := (mkS x1)) isAgg9 rfl rfl h9) (Va rfl (Va rfl (WL.nil (tn (WP.seq (WP.region (Vm rfl (Vm rfl ?_)))))))))
       obtain ⟨u2, e5, hm⟩ := bind_some hm
       replace e5 := guardO_some e5
       refine V rfl (ov_shrG (b := 64) rfl e5 rfl rfl rfl) (V rfl (ov_and rfl rfl rfl) (V rfl (ov_eql rfl rfl rfl) (WL.nil (tn ?_))))
       refine WP.cond rfl (fun hc9 => ?_) (fun hc9 => ?_)
       ·
        replace hm := ite_t hc9 hm
        refine WP.region (Vm rfl (Vm rfl ?_))
        have rl3 : RL H2 encStr ([x1] : List (List UInt8)) [(mkS x1)] := RL.cons (cs := [(mkS x1)]) (xs := []) rfl (RL.nil _ _)
        refine ws rfl (os_buildSlice (cs := [(mkS x1)]) (E := 9) (sz := 1) rfl rfl (fun _ => by kernel_rfl) rfl (by decide) (fun b2 => ?_))
        obtain ⟨l2, e6, hm⟩ := bind_some hm
        refine ws rfl (os_app (i := 1) (j := 0) (En := encStr) (xs := xs1) (ys := [(mkS x1)]) underlying36 (by kernel_rfl : (prog.info? 9).map (fun i => (i.zero, i.size, i.bytes)) = some (some (mkS []), (encStr).size, 16)) rfl (by decide) rfl rfl rfl rfl rfl rfl rl2 rl3 e6 (fun ao6 cap6 rl4 => ?_))
        refine Va rfl (WL.nil (bn (tn ?_)))
        exact ⟨(l1 ++ ([x1] : List (List UInt8))), ao6, cap6, (xs1 ++ [(mkS x1)]), rl4, (Sub.all rfl), fun w' s => (s.select [1, 2] (by decide) rfl), hm⟩
       replace hm := ite_f hc9 hm
       refine WP.skip (bn (tn ?_))
       exact ⟨l1, ao5, cap5, xs1, rl2, (Sub.all rfl), fun w' s => s, hm⟩
      rintro g' S' ⟨l3, ao7, cap7, xs2, rl5, hsub3, hS3, hm⟩
      refine WP.sub hsub3 (WP.weaken hS3 ?_)
      replace hm := (congrFun hk4 l3).symm.trans hm
      refine WP.region (V rfl (ov_add rfl rfl rfl) (Vm rfl (WL.nil (tn ?_))))
      exact ⟨(IntKind.wrap .i64 (i2 + 1)), l3, ao7, cap7, xs2, rl5, (Sub.all rfl), fun w' s => s, hm⟩
     replace hm := ite_f hc8 hm
     refine WP.exit (then_exit (then_exit (block_here (tn ?_))))
     exact ⟨l1, ao5, cap5, xs1, rl2, (Sub.all rfl), fun w' s => s, hm⟩
    rintro g' S' ⟨l4, ao8, cap8, xs3, rl6, hsub4, hS4, hm⟩
    refine WP.sub hsub4 (WP.weaken hS4 ?_)
    replace hm := (congrFun hk3 l4).symm.trans hm
    refine WP.seq (WP.region (V rfl (ov_load_whole (i := 1) isAgg28 sizeOf28 rfl rfl rfl rfl) (Vm rfl ?_)))
    refine WL.held rl6 (fun H3 hc10 hle3 h10 => ?_)
    replace h1 := h1.mono hle3
    replace h2 := h2.mono hle3
    replace hG := hG.mono hle3
    obtain ⟨r3, e7, hm⟩ := bind_some hm
    refine ws rfl (os_con call57 rfl rfl (fun w' s => (program_done_con p_n l4 ao1 cap1 ao2 cap2 ao8 cap8  w' H3 s.hold h1 hc1 h2 hc2 h10 hc10 hG r3 e7)) (fun rr2 H4 hle4 hR2 => ?_))
    replace h10 := h10.mono hle4
    obtain ⟨ao9, cap9, rfl, h11, hc11⟩ := hR2
    refine Vm rfl (Ve rfl (Ve rfl ?_))
    refine ws rfl (os_alloc (cs := [(.int .i64 0), (.slice none 0 0)]) zeroValue48 rfl rfl (fun b3 => ?_))
    refine ws0 rfl (os_store (i := 0) (vs := [(.int .i64 r3.1.actuators), (.slice ao9 r3.1.steps.length cap9)]) (cs' := [(.int .i64 r3.1.actuators), (.slice ao9 r3.1.steps.length cap9)]) sizeOf48 rfl rfl rfl rfl rfl rfl rfl rfl rfl ?_)
    refine Va rfl (WL.nil (tn (WP.seq (WP.region (Vm rfl (V rfl (ov_neq rfl rfl rfl) (WL.nil (tn ?_))))))))
    refine WP.cond rfl (fun hc12 => ?_) (fun hc12 => ?_)
    ·
     replace hm := ite_t hc12 hm
     refine WP.seq (WP.region (Vm rfl (Vm rfl (Va rfl (Va rfl (Va rfl (WL.nil (tn (WP.ret (block_ret (then_ret (then_ret (block_ret ?_)))))))))))))
     refine then_ret ?_
     obtain rfl := Option.some.inj hm
     refine retQ_ret results25 (Res.tmp rfl (Res.tmp rfl (Res.tmp rfl Res.nil))) rfl (fun w' s => ⟨s.below, ?_⟩)
     exact ⟨ao8, cap8, rfl, h10.mono s.le_newer, hc10⟩
    replace hm := ite_f hc12 hm
    refine WP.skip (bn (tn ?_))
    exact ⟨H4, (hle3.trans hle4), (Sub.all rfl), fun w' s => (s.select [1] (by decide) rfl), hm⟩
   rintro g' S' ⟨H5, hle5, hsub5, hS5, hm⟩
   refine WP.sub hsub5 (WP.weaken hS5 ?_)
   replace hm := hk2.symm.trans hm
   refine WP.region (V rfl (ov_add rfl rfl rfl) (Vm rfl (WL.nil (tn ?_))))
   exact ⟨H5, (IntKind.wrap .i64 (i1 + 1)), (hle2.trans hle5), (Sub.all rfl), fun w' s => s, hm⟩
  replace hm := ite_f hc7 hm
  refine WP.exit (then_exit (then_exit (block_here (tn ?_))))
  exact ⟨H2, hle2, (Sub.all rfl), fun w' s => (s.select [] (by decide) rfl), hm⟩
 rintro g' S' ⟨H6, hle6, hsub6, hS6, hm⟩
 refine WP.sub hsub6 (WP.weaken hS6 ?_)
 replace hm := hk1.symm.trans hm
 refine WP.seq (WP.region (Va rfl (Va rfl (Va rfl (WL.nil (tn (WP.ret ?_)))))))
 obtain rfl := Option.some.inj hm
 refine retQ_ret results25 (Res.tmp rfl (Res.tmp rfl (Res.tmp rfl Res.nil))) rfl (fun w' s => ⟨s.below, ?_⟩)
 exact ⟨none, 0, rfl, SL.nil _ _ _, Nat.le_refl _⟩
theorem stroke_written_con (p_x : Stroke) (w : World) (H : Heap) (hH : Le H (hp w)) (hG : Glob H) (r : (List UInt8)) (hm : stroke_written p_x = some r) :
  Con prog 139 [(.agg #[(.int .i64 p_x.actuator), (.bool p_x.out)])] w H (fun v _ => v = (mkS r)) := by
 unfold stroke_written at hm
 refine con_of hH func139 rfl 15 ntmps139 rfl ?_
 refine WP.seq (WP.region ?_)
 refine ws rfl (os_box (cs := [(.int .i64 p_x.actuator), (.bool p_x.out)]) rfl rfl rfl (fun b1 => ?_))
 refine Va rfl (WL.nil (tn (WP.seq (WP.region (V rfl (ov_fieldAddr underlying112 rfl rfl rfl sizeOf3 rfl rfl) (Vl 0 isAgg3 rfl (V rfl (ov_add rfl rfl rfl) (V rfl (ov_convert_int underlying3 underlying21 rfl rfl) (V rfl (ov_convert_rune' underlying21 underlying9 rfl rfl) (Va rfl (WL.nil (tn (WP.seq ?_)))))))))))))
 refine WP.seq (WP.region (V rfl (ov_fieldAddr underlying112 rfl rfl rfl sizeOf4 rfl rfl) (Vl 0 isAgg4 rfl (WL.nil (tn ?_)))))
 refine WP.cond rfl (fun hc1 => ?_) (fun hc1 => ?_)
 ·
  replace hm := ite_t hc1 hm
  refine WP.seq (WP.region (Vm rfl ?_))
  obtain ⟨s1, e1, hm⟩ := bind_some hm
  refine V rfl (ov_sadd' e1 rfl rfl rfl) (Va rfl (WL.nil (tn (WP.ret (then_ret ?_)))))
  obtain rfl := Option.some.inj hm
  refine retQ_ret results139 (Res.tmp rfl Res.nil) rfl (fun w' s => ⟨s.below, ?_⟩)
  exact rfl
 replace hm := ite_f hc1 hm
 refine WP.skip (tn (WP.seq (WP.region (Vm rfl ?_))))
 obtain ⟨s2, e2, hm⟩ := bind_some hm
 refine V rfl (ov_sadd' e2 rfl rfl rfl) (Va rfl (WL.nil (tn (WP.ret ?_))))
 obtain rfl := Option.some.inj hm
 refine retQ_ret results139 (Res.tmp rfl Res.nil) rfl (fun w' s => ⟨s.below, ?_⟩)
 exact rfl
theorem stroke_Format_con (p_l : (List Step)) (ao1 : Option Addr) (cap1 : Nat) (w : World) (H : Heap) (hH : Le H (hp w)) (h1 : SL H encStep ao1 p_l) (hc1 : p_l.length ≤ cap1) (hG : Glob H) (r : ((List UInt8) × Int)) (hm : stroke_Format p_l = some r) :
  Con prog 104 [(.slice ao1 p_l.length cap1)] w H (fun v _ => v = (.tuple #[(mkS r.1), (.int .i64 r.2)])) := by
 unfold stroke_Format at hm
 refine con_of hH func104 rfl 55 ntmps104 rfl ?_
 refine WP.seq (WP.region (Va rfl (Va rfl (WL.nil (tn (WP.seq (WP.seq (WP.region (Vm rfl (V rfl (ov_len_slice underlying42 rfl rfl) (V rfl (ov_gtr rfl rfl rfl) (WL.nil (tn ?_)))))))))))))
 refine WP.cond rfl (fun hc2 => ?_) (fun hc2 => ?_)
 ·
  replace hm := ite_t hc2 hm
  refine WP.seq (WP.region (Va rfl (Va rfl (WL.nil (tn (WP.ret (then_ret ?_)))))))
  obtain rfl := Option.some.inj hm
  refine retQ_ret results104 (Res.tmp rfl (Res.tmp rfl Res.nil)) rfl (fun w' s => ⟨s.below, ?_⟩)
  exact rfl
 replace hm := ite_f hc2 hm
 refine WP.skip (tn (WP.seq (WP.region (Va rfl (WL.nil (tn ?_))))))
 obtain ⟨k1, hk1, hm⟩ := joinK_some hm
 refine WP.seq_join (fun g' S' => ∃ (l9 : (List (List UInt8))) (ao11 : Option Addr) (cap11 : Nat) (xs6 : List Value), RL H encStr l9 xs6 ∧ Sub [(4, (.slice ao11 l9.length cap11)), (1000000007, (.bool false))] g' ∧ (∀ w', S' w' → St w H [.row 9 (encStr).size l9.length (.slice ao11 l9.length cap11) xs6] H w') ∧ k1 l9 = some r) ?_ ?_
 ·
  refine WP.seq (WP.region (Vm rfl (V rfl (ov_len_slice underlying42 rfl rfl) (Vm rfl (WL.nil (tn (WP.block ?_)))))))
  have rl1 := RL.nil (α := (List UInt8)) H encStr
  refine WP.weaken (fun _ s => s.nilrow 9 (encStr).size) ?_
  refine WP.loop (fun m1 g' S' => ∃ (i1 : Int) (l1 : (List (List UInt8))) (ao2 : Option Addr) (cap2 : Nat) (xs1 : List Value), RL H encStr l1 xs1 ∧ Sub [(4, (.slice ao2 l1.length cap2)), (14, (.slice ao1 p_l.length cap1)), (15, (.int .i64 (p_l.length : Int))), (16, (.int .i64 i1)), (1000000007, (.bool false))] g' ∧ (∀ w', S' w' → St w H [.row 9 (encStr).size l1.length (.slice ao2 l1.length cap2) xs1] H w') ∧ stroke_Format_loop1 p_l k1 m1 i1 l1 = some r) ((Int.toNat ((p_l.length : Int) - 0) + 1)) ⟨0, ([] : List (List UInt8)), none, 0, [], rl1, (Sub.all rfl), fun w' s => s, hm⟩ ?_ ?_
  ·
   rintro g' S' ⟨_, _, _, _, _, _, _, _, hm⟩
   exact none_some hm
  rintro m1 g' S' ⟨i1, l1, ao2, cap2, xs1, rl2, hsub1, hS1, hm⟩
  refine WP.sub hsub1 (WP.weaken hS1 ?_)
  rw [stroke_Format_loop1] at hm
  refine WP.seq (WP.region (V rfl (ov_lss rfl rfl rfl) (WL.nil (tn (WP.seq ?_)))))
  refine WP.cond rfl (fun hc3 => ?_) (fun hc3 => ?_)
  ·
   replace hm := ite_t hc3 hm
   refine WP.skip (tn ?_)
   obtain ⟨k2, hk2, hm⟩ := joinK_some hm
   refine WP.seq_join (fun g' S' => ∃ (l8 : (List (List UInt8))) (ao10 : Option Addr) (cap10 : Nat) (xs5 : List Value), RL H encStr l8 xs5 ∧ Sub [(4, (.slice ao10 l8.length cap10)), (14, (.slice ao1 p_l.length cap1)), (15, (.int .i64 (p_l.length : Int))), (16, (.int .i64 i1)), (1000000007, (.bool false))] g' ∧ (∀ w', S' w' → St w H [.row 9 (encStr).size l8.length (.slice ao10 l8.length cap10) xs5] H w') ∧ k2 l8 = some r) ?_ ?_
   ·
    refine WP.block (WP.seq (WP.region ?_))
    obtain ⟨x1, e1, hm⟩ := bind_some hm
    obtain ⟨h3, h4, h5, cs1, h6, h7⟩ := h1.get e1 (by decide)
    obtain ⟨ao3, cap3, rfl, h2, hc4⟩ := h6
    refine V rfl (ov_indexAddr underlying42 sizeOf25 rfl rfl rfl h3 h4 h5) (V rfl (ov_load_elems (vs := [(.slice ao3 x1.strokes.length cap3), (.int .i64 x1.wait)]) isAgg25 sizeOf25 rfl rfl rfl h7 h5) ?_)
    refine ws rfl (os_alloc (cs := [(.slice none 0 0), (.int .i64 0)]) zeroValue25 rfl rfl (fun b1 => ?_))
    refine ws0 rfl (os_store (i := 0) (vs := [(.slice ao3 x1.strokes.length cap3), (.int .i64 x1.wait)]) (cs' := [(.slice ao3 x1.strokes.length cap3), (.int .i64 x1.wait)]) sizeOf25 rfl rfl rfl rfl rfl rfl rfl rfl rfl ?_)
    refine WL.nil (tn (WP.seq (WP.seq (WP.region (V rfl (ov_load_whole (i := 0) isAgg25 sizeOf25 rfl rfl rfl rfl) ?_)))))
    obtain ⟨r1, e2, hm⟩ := bind_some hm
    refine wo rfl (oq_con (r := (.int .i64 r1)) call102 rfl rfl (fun w' s => ⟨_, (stroke_CheckStep_con x1 ao3 cap3  w' H s.hold h2 hc4 hG r1 e2)⟩)) ?_
    refine Va rfl (WL.nil (tn (WP.seq (WP.region (Vm rfl (V rfl (ov_neq rfl rfl rfl) (WL.nil (tn ?_))))))))
    refine WP.cond rfl (fun hc5 => ?_) (fun hc5 => ?_)
    ·
     replace hm := ite_t hc5 hm
     refine WP.seq (WP.region (Vm rfl (Va rfl (Va rfl (WL.nil (tn (WP.ret (then_ret (block_ret (then_ret (then_ret (block_ret (then_ret ?_)))))))))))))
     obtain rfl := Option.some.inj hm
     refine retQ_ret results104 (Res.tmp rfl (Res.tmp rfl Res.nil)) rfl (fun w' s => ⟨s.below, ?_⟩)
     exact rfl
    replace hm := ite_f hc5 hm
    refine WP.skip (tn (WP.seq (WP.region (Va rfl (WL.nil (tn ?_))))))
    obtain ⟨k3, hk3, hm⟩ := joinK_some hm
    refine WP.seq_join (fun g' S' => ∃ (l4 : (List (List UInt8))) (ao6 : Option Addr) (cap6 : Nat) (xs3 : List Value), RL H encStr l4 xs3 ∧ Sub [(4, (.slice ao2 l1.length cap2)), (6, (pB b1 0)), (8, (.slice ao6 l4.length cap6)), (14, (.slice ao1 p_l.length cap1)), (15, (.int .i64 (p_l.length : Int))), (16, (.int .i64 i1)), (1000000007, (.bool false))] g' ∧ (∀ w', S' w' → St w H [.row 9 (encStr).size l4.length (.slice ao6 l4.length cap6) xs3, .blk b1 25 [(.slice ao3 x1.strokes.length cap3), (.int .i64 x1.wait)], .row 9 (encStr).size l1.length (.slice ao2 l1.length cap2) xs1] H w') ∧ k3 l4 = some r) ?_ ?_
    ·
     refine WP.seq (WP.region (V rfl (ov_fieldAddr underlying25 rfl rfl rfl sizeOf23 rfl rfl) (Vl 0 isAgg23 rfl (V rfl (ov_len_slice underlying23 rfl rfl) (Vm rfl (WL.nil (tn (WP.block ?_))))))))
     have rl3 := RL.nil (α := (List UInt8)) H encStr
     refine WP.weaken (fun _ s => s.nilrow 9 (encStr).size) ?_
     refine WP.loop (fun m2 g' S' => ∃ (i2 : Int) (l2 : (List (List UInt8))) (ao4 : Option Addr) (cap4 : Nat) (xs2 : List Value), RL H encStr l2 xs2 ∧ Sub [(4, (.slice ao2 l1.length cap2)), (6, (pB b1 0)), (8, (.slice ao4 l2.length cap4)), (14, (.slice ao1 p_l.length cap1)), (15, (.int .i64 (p_l.length : Int))), (16, (.int .i64 i1)), (26, (.slice ao3 x1.strokes.length cap3)), (27, (.int .i64 (x1.strokes.length : Int))), (28, (.int .i64 i2)), (1000000007, (.bool false))] g' ∧ (∀ w', S' w' → St w H [.row 9 (encStr).size l2.length (.slice ao4 l2.length cap4) xs2, .blk b1 25 [(.slice ao3 x1.strokes.length cap3), (.int .i64 x1.wait)], .row 9 (encStr).size l1.length (.slice ao2 l1.length cap2) xs1] H w') ∧ stroke_Format_loop2 x1 k3 m2 i2 l2 = some r) ((Int.toNat ((x1.strokes.length : Int) - 0) + 1)) ⟨0, ([] : List (List UInt8)), none, 0, [], rl3, (Sub.all rfl), fun w' s => s, hm⟩ ?_ ?_
     ·
      rintro g' S' ⟨_, _, _, _, _, _, _, _, hm⟩
      exact none_some hm
     rintro m2 g' S' ⟨i2, l2, ao4, cap4, xs2, rl4, hsub2, hS2, hm⟩
     refine WP.sub hsub2 (WP.weaken hS2 ?_)
     rw [stroke_Format_loop2] at hm
     refine WP.seq (WP.region (V rfl (ov_lss rfl rfl rfl) (WL.nil (tn (WP.seq ?_)))))
     refine WP.cond rfl (fun hc6 => ?_) (fun hc6 => ?_)
     ·
      replace hm := ite_t hc6 hm
      refine WP.skip (tn (WP.seq (WP.block (WP.seq (WP.region ?_)))))
      obtain ⟨x2, e3, hm⟩ := bind_some hm
      obtain ⟨h8, h9, h10, cs2, h11, h12⟩ := h2.get e3 (by decide)
      obtain rfl : cs2 = [(.int .i64 x2.actuator), (.bool x2.out)] := h11
      refine V rfl (ov_indexAddr underlying23 sizeOf112 rfl rfl rfl h8 h9 h10) (V rfl (ov_load_elems (vs := [(.int .i64 x2.actuator), (.bool x2.out)]) isAgg112 sizeOf112 rfl rfl rfl h12 h10) ?_)
      refine ws rfl (os_alloc (cs := [(.int .i64 0), (.bool false)]) zeroValue112 rfl rfl (fun b2 => ?_))
      refine ws0 rfl (os_store (i := 0) (vs := [(.int .i64 x2.actuator), (.bool x2.out)]) (cs' := [(.int .i64 x2.actuator), (.bool x2.out)]) sizeOf112 rfl rfl rfl rfl rfl rfl rfl rfl rfl ?_)
      refine WL.nil (tn (WP.region (Vm rfl (V rfl (ov_load_whole (i := 0) isAgg112 sizeOf112 rfl rfl rfl rfl) ?_))))
      obtain ⟨r2, e4, hm⟩ := bind_some hm
      refine wo rfl (oq_con (r := (mkS r2)) call139 rfl rfl (fun w' s => ⟨_, (stroke_written_con x2  w' H s.hold hG r2 e4)⟩)) ?_
      have rl5 : RL H encStr ([r2] : List (List UInt8)) [(mkS r2)] := RL.cons (cs := [(mkS r2)]) (xs := []) rfl (RL.nil _ _)
      refine ws rfl (os_buildSlice (cs := [(mkS r2)]) (E := 9) (sz := 1) rfl rfl (fun _ => by kernel_rfl) rfl (by decide) (fun b3 => ?_))
      obtain ⟨l3, e5, hm⟩ := bind_some hm
      refine ws rfl (os_app (i := 2) (j := 0) (En := encStr) (xs := xs2) (ys := [(mkS r2)]) underlying36 (by kernel_rfl : (prog.info? 9).map (fun i => (i.zero, i.size, i.bytes)) = some (some (mkS []), (encStr).size, 16)) rfl (by decide) rfl rfl rfl rfl rfl rfl rl4 rl5 e5 (fun ao5 cap5 rl6 => ?_))
      refine Va rfl (WL.nil (bn (tn (WP.region (V rfl (ov_add rfl rfl rfl) (Vm rfl (WL.nil (tn ?_))))))))
      exact ⟨(IntKind.wrap .i64 (i2 + 1)), (l2 ++ ([r2] : List (List UInt8))), ao5, cap5, (xs2 ++ [(mkS r2)]), rl6, (Sub.all rfl), fun w' s => (s.select [2, 3, 4] (by decide) rfl), hm⟩
     replace hm := ite_f hc6 hm
     refine WP.exit (then_exit (then_exit (block_here (tn ?_))))
     exact ⟨l2, ao4, cap4, xs2, rl4, (Sub.all rfl), fun w' s => s, hm⟩
    rintro g' S' ⟨l4, ao6, cap6, xs3, rl7, hsub3, hS3, hm⟩
    refine WP.sub hsub3 (WP.weaken hS3 ?_)
    replace hm := (congrFun hk3 l4).symm.trans hm
    obtain ⟨k4, hk4, hm⟩ := joinK_some hm
    refine WP.seq_join (fun g' S' => ∃ (l6 : (List (List UInt8))) (ao8 : Option Addr) (cap8 : Nat) (xs4 : List Value), RL H encStr l6 xs4 ∧ Sub [(4, (.slice ao2 l1.length cap2)), (8, (.slice ao8 l6.length cap8)), (14, (.slice ao1 p_l.length cap1)), (15, (.int .i64 (p_l.length : Int))), (16, (.int .i64 i1)), (1000000007, (.bool false))] g' ∧ (∀ w', S' w' → St w H [.row 9 (encStr).size l6.length (.slice ao8 l6.length cap8) xs4, .row 9 (encStr).size l1.length (.slice ao2 l1.length cap2) xs1] H w') ∧ k4 l6 = some r) ?_ ?_
    ·
     refine WP.seq (WP.region (V rfl (ov_fieldAddr underlying25 rfl rfl rfl sizeOf3 rfl rfl) (Vl 1 isAgg3 rfl (V rfl (ov_gtr rfl rfl rfl) (WL.nil (tn ?_))))))
     refine WP.cond rfl (fun hc7 => ?_) (fun hc7 => ?_)
     ·
      replace hm := ite_t hc7 hm
      refine WP.region (Vm rfl (V rfl (ov_fieldAddr underlying25 rfl rfl rfl sizeOf3 rfl rfl) (Vl 1 isAgg3 rfl ?_)))
      obtain ⟨r3, e6, hm⟩ := bind_some hm
      refine wo rfl (oq_con (r := (mkS r3)) call106 rfl rfl (fun w' s => ⟨_, (itoa_con x1.wait  w' H s.hold hG r3 e6)⟩)) ?_
      have rl8 : RL H encStr ([r3] : List (List UInt8)) [(mkS r3)] := RL.cons (cs := [(mkS r3)]) (xs := []) rfl (RL.nil _ _)
      refine ws rfl (os_buildSlice (cs := [(mkS r3)]) (E := 9) (sz := 1) rfl rfl (fun _ => by kernel_rfl) rfl (by decide) (fun b4 => ?_))
      obtain ⟨l5, e7, hm⟩ := bind_some hm
      refine ws rfl (os_app (i := 1) (j := 0) (En := encStr) (xs := xs3) (ys := [(mkS r3)]) underlying36 (by kernel_rfl : (prog.info? 9).map (fun i => (i.zero, i.size, i.bytes)) = some (some (mkS []), (encStr).size, 16)) rfl (by decide) rfl rfl rfl rfl rfl rfl rl7 rl8 e7 (fun ao7 cap7 rl9 => ?_))
      refine Va rfl (WL.nil (tn ?_))
      exact ⟨(l4 ++ ([r3] : List (List UInt8))), ao7, cap7, (xs3 ++ [(mkS r3)]), rl9, (Sub.all rfl), fun w' s => (s.select [1, 3] (by decide) rfl), hm⟩
     replace hm := ite_f hc7 hm
     refine WP.skip (tn ?_)
     exact ⟨l4, ao6, cap6, xs3, rl7, (Sub.all rfl), fun w' s => (s.select [0, 2] (by decide) rfl), hm⟩
    rintro g' S' ⟨l6, ao8, cap8, xs4, rl10, hsub4, hS4, hm⟩
    refine WP.sub hsub4 (WP.weaken hS4 ?_)
    replace hm := (congrFun hk4 l6).symm.trans hm
    refine WP.region (Vm rfl (Vm rfl ?_))
    obtain ⟨r4, e8, hm⟩ := bind_some hm
    refine wo rfl (oq_con (r := (mkS r4)) call105 rfl rfl (fun w' s => ⟨_, (joinS_con l6 [32] ao8 cap8 w' (hp w') (Le.refl _) (s.row_arg (i := 0) rfl rl10).1 (s.row_arg (i := 0) rfl rl10).2 (hG.mono s.hold) r4 e8)⟩)) ?_
    have rl11 : RL H encStr ([r4] : List (List UInt8)) [(mkS r4)] := RL.cons (cs := [(mkS r4)]) (xs := []) rfl (RL.nil _ _)
    refine ws rfl (os_buildSlice (cs := [(mkS r4)]) (E := 9) (sz := 1) rfl rfl (fun _ => by kernel_rfl) rfl (by decide) (fun b5 => ?_))
    obtain ⟨l7, e9, hm⟩ := bind_some hm
    refine ws rfl (os_app (i := 2) (j := 0) (En := encStr) (xs := xs1) (ys := [(mkS r4)]) underlying36 (by kernel_rfl : (prog.info? 9).map (fun i => (i.zero, i.size, i.bytes)) = some (some (mkS []), (encStr).size, 16)) rfl (by decide) rfl rfl rfl rfl rfl rfl rl2 rl11 e9 (fun ao9 cap9 rl12 => ?_))
    refine Va rfl (WL.nil (bn (tn ?_)))
    exact ⟨(l1 ++ ([r4] : List (List UInt8))), ao9, cap9, (xs1 ++ [(mkS r4)]), rl12, (Sub.all rfl), fun w' s => (s.select [2] (by decide) rfl), hm⟩
   rintro g' S' ⟨l8, ao10, cap10, xs5, rl13, hsub5, hS5, hm⟩
   refine WP.sub hsub5 (WP.weaken hS5 ?_)
   replace hm := (congrFun hk2 l8).symm.trans hm
   refine WP.region (V rfl (ov_add rfl rfl rfl) (Vm rfl (WL.nil (tn ?_))))
   exact ⟨(IntKind.wrap .i64 (i1 + 1)), l8, ao10, cap10, xs5, rl13, (Sub.all rfl), fun w' s => s, hm⟩
  replace hm := ite_f hc3 hm
  refine WP.exit (then_exit (then_exit (block_here (tn ?_))))
  exact ⟨l1, ao2, cap2, xs1, rl2, (Sub.all rfl), fun w' s => s, hm⟩
 rintro g' S' ⟨l9, ao11, cap11, xs6, rl14, hsub6, hS6, hm⟩
 refine WP.sub hsub6 (WP.weaken hS6 ?_)
 replace hm := (congrFun hk1 l9).symm.trans hm
 refine WP.seq (WP.region (Vm rfl ?_))
 obtain ⟨r5, e10, hm⟩ := bind_some hm
 refine wo rfl (oq_con (r := (mkS r5)) call105 rfl rfl (fun w' s => ⟨_, (joinS_con l9 [59, 32] ao11 cap11 w' (hp w') (Le.refl _) (s.row_arg (i := 0) rfl rl14).1 (s.row_arg (i := 0) rfl rl14).2 (hG.mono s.hold) r5 e10)⟩)) ?_
 refine Va rfl (Va rfl (WL.nil (tn (WP.ret ?_))))
 obtain rfl := Option.some.inj hm
 refine retQ_ret results104 (Res.tmp rfl (Res.tmp rfl Res.nil)) rfl (fun w' s => ⟨s.below, ?_⟩)
 exact rfl
end Go.Proofs.YtgpfgnpdbmbknaaGreatDoor.W
