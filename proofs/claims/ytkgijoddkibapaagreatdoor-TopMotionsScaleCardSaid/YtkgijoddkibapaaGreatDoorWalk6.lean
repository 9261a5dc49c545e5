import Derived.Test.YtkgijoddkibapaaGreatDoorPlain
import Derived.Test.YtkgijoddkibapaaGreatDoorEqs
import Derived.Test.YtkgijoddkibapaaGreatDoorProg
import Derived.Test.YtkgijoddkibapaaGreatDoorExt
import Derived.Test.YtkgijoddkibapaaGreatDoorBuild
import Derived.Test.YtkgijoddkibapaaGreatDoorClone
import Derived.Test.YtkgijoddkibapaaGreatDoorWalk5
set_option linter.unusedVariables false
set_option maxRecDepth 100000
set_option maxHeartbeats 4000000
namespace Go.Proofs.YtkgijoddkibapaaGreatDoor.W
open Go Go.RowKit Go.Proofs.Tryz
theorem program_reader_node_body_con (self : Rdr → Option (Node × Int × Bool)) (hself : ∀ (p_r : Rdr) (bp1 : Nat) (ao1 : Option Addr) (cap1 : Nat) (w0 : World) (H0 : Heap) (tl : List Ent) (H : Heap) (h1 : SL H encToken ao1 p_r.tokens) (hc1 : p_r.tokens.length ≤ cap1) (hG : Glob H) (r : (Node × Int × Bool)) (hm : self p_r = some r), BCon prog 38 [(pB bp1 0)] w0 H0 (.blk bp1 88 [(.slice ao1 p_r.tokens.length cap1), (.int .i64 p_r.at_), (.bool p_r.bad)] :: tl) H (fun v H' ms' => ∃ (ao2 : Option Addr) (cap2 : Nat) (ao3 : Option Addr) (cap3 : Nat), v = (.agg #[(.int .i64 r.1.kind), (.slice ao2 r.1.step.strokes.length cap2), (.int .i64 r.1.step.wait), (.int .i64 r.1.count), (mkS r.1.name), (.slice ao3 r.1.nodes.length cap3)]) ∧ ms' = (.blk bp1 88 [(.slice ao1 p_r.tokens.length cap1), (.int .i64 r.2.1), (.bool r.2.2)] :: tl) ∧ SL H' encStroke ao2 r.1.step.strokes ∧ r.1.step.strokes.length ≤ cap2 ∧ SL H' encNode ao3 r.1.nodes ∧ r.1.nodes.length ≤ cap3)) (p_r : Rdr) (bp1 : Nat) (ao1 : Option Addr) (cap1 : Nat) (w0 : World) (H0 : Heap) (tl : List Ent) (H : Heap) (h1 : SL H encToken ao1 p_r.tokens) (hc1 : p_r.tokens.length ≤ cap1) (hG : Glob H) (r : (Node × Int × Bool)) (hm : program_reader_node_body self p_r = some r) :
  BCon prog 38 [(pB bp1 0)] w0 H0 (.blk bp1 88 [(.slice ao1 p_r.tokens.length cap1), (.int .i64 p_r.at_), (.bool p_r.bad)] :: tl) H (fun v H' ms' => ∃ (ao2 : Option Addr) (cap2 : Nat) (ao3 : Option Addr) (cap3 : Nat), v = (.agg #[(.int .i64 r.1.kind), (.slice ao2 r.1.step.strokes.length cap2), (.int .i64 r.1.step.wait), (.int .i64 r.1.count), (mkS r.1.name), (.slice ao3 r.1.nodes.length cap3)]) ∧ ms' = (.blk bp1 88 [(.slice ao1 p_r.tokens.length cap1), (.int .i64 r.2.1), (.bool r.2.2)] :: tl) ∧ SL H' encStroke ao2 r.1.step.strokes ∧ r.1.step.strokes.length ≤ cap2 ∧ SL H' encNode ao3 r.1.nodes ∧ r.1.nodes.length ≤ cap3) := by
 unfold program_reader_node_body at hm
 refine bcon_of func38 rfl 54 ntmps38 rfl ?_
 refine WP.seq (WP.region ?_)
 refine ws rfl (os_alloc (cs := [(.int .i64 0), (.slice none 0 0), (.int .i64 0), (.int .i64 0), (mkS []), (.slice none 0 0)]) zeroValue62 rfl rfl (fun b1 => ?_))
 refine WL.nil (tn ?_)
 obtain ⟨k1, hk1, hm⟩ := joinK_some hm
 refine WP.seq_join (fun g' S' => ∃ (H19 : Heap) (i3 : Int) (c3 : Bool), Le H H19 ∧ Sub [(0, (pB bp1 0)), (2, (pB b1 0)), (1000000007, (.bool false))] g' ∧ (∀ w', S' w' → St w0 H0 (.blk bp1 88 [(.slice ao1 p_r.tokens.length cap1), (.int .i64 i3), (.bool c3)] :: .blk b1 62 [(.int .i64 0), (.slice none 0 0), (.int .i64 0), (.int .i64 0), (mkS []), (.slice none 0 0)] :: tl) H19 w') ∧ k1 i3 c3 = some r) ?_ ?_
 ·
  refine WP.block (WP.seq (WP.region (Vm rfl ?_)))
  refine WL.weaken (fun _ s => s.selectT 2 [1, 0] (by decide) rfl rfl) ?_
  obtain ⟨r1, e1, hm⟩ := bind_some hm
  refine ws rfl (os_bcon call65 rfl rfl (program_reader_takes_con p_r 2 [123] bp1 ao1 cap1 w0 H0 (.blk b1 62 [(.int .i64 0), (.slice none 0 0), (.int .i64 0), (.int .i64 0), (mkS []), (.slice none 0 0)] :: tl) H h1 hc1 hG r1 e1) (fun rr1 H1 ms1 hle1 hR1 => ?_))
  replace h1 := h1.mono hle1
  replace hG := hG.mono hle1
  obtain ⟨rfl, rfl⟩ := hR1
  refine Va rfl (WL.nil (tn ?_))
  refine WP.cond rfl (fun hc4 => ?_) (fun hc4 => ?_)
  ·
   replace hm := ite_t hc4 hm
   refine WP.seq (WP.region (Vm rfl ?_))
   obtain ⟨r2, e2, hm⟩ := bind_some hm
   refine ws rfl (os_bcon call38 rfl rfl (hself (Rdr.mk p_r.tokens r1.2.1 r1.2.2) bp1 ao1 cap1 w0 H0 (.blk b1 62 [(.int .i64 0), (.slice none 0 0), (.int .i64 0), (.int .i64 0), (mkS []), (.slice none 0 0)] :: tl) H1 h1 hc1 hG r2 e2) (fun rr2 H2 ms2 hle2 hR2 => ?_))
   replace h1 := h1.mono hle2
   replace hG := hG.mono hle2
   obtain ⟨ao4, cap4, ao5, cap5, rfl, rfl, h4, hc5, h5, hc6⟩ := hR2
   have rl1 : RL H2 encNode ([r2.1] : List Node) [(.int .i64 r2.1.kind), (.slice ao4 r2.1.step.strokes.length cap4), (.int .i64 r2.1.step.wait), (.int .i64 r2.1.count), (mkS r2.1.name), (.slice ao5 r2.1.nodes.length cap5)] := RL.cons (cs := [(.int .i64 r2.1.kind), (.slice ao4 r2.1.step.strokes.length cap4), (.int .i64 r2.1.step.wait), (.int .i64 r2.1.count), (mkS r2.1.name), (.slice ao5 r2.1.nodes.length cap5)]) (xs := []) (encNode_make ⟨ao4, cap4, ao5, cap5, rfl, h4, hc5, h5, hc6⟩) (RL.nil _ _)
   refine ws rfl (os_buildSlice (cs := [(.int .i64 r2.1.kind), (.slice ao4 r2.1.step.strokes.length cap4), (.int .i64 r2.1.step.wait), (.int .i64 r2.1.count), (mkS r2.1.name), (.slice ao5 r2.1.nodes.length cap5)]) (E := 62) (sz := 6) rfl rfl (fun _ => by kernel_rfl) rfl (by decide) (fun b2 => ?_))
   refine V rfl (ov_build (r := (.agg #[(.int .i64 1), (.slice none 0 0), (.int .i64 0), (.int .i64 0), (mkS []), (.slice (some ⟨b2, 0, none⟩) ([r2.1] : List Node).length 1)])) rfl rfl (fun _ => by kernel_rfl)) ?_
   refine ws rfl (os_alloc (cs := [(.int .i64 0), (.slice none 0 0), (.int .i64 0), (.int .i64 0), (mkS []), (.slice none 0 0)]) zeroValue62 rfl rfl (fun b3 => ?_))
   refine ws0 rfl (os_store (i := 0) (vs := [(.int .i64 1), (.slice none 0 0), (.int .i64 0), (.int .i64 0), (mkS []), (.slice (some ⟨b2, 0, none⟩) ([r2.1] : List Node).length 1)]) (cs' := [(.int .i64 1), (.slice none 0 0), (.int .i64 0), (.int .i64 0), (mkS []), (.slice (some ⟨b2, 0, none⟩) ([r2.1] : List Node).length 1)]) sizeOf62 rfl rfl rfl rfl rfl rfl rfl rfl rfl ?_)
   refine WL.nil (tn ?_)
   obtain ⟨k2, hk2, hm⟩ := joinK_some hm
   refine WP.seq_join (fun g' S' => ∃ (H6 : Heap) (i2 : Int) (c2 : Bool) (l3 : (List Node)) (ao10 : Option Addr) (cap10 : Nat) (xs2 : List Value), Le H2 H6 ∧ RL H6 encNode l3 xs2 ∧ Sub [(0, (pB bp1 0)), (2, (pB b1 0)), (3, (pB b3 0)), (1000000007, (.bool false))] g' ∧ (∀ w', S' w' → St w0 H0 (.blk bp1 88 [(.slice ao1 p_r.tokens.length cap1), (.int .i64 i2), (.bool c2)] :: .blk b3 62 [(.int .i64 1), (.slice none 0 0), (.int .i64 0), (.int .i64 0), (mkS []), (.slice ao10 l3.length cap10)] :: .row 62 (encNode).size l3.length (.slice ao10 l3.length cap10) xs2 :: .blk b1 62 [(.int .i64 0), (.slice none 0 0), (.int .i64 0), (.int .i64 0), (mkS []), (.slice none 0 0)] :: tl) H6 w') ∧ k2 i2 c2 l3 = some r) ?_ ?_
   ·
    refine WP.block ?_
    refine WP.loop (fun m1 g' S' => ∃ (H3 : Heap) (i1 : Int) (c1 : Bool) (l1 : (List Node)) (ao6 : Option Addr) (cap6 : Nat) (xs1 : List Value), Le H2 H3 ∧ RL H3 encNode l1 xs1 ∧ Sub [(0, (pB bp1 0)), (2, (pB b1 0)), (3, (pB b3 0)), (1000000007, (.bool false))] g' ∧ (∀ w', S' w' → St w0 H0 (.blk b3 62 [(.int .i64 1), (.slice none 0 0), (.int .i64 0), (.int .i64 0), (mkS []), (.slice ao6 l1.length cap6)] :: .row 62 (encNode).size l1.length (.slice ao6 l1.length cap6) xs1 :: .blk bp1 88 [(.slice ao1 p_r.tokens.length cap1), (.int .i64 i1), (.bool c1)] :: .blk b1 62 [(.int .i64 0), (.slice none 0 0), (.int .i64 0), (.int .i64 0), (mkS []), (.slice none 0 0)] :: tl) H3 w') ∧ program_reader_node_loop1 p_r self k2 m1 i1 c1 l1 = some r) ((p_r.tokens.length + 2)) ⟨H2, r2.2.1, r2.2.2, ([r2.1] : List Node), (some ⟨b2, 0, none⟩), 1, [(.int .i64 r2.1.kind), (.slice ao4 r2.1.step.strokes.length cap4), (.int .i64 r2.1.step.wait), (.int .i64 r2.1.count), (mkS r2.1.name), (.slice ao5 r2.1.nodes.length cap5)], (Le.refl _), rl1, (Sub.all rfl), fun w' s => s, hm⟩ ?_ ?_
    ·
     rintro g' S' ⟨_, _, _, _, _, _, _, _, _, _, _, hm⟩
     exact none_some hm
    rintro m1 g' S' ⟨H3, i1, c1, l1, ao6, cap6, xs1, hle3, rl2, hsub1, hS1, hm⟩
    refine WP.sub hsub1 (WP.weaken hS1 ?_)
    rw [program_reader_node_loop1] at hm
    replace h1 := h1.mono hle3
    replace hG := hG.mono hle3
    refine WP.seq (WP.seq (WP.region (Vm rfl ?_)))
    refine WL.weaken (fun _ s => s.selectT 4 [2, 0, 1, 3] (by decide) rfl rfl) ?_
    obtain ⟨r3, e3, hm⟩ := bind_some hm
    refine ws rfl (os_bcon call65 rfl rfl (program_reader_takes_con (Rdr.mk p_r.tokens i1 c1) 2 [59] bp1 ao1 cap1 w0 H0 (.blk b3 62 [(.int .i64 1), (.slice none 0 0), (.int .i64 0), (.int .i64 0), (mkS []), (.slice ao6 l1.length cap6)] :: .row 62 (encNode).size l1.length (.slice ao6 l1.length cap6) xs1 :: .blk b1 62 [(.int .i64 0), (.slice none 0 0), (.int .i64 0), (.int .i64 0), (mkS []), (.slice none 0 0)] :: tl) H3 h1 hc1 hG r3 e3) (fun rr3 H4 ms3 hle4 hR3 => ?_))
    replace h1 := h1.mono hle4
    replace rl2 := rl2.mono hle4
    replace hG := hG.mono hle4
    obtain ⟨rfl, rfl⟩ := hR3
    refine WL.nil (tn ?_)
    refine WP.cond rfl (fun hc7 => ?_) (fun hc7 => ?_)
    ·
     replace hm := ite_t hc7 hm
     refine WP.skip (tn (WP.block ?_))
     refine WP.region_any (S₀ := St w0 H0 (.blk b1 62 [(.int .i64 0), (.slice none 0 0), (.int .i64 0), (.int .i64 0), (mkS []), (.slice none 0 0)] :: tl) H4) 8 rfl (by kernel_rfl) (fun w' s => (s.selectT 4 [3] (by decide) rfl rfl)) (fun _ s => s.drew) ?_
     refine TQ 0 (by kernel_rfl) rfl (ov_fieldAddr underlying62 rfl rfl rfl sizeOf60 rfl rfl) (TQ 2 (by kernel_rfl) rfl (ov_move rfl rfl) ?_)
     refine AL.any (rs := [1, 3]) (by kernel_rfl) (by decide) ?_
     refine ALs.cons (i := 1) rfl (Runs.free rfl) rfl rfl ?_ ?_
     ·
      refine OQ.step (OV.quiet (ov_load_box (i := 1) isAgg60 rfl rfl rfl rfl)) ?_
      refine ⟨fun w' s => (s.selectT 4 [3] (by decide) rfl rfl), ?_⟩
      refine AL.any (rs := [3]) (by kernel_rfl) (by decide) ?_
      refine ALs.cons (i := 3) rfl (Runs.free rfl) rfl rfl ?_ ?_
      ·
       obtain ⟨r4, e4, hm⟩ := bind_some hm
       refine os_bcon call38 rfl rfl (hself (Rdr.mk p_r.tokens r3.2.1 r3.2.2) bp1 ao1 cap1 w0 H0 (.blk b3 62 [(.int .i64 1), (.slice none 0 0), (.int .i64 0), (.int .i64 0), (mkS []), (.slice ao6 l1.length cap6)] :: .row 62 (encNode).size l1.length (.slice ao6 l1.length cap6) xs1 :: .blk b1 62 [(.int .i64 0), (.slice none 0 0), (.int .i64 0), (.int .i64 0), (mkS []), (.slice none 0 0)] :: tl) H4 h1 hc1 hG r4 e4) (fun rr4 H5 ms4 hle5 hR4 => ?_)
       replace h1 := h1.mono hle5
       replace rl2 := rl2.mono hle5
       replace hG := hG.mono hle5
       obtain ⟨ao7, cap7, ao8, cap8, rfl, rfl, h6, hc8, h7, hc9⟩ := hR4
       refine ⟨fun w' s => ((s.selectT 4 [3] (by decide) rfl rfl).heap hle5), ?_⟩
       refine AL.any (rs := [4]) (by kernel_rfl) (by decide) ?_
       refine ALs.cons (i := 4) rfl (Runs.free rfl) rfl rfl ?_ ?_
       ·
        have rl3 : RL H5 encNode ([r4.1] : List Node) [(.int .i64 r4.1.kind), (.slice ao7 r4.1.step.strokes.length cap7), (.int .i64 r4.1.step.wait), (.int .i64 r4.1.count), (mkS r4.1.name), (.slice ao8 r4.1.nodes.length cap8)] := RL.cons (cs := [(.int .i64 r4.1.kind), (.slice ao7 r4.1.step.strokes.length cap7), (.int .i64 r4.1.step.wait), (.int .i64 r4.1.count), (mkS r4.1.name), (.slice ao8 r4.1.nodes.length cap8)]) (xs := []) (encNode_make ⟨ao7, cap7, ao8, cap8, rfl, h6, hc8, h7, hc9⟩) (RL.nil _ _)
        refine os_buildSlice (cs := [(.int .i64 r4.1.kind), (.slice ao7 r4.1.step.strokes.length cap7), (.int .i64 r4.1.step.wait), (.int .i64 r4.1.count), (mkS r4.1.name), (.slice ao8 r4.1.nodes.length cap8)]) (E := 62) (sz := 6) rfl rfl (fun _ => by kernel_rfl) rfl (by decide) (fun b4 => ?_)
        refine ⟨fun w' s => ((s.selectT 5 [4] (by decide) rfl rfl).heap hle5), ?_⟩
        refine AL.any (rs := [5]) (by kernel_rfl) (by decide) ?_
        refine ALs.cons (i := 5) rfl (Runs.free rfl) rfl rfl ?_ ?_
        ·
         obtain ⟨l2, e5, hm⟩ := bind_some hm
         refine os_app (i := 3) (j := 0) (En := encNode) (xs := xs1) (ys := [(.int .i64 r4.1.kind), (.slice ao7 r4.1.step.strokes.length cap7), (.int .i64 r4.1.step.wait), (.int .i64 r4.1.count), (mkS r4.1.name), (.slice ao8 r4.1.nodes.length cap8)]) underlying60 (by kernel_rfl : (prog.info? 62).map (fun i => (i.zero, i.size, i.bytes)) = some (some (.agg #[(.int .i64 0), (.slice none 0 0), (.int .i64 0), (.int .i64 0), (mkS []), (.slice none 0 0)]), (encNode).size, 88)) rfl (by decide) rfl rfl rfl rfl rfl rfl rl2 rl3 e5 (fun ao9 cap9 rl4 => ?_)
         refine ⟨fun w' s => ((s.selectT 5 [4] (by decide) rfl rfl).heap hle5), ?_⟩
         refine TQ 6 (by kernel_rfl) rfl (ov_fieldAddr underlying62 rfl rfl rfl sizeOf60 rfl rfl) ?_
         refine AL.any (rs := [7]) (by kernel_rfl) (by decide) ?_
         refine ALs.cons0 (i := 7) rfl (Runs.free rfl) rfl ?_ ?_
         ·
          refine os_store (i := 2) (vs := [(.slice ao9 (l1 ++ ([r4.1] : List Node)).length cap9)]) (cs' := [(.int .i64 1), (.slice none 0 0), (.int .i64 0), (.int .i64 0), (mkS []), (.slice ao9 (l1 ++ ([r4.1] : List Node)).length cap9)]) sizeOf60 rfl rfl rfl rfl rfl rfl rfl rfl rfl ?_
          refine ⟨fun w' s => ((s.selectT 5 [4] (by decide) rfl rfl).heap hle5), ?_⟩
          refine AL.done (by kernel_rfl) ?_
          refine bn (tn ?_)
          exact ⟨H5, r4.2.1, r4.2.2, (l1 ++ ([r4.1] : List Node)), ao9, cap9, (xs1 ++ [(.int .i64 r4.1.kind), (.slice ao7 r4.1.step.strokes.length cap7), (.int .i64 r4.1.step.wait), (.int .i64 r4.1.count), (mkS r4.1.name), (.slice ao8 r4.1.nodes.length cap8)]), ((hle3.trans hle4).trans hle5), rl4, (Sub.all rfl), fun w' s => (s.selectT 5 [2, 3, 1, 4] (by decide) rfl rfl), hm⟩
         exact ALs.nil
        exact ALs.nil
       exact ALs.nil
      exact ALs.nil
     refine ALs.cons (i := 3) rfl (Runs.free rfl) rfl rfl ?_ ?_
     ·
      obtain ⟨r4, e4, hm⟩ := bind_some hm
      refine os_bcon call38 rfl rfl (hself (Rdr.mk p_r.tokens r3.2.1 r3.2.2) bp1 ao1 cap1 w0 H0 (.blk b3 62 [(.int .i64 1), (.slice none 0 0), (.int .i64 0), (.int .i64 0), (mkS []), (.slice ao6 l1.length cap6)] :: .row 62 (encNode).size l1.length (.slice ao6 l1.length cap6) xs1 :: .blk b1 62 [(.int .i64 0), (.slice none 0 0), (.int .i64 0), (.int .i64 0), (mkS []), (.slice none 0 0)] :: tl) H4 h1 hc1 hG r4 e4) (fun rr4 H5 ms4 hle5 hR4 => ?_)
      replace h1 := h1.mono hle5
      replace rl2 := rl2.mono hle5
      replace hG := hG.mono hle5
      obtain ⟨ao7, cap7, ao8, cap8, rfl, rfl, h6, hc8, h7, hc9⟩ := hR4
      refine ⟨fun w' s => ((s.selectT 4 [3] (by decide) rfl rfl).heap hle5), ?_⟩
      refine AL.any (rs := [1, 4]) (by kernel_rfl) (by decide) ?_
      refine ALs.cons (i := 1) rfl (Runs.free rfl) rfl rfl ?_ ?_
      ·
       refine OQ.step (OV.quiet (ov_load_box (i := 1) isAgg60 rfl rfl rfl rfl)) ?_
       refine ⟨fun w' s => ((s.selectT 4 [3] (by decide) rfl rfl).heap hle5), ?_⟩
       refine AL.any (rs := [4]) (by kernel_rfl) (by decide) ?_
       refine ALs.cons (i := 4) rfl (Runs.free rfl) rfl rfl ?_ ?_
       ·
        have rl3 : RL H5 encNode ([r4.1] : List Node) [(.int .i64 r4.1.kind), (.slice ao7 r4.1.step.strokes.length cap7), (.int .i64 r4.1.step.wait), (.int .i64 r4.1.count), (mkS r4.1.name), (.slice ao8 r4.1.nodes.length cap8)] := RL.cons (cs := [(.int .i64 r4.1.kind), (.slice ao7 r4.1.step.strokes.length cap7), (.int .i64 r4.1.step.wait), (.int .i64 r4.1.count), (mkS r4.1.name), (.slice ao8 r4.1.nodes.length cap8)]) (xs := []) (encNode_make ⟨ao7, cap7, ao8, cap8, rfl, h6, hc8, h7, hc9⟩) (RL.nil _ _)
        refine os_buildSlice (cs := [(.int .i64 r4.1.kind), (.slice ao7 r4.1.step.strokes.length cap7), (.int .i64 r4.1.step.wait), (.int .i64 r4.1.count), (mkS r4.1.name), (.slice ao8 r4.1.nodes.length cap8)]) (E := 62) (sz := 6) rfl rfl (fun _ => by kernel_rfl) rfl (by decide) (fun b4 => ?_)
        refine ⟨fun w' s => ((s.selectT 5 [4] (by decide) rfl rfl).heap hle5), ?_⟩
        refine AL.any (rs := [5]) (by kernel_rfl) (by decide) ?_
        refine ALs.cons (i := 5) rfl (Runs.free rfl) rfl rfl ?_ ?_
        ·
         obtain ⟨l2, e5, hm⟩ := bind_some hm
         refine os_app (i := 3) (j := 0) (En := encNode) (xs := xs1) (ys := [(.int .i64 r4.1.kind), (.slice ao7 r4.1.step.strokes.length cap7), (.int .i64 r4.1.step.wait), (.int .i64 r4.1.count), (mkS r4.1.name), (.slice ao8 r4.1.nodes.length cap8)]) underlying60 (by kernel_rfl : (prog.info? 62).map (fun i => (i.zero, i.size, i.bytes)) = some (some (.agg #[(.int .i64 0), (.slice none 0 0), (.int .i64 0), (.int .i64 0), (mkS []), (.slice none 0 0)]), (encNode).size, 88)) rfl (by decide) rfl rfl rfl rfl rfl rfl rl2 rl3 e5 (fun ao9 cap9 rl4 => ?_)
         refine ⟨fun w' s => ((s.selectT 5 [4] (by decide) rfl rfl).heap hle5), ?_⟩
         refine TQ 6 (by kernel_rfl) rfl (ov_fieldAddr underlying62 rfl rfl rfl sizeOf60 rfl rfl) ?_
         refine AL.any (rs := [7]) (by kernel_rfl) (by decide) ?_
         refine ALs.cons0 (i := 7) rfl (Runs.free rfl) rfl ?_ ?_
         ·
          refine os_store (i := 2) (vs := [(.slice ao9 (l1 ++ ([r4.1] : List Node)).length cap9)]) (cs' := [(.int .i64 1), (.slice none 0 0), (.int .i64 0), (.int .i64 0), (mkS []), (.slice ao9 (l1 ++ ([r4.1] : List Node)).length cap9)]) sizeOf60 rfl rfl rfl rfl rfl rfl rfl rfl rfl ?_
          refine ⟨fun w' s => ((s.selectT 5 [4] (by decide) rfl rfl).heap hle5), ?_⟩
          refine AL.done (by kernel_rfl) ?_
          refine bn (tn ?_)
          exact ⟨H5, r4.2.1, r4.2.2, (l1 ++ ([r4.1] : List Node)), ao9, cap9, (xs1 ++ [(.int .i64 r4.1.kind), (.slice ao7 r4.1.step.strokes.length cap7), (.int .i64 r4.1.step.wait), (.int .i64 r4.1.count), (mkS r4.1.name), (.slice ao8 r4.1.nodes.length cap8)]), ((hle3.trans hle4).trans hle5), rl4, (Sub.all rfl), fun w' s => (s.selectT 5 [2, 3, 1, 4] (by decide) rfl rfl), hm⟩
         exact ALs.nil
        exact ALs.nil
       exact ALs.nil
      refine ALs.cons (i := 4) rfl (Runs.free rfl) rfl rfl ?_ ?_
      ·
       have rl3 : RL H5 encNode ([r4.1] : List Node) [(.int .i64 r4.1.kind), (.slice ao7 r4.1.step.strokes.length cap7), (.int .i64 r4.1.step.wait), (.int .i64 r4.1.count), (mkS r4.1.name), (.slice ao8 r4.1.nodes.length cap8)] := RL.cons (cs := [(.int .i64 r4.1.kind), (.slice ao7 r4.1.step.strokes.length cap7), (.int .i64 r4.1.step.wait), (.int .i64 r4.1.count), (mkS r4.1.name), (.slice ao8 r4.1.nodes.length cap8)]) (xs := []) (encNode_make ⟨ao7, cap7, ao8, cap8, rfl, h6, hc8, h7, hc9⟩) (RL.nil _ _)
       refine os_buildSlice (cs := [(.int .i64 r4.1.kind), (.slice ao7 r4.1.step.strokes.length cap7), (.int .i64 r4.1.step.wait), (.int .i64 r4.1.count), (mkS r4.1.name), (.slice ao8 r4.1.nodes.length cap8)]) (E := 62) (sz := 6) rfl rfl (fun _ => by kernel_rfl) rfl (by decide) (fun b4 => ?_)
       refine ⟨fun w' s => ((s.selectT 5 [4] (by decide) rfl rfl).heap hle5), ?_⟩
       refine AL.any (rs := [1]) (by kernel_rfl) (by decide) ?_
       refine ALs.cons (i := 1) rfl (Runs.free rfl) rfl rfl ?_ ?_
       ·
        refine OQ.step (OV.quiet (ov_load_box (i := 2) isAgg60 rfl rfl rfl rfl)) ?_
        refine ⟨fun w' s => ((s.selectT 5 [4] (by decide) rfl rfl).heap hle5), ?_⟩
        refine AL.any (rs := [5]) (by kernel_rfl) (by decide) ?_
        refine ALs.cons (i := 5) rfl (Runs.free rfl) rfl rfl ?_ ?_
        ·
         obtain ⟨l2, e5, hm⟩ := bind_some hm
         refine os_app (i := 3) (j := 0) (En := encNode) (xs := xs1) (ys := [(.int .i64 r4.1.kind), (.slice ao7 r4.1.step.strokes.length cap7), (.int .i64 r4.1.step.wait), (.int .i64 r4.1.count), (mkS r4.1.name), (.slice ao8 r4.1.nodes.length cap8)]) underlying60 (by kernel_rfl : (prog.info? 62).map (fun i => (i.zero, i.size, i.bytes)) = some (some (.agg #[(.int .i64 0), (.slice none 0 0), (.int .i64 0), (.int .i64 0), (mkS []), (.slice none 0 0)]), (encNode).size, 88)) rfl (by decide) rfl rfl rfl rfl rfl rfl rl2 rl3 e5 (fun ao9 cap9 rl4 => ?_)
         refine ⟨fun w' s => ((s.selectT 5 [4] (by decide) rfl rfl).heap hle5), ?_⟩
         refine TQ 6 (by kernel_rfl) rfl (ov_fieldAddr underlying62 rfl rfl rfl sizeOf60 rfl rfl) ?_
         refine AL.any (rs := [7]) (by kernel_rfl) (by decide) ?_
         refine ALs.cons0 (i := 7) rfl (Runs.free rfl) rfl ?_ ?_
         ·
          refine os_store (i := 2) (vs := [(.slice ao9 (l1 ++ ([r4.1] : List Node)).length cap9)]) (cs' := [(.int .i64 1), (.slice none 0 0), (.int .i64 0), (.int .i64 0), (mkS []), (.slice ao9 (l1 ++ ([r4.1] : List Node)).length cap9)]) sizeOf60 rfl rfl rfl rfl rfl rfl rfl rfl rfl ?_
          refine ⟨fun w' s => ((s.selectT 5 [4] (by decide) rfl rfl).heap hle5), ?_⟩
          refine AL.done (by kernel_rfl) ?_
          refine bn (tn ?_)
          exact ⟨H5, r4.2.1, r4.2.2, (l1 ++ ([r4.1] : List Node)), ao9, cap9, (xs1 ++ [(.int .i64 r4.1.kind), (.slice ao7 r4.1.step.strokes.length cap7), (.int .i64 r4.1.step.wait), (.int .i64 r4.1.count), (mkS r4.1.name), (.slice ao8 r4.1.nodes.length cap8)]), ((hle3.trans hle4).trans hle5), rl4, (Sub.all rfl), fun w' s => (s.selectT 5 [2, 3, 1, 4] (by decide) rfl rfl), hm⟩
         exact ALs.nil
        exact ALs.nil
       exact ALs.nil
      exact ALs.nil
     exact ALs.nil
    replace hm := ite_f hc7 hm
    refine WP.exit (then_exit (then_exit (block_here (tn ?_))))
    exact ⟨H4, r3.2.1, r3.2.2, l1, ao6, cap6, xs1, (hle3.trans hle4), rl2, (Sub.all rfl), fun w' s => s, hm⟩
   rintro g' S' ⟨H6, i2, c2, l3, ao10, cap10, xs2, hle6, rl5, hsub2, hS2, hm⟩
   refine WP.sub hsub2 (WP.weaken hS2 ?_)
   replace hm := (congrFun (congrFun (congrFun hk2 i2) c2) l3).symm.trans hm
   replace h1 := h1.mono hle6
   replace hG := hG.mono hle6
   refine WP.seq (WP.region (Vm rfl ?_))
   obtain ⟨r5, e6, hm⟩ := bind_some hm
   refine ws rfl (os_bcon call66 rfl rfl (program_reader_needs_con (Rdr.mk p_r.tokens i2 c2) 2 [125] bp1 ao1 cap1 w0 H0 (.blk b3 62 [(.int .i64 1), (.slice none 0 0), (.int .i64 0), (.int .i64 0), (mkS []), (.slice ao10 l3.length cap10)] :: .row 62 (encNode).size l3.length (.slice ao10 l3.length cap10) xs2 :: .blk b1 62 [(.int .i64 0), (.slice none 0 0), (.int .i64 0), (.int .i64 0), (mkS []), (.slice none 0 0)] :: tl) H6 h1 hc1 hG r5 e6) (fun rr5 H7 ms5 hle7 hR5 => ?_))
   replace h1 := h1.mono hle7
   replace rl5 := rl5.mono hle7
   replace hG := hG.mono hle7
   obtain ⟨rfl, rfl⟩ := hR5
   refine WL.nil (tn (WP.seq (WP.region (V rfl (ov_load_whole (i := 1) isAgg62 sizeOf62 rfl rfl rfl rfl) ?_))))
   refine ws0 rfl (os_store (i := 3) (vs := [(.int .i64 1), (.slice none 0 0), (.int .i64 0), (.int .i64 0), (mkS []), (.slice ao10 l3.length cap10)]) (cs' := [(.int .i64 1), (.slice none 0 0), (.int .i64 0), (.int .i64 0), (mkS []), (.slice ao10 l3.length cap10)]) sizeOf62 rfl rfl rfl rfl rfl rfl rfl rfl rfl ?_)
   refine WL.nil (tn (WP.ret (block_ret (then_ret ?_))))
   obtain rfl := Option.some.inj hm
   refine retQ_ret results38 (Res.cell rfl (box_loads (i := 3) isAgg62 sizeOf62 rfl rfl) Res.nil) rfl (fun w' s => ?_)
   obtain ⟨H8, hc10, hle8, h8, s⟩ := St.row_held (s.selectT 4 [2, 0, 1, 3] (by decide) rfl rfl) rl5
   replace h1 := h1.mono hle8
   replace hG := hG.mono hle8
   exact ⟨H8, _, ((((hle1.trans hle2).trans hle6).trans hle7).trans hle8), ⟨none, 0, ao10, cap10, rfl, rfl, SL.nil _ _ _, Nat.le_refl _, h8, hc10⟩, (s.selectT 3 [0] (by decide) rfl rfl)⟩
  replace hm := ite_f hc4 hm
  refine WP.seq (WP.region (Vm rfl ?_))
  obtain ⟨r6, e7, hm⟩ := bind_some hm
  refine ws rfl (os_bcon call65 rfl rfl (program_reader_takes_con (Rdr.mk p_r.tokens r1.2.1 r1.2.2) 0 [114, 101, 112, 101, 97, 116] bp1 ao1 cap1 w0 H0 (.blk b1 62 [(.int .i64 0), (.slice none 0 0), (.int .i64 0), (.int .i64 0), (mkS []), (.slice none 0 0)] :: tl) H1 h1 hc1 hG r6 e7) (fun rr6 H9 ms6 hle9 hR6 => ?_))
  replace h1 := h1.mono hle9
  replace hG := hG.mono hle9
  obtain ⟨rfl, rfl⟩ := hR6
  refine Va rfl (WL.nil (tn ?_))
  refine WP.cond rfl (fun hc11 => ?_) (fun hc11 => ?_)
  ·
   replace hm := ite_t hc11 hm
   refine WP.seq (WP.region (Vm rfl ?_))
   obtain ⟨r7, e8, hm⟩ := bind_some hm
   refine ws rfl (os_bcon call66 rfl rfl (program_reader_needs_con (Rdr.mk p_r.tokens r6.2.1 r6.2.2) 1 [] bp1 ao1 cap1 w0 H0 (.blk b1 62 [(.int .i64 0), (.slice none 0 0), (.int .i64 0), (.int .i64 0), (mkS []), (.slice none 0 0)] :: tl) H9 h1 hc1 hG r7 e8) (fun rr7 H10 ms7 hle10 hR7 => ?_))
   replace h1 := h1.mono hle10
   replace hG := hG.mono hle10
   obtain ⟨rfl, rfl⟩ := hR7
   obtain ⟨r8, e9, hm⟩ := bind_some hm
   refine wo rfl (oq_con (r := (.int .i64 r8)) call67 rfl rfl (fun w' s => ⟨_, (program_value_con r7.1  w' H10 s.hold hG r8 e9)⟩)) ?_
   refine Va rfl (WL.nil (tn (WP.seq (WP.region (Vm rfl (Vm rfl ?_))))))
   obtain ⟨r9, e10, hm⟩ := bind_some hm
   refine ws rfl (os_bcon call38 rfl rfl (hself (Rdr.mk p_r.tokens r7.2.1 r7.2.2) bp1 ao1 cap1 w0 H0 (.blk b1 62 [(.int .i64 0), (.slice none 0 0), (.int .i64 0), (.int .i64 0), (mkS []), (.slice none 0 0)] :: tl) H10 h1 hc1 hG r9 e10) (fun rr8 H11 ms8 hle11 hR8 => ?_))
   replace h1 := h1.mono hle11
   replace hG := hG.mono hle11
   obtain ⟨ao11, cap11, ao12, cap12, rfl, rfl, h9, hc12, h10, hc13⟩ := hR8
   have rl6 : RL H11 encNode ([r9.1] : List Node) [(.int .i64 r9.1.kind), (.slice ao11 r9.1.step.strokes.length cap11), (.int .i64 r9.1.step.wait), (.int .i64 r9.1.count), (mkS r9.1.name), (.slice ao12 r9.1.nodes.length cap12)] := RL.cons (cs := [(.int .i64 r9.1.kind), (.slice ao11 r9.1.step.strokes.length cap11), (.int .i64 r9.1.step.wait), (.int .i64 r9.1.count), (mkS r9.1.name), (.slice ao12 r9.1.nodes.length cap12)]) (xs := []) (encNode_make ⟨ao11, cap11, ao12, cap12, rfl, h9, hc12, h10, hc13⟩) (RL.nil _ _)
   refine ws rfl (os_buildSlice (cs := [(.int .i64 r9.1.kind), (.slice ao11 r9.1.step.strokes.length cap11), (.int .i64 r9.1.step.wait), (.int .i64 r9.1.count), (mkS r9.1.name), (.slice ao12 r9.1.nodes.length cap12)]) (E := 62) (sz := 6) rfl rfl (fun _ => by kernel_rfl) rfl (by decide) (fun b5 => ?_))
   refine WL.held rl6 (fun H12 hc14 hle12 h11 => ?_)
   replace h1 := h1.mono hle12
   replace hG := hG.mono hle12
   refine V rfl (ov_build (r := (.agg #[(.int .i64 2), (.slice none 0 0), (.int .i64 0), (.int .i64 r8), (mkS []), (.slice (some ⟨b5, 0, none⟩) ([r9.1] : List Node).length 1)])) rfl rfl (fun _ => by kernel_rfl)) ?_
   refine ws0 rfl (os_store (i := 1) (vs := [(.int .i64 2), (.slice none 0 0), (.int .i64 0), (.int .i64 r8), (mkS []), (.slice (some ⟨b5, 0, none⟩) ([r9.1] : List Node).length 1)]) (cs' := [(.int .i64 2), (.slice none 0 0), (.int .i64 0), (.int .i64 r8), (mkS []), (.slice (some ⟨b5, 0, none⟩) ([r9.1] : List Node).length 1)]) sizeOf62 rfl rfl rfl rfl rfl rfl rfl rfl rfl ?_)
   refine WL.nil (tn (WP.ret (block_ret (then_ret ?_))))
   obtain rfl := Option.some.inj hm
   refine retQ_ret results38 (Res.cell rfl (box_loads (i := 1) isAgg62 sizeOf62 rfl rfl) Res.nil) rfl (fun w' s => ?_)
   exact ⟨H12, _, ((((hle1.trans hle9).trans hle10).trans hle11).trans hle12), ⟨none, 0, (some ⟨b5, 0, none⟩), 1, rfl, rfl, SL.nil _ _ _, Nat.le_refl _, h11, hc14⟩, (s.selectT 2 [0] (by decide) rfl rfl)⟩
  replace hm := ite_f hc11 hm
  refine WP.seq (WP.region (Vm rfl ?_))
  obtain ⟨r10, e11, hm⟩ := bind_some hm
  refine ws rfl (os_bcon call65 rfl rfl (program_reader_takes_con (Rdr.mk p_r.tokens r6.2.1 r6.2.2) 0 [105, 102] bp1 ao1 cap1 w0 H0 (.blk b1 62 [(.int .i64 0), (.slice none 0 0), (.int .i64 0), (.int .i64 0), (mkS []), (.slice none 0 0)] :: tl) H9 h1 hc1 hG r10 e11) (fun rr9 H13 ms9 hle13 hR9 => ?_))
  replace h1 := h1.mono hle13
  replace hG := hG.mono hle13
  obtain ⟨rfl, rfl⟩ := hR9
  refine Va rfl (WL.nil (tn ?_))
  refine WP.cond rfl (fun hc15 => ?_) (fun hc15 => ?_)
  ·
   replace hm := ite_t hc15 hm
   refine WP.seq (WP.region (Vm rfl ?_))
   obtain ⟨r11, e12, hm⟩ := bind_some hm
   refine ws rfl (os_bcon call66 rfl rfl (program_reader_needs_con (Rdr.mk p_r.tokens r10.2.1 r10.2.2) 0 [] bp1 ao1 cap1 w0 H0 (.blk b1 62 [(.int .i64 0), (.slice none 0 0), (.int .i64 0), (.int .i64 0), (mkS []), (.slice none 0 0)] :: tl) H13 h1 hc1 hG r11 e12) (fun rr10 H14 ms10 hle14 hR10 => ?_))
   replace h1 := h1.mono hle14
   replace hG := hG.mono hle14
   obtain ⟨rfl, rfl⟩ := hR10
   refine Va rfl (WL.nil (tn (WP.seq (WP.region (Vm rfl ?_)))))
   obtain ⟨r12, e13, hm⟩ := bind_some hm
   refine ws rfl (os_bcon call38 rfl rfl (hself (Rdr.mk p_r.tokens r11.2.1 r11.2.2) bp1 ao1 cap1 w0 H0 (.blk b1 62 [(.int .i64 0), (.slice none 0 0), (.int .i64 0), (.int .i64 0), (mkS []), (.slice none 0 0)] :: tl) H14 h1 hc1 hG r12 e13) (fun rr11 H15 ms11 hle15 hR11 => ?_))
   replace h1 := h1.mono hle15
   replace hG := hG.mono hle15
   obtain ⟨ao13, cap13, ao14, cap14, rfl, rfl, h12, hc16, h13, hc17⟩ := hR11
   refine ws rfl (os_alloc (cs := [(.int .i64 0), (.slice none 0 0), (.int .i64 0), (.int .i64 0), (mkS []), (.slice none 0 0)]) zeroValue62 rfl rfl (fun b6 => ?_))
   refine ws0 rfl (os_store (i := 0) (vs := [(.int .i64 r12.1.kind), (.slice ao13 r12.1.step.strokes.length cap13), (.int .i64 r12.1.step.wait), (.int .i64 r12.1.count), (mkS r12.1.name), (.slice ao14 r12.1.nodes.length cap14)]) (cs' := [(.int .i64 r12.1.kind), (.slice ao13 r12.1.step.strokes.length cap13), (.int .i64 r12.1.step.wait), (.int .i64 r12.1.count), (mkS r12.1.name), (.slice ao14 r12.1.nodes.length cap14)]) sizeOf62 rfl rfl rfl rfl rfl rfl rfl rfl rfl ?_)
   refine WL.nil (tn (WP.seq (WP.region (Vm rfl ?_))))
   refine WL.weaken (fun _ s => s.selectT 3 [1, 0, 2] (by decide) rfl rfl) ?_
   obtain ⟨r13, e14, hm⟩ := bind_some hm
   refine ws rfl (os_bcon call66 rfl rfl (program_reader_needs_con (Rdr.mk p_r.tokens r12.2.1 r12.2.2) 0 [101, 108, 115, 101] bp1 ao1 cap1 w0 H0 (.blk b6 62 [(.int .i64 r12.1.kind), (.slice ao13 r12.1.step.strokes.length cap13), (.int .i64 r12.1.step.wait), (.int .i64 r12.1.count), (mkS r12.1.name), (.slice ao14 r12.1.nodes.length cap14)] :: .blk b1 62 [(.int .i64 0), (.slice none 0 0), (.int .i64 0), (.int .i64 0), (mkS []), (.slice none 0 0)] :: tl) H15 h1 hc1 hG r13 e14) (fun rr12 H16 ms12 hle16 hR12 => ?_))
   replace h12 := h12.mono hle16
   replace h13 := h13.mono hle16
   replace h1 := h1.mono hle16
   replace hG := hG.mono hle16
   obtain ⟨rfl, rfl⟩ := hR12
   refine WL.nil (tn (WP.seq ?_))
   refine WP.region_any (S₀ := St w0 H0 (.blk b6 62 [(.int .i64 r12.1.kind), (.slice ao13 r12.1.step.strokes.length cap13), (.int .i64 r12.1.step.wait), (.int .i64 r12.1.count), (mkS r12.1.name), (.slice ao14 r12.1.nodes.length cap14)] :: tl) H16) 7 rfl (by kernel_rfl) (fun w' s => (s.selectT 3 [1] (by decide) rfl rfl)) (fun _ s => s.drew) ?_
   refine TQ 0 (by kernel_rfl) rfl (ov_move rfl rfl) (TQ 1 (by kernel_rfl) rfl (ov_load_whole (i := 0) isAgg62 sizeOf62 rfl rfl rfl rfl) (TQ 2 (by kernel_rfl) rfl (ov_move rfl rfl) ?_))
   refine AL.any (rs := [3]) (by kernel_rfl) (by decide) ?_
   refine ALs.cons (i := 3) rfl (Runs.free rfl) rfl rfl ?_ ?_
   ·
    obtain ⟨r14, e15, hm⟩ := bind_some hm
    refine os_bcon call38 rfl rfl (hself (Rdr.mk p_r.tokens r13.2.1 r13.2.2) bp1 ao1 cap1 w0 H0 (.blk b6 62 [(.int .i64 r12.1.kind), (.slice ao13 r12.1.step.strokes.length cap13), (.int .i64 r12.1.step.wait), (.int .i64 r12.1.count), (mkS r12.1.name), (.slice ao14 r12.1.nodes.length cap14)] :: .blk b1 62 [(.int .i64 0), (.slice none 0 0), (.int .i64 0), (.int .i64 0), (mkS []), (.slice none 0 0)] :: tl) H16 h1 hc1 hG r14 e15) (fun rr13 H17 ms13 hle17 hR13 => ?_)
    replace h12 := h12.mono hle17
    replace h13 := h13.mono hle17
    replace h1 := h1.mono hle17
    replace hG := hG.mono hle17
    obtain ⟨ao15, cap15, ao16, cap16, rfl, rfl, h14, hc18, h15, hc19⟩ := hR13
    refine ⟨fun w' s => ((s.selectT 3 [1] (by decide) rfl rfl).heap hle17), ?_⟩
    refine AL.any (rs := [4]) (by kernel_rfl) (by decide) ?_
    refine ALs.cons (i := 4) rfl (Runs.free rfl) rfl rfl ?_ ?_
    ·
     have rl7 : RL H17 encNode ([r12.1, r14.1] : List Node) [(.int .i64 r12.1.kind), (.slice ao13 r12.1.step.strokes.length cap13), (.int .i64 r12.1.step.wait), (.int .i64 r12.1.count), (mkS r12.1.name), (.slice ao14 r12.1.nodes.length cap14), (.int .i64 r14.1.kind), (.slice ao15 r14.1.step.strokes.length cap15), (.int .i64 r14.1.step.wait), (.int .i64 r14.1.count), (mkS r14.1.name), (.slice ao16 r14.1.nodes.length cap16)] := RL.cons (cs := [(.int .i64 r12.1.kind), (.slice ao13 r12.1.step.strokes.length cap13), (.int .i64 r12.1.step.wait), (.int .i64 r12.1.count), (mkS r12.1.name), (.slice ao14 r12.1.nodes.length cap14)]) (xs := [(.int .i64 r14.1.kind), (.slice ao15 r14.1.step.strokes.length cap15), (.int .i64 r14.1.step.wait), (.int .i64 r14.1.count), (mkS r14.1.name), (.slice ao16 r14.1.nodes.length cap16)]) (encNode_make ⟨ao13, cap13, ao14, cap14, rfl, h12, hc16, h13, hc17⟩) (RL.cons (cs := [(.int .i64 r14.1.kind), (.slice ao15 r14.1.step.strokes.length cap15), (.int .i64 r14.1.step.wait), (.int .i64 r14.1.count), (mkS r14.1.name), (.slice ao16 r14.1.nodes.length cap16)]) (xs := []) (encNode_make ⟨ao15, cap15, ao16, cap16, rfl, h14, hc18, h15, hc19⟩) (RL.nil _ _))
     refine os_buildSlice (cs := [(.int .i64 r12.1.kind), (.slice ao13 r12.1.step.strokes.length cap13), (.int .i64 r12.1.step.wait), (.int .i64 r12.1.count), (mkS r12.1.name), (.slice ao14 r12.1.nodes.length cap14), (.int .i64 r14.1.kind), (.slice ao15 r14.1.step.strokes.length cap15), (.int .i64 r14.1.step.wait), (.int .i64 r14.1.count), (mkS r14.1.name), (.slice ao16 r14.1.nodes.length cap16)]) (E := 62) (sz := 6) rfl rfl (fun _ => by kernel_rfl) rfl (by decide) (fun b7 => ?_)
     refine ⟨fun w' s => ((s.selectT 4 [2] (by decide) rfl rfl).heap hle17), ?_⟩
     refine TQ 5 (by kernel_rfl) rfl (ov_build (r := (.agg #[(.int .i64 3), (.slice none 0 0), (.int .i64 0), (.int .i64 0), (mkS r11.1), (.slice (some ⟨b7, 0, none⟩) ([r12.1, r14.1] : List Node).length 2)])) rfl rfl (fun _ => by kernel_rfl)) ?_
     refine AL.any (rs := [6]) (by kernel_rfl) (by decide) ?_
     refine ALs.cons0 (i := 6) rfl (Runs.free rfl) rfl ?_ ?_
     ·
      refine os_store (i := 3) (vs := [(.int .i64 3), (.slice none 0 0), (.int .i64 0), (.int .i64 0), (mkS r11.1), (.slice (some ⟨b7, 0, none⟩) ([r12.1, r14.1] : List Node).length 2)]) (cs' := [(.int .i64 3), (.slice none 0 0), (.int .i64 0), (.int .i64 0), (mkS r11.1), (.slice (some ⟨b7, 0, none⟩) ([r12.1, r14.1] : List Node).length 2)]) sizeOf62 rfl rfl rfl rfl rfl rfl rfl rfl rfl ?_
      refine ⟨fun w' s => ((s.selectT 4 [2] (by decide) rfl rfl).heap hle17), ?_⟩
      refine AL.done (by kernel_rfl) ?_
      refine tn (WP.ret (block_ret (then_ret ?_)))
      obtain rfl := Option.some.inj hm
      refine retQ_ret results38 (Res.cell rfl (box_loads (i := 3) isAgg62 sizeOf62 rfl rfl) Res.nil) rfl (fun w' s => ?_)
      obtain ⟨H18, hc20, hle18, h16, s⟩ := St.row_held (s.selectT 4 [0, 1, 2, 3] (by decide) rfl rfl) rl7
      replace h1 := h1.mono hle18
      replace hG := hG.mono hle18
      exact ⟨H18, _, (((((((hle1.trans hle9).trans hle13).trans hle14).trans hle15).trans hle16).trans hle17).trans hle18), ⟨none, 0, (some ⟨b7, 0, none⟩), 2, rfl, rfl, SL.nil _ _ _, Nat.le_refl _, h16, hc20⟩, (s.selectT 3 [0] (by decide) rfl rfl)⟩
     exact ALs.nil
    exact ALs.nil
   exact ALs.nil
  replace hm := ite_f hc15 hm
  refine WP.skip (bn (tn ?_))
  exact ⟨H13, r10.2.1, r10.2.2, ((hle1.trans hle9).trans hle13), (Sub.all rfl), fun w' s => s, hm⟩
 rintro g' S' ⟨H19, i3, c3, hle19, hsub3, hS3, hm⟩
 refine WP.sub hsub3 (WP.weaken hS3 ?_)
 replace hm := (congrFun (congrFun hk1 i3) c3).symm.trans hm
 replace h1 := h1.mono hle19
 replace hG := hG.mono hle19
 refine WP.seq (WP.region (Vm rfl ?_))
 obtain ⟨r15, e16, hm⟩ := bind_some hm
 refine ws rfl (os_bcon call68 rfl rfl (program_reader_step_con (Rdr.mk p_r.tokens i3 c3) bp1 ao1 cap1 w0 H0 (.blk b1 62 [(.int .i64 0), (.slice none 0 0), (.int .i64 0), (.int .i64 0), (mkS []), (.slice none 0 0)] :: tl) H19 h1 hc1 hG r15 e16) (fun rr14 H20 ms14 hle20 hR14 => ?_))
 obtain ⟨ao17, cap17, ao18, cap18, rfl, rfl, h17, hc21, h18, hc22⟩ := hR14
 refine ws0 rfl (os_store (i := 1) (vs := [(.int .i64 r15.1.kind), (.slice ao17 r15.1.step.strokes.length cap17), (.int .i64 r15.1.step.wait), (.int .i64 r15.1.count), (mkS r15.1.name), (.slice ao18 r15.1.nodes.length cap18)]) (cs' := [(.int .i64 r15.1.kind), (.slice ao17 r15.1.step.strokes.length cap17), (.int .i64 r15.1.step.wait), (.int .i64 r15.1.count), (mkS r15.1.name), (.slice ao18 r15.1.nodes.length cap18)]) sizeOf62 rfl rfl rfl rfl rfl rfl rfl rfl rfl ?_)
 refine WL.nil (tn (WP.ret ?_))
 obtain rfl := Option.some.inj hm
 refine retQ_ret results38 (Res.cell rfl (box_loads (i := 1) isAgg62 sizeOf62 rfl rfl) Res.nil) rfl (fun w' s => ?_)
 exact ⟨H20, _, (hle19.trans hle20), ⟨ao17, cap17, ao18, cap18, rfl, rfl, h17, hc21, h18, hc22⟩, (s.selectT 2 [0] (by decide) rfl rfl)⟩
theorem program_reader_node_con (n : Nat) : ∀ (p_r : Rdr) (bp1 : Nat) (ao1 : Option Addr) (cap1 : Nat) (w0 : World) (H0 : Heap) (tl : List Ent) (H : Heap) (h1 : SL H encToken ao1 p_r.tokens) (hc1 : p_r.tokens.length ≤ cap1) (hG : Glob H) (r : (Node × Int × Bool)) (hm : program_reader_node n p_r = some r),
  BCon prog 38 [(pB bp1 0)] w0 H0 (.blk bp1 88 [(.slice ao1 p_r.tokens.length cap1), (.int .i64 p_r.at_), (.bool p_r.bad)] :: tl) H (fun v H' ms' => ∃ (ao2 : Option Addr) (cap2 : Nat) (ao3 : Option Addr) (cap3 : Nat), v = (.agg #[(.int .i64 r.1.kind), (.slice ao2 r.1.step.strokes.length cap2), (.int .i64 r.1.step.wait), (.int .i64 r.1.count), (mkS r.1.name), (.slice ao3 r.1.nodes.length cap3)]) ∧ ms' = (.blk bp1 88 [(.slice ao1 p_r.tokens.length cap1), (.int .i64 r.2.1), (.bool r.2.2)] :: tl) ∧ SL H' encStroke ao2 r.1.step.strokes ∧ r.1.step.strokes.length ≤ cap2 ∧ SL H' encNode ao3 r.1.nodes ∧ r.1.nodes.length ≤ cap3) := by
 induction n with
 | zero => intro p_r bp1 ao1 cap1 w0 H0 tl H h1 hc1 hG r hm; exact (none_some hm).elim
 | succ n ih => intro p_r bp1 ao1 cap1 w0 H0 tl H h1 hc1 hG r hm; exact program_reader_node_body_con (program_reader_node n) ih p_r bp1 ao1 cap1 w0 H0 tl H h1 hc1 hG r hm
end Go.Proofs.YtkgijoddkibapaaGreatDoor.W
