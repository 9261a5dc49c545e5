/- The walks. Written by our own program gen.py; Lean checks it. -/
import Derived.Test.YtgpfgnpdbmbknaaGreatDoorPlain
import Derived.Test.YtgpfgnpdbmbknaaGreatDoorEqs
import Derived.Test.YtgpfgnpdbmbknaaGreatDoorProg
import Derived.Test.YtgpfgnpdbmbknaaGreatDoorExt
import Derived.Test.YtgpfgnpdbmbknaaGreatDoorClone
import Derived.Test.YtgpfgnpdbmbknaaGreatDoorSort
import Derived.Test.YtgpfgnpdbmbknaaGreatDoorWalk5
import Derived.Test.YtgpfgnpdbmbknaaGreatDoorWalk6
set_option linter.unusedVariables false
set_option maxRecDepth 100000
set_option maxHeartbeats 4000000
namespace Go.Proofs.YtgpfgnpdbmbknaaGreatDoor.W
open Go Go.RowKit Go.Proofs.Tryz
theorem ref15_Parse_con (p_text : (List UInt8)) (w : World) (H : Heap) (hH : Le H (hp w)) (hG : Glob H) (r : (Node × Int × Int)) (hm : ref15_Parse p_text = some r) :
  Con prog 13 [(mkS p_text)] w H (fun v H' => ∃ (ao1 : Option Addr) (cap1 : Nat) (ao2 : Option Addr) (cap2 : Nat), v = (.tuple #[(.agg #[(.int .i64 r.1.kind), (.slice ao1 r.1.step.strokes.length cap1), (.int .i64 r.1.step.wait), (.int .i64 r.1.count), (mkS r.1.name), (.slice ao2 r.1.nodes.length cap2)]), (.int .i64 r.2.1), (.int .i64 r.2.2)]) ∧ SL H' encStroke ao1 r.1.step.strokes ∧ r.1.step.strokes.length ≤ cap1 ∧ SL H' encNode ao2 r.1.nodes ∧ r.1.nodes.length ≤ cap2) := by
 unfold ref15_Parse at hm
 refine con_of hH func13 rfl 57 ntmps13 rfl ?_
 refine WP.seq (WP.region ?_)
 refine ws rfl (os_alloc (cs := [(.int .i64 0), (.slice none 0 0), (.int .i64 0), (.int .i64 0), (mkS []), (.slice none 0 0)]) zeroValue28 rfl rfl (fun b1 => ?_))
 refine wq rfl rfl rfl (ov_assign rfl rfl) ?_
 refine wq rfl rfl rfl (ov_assign rfl rfl) ?_
 refine WL.nil (tn (WP.seq (WP.region ?_)))
 refine wq rfl rfl rfl (ov_move rfl rfl) ?_
 obtain ⟨r1, e1, hm⟩ := bind_some hm
 refine ws rfl (os_con call47 rfl rfl (fun w' s => (ref12_Scan_con p_text  w' H s.hold hG r1 e1)) (fun rr1 H1 hle1 hR1 => ?_))
 replace hG := hG.mono hle1
 obtain ⟨ao3, cap3, rfl, h3, hc3⟩ := hR1
 refine wq rfl rfl rfl (ov_move rfl rfl) ?_
 refine wq rfl rfl rfl (ov_extract rfl rfl rfl) ?_
 refine wq rfl rfl rfl (ov_extract rfl rfl rfl) ?_
 refine wq rfl rfl rfl (ov_extract rfl rfl rfl) ?_
 refine wq rfl rfl rfl (ov_assign rfl rfl) ?_
 refine wq rfl rfl rfl (ov_assign rfl rfl) ?_
 refine wq rfl rfl rfl (ov_assign rfl rfl) ?_
 refine WL.nil (tn (WP.seq (WP.seq (WP.region ?_))))
 refine wq rfl rfl rfl (ov_move rfl rfl) ?_
 refine wq rfl rfl rfl (ov_neq rfl rfl rfl) ?_
 refine WL.nil (tn ?_)
 refine WP.cond rfl (fun hc4 => ?_) (fun hc4 => ?_)
 ·
  replace hm := ite_t hc4 hm
  refine WP.seq (WP.region ?_)
  refine wq rfl rfl rfl (ov_build (r := (.agg #[(.int .i64 0), (.slice none 0 0), (.int .i64 0), (.int .i64 0), (mkS []), (.slice none 0 0)])) rfl rfl (fun _ => by kernel_rfl)) ?_
  refine wq rfl rfl rfl (ov_move rfl rfl) ?_
  refine wq rfl rfl rfl (ov_move rfl rfl) ?_
  refine ws0 rfl (os_store (i := 0) (vs := [(.int .i64 0), (.slice none 0 0), (.int .i64 0), (.int .i64 0), (mkS []), (.slice none 0 0)]) (cs' := [(.int .i64 0), (.slice none 0 0), (.int .i64 0), (.int .i64 0), (mkS []), (.slice none 0 0)]) sizeOf28 rfl rfl rfl rfl rfl rfl rfl rfl rfl ?_)
  refine wq rfl rfl rfl (ov_assign rfl rfl) ?_
  refine wq rfl rfl rfl (ov_assign rfl rfl) ?_
  refine WL.nil (tn (WP.ret (then_ret ?_)))
  obtain rfl := Option.some.inj hm
  refine retQ_ret results13 (Res.cell rfl (box_loads (i := 0) isAgg28 sizeOf28 rfl rfl) (Res.tmp rfl (Res.tmp rfl Res.nil))) rfl (fun w' s => ⟨s.below, ?_⟩)
  exact ⟨none, 0, none, 0, rfl, SL.nil _ _ _, Nat.le_refl _, SL.nil _ _ _, Nat.le_refl _⟩
 replace hm := ite_f hc4 hm
 refine WP.skip (tn (WP.seq (WP.region ?_)))
 refine wq rfl rfl rfl (ov_move rfl rfl) ?_
 refine wq rfl rfl rfl (ov_build (r := (.agg #[(.slice ao3 r1.1.length cap3), (.int .i64 0), (.bool false)])) rfl rfl (fun _ => by kernel_rfl)) ?_
 refine ws rfl (os_box (cs := [(.slice ao3 r1.1.length cap3), (.int .i64 0), (.bool false)]) rfl rfl rfl (fun b2 => ?_))
 refine wq rfl rfl rfl (ov_assign rfl rfl) ?_
 refine WL.nil (tn (WP.seq (WP.region ?_)))
 refine wq rfl rfl rfl (ov_move rfl rfl) ?_
 obtain ⟨r2, e2, hm⟩ := bind_some hm
 refine ws rfl (os_bcon call48 rfl rfl (ref15_Reader_node_con 600 (RefRdr.mk r1.1 0 false) b2 ao3 cap3 w H [.blk b1 28 [(.int .i64 0), (.slice none 0 0), (.int .i64 0), (.int .i64 0), (mkS []), (.slice none 0 0)]] H1 h3 hc3 hG r2 e2) (fun rr2 H2 ms1 hle2 hR2 => ?_))
 replace h3 := h3.mono hle2
 replace hG := hG.mono hle2
 obtain ⟨ao4, cap4, ao5, cap5, rfl, rfl, h4, hc5, h5, hc6⟩ := hR2
 refine ws rfl (os_alloc (cs := [(.int .i64 0), (.slice none 0 0), (.int .i64 0), (.int .i64 0), (mkS []), (.slice none 0 0)]) zeroValue28 rfl rfl (fun b3 => ?_))
 refine ws0 rfl (os_store (i := 0) (vs := [(.int .i64 r2.1.kind), (.slice ao4 r2.1.step.strokes.length cap4), (.int .i64 r2.1.step.wait), (.int .i64 r2.1.count), (mkS r2.1.name), (.slice ao5 r2.1.nodes.length cap5)]) (cs' := [(.int .i64 r2.1.kind), (.slice ao4 r2.1.step.strokes.length cap4), (.int .i64 r2.1.step.wait), (.int .i64 r2.1.count), (mkS r2.1.name), (.slice ao5 r2.1.nodes.length cap5)]) sizeOf28 rfl rfl rfl rfl rfl rfl rfl rfl rfl ?_)
 refine WL.nil (tn (WP.seq (WP.seq ?_)))
 refine WP.region_any (S₀ := St w H [.blk b3 28 [(.int .i64 r2.1.kind), (.slice ao4 r2.1.step.strokes.length cap4), (.int .i64 r2.1.step.wait), (.int .i64 r2.1.count), (mkS r2.1.name), (.slice ao5 r2.1.nodes.length cap5)], .blk b2 95 [(.slice ao3 r1.1.length cap3), (.int .i64 r2.2.1), (.bool r2.2.2)], .blk b1 28 [(.int .i64 0), (.slice none 0 0), (.int .i64 0), (.int .i64 0), (mkS []), (.slice none 0 0)]] H2) 12 rfl (by kernel_rfl) (fun w' s => s) (fun _ s => s.drew) ?_
 refine tq (i := 0) rfl (by kernel_rfl) rfl rfl rfl (ov_move rfl rfl) ?_
 refine tq (i := 1) rfl (by kernel_rfl) rfl rfl rfl (ov_nilCheckB rfl rfl) ?_
 refine tq (i := 2) rfl (by kernel_rfl) rfl rfl rfl (ov_fieldAddr underlying95 rfl rfl rfl sizeOf81 rfl rfl) ?_
 refine tq (i := 3) rfl (by kernel_rfl) rfl rfl rfl (ov_load_box (i := 1) isAgg81 rfl rfl rfl rfl) ?_
 refine tq (i := 4) rfl (by kernel_rfl) rfl rfl rfl (ov_move rfl rfl) ?_
 refine tq (i := 5) rfl (by kernel_rfl) rfl rfl rfl (ov_nilCheckB rfl rfl) ?_
 refine tq (i := 6) rfl (by kernel_rfl) rfl rfl rfl (ov_fieldAddr underlying95 rfl rfl rfl sizeOf3 rfl rfl) ?_
 refine tq (i := 7) rfl (by kernel_rfl) rfl rfl rfl (ov_load_box (i := 1) isAgg3 rfl rfl rfl rfl) ?_
 obtain ⟨x1, e3, hm⟩ := bind_some hm
 obtain ⟨h6, h7, h8, cs1, h9, h10⟩ := h3.get e3 (by decide)
 obtain rfl : cs1 = [(.int .i64 x1.kind), (mkS x1.text), (.int .i64 x1.at_)] := h9
 refine tq (i := 8) rfl (by kernel_rfl) rfl rfl rfl (ov_indexAddr underlying81 sizeOf89 rfl rfl rfl h6 h7 h8) ?_
 refine tq (i := 9) rfl (by kernel_rfl) rfl rfl rfl (ov_load_elems (vs := [(.int .i64 x1.kind), (mkS x1.text), (.int .i64 x1.at_)]) isAgg89 sizeOf89 rfl rfl rfl h10 h8) ?_
 refine AL.any (rs := [10]) (by kernel_rfl) (by decide) ?_
 refine ALs.cons (i := 10) rfl (Runs.free rfl) rfl rfl ?_ ?_
 ·
  refine os_alloc (cs := [(.int .i64 0), (mkS []), (.int .i64 0)]) zeroValue89 rfl rfl (fun b4 => ?_)
  refine ⟨fun w' s => (s.select [1, 2, 3] (by decide) rfl), ?_⟩
  refine AL.any (rs := [11]) (by kernel_rfl) (by decide) ?_
  refine ALs.cons0 (i := 11) rfl (Runs.free rfl) rfl ?_ ?_
  ·
   refine os_store (i := 0) (vs := [(.int .i64 x1.kind), (mkS x1.text), (.int .i64 x1.at_)]) (cs' := [(.int .i64 x1.kind), (mkS x1.text), (.int .i64 x1.at_)]) sizeOf89 rfl rfl rfl rfl rfl rfl rfl rfl rfl ?_
   refine ⟨fun w' s => (s.select [1, 2, 3] (by decide) rfl), ?_⟩
   refine AL.done (by kernel_rfl) ?_
   refine tn (WP.seq (WP.region ?_))
   refine wq rfl rfl rfl (ov_move rfl rfl) ?_
   refine wq rfl rfl rfl (ov_nilCheckB rfl rfl) ?_
   refine wq rfl rfl rfl (ov_fieldAddr underlying95 rfl rfl rfl sizeOf4 rfl rfl) ?_
   refine wq rfl rfl rfl (ov_load_box (i := 2) isAgg4 rfl rfl rfl rfl) ?_
   refine wq rfl rfl rfl (ov_move rfl rfl) ?_
   refine WL.cut_bool 4 46 (x := (r2.2.2 || (x1.kind != 3))) ?_ ?_
   ·
    rcases Bool.eq_false_or_eq_true r2.2.2 with hc7 | hc7
    ·
     refine WL.idle (Idle.no rfl rfl rfl hc7) rfl rfl ?_
     refine WL.idle (Idle.no rfl rfl rfl hc7) rfl rfl ?_
     refine WL.idle (Idle.no rfl rfl rfl hc7) rfl rfl ?_
     refine wq rfl rfl rfl (ov_pick_true rfl (guard_eq rfl hc7) rfl) ?_
     exact WL.nil ⟨Sub.cons' rfl (congrArg Value.bool (orT hc7)) (Sub.dropn 4 rfl), fun _ s => s⟩
    refine wy hc7 rfl (ov_fieldAddr underlying89 rfl rfl rfl sizeOf3 rfl rfl) ?_
    refine wy hc7 rfl (ov_load_box (i := 0) isAgg3 rfl rfl rfl rfl) ?_
    refine wy hc7 rfl (ov_neq rfl rfl rfl) ?_
    refine wq rfl rfl rfl (ov_pick_false rfl (guard_eq rfl hc7) rfl) ?_
    exact WL.nil ⟨Sub.cons' rfl (congrArg Value.bool (orF hc7)) (Sub.dropn 4 rfl), fun _ s => s⟩
   refine WL.nil (tn ?_)
   refine WP.cond rfl (fun hc8 => ?_) (fun hc8 => ?_)
   ·
    replace hm := ite_t hc8 hm
    refine WP.seq ?_
    refine WP.region_any (S₀ := St w H [.blk b4 89 [(.int .i64 x1.kind), (mkS x1.text), (.int .i64 x1.at_)], .blk b3 28 [(.int .i64 r2.1.kind), (.slice ao4 r2.1.step.strokes.length cap4), (.int .i64 r2.1.step.wait), (.int .i64 r2.1.count), (mkS r2.1.name), (.slice ao5 r2.1.nodes.length cap5)], .blk b2 95 [(.slice ao3 r1.1.length cap3), (.int .i64 r2.2.1), (.bool r2.2.2)], .blk b1 28 [(.int .i64 0), (.slice none 0 0), (.int .i64 0), (.int .i64 0), (mkS []), (.slice none 0 0)]] H2) 6 rfl (by kernel_rfl) (fun w' s => s) (fun _ s => s.drew) ?_
    refine tq (i := 0) rfl (by kernel_rfl) rfl rfl rfl (ov_build (r := (.agg #[(.int .i64 0), (.slice none 0 0), (.int .i64 0), (.int .i64 0), (mkS []), (.slice none 0 0)])) rfl rfl (fun _ => by kernel_rfl)) ?_
    refine tq (i := 1) rfl (by kernel_rfl) rfl rfl rfl (ov_fieldAddr underlying89 rfl rfl rfl sizeOf3 rfl rfl) ?_
    refine tq (i := 2) rfl (by kernel_rfl) rfl rfl rfl (ov_load_box (i := 0) isAgg3 rfl rfl rfl rfl) ?_
    refine AL.any (rs := [3]) (by kernel_rfl) (by decide) ?_
    refine ALs.cons0 (i := 3) rfl (Runs.free rfl) rfl ?_ ?_
    ·
     refine os_store (i := 3) (vs := [(.int .i64 0), (.slice none 0 0), (.int .i64 0), (.int .i64 0), (mkS []), (.slice none 0 0)]) (cs' := [(.int .i64 0), (.slice none 0 0), (.int .i64 0), (.int .i64 0), (mkS []), (.slice none 0 0)]) sizeOf28 rfl rfl rfl rfl rfl rfl rfl rfl rfl ?_
     refine ⟨fun w' s => s, ?_⟩
     refine tq (i := 4) rfl (by kernel_rfl) rfl rfl rfl (ov_assign rfl rfl) ?_
     refine tq (i := 5) rfl (by kernel_rfl) rfl rfl rfl (ov_assign rfl rfl) ?_
     refine AL.done (by kernel_rfl) ?_
     refine tn (WP.ret (then_ret ?_))
     obtain rfl := Option.some.inj hm
     refine retQ_ret results13 (Res.cell rfl (box_loads (i := 3) isAgg28 sizeOf28 rfl rfl) (Res.tmp rfl (Res.tmp rfl Res.nil))) rfl (fun w' s => ⟨s.below, ?_⟩)
     exact ⟨none, 0, none, 0, rfl, SL.nil _ _ _, Nat.le_refl _, SL.nil _ _ _, Nat.le_refl _⟩
    exact ALs.nil
   replace hm := ite_f hc8 hm
   refine WP.skip (tn (WP.seq (WP.seq (WP.region ?_))))
   refine wq rfl rfl rfl (ov_load_whole (i := 1) isAgg28 sizeOf28 rfl rfl rfl rfl) ?_
   obtain ⟨r3, e4, hm⟩ := bind_some hm
   refine wo rfl (oq_con (r := (.int .i64 r3)) call32 rfl rfl (fun w' s => ⟨_, (ref15_Check_con r2.1 ao4 cap4 ao5 cap5  w' H2 s.hold h4 hc5 h5 hc6 hG r3 e4)⟩)) ?_
   refine wq rfl rfl rfl (ov_assign rfl rfl) ?_
   refine WL.nil (tn (WP.seq (WP.region ?_)))
   refine wq rfl rfl rfl (ov_move rfl rfl) ?_
   refine wq rfl rfl rfl (ov_neq rfl rfl rfl) ?_
   refine WL.nil (tn ?_)
   refine WP.cond rfl (fun hc9 => ?_) (fun hc9 => ?_)
   ·
    replace hm := ite_t hc9 hm
    refine WP.seq (WP.region ?_)
    refine wq rfl rfl rfl (ov_build (r := (.agg #[(.int .i64 0), (.slice none 0 0), (.int .i64 0), (.int .i64 0), (mkS []), (.slice none 0 0)])) rfl rfl (fun _ => by kernel_rfl)) ?_
    refine wq rfl rfl rfl (ov_move rfl rfl) ?_
    refine ws0 rfl (os_store (i := 3) (vs := [(.int .i64 0), (.slice none 0 0), (.int .i64 0), (.int .i64 0), (mkS []), (.slice none 0 0)]) (cs' := [(.int .i64 0), (.slice none 0 0), (.int .i64 0), (.int .i64 0), (mkS []), (.slice none 0 0)]) sizeOf28 rfl rfl rfl rfl rfl rfl rfl rfl rfl ?_)
    refine wq rfl rfl rfl (ov_assign rfl rfl) ?_
    refine wq rfl rfl rfl (ov_assign rfl rfl) ?_
    refine WL.nil (tn (WP.ret (then_ret ?_)))
    obtain rfl := Option.some.inj hm
    refine retQ_ret results13 (Res.cell rfl (box_loads (i := 3) isAgg28 sizeOf28 rfl rfl) (Res.tmp rfl (Res.tmp rfl Res.nil))) rfl (fun w' s => ⟨s.below, ?_⟩)
    exact ⟨none, 0, none, 0, rfl, SL.nil _ _ _, Nat.le_refl _, SL.nil _ _ _, Nat.le_refl _⟩
   replace hm := ite_f hc9 hm
   refine WP.skip (tn (WP.seq (WP.region ?_)))
   refine wq rfl rfl rfl (ov_load_whole (i := 1) isAgg28 sizeOf28 rfl rfl rfl rfl) ?_
   refine ws0 rfl (os_store (i := 3) (vs := [(.int .i64 r2.1.kind), (.slice ao4 r2.1.step.strokes.length cap4), (.int .i64 r2.1.step.wait), (.int .i64 r2.1.count), (mkS r2.1.name), (.slice ao5 r2.1.nodes.length cap5)]) (cs' := [(.int .i64 r2.1.kind), (.slice ao4 r2.1.step.strokes.length cap4), (.int .i64 r2.1.step.wait), (.int .i64 r2.1.count), (mkS r2.1.name), (.slice ao5 r2.1.nodes.length cap5)]) sizeOf28 rfl rfl rfl rfl rfl rfl rfl rfl rfl ?_)
   refine wq rfl rfl rfl (ov_assign rfl rfl) ?_
   refine wq rfl rfl rfl (ov_assign rfl rfl) ?_
   refine WL.nil (tn (WP.ret ?_))
   obtain rfl := Option.some.inj hm
   refine retQ_ret results13 (Res.cell rfl (box_loads (i := 3) isAgg28 sizeOf28 rfl rfl) (Res.tmp rfl (Res.tmp rfl Res.nil))) rfl (fun w' s => ⟨s.below, ?_⟩)
   exact ⟨ao4, cap4, ao5, cap5, rfl, h4.mono s.le_newer, hc5, h5.mono s.le_newer, hc6⟩
  exact ALs.nil
 exact ALs.nil
theorem ref13_SameStrokes_con (p_a : (List Stroke)) (p_b : (List Stroke)) (ao1 : Option Addr) (cap1 : Nat) (ao2 : Option Addr) (cap2 : Nat) (w : World) (H : Heap) (hH : Le H (hp w)) (h1 : SL H encStroke ao1 p_a) (hc1 : p_a.length ≤ cap1) (h2 : SL H encStroke ao2 p_b) (hc2 : p_b.length ≤ cap2) (hG : Glob H) (r : Bool) (hm : ref13_SameStrokes p_a p_b = some r) :
  Con prog 99 [(.slice ao1 p_a.length cap1), (.slice ao2 p_b.length cap2)] w H (fun v _ => v = (.bool r)) := by
 unfold ref13_SameStrokes at hm
 refine con_of hH func99 rfl 26 ntmps99 rfl ?_
 refine WP.seq (WP.region ?_)
 refine wq rfl rfl rfl (ov_assign rfl rfl) ?_
 refine WL.nil (tn (WP.seq (WP.seq (WP.region ?_))))
 refine wq rfl rfl rfl (ov_move rfl rfl) ?_
 refine wq rfl rfl rfl (ov_len_slice underlying23 rfl rfl) ?_
 refine wq rfl rfl rfl (ov_move rfl rfl) ?_
 refine wq rfl rfl rfl (ov_len_slice underlying23 rfl rfl) ?_
 refine wq rfl rfl rfl (ov_neq rfl rfl rfl) ?_
 refine WL.nil (tn ?_)
 refine WP.cond rfl (fun hc3 => ?_) (fun hc3 => ?_)
 ·
  replace hm := ite_t hc3 hm
  refine WP.seq (WP.region ?_)
  refine wq rfl rfl rfl (ov_assign rfl rfl) ?_
  refine WL.nil (tn (WP.ret (then_ret ?_)))
  obtain rfl := Option.some.inj hm
  refine retQ_ret results99 (Res.tmp rfl Res.nil) rfl (fun w' s => ⟨s.below, ?_⟩)
  exact rfl
 replace hm := ite_f hc3 hm
 refine WP.skip (tn ?_)
 obtain ⟨k1, hk1, hm⟩ := joinK_some hm
 refine WP.seq_join (fun g' S' => Sub [(1000000007, (.bool false))] g' ∧ (∀ w', S' w' → St w H [] H w') ∧ k1 = some r) ?_ ?_
 ·
  refine WP.seq (WP.region ?_)
  refine wq rfl rfl rfl (ov_assign rfl rfl) ?_
  refine WL.nil (tn (WP.block ?_))
  refine WP.loop (fun m1 g' S' => ∃ (i1 : Int), Sub [(0, (.slice ao1 p_a.length cap1)), (1, (.slice ao2 p_b.length cap2)), (5, (.int .i64 i1)), (1000000007, (.bool false))] g' ∧ (∀ w', S' w' → St w H [] H w') ∧ ref13_SameStrokes_loop1 p_a p_b k1 m1 i1 = some r) ((Int.toNat ((p_a.length : Int) - 0) + 1)) ⟨0, (Sub.all rfl), fun w' s => s, hm⟩ ?_ ?_
  ·
   rintro g' S' ⟨_, _, _, hm⟩
   exact none_some hm
  rintro m1 g' S' ⟨i1, hsub1, hS1, hm⟩
  refine WP.sub hsub1 (WP.weaken hS1 ?_)
  rw [ref13_SameStrokes_loop1] at hm
  refine WP.seq (WP.seq (WP.region ?_))
  refine wq rfl rfl rfl (ov_move rfl rfl) ?_
  refine wq rfl rfl rfl (ov_move rfl rfl) ?_
  refine wq rfl rfl rfl (ov_len_slice underlying23 rfl rfl) ?_
  refine wq rfl rfl rfl (ov_lss rfl rfl rfl) ?_
  refine WL.nil (tn ?_)
  refine WP.cond rfl (fun hc4 => ?_) (fun hc4 => ?_)
  ·
   replace hm := ite_t hc4 hm
   refine WP.skip (tn (WP.seq (WP.block (WP.seq ?_))))
   refine WP.region_draws (by kernel_rfl) (by kernel_rfl) (fun _ s => s.drew) ?_
   refine qf rfl (ov_move rfl rfl) ?_
   refine qf rfl (ov_move rfl rfl) ?_
   obtain ⟨x1, e1, hm⟩ := bind_some hm
   obtain ⟨h3, h4, h5, cs1, h6, h7⟩ := h1.get e1 (by decide)
   obtain rfl : cs1 = [(.int .i64 x1.actuator), (.bool x1.out)] := h6
   refine qf rfl (ov_indexAddr underlying23 sizeOf112 rfl rfl rfl h3 h4 h5) ?_
   refine qf rfl (ov_load_elems (vs := [(.int .i64 x1.actuator), (.bool x1.out)]) isAgg112 sizeOf112 rfl rfl rfl h7 h5) ?_
   refine qf rfl (ov_move rfl rfl) ?_
   refine qf rfl (ov_move rfl rfl) ?_
   obtain ⟨x2, e2, hm⟩ := bind_some hm
   obtain ⟨h8, h9, h10, cs2, h11, h12⟩ := h2.get e2 (by decide)
   obtain rfl : cs2 = [(.int .i64 x2.actuator), (.bool x2.out)] := h11
   refine qf rfl (ov_indexAddr underlying23 sizeOf112 rfl rfl rfl h8 h9 h10) ?_
   refine qf rfl (ov_load_elems (vs := [(.int .i64 x2.actuator), (.bool x2.out)]) isAgg112 sizeOf112 rfl rfl rfl h12 h10) ?_
   refine qf rfl (neq_struct112 (a := x1) (b := x2) rfl rfl rfl) ?_
   refine QL.nil ?_
   refine tn ?_
   refine WP.cond rfl (fun hc5 => ?_) (fun hc5 => ?_)
   ·
    replace hm := ite_t hc5 hm
    refine WP.seq (WP.region ?_)
    refine wq rfl rfl rfl (ov_assign rfl rfl) ?_
    refine WL.nil (tn (WP.ret (block_ret (then_ret (then_ret (block_ret (then_ret ?_)))))))
    obtain rfl := Option.some.inj hm
    refine retQ_ret results99 (Res.tmp rfl Res.nil) rfl (fun w' s => ⟨s.below, ?_⟩)
    exact rfl
   replace hm := ite_f hc5 hm
   refine WP.skip (bn (tn (WP.region ?_)))
   refine wq rfl rfl rfl (ov_move rfl rfl) ?_
   refine wq rfl rfl rfl (ov_add rfl rfl rfl) ?_
   refine wq rfl rfl rfl (ov_assign rfl rfl) ?_
   refine WL.nil (tn ?_)
   exact ⟨(IntKind.wrap .i64 (i1 + 1)), (Sub.all rfl), fun w' s => s, hm⟩
  replace hm := ite_f hc4 hm
  refine WP.exit (then_exit (then_exit (block_here (tn ?_))))
  exact ⟨(Sub.all rfl), fun w' s => s, hm⟩
 rintro g' S' ⟨hsub2, hS2, hm⟩
 refine WP.sub hsub2 (WP.weaken hS2 ?_)
 replace hm := hk1.symm.trans hm
 refine WP.seq (WP.region ?_)
 refine wq rfl rfl rfl (ov_assign rfl rfl) ?_
 refine WL.nil (tn (WP.ret ?_))
 obtain rfl := Option.some.inj hm
 refine retQ_ret results99 (Res.tmp rfl Res.nil) rfl (fun w' s => ⟨s.below, ?_⟩)
 exact rfl
theorem ref13_Same_con (p_a : Step) (p_b : Step) (ao1 : Option Addr) (cap1 : Nat) (ao2 : Option Addr) (cap2 : Nat) (w : World) (H : Heap) (hH : Le H (hp w)) (h1 : SL H encStroke ao1 p_a.strokes) (hc1 : p_a.strokes.length ≤ cap1) (h2 : SL H encStroke ao2 p_b.strokes) (hc2 : p_b.strokes.length ≤ cap2) (hG : Glob H) (r : Bool) (hm : ref13_Same p_a p_b = some r) :
  Con prog 60 [(.agg #[(.slice ao1 p_a.strokes.length cap1), (.int .i64 p_a.wait)]), (.agg #[(.slice ao2 p_b.strokes.length cap2), (.int .i64 p_b.wait)])] w H (fun v _ => v = (.bool r)) := by
 unfold ref13_Same at hm
 refine con_of hH func60 rfl 17 ntmps60 rfl ?_
 refine WP.seq (WP.region ?_)
 refine ws rfl (os_box (cs := [(.slice ao1 p_a.strokes.length cap1), (.int .i64 p_a.wait)]) rfl rfl rfl (fun b1 => ?_))
 refine ws rfl (os_box (cs := [(.slice ao2 p_b.strokes.length cap2), (.int .i64 p_b.wait)]) rfl rfl rfl (fun b2 => ?_))
 refine wq rfl rfl rfl (ov_assign rfl rfl) ?_
 refine WL.nil (tn (WP.seq (WP.region ?_)))
 refine wq rfl rfl rfl (ov_fieldAddr underlying25 rfl rfl rfl sizeOf3 rfl rfl) ?_
 refine wq rfl rfl rfl (ov_load_box (i := 1) isAgg3 rfl rfl rfl rfl) ?_
 refine wq rfl rfl rfl (ov_fieldAddr underlying25 rfl rfl rfl sizeOf3 rfl rfl) ?_
 refine wq rfl rfl rfl (ov_load_box (i := 0) isAgg3 rfl rfl rfl rfl) ?_
 refine wq rfl rfl rfl (ov_eql rfl rfl rfl) ?_
 refine wq rfl rfl rfl (ov_move rfl rfl) ?_
 obtain ⟨c1, e1, hm⟩ := bind_some hm
 refine WL.cut_bool 6 16 (x := c1) ?_ ?_
 ·
  rcases Bool.eq_false_or_eq_true (p_a.wait == p_b.wait) with hc3 | hc3
  ·
   replace hm := ite_t hc3 e1
   refine wy hc3 rfl (ov_fieldAddr underlying25 rfl rfl rfl sizeOf23 rfl rfl) ?_
   refine wy hc3 rfl (ov_load_box (i := 1) isAgg23 rfl rfl rfl rfl) ?_
   refine wy hc3 rfl (ov_fieldAddr underlying25 rfl rfl rfl sizeOf23 rfl rfl) ?_
   refine wy hc3 rfl (ov_load_box (i := 0) isAgg23 rfl rfl rfl rfl) ?_
   obtain ⟨r1, e2, hm⟩ := bind_some hm
   refine WL.quiet (Runs.yes rfl rfl rfl hc3) rfl rfl (oq_con (r := (.bool r1)) call99 rfl rfl (fun w' s => ⟨_, (ref13_SameStrokes_con p_a.strokes p_b.strokes ao1 cap1 ao2 cap2  w' H s.hold h1 hc1 h2 hc2 hG r1 e2)⟩)) ?_
   refine wq rfl rfl rfl (ov_pick_true rfl (guard_eq rfl hc3) rfl) ?_
   exact WL.nil ⟨Sub.cons' rfl (congrArg Value.bool (Option.some.inj hm)) (Sub.dropn 6 rfl), fun _ s => s⟩
  replace hm := ite_f hc3 e1
  refine WL.idle (Idle.no rfl rfl rfl hc3) rfl rfl ?_
  refine WL.idle (Idle.no rfl rfl rfl hc3) rfl rfl ?_
  refine WL.idle (Idle.no rfl rfl rfl hc3) rfl rfl ?_
  refine WL.idle (Idle.no rfl rfl rfl hc3) rfl rfl ?_
  refine WL.idle (Idle.no rfl rfl rfl hc3) rfl rfl ?_
  refine wq rfl rfl rfl (ov_pick_false rfl (guard_eq rfl hc3) rfl) ?_
  exact WL.nil ⟨Sub.cons' rfl (congrArg Value.bool (Option.some.inj hm)) (Sub.dropn 6 rfl), fun _ s => s⟩
 refine wq rfl rfl rfl (ov_assign rfl rfl) ?_
 refine WL.nil (tn (WP.ret ?_))
 obtain rfl := Option.some.inj hm
 refine retQ_ret results60 (Res.tmp rfl Res.nil) rfl (fun w' s => ⟨s.below, ?_⟩)
 exact rfl
theorem ref15_equal_body_con (self : Node → Node → Option Bool) (hself : ∀ (p_a : Node) (p_b : Node) (ao1 : Option Addr) (cap1 : Nat) (ao2 : Option Addr) (cap2 : Nat) (ao3 : Option Addr) (cap3 : Nat) (ao4 : Option Addr) (cap4 : Nat) (w : World) (H : Heap) (hH : Le H (hp w)) (h1 : SL H encStroke ao1 p_a.step.strokes) (hc1 : p_a.step.strokes.length ≤ cap1) (h2 : SL H encNode ao2 p_a.nodes) (hc2 : p_a.nodes.length ≤ cap2) (h3 : SL H encStroke ao3 p_b.step.strokes) (hc3 : p_b.step.strokes.length ≤ cap3) (h4 : SL H encNode ao4 p_b.nodes) (hc4 : p_b.nodes.length ≤ cap4) (hG : Glob H) (r : Bool) (hm : self p_a p_b = some r), Con prog 49 [(.agg #[(.int .i64 p_a.kind), (.slice ao1 p_a.step.strokes.length cap1), (.int .i64 p_a.step.wait), (.int .i64 p_a.count), (mkS p_a.name), (.slice ao2 p_a.nodes.length cap2)]), (.agg #[(.int .i64 p_b.kind), (.slice ao3 p_b.step.strokes.length cap3), (.int .i64 p_b.step.wait), (.int .i64 p_b.count), (mkS p_b.name), (.slice ao4 p_b.nodes.length cap4)])] w H (fun v _ => v = (.bool r))) (p_a : Node) (p_b : Node) (ao1 : Option Addr) (cap1 : Nat) (ao2 : Option Addr) (cap2 : Nat) (ao3 : Option Addr) (cap3 : Nat) (ao4 : Option Addr) (cap4 : Nat) (w : World) (H : Heap) (hH : Le H (hp w)) (h1 : SL H encStroke ao1 p_a.step.strokes) (hc1 : p_a.step.strokes.length ≤ cap1) (h2 : SL H encNode ao2 p_a.nodes) (hc2 : p_a.nodes.length ≤ cap2) (h3 : SL H encStroke ao3 p_b.step.strokes) (hc3 : p_b.step.strokes.length ≤ cap3) (h4 : SL H encNode ao4 p_b.nodes) (hc4 : p_b.nodes.length ≤ cap4) (hG : Glob H) (r : Bool) (hm : ref15_equal_body self p_a p_b = some r) :
  Con prog 49 [(.agg #[(.int .i64 p_a.kind), (.slice ao1 p_a.step.strokes.length cap1), (.int .i64 p_a.step.wait), (.int .i64 p_a.count), (mkS p_a.name), (.slice ao2 p_a.nodes.length cap2)]), (.agg #[(.int .i64 p_b.kind), (.slice ao3 p_b.step.strokes.length cap3), (.int .i64 p_b.step.wait), (.int .i64 p_b.count), (mkS p_b.name), (.slice ao4 p_b.nodes.length cap4)])] w H (fun v _ => v = (.bool r)) := by
 unfold ref15_equal_body at hm
 refine con_of hH func49 rfl 61 ntmps49 rfl ?_
 refine WP.seq (WP.region ?_)
 refine ws rfl (os_box (cs := [(.int .i64 p_a.kind), (.slice ao1 p_a.step.strokes.length cap1), (.int .i64 p_a.step.wait), (.int .i64 p_a.count), (mkS p_a.name), (.slice ao2 p_a.nodes.length cap2)]) rfl rfl rfl (fun b1 => ?_))
 refine ws rfl (os_box (cs := [(.int .i64 p_b.kind), (.slice ao3 p_b.step.strokes.length cap3), (.int .i64 p_b.step.wait), (.int .i64 p_b.count), (mkS p_b.name), (.slice ao4 p_b.nodes.length cap4)]) rfl rfl rfl (fun b2 => ?_))
 refine wq rfl rfl rfl (ov_assign rfl rfl) ?_
 refine WL.nil (tn (WP.seq (WP.seq (WP.region ?_))))
 refine wq rfl rfl rfl (ov_fieldAddr underlying28 rfl rfl rfl sizeOf3 rfl rfl) ?_
 refine wq rfl rfl rfl (ov_load_box (i := 1) isAgg3 rfl rfl rfl rfl) ?_
 refine wq rfl rfl rfl (ov_fieldAddr underlying28 rfl rfl rfl sizeOf3 rfl rfl) ?_
 refine wq rfl rfl rfl (ov_load_box (i := 0) isAgg3 rfl rfl rfl rfl) ?_
 refine wq rfl rfl rfl (ov_neq rfl rfl rfl) ?_
 refine wq rfl rfl rfl (ov_move rfl rfl) ?_
 refine WL.cut_bool 6 17 (x := ((p_a.kind != p_b.kind) || (p_a.count != p_b.count))) ?_ ?_
 ·
  rcases Bool.eq_false_or_eq_true (p_a.kind != p_b.kind) with hc5 | hc5
  ·
   refine WL.idle (Idle.no rfl rfl rfl hc5) rfl rfl ?_
   refine WL.idle (Idle.no rfl rfl rfl hc5) rfl rfl ?_
   refine WL.idle (Idle.no rfl rfl rfl hc5) rfl rfl ?_
   refine WL.idle (Idle.no rfl rfl rfl hc5) rfl rfl ?_
   refine WL.idle (Idle.no rfl rfl rfl hc5) rfl rfl ?_
   refine wq rfl rfl rfl (ov_pick_true rfl (guard_eq rfl hc5) rfl) ?_
   exact WL.nil ⟨Sub.cons' rfl (congrArg Value.bool (orT hc5)) (Sub.dropn 6 rfl), fun _ s => s⟩
  refine wy hc5 rfl (ov_fieldAddr underlying28 rfl rfl rfl sizeOf3 rfl rfl) ?_
  refine wy hc5 rfl (ov_load_box (i := 1) isAgg3 rfl rfl rfl rfl) ?_
  refine wy hc5 rfl (ov_fieldAddr underlying28 rfl rfl rfl sizeOf3 rfl rfl) ?_
  refine wy hc5 rfl (ov_load_box (i := 0) isAgg3 rfl rfl rfl rfl) ?_
  refine wy hc5 rfl (ov_neq rfl rfl rfl) ?_
  refine wq rfl rfl rfl (ov_pick_false rfl (guard_eq rfl hc5) rfl) ?_
  exact WL.nil ⟨Sub.cons' rfl (congrArg Value.bool (orF hc5)) (Sub.dropn 6 rfl), fun _ s => s⟩
 refine wq rfl rfl rfl (ov_move rfl rfl) ?_
 refine WL.cut_bool 6 24 (x := (((p_a.kind != p_b.kind) || (p_a.count != p_b.count)) || (!(p_a.name == p_b.name)))) ?_ ?_
 ·
  rcases Bool.eq_false_or_eq_true ((p_a.kind != p_b.kind) || (p_a.count != p_b.count)) with hc6 | hc6
  ·
   refine WL.idle (Idle.no rfl rfl rfl hc6) rfl rfl ?_
   refine WL.idle (Idle.no rfl rfl rfl hc6) rfl rfl ?_
   refine WL.idle (Idle.no rfl rfl rfl hc6) rfl rfl ?_
   refine WL.idle (Idle.no rfl rfl rfl hc6) rfl rfl ?_
   refine WL.idle (Idle.no rfl rfl rfl hc6) rfl rfl ?_
   refine wq rfl rfl rfl (ov_pick_true rfl (guard_eq rfl hc6) rfl) ?_
   exact WL.nil ⟨Sub.cons' rfl (congrArg Value.bool (orT hc6)) (Sub.dropn 6 rfl), fun _ s => s⟩
  refine wy hc6 rfl (ov_fieldAddr underlying28 rfl rfl rfl sizeOf9 rfl rfl) ?_
  refine wy hc6 rfl (ov_load_box (i := 1) isAgg9 rfl rfl rfl rfl) ?_
  refine wy hc6 rfl (ov_fieldAddr underlying28 rfl rfl rfl sizeOf9 rfl rfl) ?_
  refine wy hc6 rfl (ov_load_box (i := 0) isAgg9 rfl rfl rfl rfl) ?_
  refine wy hc6 rfl (ov_sneq rfl rfl rfl) ?_
  refine wq rfl rfl rfl (ov_pick_false rfl (guard_eq rfl hc6) rfl) ?_
  exact WL.nil ⟨Sub.cons' rfl (congrArg Value.bool (orF hc6)) (Sub.dropn 6 rfl), fun _ s => s⟩
 refine wq rfl rfl rfl (ov_move rfl rfl) ?_
 refine WL.cut_bool 8 33 (x := ((((p_a.kind != p_b.kind) || (p_a.count != p_b.count)) || (!(p_a.name == p_b.name))) || ((p_a.nodes.length : Int) != (p_b.nodes.length : Int)))) ?_ ?_
 ·
  rcases Bool.eq_false_or_eq_true (((p_a.kind != p_b.kind) || (p_a.count != p_b.count)) || (!(p_a.name == p_b.name))) with hc7 | hc7
  ·
   refine WL.idle (Idle.no rfl rfl rfl hc7) rfl rfl ?_
   refine WL.idle (Idle.no rfl rfl rfl hc7) rfl rfl ?_
   refine WL.idle (Idle.no rfl rfl rfl hc7) rfl rfl ?_
   refine WL.idle (Idle.no rfl rfl rfl hc7) rfl rfl ?_
   refine WL.idle (Idle.no rfl rfl rfl hc7) rfl rfl ?_
   refine WL.idle (Idle.no rfl rfl rfl hc7) rfl rfl ?_
   refine WL.idle (Idle.no rfl rfl rfl hc7) rfl rfl ?_
   refine wq rfl rfl rfl (ov_pick_true rfl (guard_eq rfl hc7) rfl) ?_
   exact WL.nil ⟨Sub.cons' rfl (congrArg Value.bool (orT hc7)) (Sub.dropn 8 rfl), fun _ s => s⟩
  refine wy hc7 rfl (ov_fieldAddr underlying28 rfl rfl rfl sizeOf26 rfl rfl) ?_
  refine wy hc7 rfl (ov_load_box (i := 1) isAgg26 rfl rfl rfl rfl) ?_
  refine wy hc7 rfl (ov_len_slice underlying26 rfl rfl) ?_
  refine wy hc7 rfl (ov_fieldAddr underlying28 rfl rfl rfl sizeOf26 rfl rfl) ?_
  refine wy hc7 rfl (ov_load_box (i := 0) isAgg26 rfl rfl rfl rfl) ?_
  refine wy hc7 rfl (ov_len_slice underlying26 rfl rfl) ?_
  refine wy hc7 rfl (ov_neq rfl rfl rfl) ?_
  refine wq rfl rfl rfl (ov_pick_false rfl (guard_eq rfl hc7) rfl) ?_
  exact WL.nil ⟨Sub.cons' rfl (congrArg Value.bool (orF hc7)) (Sub.dropn 8 rfl), fun _ s => s⟩
 refine wq rfl rfl rfl (ov_move rfl rfl) ?_
 obtain ⟨c1, e1, hm⟩ := bind_some hm
 refine WL.cut_bool 7 41 (x := c1) ?_ ?_
 ·
  rcases Bool.eq_false_or_eq_true ((((p_a.kind != p_b.kind) || (p_a.count != p_b.count)) || (!(p_a.name == p_b.name))) || ((p_a.nodes.length : Int) != (p_b.nodes.length : Int))) with hc8 | hc8
  ·
   replace hm := ite_t hc8 e1
   refine WL.idle (Idle.no rfl rfl rfl hc8) rfl rfl ?_
   refine WL.idle (Idle.no rfl rfl rfl hc8) rfl rfl ?_
   refine WL.idle (Idle.no rfl rfl rfl hc8) rfl rfl ?_
   refine WL.idle (Idle.no rfl rfl rfl hc8) rfl rfl ?_
   refine WL.idle (Idle.no rfl rfl rfl hc8) rfl rfl ?_
   refine WL.idle (Idle.no rfl rfl rfl hc8) rfl rfl ?_
   refine wq rfl rfl rfl (ov_pick_true rfl (guard_eq rfl hc8) rfl) ?_
   exact WL.nil ⟨Sub.cons' rfl (congrArg Value.bool (Option.some.inj hm)) (Sub.dropn 7 rfl), fun _ s => s⟩
  replace hm := ite_f hc8 e1
  refine wy hc8 rfl (ov_fieldAddr underlying28 rfl rfl rfl sizeOf25 rfl rfl) ?_
  refine wy hc8 rfl (ov_load_boxes (i := 1) (vs := [(.slice ao1 p_a.step.strokes.length cap1), (.int .i64 p_a.step.wait)]) isAgg25 sizeOf25 rfl rfl rfl rfl (part_of rfl)) ?_
  refine wy hc8 rfl (ov_fieldAddr underlying28 rfl rfl rfl sizeOf25 rfl rfl) ?_
  refine wy hc8 rfl (ov_load_boxes (i := 0) (vs := [(.slice ao3 p_b.step.strokes.length cap3), (.int .i64 p_b.step.wait)]) isAgg25 sizeOf25 rfl rfl rfl rfl (part_of rfl)) ?_
  obtain ⟨r1, e2, hm⟩ := bind_some hm
  refine WL.quiet (Runs.yes rfl rfl rfl hc8) rfl rfl (oq_con (r := (.bool r1)) call60 rfl rfl (fun w' s => ⟨_, (ref13_Same_con p_a.step p_b.step ao1 cap1 ao3 cap3  w' H s.hold h1 hc1 h3 hc3 hG r1 e2)⟩)) ?_
  refine wy hc8 rfl (ov_not rfl rfl) ?_
  refine wq rfl rfl rfl (ov_pick_false rfl (guard_eq rfl hc8) rfl) ?_
  exact WL.nil ⟨Sub.cons' rfl (congrArg Value.bool (Option.some.inj hm)) (Sub.dropn 7 rfl), fun _ s => s⟩
 refine WL.nil (tn ?_)
 refine WP.cond rfl (fun hc9 => ?_) (fun hc9 => ?_)
 ·
  replace hm := ite_t hc9 hm
  refine WP.seq (WP.region ?_)
  refine wq rfl rfl rfl (ov_assign rfl rfl) ?_
  refine WL.nil (tn (WP.ret (then_ret ?_)))
  obtain rfl := Option.some.inj hm
  refine retQ_ret results49 (Res.tmp rfl Res.nil) rfl (fun w' s => ⟨s.below, ?_⟩)
  exact rfl
 replace hm := ite_f hc9 hm
 refine WP.skip (tn ?_)
 obtain ⟨k1, hk1, hm⟩ := joinK_some hm
 refine WP.seq_join (fun g' S' => Sub [(1000000007, (.bool false))] g' ∧ (∀ w', S' w' → St w H [] H w') ∧ k1 = some r) ?_ ?_
 ·
  refine WP.seq (WP.region ?_)
  refine wq rfl rfl rfl (ov_assign rfl rfl) ?_
  refine WL.nil (tn (WP.block ?_))
  refine WP.loop (fun m1 g' S' => ∃ (i1 : Int), Sub [(2, (pB b1 0)), (3, (pB b2 0)), (5, (.int .i64 i1)), (1000000007, (.bool false))] g' ∧ (∀ w', S' w' → St w H [.blk b2 28 [(.int .i64 p_b.kind), (.slice ao3 p_b.step.strokes.length cap3), (.int .i64 p_b.step.wait), (.int .i64 p_b.count), (mkS p_b.name), (.slice ao4 p_b.nodes.length cap4)], .blk b1 28 [(.int .i64 p_a.kind), (.slice ao1 p_a.step.strokes.length cap1), (.int .i64 p_a.step.wait), (.int .i64 p_a.count), (mkS p_a.name), (.slice ao2 p_a.nodes.length cap2)]] H w') ∧ ref15_equal_loop1 p_a p_b self k1 m1 i1 = some r) ((Int.toNat ((p_a.nodes.length : Int) - 0) + 1)) ⟨0, (Sub.all rfl), fun w' s => s, hm⟩ ?_ ?_
  ·
   rintro g' S' ⟨_, _, _, hm⟩
   exact none_some hm
  rintro m1 g' S' ⟨i1, hsub1, hS1, hm⟩
  refine WP.sub hsub1 (WP.weaken hS1 ?_)
  rw [ref15_equal_loop1] at hm
  refine WP.seq (WP.seq (WP.region ?_))
  refine wq rfl rfl rfl (ov_move rfl rfl) ?_
  refine wq rfl rfl rfl (ov_fieldAddr underlying28 rfl rfl rfl sizeOf26 rfl rfl) ?_
  refine wq rfl rfl rfl (ov_load_box (i := 1) isAgg26 rfl rfl rfl rfl) ?_
  refine wq rfl rfl rfl (ov_len_slice underlying26 rfl rfl) ?_
  refine wq rfl rfl rfl (ov_lss rfl rfl rfl) ?_
  refine WL.nil (tn ?_)
  refine WP.cond rfl (fun hc10 => ?_) (fun hc10 => ?_)
  ·
   replace hm := ite_t hc10 hm
   refine WP.skip (tn (WP.seq (WP.block (WP.seq ?_))))
   refine WP.region_draws (by kernel_rfl) (by kernel_rfl) (fun _ s => s.drew) ?_
   refine qf rfl (ov_fieldAddr underlying28 rfl rfl rfl sizeOf26 rfl rfl) ?_
   refine qf rfl (ov_load_box (i := 1) isAgg26 rfl rfl rfl rfl) ?_
   refine qf rfl (ov_move rfl rfl) ?_
   obtain ⟨x1, e3, hm⟩ := bind_some hm
   obtain ⟨h7, h8, h9, cs1, h10, h11⟩ := h2.get e3 (by decide)
   obtain ⟨ao5, cap5, ao6, cap6, rfl, h5, hc11, h6, hc12⟩ := (encNode_open h10)
   refine qf rfl (ov_indexAddr underlying26 sizeOf28 rfl rfl rfl h7 h8 h9) ?_
   refine qf rfl (ov_load_elems (vs := [(.int .i64 x1.kind), (.slice ao5 x1.step.strokes.length cap5), (.int .i64 x1.step.wait), (.int .i64 x1.count), (mkS x1.name), (.slice ao6 x1.nodes.length cap6)]) isAgg28 sizeOf28 rfl rfl rfl h11 h9) ?_
   refine qf rfl (ov_fieldAddr underlying28 rfl rfl rfl sizeOf26 rfl rfl) ?_
   refine qf rfl (ov_load_box (i := 0) isAgg26 rfl rfl rfl rfl) ?_
   refine qf rfl (ov_move rfl rfl) ?_
   obtain ⟨x2, e4, hm⟩ := bind_some hm
   obtain ⟨h14, h15, h16, cs2, h17, h18⟩ := h4.get e4 (by decide)
   obtain ⟨ao7, cap7, ao8, cap8, rfl, h12, hc13, h13, hc14⟩ := (encNode_open h17)
   refine qf rfl (ov_indexAddr underlying26 sizeOf28 rfl rfl rfl h14 h15 h16) ?_
   refine qf rfl (ov_load_elems (vs := [(.int .i64 x2.kind), (.slice ao7 x2.step.strokes.length cap7), (.int .i64 x2.step.wait), (.int .i64 x2.count), (mkS x2.name), (.slice ao8 x2.nodes.length cap8)]) isAgg28 sizeOf28 rfl rfl rfl h18 h16) ?_
   obtain ⟨r2, e5, hm⟩ := bind_some hm
   refine QL.quiet (Runs.free rfl) rfl rfl (oq_con (r := (.bool r2)) call49 rfl rfl (fun w' s => ⟨_, (hself x1 x2 ao5 cap5 ao6 cap6 ao7 cap7 ao8 cap8  w' H s.hold h5 hc11 h6 hc12 h12 hc13 h13 hc14 hG r2 e5)⟩)) ?_
   refine qf rfl (ov_not rfl rfl) ?_
   refine QL.nil ?_
   refine tn ?_
   refine WP.cond rfl (fun hc15 => ?_) (fun hc15 => ?_)
   ·
    replace hm := ite_t hc15 hm
    refine WP.seq (WP.region ?_)
    refine wq rfl rfl rfl (ov_assign rfl rfl) ?_
    refine WL.nil (tn (WP.ret (block_ret (then_ret (then_ret (block_ret (then_ret ?_)))))))
    obtain rfl := Option.some.inj hm
    refine retQ_ret results49 (Res.tmp rfl Res.nil) rfl (fun w' s => ⟨s.below, ?_⟩)
    exact rfl
   replace hm := ite_f hc15 hm
   refine WP.skip (bn (tn (WP.region ?_)))
   refine wq rfl rfl rfl (ov_move rfl rfl) ?_
   refine wq rfl rfl rfl (ov_add rfl rfl rfl) ?_
   refine wq rfl rfl rfl (ov_assign rfl rfl) ?_
   refine WL.nil (tn ?_)
   exact ⟨(IntKind.wrap .i64 (i1 + 1)), (Sub.all rfl), fun w' s => s, hm⟩
  replace hm := ite_f hc10 hm
  refine WP.exit (then_exit (then_exit (block_here (tn ?_))))
  exact ⟨(Sub.all rfl), fun w' s => (s.select [] (by decide) rfl), hm⟩
 rintro g' S' ⟨hsub2, hS2, hm⟩
 refine WP.sub hsub2 (WP.weaken hS2 ?_)
 replace hm := hk1.symm.trans hm
 refine WP.seq (WP.region ?_)
 refine wq rfl rfl rfl (ov_assign rfl rfl) ?_
 refine WL.nil (tn (WP.ret ?_))
 obtain rfl := Option.some.inj hm
 refine retQ_ret results49 (Res.tmp rfl Res.nil) rfl (fun w' s => ⟨s.below, ?_⟩)
 exact rfl
theorem ref15_equal_con (n : Nat) : ∀ (p_a : Node) (p_b : Node) (ao1 : Option Addr) (cap1 : Nat) (ao2 : Option Addr) (cap2 : Nat) (ao3 : Option Addr) (cap3 : Nat) (ao4 : Option Addr) (cap4 : Nat) (w : World) (H : Heap) (hH : Le H (hp w)) (h1 : SL H encStroke ao1 p_a.step.strokes) (hc1 : p_a.step.strokes.length ≤ cap1) (h2 : SL H encNode ao2 p_a.nodes) (hc2 : p_a.nodes.length ≤ cap2) (h3 : SL H encStroke ao3 p_b.step.strokes) (hc3 : p_b.step.strokes.length ≤ cap3) (h4 : SL H encNode ao4 p_b.nodes) (hc4 : p_b.nodes.length ≤ cap4) (hG : Glob H) (r : Bool) (hm : ref15_equal n p_a p_b = some r),
  Con prog 49 [(.agg #[(.int .i64 p_a.kind), (.slice ao1 p_a.step.strokes.length cap1), (.int .i64 p_a.step.wait), (.int .i64 p_a.count), (mkS p_a.name), (.slice ao2 p_a.nodes.length cap2)]), (.agg #[(.int .i64 p_b.kind), (.slice ao3 p_b.step.strokes.length cap3), (.int .i64 p_b.step.wait), (.int .i64 p_b.count), (mkS p_b.name), (.slice ao4 p_b.nodes.length cap4)])] w H (fun v _ => v = (.bool r)) := by
 induction n with
 | zero => intro p_a p_b ao1 cap1 ao2 cap2 ao3 cap3 ao4 cap4 w H hH h1 hc1 h2 hc2 h3 hc3 h4 hc4 hG r hm; exact (none_some hm).elim
 | succ n ih => intro p_a p_b ao1 cap1 ao2 cap2 ao3 cap3 ao4 cap4 w H hH h1 hc1 h2 hc2 h3 hc3 h4 hc4 hG r hm; exact ref15_equal_body_con (ref15_equal n) ih p_a p_b ao1 cap1 ao2 cap2 ao3 cap3 ao4 cap4 w H hH h1 hc1 h2 hc2 h3 hc3 h4 hc4 hG r hm
theorem ref15_Same_con (p_a : Node) (p_b : Node) (ao1 : Option Addr) (cap1 : Nat) (ao2 : Option Addr) (cap2 : Nat) (ao3 : Option Addr) (cap3 : Nat) (ao4 : Option Addr) (cap4 : Nat) (w : World) (H : Heap) (hH : Le H (hp w)) (h1 : SL H encStroke ao1 p_a.step.strokes) (hc1 : p_a.step.strokes.length ≤ cap1) (h2 : SL H encNode ao2 p_a.nodes) (hc2 : p_a.nodes.length ≤ cap2) (h3 : SL H encStroke ao3 p_b.step.strokes) (hc3 : p_b.step.strokes.length ≤ cap3) (h4 : SL H encNode ao4 p_b.nodes) (hc4 : p_b.nodes.length ≤ cap4) (hG : Glob H) (r : Bool) (hm : ref15_Same p_a p_b = some r) :
  Con prog 14 [(.agg #[(.int .i64 p_a.kind), (.slice ao1 p_a.step.strokes.length cap1), (.int .i64 p_a.step.wait), (.int .i64 p_a.count), (mkS p_a.name), (.slice ao2 p_a.nodes.length cap2)]), (.agg #[(.int .i64 p_b.kind), (.slice ao3 p_b.step.strokes.length cap3), (.int .i64 p_b.step.wait), (.int .i64 p_b.count), (mkS p_b.name), (.slice ao4 p_b.nodes.length cap4)])] w H (fun v _ => v = (.bool r)) := by
 unfold ref15_Same at hm
 refine con_of hH func14 rfl 16 ntmps14 rfl ?_
 refine WP.seq (WP.region ?_)
 refine ws rfl (os_box (cs := [(.int .i64 p_a.kind), (.slice ao1 p_a.step.strokes.length cap1), (.int .i64 p_a.step.wait), (.int .i64 p_a.count), (mkS p_a.name), (.slice ao2 p_a.nodes.length cap2)]) rfl rfl rfl (fun b1 => ?_))
 refine ws rfl (os_box (cs := [(.int .i64 p_b.kind), (.slice ao3 p_b.step.strokes.length cap3), (.int .i64 p_b.step.wait), (.int .i64 p_b.count), (mkS p_b.name), (.slice ao4 p_b.nodes.length cap4)]) rfl rfl rfl (fun b2 => ?_))
 refine wq rfl rfl rfl (ov_assign rfl rfl) ?_
 refine WL.nil (tn (WP.seq (WP.region ?_)))
 refine wq rfl rfl rfl (ov_load_whole (i := 1) isAgg28 sizeOf28 rfl rfl rfl rfl) ?_
 obtain ⟨r1, e1, hm⟩ := bind_some hm
 refine wo rfl (oq_con (r := (.bool r1)) call38 rfl rfl (fun w' s => ⟨_, (ref15_Light_con p_a ao1 cap1 ao2 cap2  w' H s.hold h1 hc1 h2 hc2 hG r1 e1)⟩)) ?_
 refine wq rfl rfl rfl (ov_move rfl rfl) ?_
 obtain ⟨c1, e2, hm⟩ := bind_some hm
 refine WL.cut_bool 3 10 (x := c1) ?_ ?_
 ·
  rcases Bool.eq_false_or_eq_true r1 with hc5 | hc5
  ·
   replace hm := ite_t hc5 e2
   refine wy hc5 rfl (ov_load_whole (i := 0) isAgg28 sizeOf28 rfl rfl rfl rfl) ?_
   obtain ⟨r2, e3, hm⟩ := bind_some hm
   refine WL.quiet (Runs.yes rfl rfl rfl hc5) rfl rfl (oq_con (r := (.bool r2)) call38 rfl rfl (fun w' s => ⟨_, (ref15_Light_con p_b ao3 cap3 ao4 cap4  w' H s.hold h3 hc3 h4 hc4 hG r2 e3)⟩)) ?_
   refine wq rfl rfl rfl (ov_pick_true rfl (guard_eq rfl hc5) rfl) ?_
   exact WL.nil ⟨Sub.cons' rfl (congrArg Value.bool (Option.some.inj hm)) (Sub.dropn 3 rfl), fun _ s => s⟩
  replace hm := ite_f hc5 e2
  refine WL.idle (Idle.no rfl rfl rfl hc5) rfl rfl ?_
  refine WL.idle (Idle.no rfl rfl rfl hc5) rfl rfl ?_
  refine wq rfl rfl rfl (ov_pick_false rfl (guard_eq rfl hc5) rfl) ?_
  exact WL.nil ⟨Sub.cons' rfl (congrArg Value.bool (Option.some.inj hm)) (Sub.dropn 3 rfl), fun _ s => s⟩
 refine wq rfl rfl rfl (ov_move rfl rfl) ?_
 obtain ⟨c2, e4, hm⟩ := bind_some hm
 refine WL.cut_bool 4 15 (x := c2) ?_ ?_
 ·
  rcases Bool.eq_false_or_eq_true c1 with hc6 | hc6
  ·
   replace hm := ite_t hc6 e4
   refine wy hc6 rfl (ov_load_whole (i := 1) isAgg28 sizeOf28 rfl rfl rfl rfl) ?_
   refine wy hc6 rfl (ov_load_whole (i := 0) isAgg28 sizeOf28 rfl rfl rfl rfl) ?_
   obtain ⟨r3, e5, hm⟩ := bind_some hm
   refine WL.quiet (Runs.yes rfl rfl rfl hc6) rfl rfl (oq_con (r := (.bool r3)) call49 rfl rfl (fun w' s => ⟨_, (ref15_equal_con 600 p_a p_b ao1 cap1 ao2 cap2 ao3 cap3 ao4 cap4  w' H s.hold h1 hc1 h2 hc2 h3 hc3 h4 hc4 hG r3 e5)⟩)) ?_
   refine wq rfl rfl rfl (ov_pick_true rfl (guard_eq rfl hc6) rfl) ?_
   exact WL.nil ⟨Sub.cons' rfl (congrArg Value.bool (Option.some.inj hm)) (Sub.dropn 4 rfl), fun _ s => s⟩
  replace hm := ite_f hc6 e4
  refine WL.idle (Idle.no rfl rfl rfl hc6) rfl rfl ?_
  refine WL.idle (Idle.no rfl rfl rfl hc6) rfl rfl ?_
  refine WL.idle (Idle.no rfl rfl rfl hc6) rfl rfl ?_
  refine wq rfl rfl rfl (ov_pick_false rfl (guard_eq rfl hc6) rfl) ?_
  exact WL.nil ⟨Sub.cons' rfl (congrArg Value.bool (Option.some.inj hm)) (Sub.dropn 4 rfl), fun _ s => s⟩
 refine wq rfl rfl rfl (ov_assign rfl rfl) ?_
 refine WL.nil (tn (WP.ret ?_))
 obtain rfl := Option.some.inj hm
 refine retQ_ret results14 (Res.tmp rfl Res.nil) rfl (fun w' s => ⟨s.below, ?_⟩)
 exact rfl
end Go.Proofs.YtgpfgnpdbmbknaaGreatDoor.W
